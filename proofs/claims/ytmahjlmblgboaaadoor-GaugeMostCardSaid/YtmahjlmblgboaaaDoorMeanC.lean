/- Contracts of the means. Conditions: the slice reads as a list of doubles. -/
import Derived.Test.YtmahjlmblgboaaaDoorArgs
import Derived.Test.YtmahjlmblgboaaaDoorG4
namespace Go.Proofs.YtmahjlmblgboaaaDoor
open Go.RowKit
set_option linter.unusedVariables false
/-- a sum and one rate more -/
def ad (o : Option Nat) (x : Nat) : Option Nat := o.bind fun a => Ieee.double.add a x
/-- the sum of the first k -/
def fsum (L : List Nat) (k : Nat) : Option Nat := (L.take k).foldl ad (some 0)
theorem fsum_succ (L : List Nat) (k : Nat) (h : k < L.length) : fsum L (k + 1) = ad (fsum L k) (L.getD k 0) := by
  unfold fsum
  rw [List.take_succ_eq_append_getElem h, List.foldl_append]
  simp [List.getD_eq_getElem?_getD, h]
theorem FV.ad {r : Nat} {o : Option Nat} (h : FV r o) (x : Nat) : YtmahjlmblgboaaaDoor.ad o x = Ieee.double.add r x := by
  cases o with
  | none => rw [add_nan (.inl (nan_lt h.nan))]; rfl
  | some v => rw [h.num]; rfl
/-- a sum by a count -/
def dv (o : Option Nat) (n : Int) : Option Nat := o.bind fun a => Ieee.double.div a (floatOfInt .f64 n)
theorem FV.dv {r : Nat} {o : Option Nat} (h : FV r o) (n : Int) : YtmahjlmblgboaaaDoor.dv o n = Ieee.double.div r (floatOfInt .f64 n) := by
  cases o with
  | none => rw [div_nan (.inl (nan_lt h.nan))]; rfl
  | some v => rw [h.num]; rfl
/-- the mean -/
def meanO (L : List Nat) : Option Nat := if L.length = 0 then none else dv (fsum L L.length) L.length
theorem fv_zero : FV 0 (some 0) := ⟨by decide, rfl⟩
theorem qt00 : qt 0 0 = none := by decide +kernel
set_option maxHeartbeats 4000000 in
theorem Mean_any (A : Option Addr) (n C : Nat) (L : List Nat) (w : World) (hn : L.length = n) (bn : n ≤ 9223372036854775807) (hL : Fl w A L) : Calls Tryd.prog 21 #[.slice A n C] w (RP (meanO L) w) := by
  have Hn := Lib.hid hn
  have HL := Lib.hid hL
  clear hL
  rcases Nat.eq_zero_or_pos n with c | c
  · subst c
    have r := Lib.hid (show meanO L = none by unfold meanO; rw [if_pos hn])
    clear hn
    go_enter Tryd.func21, Tryd.ntmps21
    go_wp2_with (go_at_call 33; refine (nan_any _).mono ?_; rintro e w' ⟨rfl, rfl⟩)
    go_ret
    rw [r.out]
    exact ⟨_, rfl, ⟨by decide, by decide⟩, Below.refl _ _⟩
  · have r := Lib.hid (show meanO L = dv (fsum L n) n by unfold meanO; rw [if_neg (by omega), hn])
    have z1 : (n == 0) = false := by rw [beq_eq_false_iff_ne]; omega
    have z2 : ((n : Int) == 0) = false := by rw [beq_eq_false_iff_ne]; omega
    clear hn
    go_enter Tryd.func21, Tryd.ntmps21
    go_wp2
    go_loopw [3, 12] (fun s i wr => ∃ (k x : Nat), k ≤ n ∧ i = .int .i64 k ∧ s = .float .f64 x ∧ Hid (FV x (fsum L k)) ∧ Hid (Below w.heap.size w wr)) (fun _ i _ => n - (intOf i).toNat)
    case atStart => exact ⟨0, 0, by omega, rfl, rfl, Lib.hid fv_zero, Lib.hid (Below.refl _ _)⟩
    case round =>
      obtain ⟨k, x, hk, rfl, rfl, hx, hb⟩ := hrel
      by_cases hlt : k < n
      · have hkl : k < L.length := by rw [Hn.out]; exact hlt
        obtain ⟨b, off, rfl, hblt, hc⟩ := HL.out (by omega)
        have hcell := (hb.out.cell (p := ⟨b, off + k, none⟩) hblt).trans (hc k hkl)
        have hs := fsum_succ L k hkl
        rw [hx.out.ad] at hs
        obtain ⟨z, ez⟩ : ∃ z, L.getD k 0 = z := ⟨_, rfl⟩
        rw [ez] at hcell hs
        clear ez hc hkl
        cases hq : Ieee.double.add x z with
        | none =>
          rw [hq] at hs
          have HS := Lib.hid hs
          have q := run_add_nan 43 x z hq
          clear hs hq
          go_wp2
          go_roundw
          case rel => exact ⟨k + 1, _, by omega, by go_num, rfl, Lib.hid (by rw [HS.out]; exact fv_nan _ _ _), Lib.hid hb.out.drew⟩
          case measure => simp [intOf]; omega
        | some v =>
          rw [hq] at hs
          have HS := Lib.hid hs
          have q := fun w => run_float_arith (P := Tryd.prog) w .add 43 .f64 x z v hq
          have HQ := Lib.hid (fv_add hq)
          clear hs hq
          go_wp2
          go_roundw
          case rel => exact ⟨k + 1, _, by omega, by go_num, rfl, Lib.hid (by rw [HS.out]; exact HQ.out), hb⟩
          case measure => simp [intOf]; omega
      · have hkn : k = n := by omega
        subst hkn
        have hd := hx.out.dv (k : Int)
        cases hq : Ieee.double.div x (floatOfInt .f64 (k : Int)) with
        | none =>
          rw [hq] at hd
          have HD := Lib.hid hd
          have q := run_quo_nan 43 x _ hq
          clear hd hq
          go_wp2
          go_ret
          rw [r.out, HD.out]
          exact ⟨_, rfl, fv_nan _ _ _, hb.out.drew⟩
        | some v =>
          rw [hq] at hd
          have HD := Lib.hid hd
          have q := fun w => run_float_arith (P := Tryd.prog) w .quo 43 .f64 x (floatOfInt .f64 (k : Int)) v hq
          have HQ := Lib.hid (fv_div hq)
          clear hd hq
          go_wp2
          go_ret
          rw [r.out, HD.out]
          exact ⟨_, rfl, HQ.out, hb.out⟩
set_option maxHeartbeats 4000000 in
theorem mean_any (A : Option Addr) (n C : Nat) (L : List Nat) (w : World) (hn : L.length = n) (bn : n ≤ 9223372036854775807) (hL : Fl w A L) : Calls Tryd.prog 22 #[.slice A n C] w (RP (meanO L) w) := by
  have Hn := Lib.hid hn
  have HL := Lib.hid hL
  clear hL hn
  have R := Lib.hid (fun W => rate_any 0 0 W)
  rw [qt00] at R
  go_enter Tryd.func22, Tryd.ntmps22
  go_wp2
  go_loopw [3, 8] (fun s i wr => ∃ (k x : Nat), k ≤ n ∧ i = .int .i64 k ∧ s = .float .f64 x ∧ Hid (FV x (fsum L k)) ∧ Hid (Below w.heap.size w wr)) (fun _ i _ => n - (intOf i).toNat)
  case atStart => exact ⟨0, 0, by omega, rfl, rfl, Lib.hid fv_zero, Lib.hid (Below.refl _ _)⟩
  case round =>
    obtain ⟨k, x, hk, rfl, rfl, hx, hb⟩ := hrel
    by_cases hlt : k < n
    · have hkl : k < L.length := by rw [Hn.out]; exact hlt
      obtain ⟨b, off, rfl, hblt, hc⟩ := HL.out (by omega)
      have hcell := (hb.out.cell (p := ⟨b, off + k, none⟩) hblt).trans (hc k hkl)
      have hs := fsum_succ L k hkl
      rw [hx.out.ad] at hs
      obtain ⟨z, ez⟩ : ∃ z, L.getD k 0 = z := ⟨_, rfl⟩
      rw [ez] at hcell hs
      clear ez hc hkl
      cases hq : Ieee.double.add x z with
      | none =>
        rw [hq] at hs
        have HS := Lib.hid hs
        have q := run_add_nan 43 x z hq
        clear hs hq
        go_wp2
        go_roundw
        case rel => exact ⟨k + 1, _, by omega, by go_num, rfl, Lib.hid (by rw [HS.out]; exact fv_nan _ _ _), Lib.hid hb.out.drew⟩
        case measure => simp [intOf]; omega
      | some v =>
        rw [hq] at hs
        have HS := Lib.hid hs
        have q := fun w => run_float_arith (P := Tryd.prog) w .add 43 .f64 x z v hq
        have HQ := Lib.hid (fv_add hq)
        clear hs hq
        go_wp2
        go_roundw
        case rel => exact ⟨k + 1, _, by omega, by go_num, rfl, Lib.hid (by rw [HS.out]; exact HQ.out), hb⟩
        case measure => simp [intOf]; omega
    · have hkn : k = n := by omega
      subst hkn
      rcases Nat.eq_zero_or_pos k with c | c
      · subst c
        have r := Lib.hid (show meanO L = none by unfold meanO; rw [if_pos Hn.out])
        go_wp2_with fail
        refine (R.out _).mono ?_
        rintro e w1 ⟨y, rfl, hy, hb1⟩
        have HY := Lib.hid hy
        have B1 := Lib.hid (hb.out.trans (hb1.mono hb.out.size))
        clear hy hb1
        go_wp2
        go_ret
        rw [r.out]
        exact ⟨_, rfl, HY.out, B1.out⟩
      · have r := Lib.hid (show meanO L = dv (fsum L k) k by unfold meanO; rw [if_neg (by rw [Hn.out]; omega), Hn.out])
        have z1 : (k == 0) = false := by rw [beq_eq_false_iff_ne]; omega
        have z2 : ((k : Int) == 0) = false := by rw [beq_eq_false_iff_ne]; omega
        have hd := hx.out.dv (k : Int)
        cases hq : Ieee.double.div x (floatOfInt .f64 (k : Int)) with
        | none =>
          rw [hq] at hd
          have HD := Lib.hid hd
          have q := run_quo_nan 43 x _ hq
          clear hd hq
          go_wp2
          go_ret
          rw [r.out, HD.out]
          exact ⟨_, rfl, fv_nan _ _ _, hb.out.drew⟩
        | some v =>
          rw [hq] at hd
          have HD := Lib.hid hd
          have q := fun w => run_float_arith (P := Tryd.prog) w .quo 43 .f64 x (floatOfInt .f64 (k : Int)) v hq
          have HQ := Lib.hid (fv_div hq)
          clear hd hq
          go_wp2
          go_ret
          rw [r.out, HD.out]
          exact ⟨_, rfl, HQ.out, hb.out⟩
end Go.Proofs.YtmahjlmblgboaaaDoor
