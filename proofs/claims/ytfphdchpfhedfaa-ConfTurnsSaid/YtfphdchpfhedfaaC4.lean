/- Contracts of few, Right. Conditions: the slices read as lists. -/
import Derived.Test.YtfphdchpfhedfaaC0
import Derived.RegionTactic
import Derived.ChangeAlike
namespace Go.Proofs.Ytfphdchpfhedfaa
open Go.ChangeShapes Go.WideShapes Go.ChangeAt Go.RowKit
set_option linter.unusedVariables false
set_option maxHeartbeats 4000000 in
set_option maxRecDepth 100000 in
theorem few_x (m wd ro qu st sl se wa : Int) (A A2 : Option Addr) (C C2 : Nat) (n n2 : Nat) (tb : Bool) (w : World) (h1 : n ≤ C) (h2 : n2 ≤ C2) (b1 : C ≤ 9223372036854775807) (b2 : C2 ≤ 9223372036854775807) (N N2 : Nat) (hN : N ≤ n) (hN2 : N2 ≤ n2)
    (e1 : (if (100 : Int) < (n : Int) then (100 : Int) else (n : Int)) = (N : Int)) (e2 : (if (100 : Int) < (n2 : Int) then (100 : Int) else (n2 : Int)) = (N2 : Int)) :
    Calls Try.prog 8 #[.agg #[.int .i64 m, .int .i64 wd, .int .i64 ro, .int .i64 qu, .int .i64 st, .int .i64 sl, .int .i64 se, .int .i64 wa, .slice A n C, .bool tb, .slice A2 n2 C2]] w fun e w' =>
      e = .returned (.agg #[.int .i64 m, .int .i64 wd, .int .i64 ro, .int .i64 qu, .int .i64 st, .int .i64 sl, .int .i64 se, .int .i64 wa, .slice A N C, .bool tb, .slice A2 N2 C2]) ∧ Below w.heap.size w w' := by
  go_enter Try.func8, Try.ntmps8
  go_wp2_with fail
  go_region
  go_wp2
  refine bodyPost_ret (v := .agg #[.int .i64 m, .int .i64 wd, .int .i64 ro, .int .i64 qu, .int .i64 st, .int .i64 sl, .int .i64 se, .int .i64 wa, .slice A N C, .bool tb, .slice A2 N2 C2]) (by simp [results, Try.results8, go_sem]) rfl ?_
  exact ⟨rfl, by go_grown⟩
/-- is a shape right? -/
def rightB (m wd ro qu st sl se wa : Int) (L : List Int) (n n2 : Nat) : Bool :=
  L.all (wi 1 8) && (wi 0 2 m && wi 1 2 wd && wi 2 8 ro && wi 1 4 qu && wi 1 4 st && wi 2 6 sl && wi 1 4 se && se != 3 && wi 1 2 wa && decide ((n : Int) ≤ 64) && decide ((n2 : Int) ≤ 64))
theorem all_take (L : List Int) (k : Nat) (h : (L.take k).all (wi 1 8) = true) (hk : k < L.length) (hz : wi 1 8 (L.getD k 0) = true) : (L.take (k + 1)).all (wi 1 8) = true := by
  rw [List.take_succ_eq_append_getElem hk, List.all_append, h]
  simp [List.getD_eq_getElem?_getD, hk] at hz
  simp [hz]
theorem all_not (L : List Int) (k : Nat) (hk : k < L.length) (hz : wi 1 8 (L.getD k 0) = false) : L.all (wi 1 8) = false := by
  simp [List.getD_eq_getElem?_getD, hk] at hz
  rw [List.all_eq_false]
  exact ⟨L[k], List.getElem_mem hk, by simp [hz]⟩
set_option maxHeartbeats 4000000 in
set_option maxRecDepth 100000 in
theorem right_any (m wd ro qu st sl se wa : Int) (A A2 : Option Addr) (C C2 n n2 : Nat) (tb : Bool) (L : List Int) (w : World) (hn : L.length = n) (bn : n ≤ 9223372036854775807) (b2 : n2 ≤ 9223372036854775807) (hL : Sl w .i64 A L) :
    Calls Try.prog 13 #[.agg #[.int .i64 m, .int .i64 wd, .int .i64 ro, .int .i64 qu, .int .i64 st, .int .i64 sl, .int .i64 se, .int .i64 wa, .slice A n C, .bool tb, .slice A2 n2 C2]] w fun e w' => e = .returned (.bool (rightB m wd ro qu st sl se wa L n n2)) ∧ Below w.heap.size w w' := by
  have HL := Lib.hid hL
  have Hn := Lib.hid hn
  clear hL hn
  go_enter Try.func13, Try.ntmps13
  go_wp2
  go_loop [9] (fun v => ∃ k : Nat, k ≤ n ∧ v = .int .i64 k ∧ Hid ((L.take k).all (wi 1 8) = true)) (fun v => n - (intOf v).toNat)
  case atStart => exact ⟨0, by omega, rfl, Lib.hid (by simp)⟩
  case round =>
    obtain ⟨k, hk, rfl, hall⟩ := hrel
    by_cases hlt : k < n
    · have hkl : k < L.length := by rw [Hn.out]; exact hlt
      obtain ⟨b, off, rfl, hblt, hc⟩ := HL.out (by omega)
      have hcell := hc k hkl
      have ha := Lib.hid (fun h => all_take L k hall.out hkl h)
      have hb := Lib.hid (fun h => all_not L k hkl h)
      obtain ⟨z, ez⟩ : ∃ z, L.getD k 0 = z := ⟨_, rfl⟩
      rw [ez] at hcell ha hb
      clear ez hc hkl
      cases hw : wi 1 8 z with
      | true =>
        go_wp2_with (go_at_call 26; refine (within_any _ _ _ _).mono ?_; rintro e w' ⟨rfl, rfl⟩)
        go_round
        case rel => exact ⟨k + 1, by omega, rfl, Lib.hid (ha.out hw)⟩
        case measure => simp [intOf]; omega
      | false =>
        go_wp2_with (go_at_call 26; refine (within_any _ _ _ _).mono ?_; rintro e w' ⟨rfl, rfl⟩)
        go_ret
        exact ⟨ret_bl (by unfold rightB; rw [hb.out hw]; rfl), by go_grown⟩
    · have hkn : L.take k = L := List.take_of_length_le (by rw [Hn.out]; omega)
      rw [hkn] at hall
      clear hkn
      cases hs : (se != 3) with
      | true =>
        go_wp2_with (go_at_call 26; refine (within_any _ _ _ _).mono ?_; rintro e w' ⟨rfl, rfl⟩)
        all_goals go_ret
        all_goals exact ⟨ret_bl (by have hq := hall.out; unfold rightB; simp [*] <;> omega), by go_grown⟩
      | false =>
        go_wp2_with (go_at_call 26; refine (within_any _ _ _ _).mono ?_; rintro e w' ⟨rfl, rfl⟩)
        all_goals go_ret
        all_goals exact ⟨ret_bl (by have hq := hall.out; unfold rightB; simp [*] <;> omega), by go_grown⟩
theorem few_any (m wd ro qu st sl se wa : Int) (A A2 : Option Addr) (C C2 n n2 : Nat) (tb : Bool) (w : World) (h1 : n ≤ C) (h2 : n2 ≤ C2) (b1 : C ≤ 9223372036854775807) (b2 : C2 ≤ 9223372036854775807) :
    Calls Try.prog 8 #[.agg #[.int .i64 m, .int .i64 wd, .int .i64 ro, .int .i64 qu, .int .i64 st, .int .i64 sl, .int .i64 se, .int .i64 wa, .slice A n C, .bool tb, .slice A2 n2 C2]] w fun e w' =>
      e = .returned (.agg #[.int .i64 m, .int .i64 wd, .int .i64 ro, .int .i64 qu, .int .i64 st, .int .i64 sl, .int .i64 se, .int .i64 wa, .slice A (min n 100) C, .bool tb, .slice A2 (min n2 100) C2]) ∧ Below w.heap.size w w' :=
  few_x m wd ro qu st sl se wa A A2 C C2 n n2 tb w h1 h2 b1 b2 (min n 100) (min n2 100) (by omega) (by omega) (by split <;> omega) (by split <;> omega)
end Go.Proofs.Ytfphdchpfhedfaa
