/- Contract of Like where all numbers are the same. Conditions: the slices read as lists. -/
import Derived.Test.YtfphdchpfhedfaaC8
import Derived.RegionTactic
import Derived.ChangeAlike
import Derived.Deep.QuietTactic
import Derived.BigQuiet
namespace Go.Proofs.Ytfphdchpfhedfaa
open Go.ChangeShapes Go.WideShapes Go.ChangeAt Go.RowKit
set_option linter.unusedVariables false
theorem drew_two (w : World) (a b : Nat) : (w.drewN a).drewN b = w.drewN (a + b) := by
  simp [World.drewN, Nat.add_assoc]
theorem below_dr {B : Nat} {a w : World} (h : Below B a w) (n : Nat) : Below B a (w.drewN n) := ⟨h.os, h.tape, h.output, h.size, h.block⟩
set_option maxHeartbeats 8000000 in
set_option maxRecDepth 100000 in
theorem like_loops (m wd ro qu st sl se wa : Int) (tb : Bool) (A A' B B' : Option Addr) (n n2 C C' D D' : Nat) (L L' T T' : List Int) (w : World) (bn : n ≤ 9223372036854775807) (b2 : n2 ≤ 9223372036854775807) (l1 : L.length = n) (l2 : L'.length = n) (t1 : T.length = n2) (t2 : T'.length = n2)
    (s1 : Sl w .i64 A L) (s2 : Sl w .i64 A' L') (s3 : Sl w .u32 B T) (s4 : Sl w .u32 B' T') :
    Calls Try.prog 11 #[.agg #[.int .i64 m, .int .i64 wd, .int .i64 ro, .int .i64 qu, .int .i64 st, .int .i64 sl, .int .i64 se, .int .i64 wa, .slice A n C, .bool tb, .slice B n2 D], .agg #[.int .i64 m, .int .i64 wd, .int .i64 ro, .int .i64 qu, .int .i64 st, .int .i64 sl, .int .i64 se, .int .i64 wa, .slice A' n C', .bool tb, .slice B' n2 D']] w fun e w' => e = .returned (.bool (decide (L = L' ∧ T = T'))) ∧ Below w.heap.size w w' := by
  have L1 := Lib.hid l1
  have L2 := Lib.hid l2
  have U1 := Lib.hid t1
  have U2 := Lib.hid t2
  have S1 := Lib.hid s1
  have S2 := Lib.hid s2
  have S3 := Lib.hid s3
  have S4 := Lib.hid s4
  clear l1 l2 t1 t2 s1 s2 s3 s4
  have below_w := Lib.hid (((Below.refl w.heap.size w).alloc (Nat.le_refl _) (.cells #[.int .i64 m, .int .i64 wd, .int .i64 ro, .int .i64 qu, .int .i64 st, .int .i64 sl, .int .i64 se, .int .i64 wa, .slice A n C, .bool tb, .slice B n2 D] 25)).alloc (by simp) (.cells #[.int .i64 m, .int .i64 wd, .int .i64 ro, .int .i64 qu, .int .i64 st, .int .i64 sl, .int .i64 se, .int .i64 wa, .slice A' n C', .bool tb, .slice B' n2 D'] 25))
  go_enter Try.func11, Try.ntmps11
  go_wp2
  go_loopw [89] (fun v wr => ∃ k q : Nat, k ≤ n ∧ v = .int .i64 k ∧ Hid (L.take k = L'.take k) ∧ wr = ((w.alloc (.cells #[.int .i64 m, .int .i64 wd, .int .i64 ro, .int .i64 qu, .int .i64 st, .int .i64 sl, .int .i64 se, .int .i64 wa, .slice A n C, .bool tb, .slice B n2 D] 25)).alloc (.cells #[.int .i64 m, .int .i64 wd, .int .i64 ro, .int .i64 qu, .int .i64 st, .int .i64 sl, .int .i64 se, .int .i64 wa, .slice A' n C', .bool tb, .slice B' n2 D'] 25)).drewN q) (fun v _ => n - (intOf v).toNat)
  case atStart => exact ⟨0, 0, by omega, rfl, Lib.hid rfl, rfl⟩
  case round =>
    obtain ⟨k, q, hk, rfl, ht, rfl⟩ := hrel
    by_cases hlt : k < n
    · have hkl : k < L.length := by rw [L1.out]; exact hlt
      have hkm : k < L'.length := by rw [L2.out]; exact hlt
      obtain ⟨b, off, rfl, hb, hc⟩ := S1.out (by omega)
      obtain ⟨b', off', rfl, hb', hc'⟩ := S2.out (by omega)
      have hcell := hc k hkl
      have hcell' := hc' k hkm
      have hs := Lib.hid (take_eq L L' k ht.out hkl hkm)
      obtain ⟨z, ez⟩ : ∃ z, L.getD k 0 = z := ⟨_, rfl⟩
      obtain ⟨z', ez'⟩ : ∃ z, L'.getD k 0 = z := ⟨_, rfl⟩
      have hno := Lib.hid (show z ≠ z' → L ≠ L' from fun h e => h (by rw [← ez, ← ez', e]))
      rw [ez] at hcell hs
      rw [ez'] at hcell' hs
      clear ez ez' hc hc' hkl hkm
      have i0 : (0 : Int) ≤ k := by omega
      have i1 : (k : Int) < n := by omega
      by_cases e : z = z'
      · subst e
        have hs2 := Lib.hid (hs.out rfl)
        clear hs
        go_wp2_with fail
        go_quiet (fail)
        go_wp2
        go_roundw
        case rel => exact ⟨k + 1, q + nq, by omega, by go_num, hs2, rfl⟩
        case measure => simp [intOf]; omega
      · have e1 : (z == z') = false := by rw [beq_eq_false_iff_ne]; exact e
        have e2 : (z != z') = true := by rw [bne_iff_ne]; exact e
        have hno' := Lib.hid (hno.out e)
        clear e hno hs
        go_wp2_with fail
        go_quiet (fail)
        go_wp2
        go_ret
        exact ⟨ret_bl (by rw [decide_eq_false (fun h => hno'.out h.1)]), below_dr (below_dr below_w.out _) _⟩
    · have hL : L = L' := by
        have h := ht.out
        rw [List.take_of_length_le (by rw [L1.out]; omega), List.take_of_length_le (by rw [L2.out]; omega)] at h
        exact h
      have HL := Lib.hid hL
      clear hL ht
      go_wp2
      go_loopw [107] (fun v wr => ∃ k q : Nat, k ≤ n2 ∧ v = .int .i64 k ∧ Hid (T.take k = T'.take k) ∧ wr = ((w.alloc (.cells #[.int .i64 m, .int .i64 wd, .int .i64 ro, .int .i64 qu, .int .i64 st, .int .i64 sl, .int .i64 se, .int .i64 wa, .slice A n C, .bool tb, .slice B n2 D] 25)).alloc (.cells #[.int .i64 m, .int .i64 wd, .int .i64 ro, .int .i64 qu, .int .i64 st, .int .i64 sl, .int .i64 se, .int .i64 wa, .slice A' n C', .bool tb, .slice B' n2 D'] 25)).drewN q) (fun v _ => n2 - (intOf v).toNat)
      case atStart => exact ⟨0, q, by omega, rfl, Lib.hid rfl, rfl⟩
      case round =>
        obtain ⟨k2, q, hk2, rfl, ht, rfl⟩ := hrel
        by_cases hlt : k2 < n2
        · have hkl : k2 < T.length := by rw [U1.out]; exact hlt
          have hkm : k2 < T'.length := by rw [U2.out]; exact hlt
          obtain ⟨b, off, rfl, hb, hc⟩ := S3.out (by omega)
          obtain ⟨b', off', rfl, hb', hc'⟩ := S4.out (by omega)
          have hcell := hc k2 hkl
          have hcell' := hc' k2 hkm
          have hs := Lib.hid (take_eq T T' k2 ht.out hkl hkm)
          obtain ⟨z, ez⟩ : ∃ z, T.getD k2 0 = z := ⟨_, rfl⟩
          obtain ⟨z', ez'⟩ : ∃ z, T'.getD k2 0 = z := ⟨_, rfl⟩
          have hno := Lib.hid (show z ≠ z' → T ≠ T' from fun h e => h (by rw [← ez, ← ez', e]))
          rw [ez] at hcell hs
          rw [ez'] at hcell' hs
          clear ez ez' hc hc' hkl hkm
          have i0 : (0 : Int) ≤ k2 := by omega
          have i1 : (k2 : Int) < n2 := by omega
          by_cases e : z = z'
          · subst e
            have hs2 := Lib.hid (hs.out rfl)
            clear hs
            go_wp2_with fail
            go_quiet (fail)
            go_wp2
            go_roundw
            case rel => exact ⟨k2 + 1, q + nq, by omega, by go_num, hs2, rfl⟩
            case measure => simp [intOf]; omega
          · have e1 : (z == z') = false := by rw [beq_eq_false_iff_ne]; exact e
            have e2 : (z != z') = true := by rw [bne_iff_ne]; exact e
            have hno' := Lib.hid (hno.out e)
            clear e hno hs
            go_wp2_with fail
            go_quiet (fail)
            go_wp2
            go_ret
            exact ⟨ret_bl (by rw [decide_eq_false (fun h => hno'.out h.2)]), below_dr (below_dr below_w.out _) _⟩
        · have hT : T = T' := by
            have h := ht.out
            rw [List.take_of_length_le (by rw [U1.out]; omega), List.take_of_length_le (by rw [U2.out]; omega)] at h
            exact h
          have HT := Lib.hid hT
          clear hT ht
          go_wp2
          go_ret
          exact ⟨ret_bl (by rw [decide_eq_true ⟨HL.out, HT.out⟩]), below_dr below_w.out _⟩
open Classical in
/-- Like, of any two shapes -/
theorem like_any (mx wdx rox qux stx slx sex wax my wdy roy quy sty sly sey way : Int) (tbx tby : Bool) (Ax Ay Bx By : Option Addr) (nx ny n2x n2y Cx Cy Dx Dy : Nat) (Lx Ly Tx Ty : List Int) (w : World) (bx : nx ≤ 9223372036854775807) (by_ : ny ≤ 9223372036854775807) (b2x : n2x ≤ 9223372036854775807) (b2y : n2y ≤ 9223372036854775807)
    (l1 : Lx.length = nx) (l2 : Ly.length = ny) (t1 : Tx.length = n2x) (t2 : Ty.length = n2y) (s1 : Sl w .i64 Ax Lx) (s2 : Sl w .i64 Ay Ly) (s3 : Sl w .u32 Bx Tx) (s4 : Sl w .u32 By Ty) :
    Calls Try.prog 11 #[.agg #[.int .i64 mx, .int .i64 wdx, .int .i64 rox, .int .i64 qux, .int .i64 stx, .int .i64 slx, .int .i64 sex, .int .i64 wax, .slice Ax nx Cx, .bool tbx, .slice Bx n2x Dx], .agg #[.int .i64 my, .int .i64 wdy, .int .i64 roy, .int .i64 quy, .int .i64 sty, .int .i64 sly, .int .i64 sey, .int .i64 way, .slice Ay ny Cy, .bool tby, .slice By n2y Dy]] w fun e w' => e = .returned (.bool (decide (likeP mx wdx rox qux stx slx sex wax my wdy roy quy sty sly sey way tbx tby Lx Ly Tx Ty))) ∧ Below w.heap.size w w' := by
  by_cases hh : (mx = my ∧ wdx = wdy ∧ rox = roy ∧ qux = quy ∧ stx = sty ∧ slx = sly ∧ sex = sey ∧ wax = way ∧ tbx = tby ∧ nx = ny ∧ n2x = n2y)
  · obtain ⟨rfl, rfl, rfl, rfl, rfl, rfl, rfl, rfl, rfl, rfl, rfl⟩ := hh
    refine (like_loops mx wdx rox qux stx slx sex wax tbx Ax Ay Bx By nx n2x Cx Cy Dx Dy Lx Ly Tx Ty w bx b2x l1 l2 t1 t2 s1 s2 s3 s4).mono fun e w' ⟨he, hb⟩ => ⟨he.trans (ret_bl ?_), hb⟩
    apply decide_eq_decide.2
    unfold likeP
    constructor
    · rintro ⟨rfl, rfl⟩; exact ⟨⟨rfl, rfl, rfl, rfl, rfl, rfl, rfl, rfl, rfl, rfl, rfl⟩, rfl, rfl⟩
    · rintro ⟨_, h1, h2⟩; exact ⟨h1, h2⟩
  · refine (like_head mx wdx rox qux stx slx sex wax my wdy roy quy sty sly sey way tbx tby Ax Ay Bx By nx ny n2x n2y Cx Cy Dx Dy w bx by_ b2x b2y hh).mono fun e w' ⟨he, hb⟩ => ⟨he.trans (ret_bl ?_), hb⟩
    symm
    apply decide_eq_false
    unfold likeP
    rintro ⟨⟨h1, h2, h3, h4, h5, h6, h7, h8, h9, h10, h11⟩, _⟩
    exact hh ⟨h1, h2, h3, h4, h5, h6, h7, h8, h9, by omega, by omega⟩
end Go.Proofs.Ytfphdchpfhedfaa
