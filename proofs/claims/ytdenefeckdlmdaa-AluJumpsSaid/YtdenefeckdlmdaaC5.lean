/- Contracts: what comes behind an instruction, the program's and the reference's. Condition: the numbers are words. -/
import Derived.Test.YtdenefeckdlmdaaC2
import Derived.Below
import Derived.Deep.RegionHeld3
namespace Go.Proofs.Ytdenefeckdlmdaa
open Go.ChangeShapes Go.WideShapes Go.ChangeAt Go.RowKit
set_option linter.unusedVariables false

theorem nx_3 {op : Int} (im pc x y : Int) (h : op = 3 ∨ br op x y = true) : nx op im pc x y = (pc + im) % 4294967296 := by unfold nx; rw [if_pos h]
theorem nx_4 (im pc x y : Int) : nx 4 im pc x y = (x + im) % 4294967296 / 2 * 2 := by
  have h : br 4 x y = false := br_else 4 x y (by decide)
  unfold nx; rw [if_neg (by rw [h]; decide), if_pos rfl]
theorem nx_e {op : Int} (im pc x y : Int) (h3 : op ≠ 3) (h : br op x y = false) (h4 : op ≠ 4) : nx op im pc x y = (pc + 4) % 4294967296 := by
  unfold nx; rw [if_neg (by rw [h]; simp [h3]), if_neg h4]
/-- an instruction, as a value -/
abbrev Ins (op rd r1 r2 im : Int) : Value := .agg #[.int .i64 op, .int .i64 rd, .int .i64 r1, .int .i64 r2, .int .u32 im]
set_option maxHeartbeats 1000000 in
theorem next_any (op rd r1 r2 im pc x y : Int) (w : World) (m0 : 0 ≤ im) (m1 : im ≤ 4294967295) (p0 : 0 ≤ pc) (p1 : pc ≤ 4294967295) (h0 : 0 ≤ x) (h1 : x ≤ 4294967295) (g0 : 0 ≤ y) (g1 : y ≤ 4294967295) :
    Calls Try.prog 20 #[.agg #[.int .i64 op, .int .i64 rd, .int .i64 r1, .int .i64 r2, .int .u32 im], .int .u32 pc, .int .u32 x, .int .u32 y] w fun e w' => e = .returned (.int .u32 (nx op im pc x y)) ∧ Below w.heap.size w w' := by
  have b1 := (Below.refl w.heap.size w).alloc (Nat.le_refl _) (.cells #[.int .i64 op, .int .i64 rd, .int .i64 r1, .int .i64 r2, .int .u32 im] 32)
  by_cases h3 : op = 3
  · subst h3
    have hn := Lib.hid (nx_3 (op := 3) im pc x y (Or.inl rfl))
    go_enter Try.func20, Try.ntmps20
    go_wp2_with (go_at_call 17; refine (taken_all _ _ _ _ (by omega) (by omega) (by omega) (by omega)).mono ?_; rintro e w' ⟨rfl, rfl⟩)
    go_ret
    exact ⟨ret_u32 hn.out.symm, b1⟩
  · have h3' : (op == 3) = false := by rw [beq_eq_false_iff_ne]; exact h3
    by_cases h4 : op = 4
    · subst h4
      have hn := Lib.hid (nx_4 im pc x y)
      have hb : br 4 x y = false := br_else 4 x y (by decide)
      have ha := even_of ((x + im) % 4294967296) (by omega) (by omega)
      go_enter Try.func20, Try.ntmps20
      go_wp2_with (go_at_call 17; refine (taken_all _ _ _ _ (by omega) (by omega) (by omega) (by omega)).mono ?_; rintro e w' ⟨rfl, rfl⟩)
      go_ret
      exact ⟨ret_u32 hn.out.symm, b1⟩
    · have h4' : (op == 4) = false := by rw [beq_eq_false_iff_ne]; exact h4
      cases hb : br op x y with
      | true =>
        have hn := Lib.hid (nx_3 im pc x y (Or.inr hb))
        clear h3 h4
        go_enter Try.func20, Try.ntmps20
        go_wp2_with (go_at_call 17; refine (taken_all _ _ _ _ (by omega) (by omega) (by omega) (by omega)).mono ?_; rintro e w' ⟨rfl, rfl⟩)
        go_ret
        exact ⟨ret_u32 hn.out.symm, b1⟩
      | false =>
        have hn := Lib.hid (nx_e im pc x y h3 hb h4)
        clear h3 h4
        go_enter Try.func20, Try.ntmps20
        go_wp2_with (go_at_call 17; refine (taken_all _ _ _ _ (by omega) (by omega) (by omega) (by omega)).mono ?_; rintro e w' ⟨rfl, rfl⟩)
        go_ret
        exact ⟨ret_u32 hn.out.symm, b1⟩
set_option maxHeartbeats 1000000 in
theorem rnext_any (op rd r1 r2 im pc x y : Int) (w : World) (m0 : 0 ≤ im) (m1 : im ≤ 4294967295) (p0 : 0 ≤ pc) (p1 : pc ≤ 4294967295) (h0 : 0 ≤ x) (h1 : x ≤ 4294967295) (g0 : 0 ≤ y) (g1 : y ≤ 4294967295) :
    Calls Try.prog 21 #[.agg #[.int .i64 op, .int .i64 rd, .int .i64 r1, .int .i64 r2, .int .u32 im], .int .u32 pc, .int .u32 x, .int .u32 y] w fun e w' => e = .returned (.int .u32 (nx op im pc x y)) ∧ Below w.heap.size w w' := by
  have b1 := (Below.refl w.heap.size w).alloc (Nat.le_refl _) (.cells #[.int .i64 op, .int .i64 rd, .int .i64 r1, .int .i64 r2, .int .u32 im] 32)
  by_cases h4 : op = 4
  · subst h4
    have hn := Lib.hid (nx_4 im pc x y)
    go_enter Try.func21, Try.ntmps21
    go_wp2
    go_ret
    exact ⟨ret_u32 (by rw [hn.out]; omega), b1⟩
  · have h4' : (op == 4) = false := by rw [beq_eq_false_iff_ne]; exact h4
    by_cases h3 : op = 3
    · subst h3
      have hn := Lib.hid (nx_3 (op := 3) im pc x y (Or.inl rfl))
      go_enter Try.func21, Try.ntmps21
      go_wp2
      go_ret
      exact ⟨ret_u32 hn.out.symm, b1⟩
    · have h3' : (op == 3) = false := by rw [beq_eq_false_iff_ne]; exact h3
      cases hb : br op x y with
      | true =>
        have hn := Lib.hid (nx_3 im pc x y (Or.inr hb))
        clear h3 h4
        go_enter Try.func21, Try.ntmps21
        go_wp2_with (go_at_call 19; refine (rtaken_all _ _ _ _ (by omega) (by omega) (by omega) (by omega)).mono ?_; rintro e w' ⟨rfl, rfl⟩)
        go_ret
        exact ⟨ret_u32 hn.out.symm, b1⟩
      | false =>
        have hn := Lib.hid (nx_e im pc x y h3 hb h4)
        clear h3 h4
        go_enter Try.func21, Try.ntmps21
        go_wp2_with (go_at_call 19; refine (rtaken_all _ _ _ _ (by omega) (by omega) (by omega) (by omega)).mono ?_; rintro e w' ⟨rfl, rfl⟩)
        go_ret
        exact ⟨ret_u32 hn.out.symm, b1⟩
end Go.Proofs.Ytdenefeckdlmdaa
