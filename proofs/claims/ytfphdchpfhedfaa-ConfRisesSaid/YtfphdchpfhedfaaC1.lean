/- Contracts of the small functions: a number brought into bounds, a place in a tape. No conditions but that numbers fit. -/
import Derived.Test.YtfphdchpfhedfaaRows
import Derived.Test.YtfphdchpfhedfaaPlain
import Derived.WalkKit
import Derived.ProofKit
import Derived.OpenShut
import Derived.Handy
import Derived.Lib.Hide
import Derived.Below
import Derived.Outline
namespace Go.Proofs.Ytfphdchpfhedfaa
open Go.ChangeShapes Go.WideShapes Go.ChangeAt Go.RowKit
set_option linter.unusedVariables false

theorem ret_bl {a b : Bool} (h : a = b) : Ending.returned (.bool a) = .returned (.bool b) := by rw [h]
theorem ret_u32 {a b : Int} (h : a = b) : Ending.returned (.int .u32 a) = .returned (.int .u32 b) := by rw [h]
theorem ret_i64 {a b : Int} (h : a = b) : Ending.returned (.int .i64 a) = .returned (.int .i64 b) := by rw [h]
set_option maxHeartbeats 400000 in
theorem in_any (n lo hi : Int) (w : World) :
    Calls Try.prog 24 #[.int .i64 n, .int .i64 lo, .int .i64 hi] w fun e w' => e = .returned (.int .i64 (cl lo hi n)) ∧ w = w' := by
  rcases Int.lt_or_le n lo with c | c
  · go_enter Try.func24, Try.ntmps24
    go_wp2
    go_ret
    exact ⟨ret_i64 (cl_lo c).symm, rfl⟩
  · rcases Int.lt_or_le hi n with d | d
    · go_enter Try.func24, Try.ntmps24
      go_wp2
      go_ret
      exact ⟨ret_i64 (cl_hi c d).symm, rfl⟩
    · go_enter Try.func24, Try.ntmps24
      go_wp2
      go_ret
      exact ⟨ret_i64 (cl_in c d).symm, rfl⟩
set_option maxHeartbeats 400000 in
theorem bring_any (a : Addr) (n lo hi : Int) (w : World) (h : lo ≤ hi) (hc : w.cell? a = some (.int .i64 n)) (hf : w.frozen? a = false) :
    Calls Try.prog 25 #[.pointer (some a), .int .i64 lo, .int .i64 hi] w fun e w' => e = .returned (.tuple #[]) ∧ w.setCell a (.int .i64 (cl lo hi n)) = w' := by
  rcases Int.lt_or_le n lo with c | c
  · rw [cl_lo c]
    go_enter Try.func25, Try.ntmps25
    go_wp2
    go_end0
    exact ⟨rfl, rfl⟩
  · rcases Int.lt_or_le hi n with d | d
    · rw [cl_hi c d]
      go_enter Try.func25, Try.ntmps25
      go_wp2
      go_end0
      exact ⟨rfl, rfl⟩
    · rw [cl_in c d]
      go_enter Try.func25, Try.ntmps25
      go_wp2
      go_end0
      exact ⟨rfl, rfl⟩
theorem within_any (n lo hi : Int) (w : World) :
    Calls Try.prog 26 #[.int .i64 n, .int .i64 lo, .int .i64 hi] w fun e w' => e = .returned (.bool (wi lo hi n)) ∧ w = w' := by
  go_enter Try.func26, Try.ntmps26
  go_wp2
  all_goals go_ret
  all_goals exact ⟨ret_bl (by unfold wi; simp [*] <;> omega), rfl⟩
theorem place_any (k n : Int) (w : World) (h0 : 1 ≤ n) :
    Calls Try.prog 28 #[.int .i64 k, .int .i64 n] w fun e w' => e = .returned (.int .i64 (pl k n)) ∧ w = w' := by
  have hn : (n == 0) = false := by rw [beq_eq_false_iff_ne]; omega
  rcases Int.lt_or_le k 0 with c | c
  · have e := Lib.hid (pl_neg n c)
    go_enter Try.func28, Try.ntmps28
    go_wp2
    go_ret
    exact ⟨ret_i64 e.out.symm, rfl⟩
  · have e := Lib.hid (pl_pos n c)
    go_enter Try.func28, Try.ntmps28
    go_wp2
    go_ret
    exact ⟨ret_i64 e.out.symm, rfl⟩
end Go.Proofs.Ytfphdchpfhedfaa
