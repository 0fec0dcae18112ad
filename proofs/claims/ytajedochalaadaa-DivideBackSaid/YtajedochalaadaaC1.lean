/- Contracts: what divide.Do answers, of each op from 42 to 45 and of every two words. Condition: both are words. -/
import Derived.Test.YtajedochalaadaaRows
import Derived.Test.YtajedochalaadaaPlain
import Derived.WalkKit
import Derived.ProofKit
import Derived.OpenShut
import Derived.Handy
namespace Go.Proofs.Ytajedochalaadaa
open Go.ChangeShapes Go.WideShapes Go.ChangeAt Go.RowKit

theorem gtrans {a b c : World} (h1 : Grown a b) (h2 : Grown b c) : Grown a c :=
  ⟨World.keptBut_trans h1.1 (World.keptBut_mono (fun _ f => f.elim) h2.1), fun x => (h2.2.1 x).trans (h1.2.1 x), Nat.le_trans h1.2.2 h2.2.2⟩
theorem ret_bool {b : Bool} (h : b = true) : Ending.returned (.bool b) = .returned (.bool true) := by rw [h]
theorem ret_u32 {a b : Int} (h : a = b) : Ending.returned (.int .u32 a) = .returned (.int .u32 b) := by rw [h]
theorem dv42z (x : Int) : dv 42 x 0 = 4294967295 := by simp [dv]
theorem dv43z (x : Int) : dv 43 x 0 = 4294967295 := by simp [dv]
theorem dv44z (x : Int) : dv 44 x 0 = x := by simp [dv]
theorem dv45z (x : Int) : dv 45 x 0 = x := by simp [dv]
set_option maxHeartbeats 400000 in
theorem do_z (op x : Int) (w : World) (hop : op = 42 ∨ op = 43 ∨ op = 44 ∨ op = 45) :
    Calls Try.prog 9 #[.int .i64 op, .int .u32 x, .int .u32 0] w fun e w' => e = .returned (.int .u32 (dv op x 0)) ∧ Grown w w' := by
  rcases hop with rfl | rfl | rfl | rfl
  all_goals
    go_enter Try.func9, Try.ntmps9
    go_wp2
    all_goals go_ret
    all_goals refine ⟨ret_u32 ?_, by go_grown⟩
  · exact (dv42z x).symm
  · exact (dv43z x).symm
  · exact (dv44z x).symm
  · exact (dv45z x).symm
set_option maxHeartbeats 1000000 in
theorem do_42 (x y : Int) (w : World) (h0 : 0 ≤ x) (h1 : x ≤ 4294967295) (g0 : 1 ≤ y) (g1 : y ≤ 4294967295) :
    Calls Try.prog 9 #[.int .i64 42, .int .u32 x, .int .u32 y] w fun e w' => e = .returned (.int .u32 (dv 42 x y)) ∧ Grown w w' := by
  have hy : (y == 0) = false := by rw [beq_eq_false_iff_ne]; omega
  rcases Int.lt_or_le x 2147483648 with cx | cx <;> rcases Int.lt_or_le y 2147483648 with cy | cy
  · have a1 := wrap32_pos cx h0
    have a2 := wrap32_pos cy (by omega)
    have a3 := xor_same x y h0 (by omega) (by omega) (by omega) (by omega)
    go_enter Try.func9, Try.ntmps9
    go_wp2
    go_ret
    exact ⟨ret_u32 (dv42_pp x y h0 cx g0 cy), by go_grown⟩
  · have a1 := wrap32_pos cx h0
    have a2 := wrap32_neg cy (by omega)
    have a3 := xor_other x y h0 (by omega) (by omega) (by omega) (by omega)
    go_enter Try.func9, Try.ntmps9
    go_wp2
    go_ret
    exact ⟨ret_u32 (dv42_pn x y h0 cx cy g1), by go_grown⟩
  · have a1 := wrap32_neg cx h1
    have a2 := wrap32_pos cy (by omega)
    have a3 := xor_other x y h0 (by omega) (by omega) (by omega) (by omega)
    go_enter Try.func9, Try.ntmps9
    go_wp2
    go_ret
    exact ⟨ret_u32 (dv42_np x y cx h1 g0 cy), by go_grown⟩
  · have a1 := wrap32_neg cx h1
    have a2 := wrap32_neg cy (by omega)
    have a3 := xor_same x y h0 (by omega) (by omega) (by omega) (by omega)
    go_enter Try.func9, Try.ntmps9
    go_wp2
    go_ret
    exact ⟨ret_u32 (dv42_nn x y cx h1 cy g1), by go_grown⟩
set_option maxHeartbeats 1000000 in
theorem do_44 (x y : Int) (w : World) (h0 : 0 ≤ x) (h1 : x ≤ 4294967295) (g0 : 1 ≤ y) (g1 : y ≤ 4294967295) :
    Calls Try.prog 9 #[.int .i64 44, .int .u32 x, .int .u32 y] w fun e w' => e = .returned (.int .u32 (dv 44 x y)) ∧ Grown w w' := by
  have hy : (y == 0) = false := by rw [beq_eq_false_iff_ne]; omega
  rcases Int.lt_or_le x 2147483648 with cx | cx <;> rcases Int.lt_or_le y 2147483648 with cy | cy
  · have a1 := wrap32_pos cx h0
    have a2 := wrap32_pos cy (by omega)
    go_enter Try.func9, Try.ntmps9
    go_wp2
    go_ret
    exact ⟨ret_u32 (dv44_pp x y h0 cx g0 cy), by go_grown⟩
  · have a1 := wrap32_pos cx h0
    have a2 := wrap32_neg cy (by omega)
    go_enter Try.func9, Try.ntmps9
    go_wp2
    go_ret
    exact ⟨ret_u32 (dv44_pn x y h0 cx cy g1), by go_grown⟩
  · have a1 := wrap32_neg cx h1
    have a2 := wrap32_pos cy (by omega)
    go_enter Try.func9, Try.ntmps9
    go_wp2
    go_ret
    exact ⟨ret_u32 (dv44_np x y cx h1 g0 cy), by go_grown⟩
  · have a1 := wrap32_neg cx h1
    have a2 := wrap32_neg cy (by omega)
    go_enter Try.func9, Try.ntmps9
    go_wp2
    go_ret
    exact ⟨ret_u32 (dv44_nn x y cx h1 cy g1), by go_grown⟩
set_option maxHeartbeats 1000000 in
theorem do_43 (x y : Int) (w : World) (h0 : 0 ≤ x) (h1 : x ≤ 4294967295) (g0 : 1 ≤ y) (g1 : y ≤ 4294967295) :
    Calls Try.prog 9 #[.int .i64 43, .int .u32 x, .int .u32 y] w fun e w' => e = .returned (.int .u32 (dv 43 x y)) ∧ Grown w w' := by
  have hy : (y == 0) = false := by rw [beq_eq_false_iff_ne]; omega
  go_enter Try.func9, Try.ntmps9
  go_wp2
  go_ret
  exact ⟨ret_u32 (dv43 x y g0).symm, by go_grown⟩
set_option maxHeartbeats 1000000 in
theorem do_45 (x y : Int) (w : World) (h0 : 0 ≤ x) (h1 : x ≤ 4294967295) (g0 : 1 ≤ y) (g1 : y ≤ 4294967295) :
    Calls Try.prog 9 #[.int .i64 45, .int .u32 x, .int .u32 y] w fun e w' => e = .returned (.int .u32 (dv 45 x y)) ∧ Grown w w' := by
  have hy : (y == 0) = false := by rw [beq_eq_false_iff_ne]; omega
  go_enter Try.func9, Try.ntmps9
  go_wp2
  go_ret
  exact ⟨ret_u32 (dv45 x y g0).symm, by go_grown⟩
/-- divide.Do, of each op from 42 to 45 and of every two words -/
theorem do_any (op x y : Int) (w : World) (hop : op = 42 ∨ op = 43 ∨ op = 44 ∨ op = 45) (h0 : 0 ≤ x) (h1 : x ≤ 4294967295) (g0 : 0 ≤ y) (g1 : y ≤ 4294967295) :
    Calls Try.prog 9 #[.int .i64 op, .int .u32 x, .int .u32 y] w fun e w' => e = .returned (.int .u32 (dv op x y)) ∧ Grown w w' := by
  by_cases hy : y = 0
  · subst hy; exact do_z op x w hop
  · rcases hop with rfl | rfl | rfl | rfl
    · exact do_42 x y w h0 h1 (by omega) g1
    · exact do_43 x y w h0 h1 (by omega) g1
    · exact do_44 x y w h0 h1 (by omega) g1
    · exact do_45 x y w h0 h1 (by omega) g1
theorem alive_any (w : World) : Calls Try.prog 10 #[] w fun e w' => e = .returned (.bool true) ∧ Grown w w' := by
  have h : (dv 43 7 2 == 3) = true := by decide
  go_enter Try.func10, Try.ntmps10
  go_wp2_with (go_at_call 9; refine (do_any _ _ _ _ (by omega) (by omega) (by omega) (by omega) (by omega)).mono ?_; rintro e w' ⟨rfl, hg⟩)
  go_ret
  exact ⟨rfl, hg⟩
theorem ret_i64 {a b : Int} (h : a = b) : Ending.returned (.int .i64 a) = .returned (.int .i64 b) := by rw [h]
set_option maxHeartbeats 400000 in
/-- the reference's size, of a rest -/
theorem size_44 (x : Int) (w : World) (h0 : 0 ≤ x) (h1 : x ≤ 4294967295) :
    Calls Try.prog 11 #[.int .i64 44, .int .u32 x] w fun e w' => e = .returned (.int .i64 (szz x)) ∧ w = w' := by
  rcases Int.lt_or_le x 2147483648 with cx | cx
  all_goals
    go_enter Try.func11, Try.ntmps11
    go_wp2
    go_ret
  · exact ⟨ret_i64 (szz_p cx).symm, rfl⟩
  · exact ⟨ret_i64 (by rw [szz_n cx]; omega), rfl⟩
end Go.Proofs.Ytajedochalaadaa
