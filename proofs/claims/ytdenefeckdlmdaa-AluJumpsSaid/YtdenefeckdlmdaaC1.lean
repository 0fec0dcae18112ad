/- Contracts: what alu.Do answers of any op and of every two words. Condition: both are words. -/
import Derived.Test.YtdenefeckdlmdaaRows
import Derived.Test.YtdenefeckdlmdaaPlain
import Derived.WalkKit
import Derived.ProofKit
import Derived.OpenShut
import Derived.Handy
import Derived.Lib.Hide
namespace Go.Proofs.Ytdenefeckdlmdaa
open Go.ChangeShapes Go.WideShapes Go.ChangeAt Go.RowKit
set_option linter.unusedVariables false

theorem gtrans {a b c : World} (h1 : Grown a b) (h2 : Grown b c) : Grown a c :=
  ⟨World.keptBut_trans h1.1 (World.keptBut_mono (fun _ f => f.elim) h2.1), fun x => (h2.2.1 x).trans (h1.2.1 x), Nat.le_trans h1.2.2 h2.2.2⟩
theorem ret_bool {b : Bool} (h : b = true) : Ending.returned (.bool b) = .returned (.bool true) := by rw [h]
theorem ret_u32 {a b : Int} (h : a = b) : Ending.returned (.int .u32 a) = .returned (.int .u32 b) := by rw [h]
theorem ret_i64 {a b : Int} (h : a = b) : Ending.returned (.int .i64 a) = .returned (.int .i64 b) := by rw [h]
set_option maxHeartbeats 400000 in
theorem do_1 (x y : Int) (w : World) (h0 : 0 ≤ x) (h1 : x ≤ 4294967295) (g0 : 0 ≤ y) (g1 : y ≤ 4294967295) :
    Calls Try.prog 12 #[.int .i64 1, .int .u32 x, .int .u32 y] w fun e w' => e = .returned (.int .u32 (ad 1 x y)) ∧ w = w' := by
  have e31 := and31 y g0 g1
  go_enter Try.func12, Try.ntmps12
  go_wp2
  go_ret
  exact ⟨ret_u32 (ad1 x y).symm, rfl⟩
set_option maxHeartbeats 400000 in
theorem do_19 (x y : Int) (w : World) (h0 : 0 ≤ x) (h1 : x ≤ 4294967295) (g0 : 0 ≤ y) (g1 : y ≤ 4294967295) :
    Calls Try.prog 12 #[.int .i64 19, .int .u32 x, .int .u32 y] w fun e w' => e = .returned (.int .u32 (ad 19 x y)) ∧ w = w' := by
  have e31 := and31 y g0 g1
  go_enter Try.func12, Try.ntmps12
  go_wp2
  go_ret
  exact ⟨ret_u32 (ad19 x y).symm, rfl⟩
set_option maxHeartbeats 400000 in
theorem do_20 (x y : Int) (w : World) (h0 : 0 ≤ x) (h1 : x ≤ 4294967295) (g0 : 0 ≤ y) (g1 : y ≤ 4294967295) :
    Calls Try.prog 12 #[.int .i64 20, .int .u32 x, .int .u32 y] w fun e w' => e = .returned (.int .u32 (ad 20 x y)) ∧ w = w' := by
  have e31 := and31 y g0 g1
  rcases Int.lt_or_le (wrap32 x) (wrap32 y) with c | c
  · go_enter Try.func12, Try.ntmps12
    go_wp2
    go_ret
    exact ⟨ret_u32 (by rw [ad20, if_pos c]), rfl⟩
  · go_enter Try.func12, Try.ntmps12
    go_wp2
    go_ret
    exact ⟨ret_u32 (by rw [ad20, if_neg (by omega)]), rfl⟩
set_option maxHeartbeats 400000 in
theorem do_21 (x y : Int) (w : World) (h0 : 0 ≤ x) (h1 : x ≤ 4294967295) (g0 : 0 ≤ y) (g1 : y ≤ 4294967295) :
    Calls Try.prog 12 #[.int .i64 21, .int .u32 x, .int .u32 y] w fun e w' => e = .returned (.int .u32 (ad 21 x y)) ∧ w = w' := by
  have e31 := and31 y g0 g1
  rcases Int.lt_or_le x y with c | c
  · go_enter Try.func12, Try.ntmps12
    go_wp2
    go_ret
    exact ⟨ret_u32 (by rw [ad21, if_pos c]), rfl⟩
  · go_enter Try.func12, Try.ntmps12
    go_wp2
    go_ret
    exact ⟨ret_u32 (by rw [ad21, if_neg (by omega)]), rfl⟩
set_option maxHeartbeats 400000 in
theorem do_22 (x y : Int) (w : World) (h0 : 0 ≤ x) (h1 : x ≤ 4294967295) (g0 : 0 ≤ y) (g1 : y ≤ 4294967295) :
    Calls Try.prog 12 #[.int .i64 22, .int .u32 x, .int .u32 y] w fun e w' => e = .returned (.int .u32 (ad 22 x y)) ∧ w = w' := by
  have e31 := and31 y g0 g1
  go_enter Try.func12, Try.ntmps12
  go_wp2
  go_ret
  exact ⟨ret_u32 (ad22 x y).symm, rfl⟩
set_option maxHeartbeats 400000 in
theorem do_23 (x y : Int) (w : World) (h0 : 0 ≤ x) (h1 : x ≤ 4294967295) (g0 : 0 ≤ y) (g1 : y ≤ 4294967295) :
    Calls Try.prog 12 #[.int .i64 23, .int .u32 x, .int .u32 y] w fun e w' => e = .returned (.int .u32 (ad 23 x y)) ∧ w = w' := by
  have e31 := and31 y g0 g1
  go_enter Try.func12, Try.ntmps12
  go_wp2
  go_ret
  exact ⟨ret_u32 (ad23 x y).symm, rfl⟩
set_option maxHeartbeats 400000 in
theorem do_24 (x y : Int) (w : World) (h0 : 0 ≤ x) (h1 : x ≤ 4294967295) (g0 : 0 ≤ y) (g1 : y ≤ 4294967295) :
    Calls Try.prog 12 #[.int .i64 24, .int .u32 x, .int .u32 y] w fun e w' => e = .returned (.int .u32 (ad 24 x y)) ∧ w = w' := by
  have e31 := and31 y g0 g1
  go_enter Try.func12, Try.ntmps12
  go_wp2
  go_ret
  exact ⟨ret_u32 (ad24 x y).symm, rfl⟩
set_option maxHeartbeats 400000 in
theorem do_25 (x y : Int) (w : World) (h0 : 0 ≤ x) (h1 : x ≤ 4294967295) (g0 : 0 ≤ y) (g1 : y ≤ 4294967295) :
    Calls Try.prog 12 #[.int .i64 25, .int .u32 x, .int .u32 y] w fun e w' => e = .returned (.int .u32 (ad 25 x y)) ∧ w = w' := by
  have e31 := and31 y g0 g1
  go_enter Try.func12, Try.ntmps12
  go_wp2
  go_ret
  exact ⟨ret_u32 (ad25 x y).symm, rfl⟩
set_option maxHeartbeats 400000 in
theorem do_26 (x y : Int) (w : World) (h0 : 0 ≤ x) (h1 : x ≤ 4294967295) (g0 : 0 ≤ y) (g1 : y ≤ 4294967295) :
    Calls Try.prog 12 #[.int .i64 26, .int .u32 x, .int .u32 y] w fun e w' => e = .returned (.int .u32 (ad 26 x y)) ∧ w = w' := by
  have e31 := and31 y g0 g1
  go_enter Try.func12, Try.ntmps12
  go_wp2
  go_ret
  exact ⟨ret_u32 (ad26 x y).symm, rfl⟩
set_option maxHeartbeats 400000 in
theorem do_27 (x y : Int) (w : World) (h0 : 0 ≤ x) (h1 : x ≤ 4294967295) (g0 : 0 ≤ y) (g1 : y ≤ 4294967295) :
    Calls Try.prog 12 #[.int .i64 27, .int .u32 x, .int .u32 y] w fun e w' => e = .returned (.int .u32 (ad 27 x y)) ∧ w = w' := by
  have e31 := and31 y g0 g1
  go_enter Try.func12, Try.ntmps12
  go_wp2
  go_ret
  exact ⟨ret_u32 (ad27 x y).symm, rfl⟩
set_option maxHeartbeats 400000 in
theorem do_28 (x y : Int) (w : World) (h0 : 0 ≤ x) (h1 : x ≤ 4294967295) (g0 : 0 ≤ y) (g1 : y ≤ 4294967295) :
    Calls Try.prog 12 #[.int .i64 28, .int .u32 x, .int .u32 y] w fun e w' => e = .returned (.int .u32 (ad 28 x y)) ∧ w = w' := by
  have e31 := and31 y g0 g1
  go_enter Try.func12, Try.ntmps12
  go_wp2
  go_ret
  exact ⟨ret_u32 (ad28 x y).symm, rfl⟩
set_option maxHeartbeats 400000 in
theorem do_29 (x y : Int) (w : World) (h0 : 0 ≤ x) (h1 : x ≤ 4294967295) (g0 : 0 ≤ y) (g1 : y ≤ 4294967295) :
    Calls Try.prog 12 #[.int .i64 29, .int .u32 x, .int .u32 y] w fun e w' => e = .returned (.int .u32 (ad 29 x y)) ∧ w = w' := by
  have e31 := and31 y g0 g1
  go_enter Try.func12, Try.ntmps12
  go_wp2
  go_ret
  exact ⟨ret_u32 (ad29 x y).symm, rfl⟩
set_option maxHeartbeats 400000 in
theorem do_30 (x y : Int) (w : World) (h0 : 0 ≤ x) (h1 : x ≤ 4294967295) (g0 : 0 ≤ y) (g1 : y ≤ 4294967295) :
    Calls Try.prog 12 #[.int .i64 30, .int .u32 x, .int .u32 y] w fun e w' => e = .returned (.int .u32 (ad 30 x y)) ∧ w = w' := by
  have e31 := and31 y g0 g1
  go_enter Try.func12, Try.ntmps12
  go_wp2
  go_ret
  exact ⟨ret_u32 (ad30 x y).symm, rfl⟩
set_option maxHeartbeats 400000 in
theorem do_31 (x y : Int) (w : World) (h0 : 0 ≤ x) (h1 : x ≤ 4294967295) (g0 : 0 ≤ y) (g1 : y ≤ 4294967295) :
    Calls Try.prog 12 #[.int .i64 31, .int .u32 x, .int .u32 y] w fun e w' => e = .returned (.int .u32 (ad 31 x y)) ∧ w = w' := by
  have e31 := and31 y g0 g1
  rcases Int.lt_or_le (wrap32 x) (wrap32 y) with c | c
  · go_enter Try.func12, Try.ntmps12
    go_wp2
    go_ret
    exact ⟨ret_u32 (by rw [ad31, if_pos c]), rfl⟩
  · go_enter Try.func12, Try.ntmps12
    go_wp2
    go_ret
    exact ⟨ret_u32 (by rw [ad31, if_neg (by omega)]), rfl⟩
set_option maxHeartbeats 400000 in
theorem do_32 (x y : Int) (w : World) (h0 : 0 ≤ x) (h1 : x ≤ 4294967295) (g0 : 0 ≤ y) (g1 : y ≤ 4294967295) :
    Calls Try.prog 12 #[.int .i64 32, .int .u32 x, .int .u32 y] w fun e w' => e = .returned (.int .u32 (ad 32 x y)) ∧ w = w' := by
  have e31 := and31 y g0 g1
  rcases Int.lt_or_le x y with c | c
  · go_enter Try.func12, Try.ntmps12
    go_wp2
    go_ret
    exact ⟨ret_u32 (by rw [ad32, if_pos c]), rfl⟩
  · go_enter Try.func12, Try.ntmps12
    go_wp2
    go_ret
    exact ⟨ret_u32 (by rw [ad32, if_neg (by omega)]), rfl⟩
set_option maxHeartbeats 400000 in
theorem do_33 (x y : Int) (w : World) (h0 : 0 ≤ x) (h1 : x ≤ 4294967295) (g0 : 0 ≤ y) (g1 : y ≤ 4294967295) :
    Calls Try.prog 12 #[.int .i64 33, .int .u32 x, .int .u32 y] w fun e w' => e = .returned (.int .u32 (ad 33 x y)) ∧ w = w' := by
  have e31 := and31 y g0 g1
  go_enter Try.func12, Try.ntmps12
  go_wp2
  go_ret
  exact ⟨ret_u32 (ad33 x y).symm, rfl⟩
set_option maxHeartbeats 400000 in
theorem do_34 (x y : Int) (w : World) (h0 : 0 ≤ x) (h1 : x ≤ 4294967295) (g0 : 0 ≤ y) (g1 : y ≤ 4294967295) :
    Calls Try.prog 12 #[.int .i64 34, .int .u32 x, .int .u32 y] w fun e w' => e = .returned (.int .u32 (ad 34 x y)) ∧ w = w' := by
  have e31 := and31 y g0 g1
  go_enter Try.func12, Try.ntmps12
  go_wp2
  go_ret
  exact ⟨ret_u32 (ad34 x y).symm, rfl⟩
set_option maxHeartbeats 400000 in
theorem do_35 (x y : Int) (w : World) (h0 : 0 ≤ x) (h1 : x ≤ 4294967295) (g0 : 0 ≤ y) (g1 : y ≤ 4294967295) :
    Calls Try.prog 12 #[.int .i64 35, .int .u32 x, .int .u32 y] w fun e w' => e = .returned (.int .u32 (ad 35 x y)) ∧ w = w' := by
  have e31 := and31 y g0 g1
  go_enter Try.func12, Try.ntmps12
  go_wp2
  go_ret
  exact ⟨ret_u32 (ad35 x y).symm, rfl⟩
set_option maxHeartbeats 400000 in
theorem do_36 (x y : Int) (w : World) (h0 : 0 ≤ x) (h1 : x ≤ 4294967295) (g0 : 0 ≤ y) (g1 : y ≤ 4294967295) :
    Calls Try.prog 12 #[.int .i64 36, .int .u32 x, .int .u32 y] w fun e w' => e = .returned (.int .u32 (ad 36 x y)) ∧ w = w' := by
  have e31 := and31 y g0 g1
  go_enter Try.func12, Try.ntmps12
  go_wp2
  go_ret
  exact ⟨ret_u32 (ad36 x y).symm, rfl⟩
set_option maxHeartbeats 400000 in
theorem do_37 (x y : Int) (w : World) (h0 : 0 ≤ x) (h1 : x ≤ 4294967295) (g0 : 0 ≤ y) (g1 : y ≤ 4294967295) :
    Calls Try.prog 12 #[.int .i64 37, .int .u32 x, .int .u32 y] w fun e w' => e = .returned (.int .u32 (ad 37 x y)) ∧ w = w' := by
  have e31 := and31 y g0 g1
  go_enter Try.func12, Try.ntmps12
  go_wp2
  go_ret
  exact ⟨ret_u32 (ad37 x y).symm, rfl⟩
set_option maxHeartbeats 1000000 in
theorem do_else (op x y : Int) (w : World) (g0 : 0 ≤ y) (g1 : y ≤ 4294967295) (h : op ≠ 1 ∧ op ≠ 19 ∧ op ≠ 20 ∧ op ≠ 21 ∧ op ≠ 22 ∧ op ≠ 23 ∧ op ≠ 24 ∧ op ≠ 25 ∧ op ≠ 26 ∧ op ≠ 27 ∧ op ≠ 28 ∧ op ≠ 29 ∧ op ≠ 30 ∧ op ≠ 31 ∧ op ≠ 32 ∧ op ≠ 33 ∧ op ≠ 34 ∧ op ≠ 35 ∧ op ≠ 36 ∧ op ≠ 37) :
    Calls Try.prog 12 #[.int .i64 op, .int .u32 x, .int .u32 y] w fun e w' => e = .returned (.int .u32 (ad op x y)) ∧ w = w' := by
  have e31 := and31 y g0 g1
  have hd := Lib.hid (ad_else op x y h)
  have e1 : (op == 1) = false := by rw [beq_eq_false_iff_ne]; omega
  have e19 : (op == 19) = false := by rw [beq_eq_false_iff_ne]; omega
  have e20 : (op == 20) = false := by rw [beq_eq_false_iff_ne]; omega
  have e21 : (op == 21) = false := by rw [beq_eq_false_iff_ne]; omega
  have e22 : (op == 22) = false := by rw [beq_eq_false_iff_ne]; omega
  have e23 : (op == 23) = false := by rw [beq_eq_false_iff_ne]; omega
  have e24 : (op == 24) = false := by rw [beq_eq_false_iff_ne]; omega
  have e25 : (op == 25) = false := by rw [beq_eq_false_iff_ne]; omega
  have e26 : (op == 26) = false := by rw [beq_eq_false_iff_ne]; omega
  have e27 : (op == 27) = false := by rw [beq_eq_false_iff_ne]; omega
  have e28 : (op == 28) = false := by rw [beq_eq_false_iff_ne]; omega
  have e29 : (op == 29) = false := by rw [beq_eq_false_iff_ne]; omega
  have e30 : (op == 30) = false := by rw [beq_eq_false_iff_ne]; omega
  have e31 : (op == 31) = false := by rw [beq_eq_false_iff_ne]; omega
  have e32 : (op == 32) = false := by rw [beq_eq_false_iff_ne]; omega
  have e33 : (op == 33) = false := by rw [beq_eq_false_iff_ne]; omega
  have e34 : (op == 34) = false := by rw [beq_eq_false_iff_ne]; omega
  have e35 : (op == 35) = false := by rw [beq_eq_false_iff_ne]; omega
  have e36 : (op == 36) = false := by rw [beq_eq_false_iff_ne]; omega
  have e37 : (op == 37) = false := by rw [beq_eq_false_iff_ne]; omega
  clear h
  go_enter Try.func12, Try.ntmps12
  go_wp2
  go_ret
  exact ⟨ret_u32 hd.out.symm, rfl⟩
/-- alu.Do, of any op and every two words -/
theorem do_all (op : Int) (x y : Int) (w : World) (h0 : 0 ≤ x) (h1 : x ≤ 4294967295) (g0 : 0 ≤ y) (g1 : y ≤ 4294967295) :
    Calls Try.prog 12 #[.int .i64 op, .int .u32 x, .int .u32 y] w fun e w' => e = .returned (.int .u32 (ad op x y)) ∧ w = w' := by
  by_cases e1 : op = 1
  · subst e1; exact do_1 x y w h0 h1 g0 g1
  by_cases e19 : op = 19
  · subst e19; exact do_19 x y w h0 h1 g0 g1
  by_cases e20 : op = 20
  · subst e20; exact do_20 x y w h0 h1 g0 g1
  by_cases e21 : op = 21
  · subst e21; exact do_21 x y w h0 h1 g0 g1
  by_cases e22 : op = 22
  · subst e22; exact do_22 x y w h0 h1 g0 g1
  by_cases e23 : op = 23
  · subst e23; exact do_23 x y w h0 h1 g0 g1
  by_cases e24 : op = 24
  · subst e24; exact do_24 x y w h0 h1 g0 g1
  by_cases e25 : op = 25
  · subst e25; exact do_25 x y w h0 h1 g0 g1
  by_cases e26 : op = 26
  · subst e26; exact do_26 x y w h0 h1 g0 g1
  by_cases e27 : op = 27
  · subst e27; exact do_27 x y w h0 h1 g0 g1
  by_cases e28 : op = 28
  · subst e28; exact do_28 x y w h0 h1 g0 g1
  by_cases e29 : op = 29
  · subst e29; exact do_29 x y w h0 h1 g0 g1
  by_cases e30 : op = 30
  · subst e30; exact do_30 x y w h0 h1 g0 g1
  by_cases e31 : op = 31
  · subst e31; exact do_31 x y w h0 h1 g0 g1
  by_cases e32 : op = 32
  · subst e32; exact do_32 x y w h0 h1 g0 g1
  by_cases e33 : op = 33
  · subst e33; exact do_33 x y w h0 h1 g0 g1
  by_cases e34 : op = 34
  · subst e34; exact do_34 x y w h0 h1 g0 g1
  by_cases e35 : op = 35
  · subst e35; exact do_35 x y w h0 h1 g0 g1
  by_cases e36 : op = 36
  · subst e36; exact do_36 x y w h0 h1 g0 g1
  by_cases e37 : op = 37
  · subst e37; exact do_37 x y w h0 h1 g0 g1
  exact do_else op x y w g0 g1 ⟨e1, e19, e20, e21, e22, e23, e24, e25, e26, e27, e28, e29, e30, e31, e32, e33, e34, e35, e36, e37⟩
theorem alive_any (w : World) : Calls Try.prog 14 #[] w fun e w' => e = .returned (.bool true) ∧ w = w' := by
  have h : (ad 28 1 1 == 2) = true := by decide
  go_enter Try.func14, Try.ntmps14
  go_wp2_with (go_at_call 12; refine (do_all _ _ _ _ (by omega) (by omega) (by omega) (by omega)).mono ?_; rintro e w' ⟨rfl, rfl⟩)
  go_ret
  exact ⟨rfl, rfl⟩
end Go.Proofs.Ytdenefeckdlmdaa
