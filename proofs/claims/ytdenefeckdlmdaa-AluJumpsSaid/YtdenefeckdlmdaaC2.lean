/- Contracts: products, branches and what comes next, the program's and the reference's. Condition: the numbers are words. -/
import Derived.Test.YtdenefeckdlmdaaC1
import Derived.Test.YtdenefeckdlmdaaPlain2
namespace Go.Proofs.Ytdenefeckdlmdaa
open Go.ChangeShapes Go.WideShapes Go.ChangeAt Go.RowKit
set_option linter.unusedVariables false

theorem ret_bl {a b : Bool} (h : a = b) : Ending.returned (.bool a) = .returned (.bool b) := by rw [h]
theorem half64 (p : Int) (h0 : -9223372036854775808 ≤ p) (h1 : p ≤ 9223372036854775807) : IntKind.u64.wrap (wrap64 p) / 4294967296 % 4294967296 = p / 4294967296 % 4294967296 := by
  rw [IntKind.wrap_u64]; unfold wrap64; omega
theorem mul_bd (p q a b : Int) (h0 : -a ≤ p) (h1 : p ≤ a) (g0 : -b ≤ q) (g1 : q ≤ b) (ha : 0 ≤ a) (hb : 0 ≤ b) : -(a * b) ≤ p * q ∧ p * q ≤ a * b := by
  have : (p * q).natAbs ≤ (a * b).natAbs := by
    rw [Int.natAbs_mul, Int.natAbs_mul]
    exact Nat.mul_le_mul (by omega) (by omega)
  have := Int.mul_nonneg ha hb
  omega
theorem w32_64 (x : Int) : wrap64 (wrap32 x) = wrap32 x := by
  have := wrap32_bd x; unfold wrap64; omega
theorem h39 (x y : Int) : IntKind.u64.wrap (wrap64 (wrap64 (wrap32 x) * wrap64 (wrap32 y))) / 4294967296 % 4294967296 = mu 39 x y := by
  have a := wrap32_bd x
  have b := wrap32_bd y
  have m := mul_bd (wrap32 x) (wrap32 y) 2147483648 2147483648 (by omega) (by omega) (by omega) (by omega) (by decide) (by decide)
  rw [w32_64, w32_64, mu39]
  exact half64 _ (by omega) (by omega)
theorem h40 (x y : Int) (g0 : 0 ≤ y) (g1 : y ≤ 4294967295) : IntKind.u64.wrap (wrap64 (wrap64 (wrap32 x) * y)) / 4294967296 % 4294967296 = mu 40 x y := by
  have a := wrap32_bd x
  have m := mul_bd (wrap32 x) y 2147483648 4294967295 (by omega) (by omega) (by omega) (by omega) (by decide) (by decide)
  rw [w32_64, mu40]
  exact half64 _ (by omega) (by omega)
theorem prod_bd (x y : Int) (h0 : 0 ≤ x) (h1 : x ≤ 4294967295) (g0 : 0 ≤ y) (g1 : y ≤ 4294967295) : 0 ≤ x * y ∧ x * y ≤ 18446744065119617025 := by
  have m := mul_bd x y 4294967295 4294967295 (by omega) (by omega) (by omega) (by omega) (by decide) (by decide)
  have := Int.mul_nonneg h0 g0
  omega
theorem h41 (x y : Int) (h0 : 0 ≤ x) (h1 : x ≤ 4294967295) (g0 : 0 ≤ y) (g1 : y ≤ 4294967295) : IntKind.u64.wrap (x * y) / 4294967296 % 4294967296 = mu 41 x y := by
  have m := prod_bd x y h0 h1 g0 g1
  rw [IntKind.wrap_u64, mu41]; omega
set_option maxHeartbeats 400000 in
theorem mul_38 (x y : Int) (w : World) (h0 : 0 ≤ x) (h1 : x ≤ 4294967295) (g0 : 0 ≤ y) (g1 : y ≤ 4294967295) :
    Calls Try.prog 15 #[.int .i64 38, .int .u32 x, .int .u32 y] w fun e w' => e = .returned (.int .u32 (mu 38 x y)) ∧ w = w' := by
  go_enter Try.func15, Try.ntmps15
  go_wp2
  go_ret
  exact ⟨ret_u32 (rfl), rfl⟩
set_option maxHeartbeats 400000 in
theorem mul_39 (x y : Int) (w : World) (h0 : 0 ≤ x) (h1 : x ≤ 4294967295) (g0 : 0 ≤ y) (g1 : y ≤ 4294967295) :
    Calls Try.prog 15 #[.int .i64 39, .int .u32 x, .int .u32 y] w fun e w' => e = .returned (.int .u32 (mu 39 x y)) ∧ w = w' := by
  go_enter Try.func15, Try.ntmps15
  go_wp2
  go_ret
  exact ⟨ret_u32 (h39 x y), rfl⟩
set_option maxHeartbeats 400000 in
theorem mul_40 (x y : Int) (w : World) (h0 : 0 ≤ x) (h1 : x ≤ 4294967295) (g0 : 0 ≤ y) (g1 : y ≤ 4294967295) :
    Calls Try.prog 15 #[.int .i64 40, .int .u32 x, .int .u32 y] w fun e w' => e = .returned (.int .u32 (mu 40 x y)) ∧ w = w' := by
  go_enter Try.func15, Try.ntmps15
  go_wp2
  go_ret
  exact ⟨ret_u32 (h40 x y g0 g1), rfl⟩
set_option maxHeartbeats 400000 in
theorem mul_41 (x y : Int) (w : World) (h0 : 0 ≤ x) (h1 : x ≤ 4294967295) (g0 : 0 ≤ y) (g1 : y ≤ 4294967295) :
    Calls Try.prog 15 #[.int .i64 41, .int .u32 x, .int .u32 y] w fun e w' => e = .returned (.int .u32 (mu 41 x y)) ∧ w = w' := by
  go_enter Try.func15, Try.ntmps15
  go_wp2
  go_ret
  exact ⟨ret_u32 (h41 x y h0 h1 g0 g1), rfl⟩
set_option maxHeartbeats 400000 in
theorem mul_all (op : Int) (x y : Int) (w : World) (h0 : 0 ≤ x) (h1 : x ≤ 4294967295) (g0 : 0 ≤ y) (g1 : y ≤ 4294967295) :
    Calls Try.prog 15 #[.int .i64 op, .int .u32 x, .int .u32 y] w fun e w' => e = .returned (.int .u32 (mu op x y)) ∧ w = w' := by
  by_cases h : op < 38 ∨ 41 < op
  · have hd := Lib.hid (mu_else op x y h)
    have e38 : (op == 38) = false := by rw [beq_eq_false_iff_ne]; omega
    have e39 : (op == 39) = false := by rw [beq_eq_false_iff_ne]; omega
    have e40 : (op == 40) = false := by rw [beq_eq_false_iff_ne]; omega
    have e41 : (op == 41) = false := by rw [beq_eq_false_iff_ne]; omega
    clear h
    go_enter Try.func15, Try.ntmps15
    go_wp2
    go_ret
    exact ⟨ret_u32 hd.out.symm, rfl⟩
  · have h : op = 38 ∨ op = 39 ∨ op = 40 ∨ op = 41 := by omega
    rcases h with rfl | rfl | rfl | rfl
    · exact mul_38 x y w h0 h1 g0 g1
    · exact mul_39 x y w h0 h1 g0 g1
    · exact mul_40 x y w h0 h1 g0 g1
    · exact mul_41 x y w h0 h1 g0 g1
set_option maxHeartbeats 400000 in
theorem taken_5 (x y : Int) (w : World) (h0 : 0 ≤ x) (h1 : x ≤ 4294967295) (g0 : 0 ≤ y) (g1 : y ≤ 4294967295) :
    Calls Try.prog 17 #[.int .i64 5, .int .u32 x, .int .u32 y] w fun e w' => e = .returned (.bool (br 5 x y)) ∧ w = w' := by
  go_enter Try.func17, Try.ntmps17
  go_wp2
  go_ret
  exact ⟨ret_bl rfl, rfl⟩
set_option maxHeartbeats 400000 in
theorem taken_6 (x y : Int) (w : World) (h0 : 0 ≤ x) (h1 : x ≤ 4294967295) (g0 : 0 ≤ y) (g1 : y ≤ 4294967295) :
    Calls Try.prog 17 #[.int .i64 6, .int .u32 x, .int .u32 y] w fun e w' => e = .returned (.bool (br 6 x y)) ∧ w = w' := by
  go_enter Try.func17, Try.ntmps17
  go_wp2
  go_ret
  exact ⟨ret_bl rfl, rfl⟩
set_option maxHeartbeats 400000 in
theorem taken_7 (x y : Int) (w : World) (h0 : 0 ≤ x) (h1 : x ≤ 4294967295) (g0 : 0 ≤ y) (g1 : y ≤ 4294967295) :
    Calls Try.prog 17 #[.int .i64 7, .int .u32 x, .int .u32 y] w fun e w' => e = .returned (.bool (br 7 x y)) ∧ w = w' := by
  go_enter Try.func17, Try.ntmps17
  go_wp2
  go_ret
  exact ⟨ret_bl rfl, rfl⟩
set_option maxHeartbeats 400000 in
theorem taken_8 (x y : Int) (w : World) (h0 : 0 ≤ x) (h1 : x ≤ 4294967295) (g0 : 0 ≤ y) (g1 : y ≤ 4294967295) :
    Calls Try.prog 17 #[.int .i64 8, .int .u32 x, .int .u32 y] w fun e w' => e = .returned (.bool (br 8 x y)) ∧ w = w' := by
  go_enter Try.func17, Try.ntmps17
  go_wp2
  go_ret
  exact ⟨ret_bl rfl, rfl⟩
set_option maxHeartbeats 400000 in
theorem taken_9 (x y : Int) (w : World) (h0 : 0 ≤ x) (h1 : x ≤ 4294967295) (g0 : 0 ≤ y) (g1 : y ≤ 4294967295) :
    Calls Try.prog 17 #[.int .i64 9, .int .u32 x, .int .u32 y] w fun e w' => e = .returned (.bool (br 9 x y)) ∧ w = w' := by
  go_enter Try.func17, Try.ntmps17
  go_wp2
  go_ret
  exact ⟨ret_bl rfl, rfl⟩
set_option maxHeartbeats 400000 in
theorem taken_10 (x y : Int) (w : World) (h0 : 0 ≤ x) (h1 : x ≤ 4294967295) (g0 : 0 ≤ y) (g1 : y ≤ 4294967295) :
    Calls Try.prog 17 #[.int .i64 10, .int .u32 x, .int .u32 y] w fun e w' => e = .returned (.bool (br 10 x y)) ∧ w = w' := by
  go_enter Try.func17, Try.ntmps17
  go_wp2
  go_ret
  exact ⟨ret_bl rfl, rfl⟩
set_option maxHeartbeats 400000 in
theorem taken_all (op : Int) (x y : Int) (w : World) (h0 : 0 ≤ x) (h1 : x ≤ 4294967295) (g0 : 0 ≤ y) (g1 : y ≤ 4294967295) :
    Calls Try.prog 17 #[.int .i64 op, .int .u32 x, .int .u32 y] w fun e w' => e = .returned (.bool (br op x y)) ∧ w = w' := by
  by_cases h : op < 5 ∨ 10 < op
  · have hd := Lib.hid (br_else op x y h)
    have e5 : (op == 5) = false := by rw [beq_eq_false_iff_ne]; omega
    have e6 : (op == 6) = false := by rw [beq_eq_false_iff_ne]; omega
    have e7 : (op == 7) = false := by rw [beq_eq_false_iff_ne]; omega
    have e8 : (op == 8) = false := by rw [beq_eq_false_iff_ne]; omega
    have e9 : (op == 9) = false := by rw [beq_eq_false_iff_ne]; omega
    have e10 : (op == 10) = false := by rw [beq_eq_false_iff_ne]; omega
    clear h
    go_enter Try.func17, Try.ntmps17
    go_wp2
    go_ret
    exact ⟨ret_bl hd.out.symm, rfl⟩
  · have h : op = 5 ∨ op = 6 ∨ op = 7 ∨ op = 8 ∨ op = 9 ∨ op = 10 := by omega
    rcases h with rfl | rfl | rfl | rfl | rfl | rfl
    · exact taken_5 x y w h0 h1 g0 g1
    · exact taken_6 x y w h0 h1 g0 g1
    · exact taken_7 x y w h0 h1 g0 g1
    · exact taken_8 x y w h0 h1 g0 g1
    · exact taken_9 x y w h0 h1 g0 g1
    · exact taken_10 x y w h0 h1 g0 g1
set_option maxHeartbeats 400000 in
theorem less_any (op : Int) (x y : Int) (w : World) (h0 : 0 ≤ x) (h1 : x ≤ 4294967295) (g0 : 0 ≤ y) (g1 : y ≤ 4294967295) :
    Calls Try.prog 18 #[.int .i64 op, .int .u32 x, .int .u32 y] w fun e w' => e = .returned (.bool (br op x y)) ∧ w = w' := by
  go_enter Try.func18, Try.ntmps18
  go_wp2_with (go_at_call 17; refine (taken_all _ _ _ _ (by omega) (by omega) (by omega) (by omega)).mono ?_; rintro e w' ⟨rfl, rfl⟩)
  go_ret
  exact ⟨rfl, rfl⟩
theorem rsigned_any (x : Int) (w : World) (h0 : 0 ≤ x) (h1 : x ≤ 4294967295) :
    Calls Try.prog 27 #[.int .u32 x] w fun e w' => e = .returned (.int .i64 (wrap32 x)) ∧ w = w' := by
  have hw := Lib.hid (wrap32_is x h0 h1)
  rcases Int.lt_or_le x 2147483648 with cx | cx
  all_goals
    go_enter Try.func27, Try.ntmps27
    go_wp2
    go_ret
  · exact ⟨ret_i64 (by rw [hw.out, if_pos cx]), rfl⟩
  · exact ⟨ret_i64 (by rw [hw.out, if_neg (by omega)]), rfl⟩
theorem one_any (b : Bool) (w : World) : Calls Try.prog 26 #[.bool b] w fun e w' => e = .returned (.int .u32 (if b then 1 else 0)) ∧ w = w' := by
  cases b
  all_goals
    go_enter Try.func26, Try.ntmps26
    go_wp2
    go_ret
    exact ⟨rfl, rfl⟩
set_option maxHeartbeats 1000000 in
theorem rtaken_all (op : Int) (x y : Int) (w : World) (h0 : 0 ≤ x) (h1 : x ≤ 4294967295) (g0 : 0 ≤ y) (g1 : y ≤ 4294967295) :
    Calls Try.prog 19 #[.int .i64 op, .int .u32 x, .int .u32 y] w fun e w' => e = .returned (.bool (br op x y)) ∧ w = w' := by
  by_cases h : op < 5 ∨ 10 < op
  · have hd := Lib.hid (br_else op x y h)
    have e5 : (op == 5) = false := by rw [beq_eq_false_iff_ne]; omega
    have e6 : (op == 6) = false := by rw [beq_eq_false_iff_ne]; omega
    have e7 : (op == 7) = false := by rw [beq_eq_false_iff_ne]; omega
    have e8 : (op == 8) = false := by rw [beq_eq_false_iff_ne]; omega
    have e9 : (op == 9) = false := by rw [beq_eq_false_iff_ne]; omega
    have e10 : (op == 10) = false := by rw [beq_eq_false_iff_ne]; omega
    clear h
    go_enter Try.func19, Try.ntmps19
    go_wp2
    go_ret
    exact ⟨ret_bl hd.out.symm, rfl⟩
  · have h : op = 5 ∨ op = 6 ∨ op = 7 ∨ op = 8 ∨ op = 9 ∨ op = 10 := by omega
    have b1 := wrap32_bd x
    have b2 := wrap32_bd y
    rcases h with rfl | rfl | rfl | rfl | rfl | rfl
    all_goals
      go_enter Try.func19, Try.ntmps19
      go_wp2_with (go_at_call 27; refine (rsigned_any _ _ (by omega) (by omega)).mono ?_; rintro e w' ⟨rfl, rfl⟩)
      go_ret
    · exact ⟨ret_bl rfl, rfl⟩
    · exact ⟨ret_bl rfl, rfl⟩
    · exact ⟨ret_bl rfl, rfl⟩
    · exact ⟨ret_bl (by rw [br8, Bool.eq_iff_iff]; simp), rfl⟩
    · exact ⟨ret_bl rfl, rfl⟩
    · exact ⟨ret_bl (by rw [br10, Bool.eq_iff_iff]; simp), rfl⟩
/-! ### the reference's products -/
theorem split16 (x y : Int) : x * y = (x / 65536) * (y / 65536) * 4294967296 + ((x / 65536) * (y % 65536) + (x % 65536) * (y / 65536)) * 65536 + (x % 65536) * (y % 65536) := by
  have ex : x = (x / 65536) * 65536 + x % 65536 := by omega
  have ey : y = (y / 65536) * 65536 + y % 65536 := by omega
  generalize x / 65536 = A at *
  generalize x % 65536 = a at *
  generalize y / 65536 = B at *
  generalize y % 65536 = b at *
  subst ex ey
  grind
theorem high_is (x y : Int) : ((x / 65536) * (y / 65536) + ((x % 65536) * (y / 65536) + (x % 65536) * (y % 65536) / 65536) / 65536 + ((x / 65536) * (y % 65536) + ((x % 65536) * (y / 65536) + (x % 65536) * (y % 65536) / 65536) % 65536) / 65536) % 4294967296 = mu 41 x y := by
  have s := split16 x y
  rw [mu41, s]
  generalize x / 65536 * (y / 65536) = S
  generalize x / 65536 * (y % 65536) = R
  generalize x % 65536 * (y / 65536) = Q
  generalize x % 65536 * (y % 65536) = P
  omega
set_option maxHeartbeats 400000 in
theorem high_any (x y : Int) (w : World) (h0 : 0 ≤ x) (h1 : x ≤ 4294967295) (g0 : 0 ≤ y) (g1 : y ≤ 4294967295) :
    Calls Try.prog 28 #[.int .u32 x, .int .u32 y] w fun e w' => e = .returned (.int .u32 (mu 41 x y)) ∧ w = w' := by
  have m1 := mul_bd (x % 65536) (y % 65536) 65535 65535 (by omega) (by omega) (by omega) (by omega) (by decide) (by decide)
  have m2 := mul_bd (x % 65536) (y / 65536) 65535 65535 (by omega) (by omega) (by omega) (by omega) (by decide) (by decide)
  have m3 := mul_bd (x / 65536) (y % 65536) 65535 65535 (by omega) (by omega) (by omega) (by omega) (by decide) (by decide)
  have m4 := mul_bd (x / 65536) (y / 65536) 65535 65535 (by omega) (by omega) (by omega) (by omega) (by decide) (by decide)
  have n1 : 0 ≤ (x % 65536) * (y % 65536) := Int.mul_nonneg (by omega) (by omega)
  have n2 : 0 ≤ (x % 65536) * (y / 65536) := Int.mul_nonneg (by omega) (by omega)
  have n3 : 0 ≤ (x / 65536) * (y % 65536) := Int.mul_nonneg (by omega) (by omega)
  have n4 : 0 ≤ (x / 65536) * (y / 65536) := Int.mul_nonneg (by omega) (by omega)
  have m1 : (x % 65536) * (y % 65536) ≤ 4294836225 := by omega
  have m2 : (x % 65536) * (y / 65536) ≤ 4294836225 := by omega
  have m3 : (x / 65536) * (y % 65536) ≤ 4294836225 := by omega
  have m4 : (x / 65536) * (y / 65536) ≤ 4294836225 := by omega
  go_enter Try.func28, Try.ntmps28
  go_wp2
  go_ret
  exact ⟨ret_u32 (high_is x y), rfl⟩
theorem mod_turn (a : Int) : a % 4294967296 % 4294967296 = a % 4294967296 := by omega
theorem neg40 (x y : Int) (h0 : 2147483648 ≤ x) (h1 : x ≤ 4294967295) : mu 40 x y = (mu 41 x y - y) % 4294967296 := by
  rw [mu40, mu41, show wrap32 x = x - 4294967296 by unfold wrap32; omega]
  have : (x - 4294967296) * y = x * y + 4294967296 * (-y) := by grind
  rw [this, Int.add_mul_ediv_left _ _ (by decide)]; omega
theorem pos40 (x y : Int) (h0 : 0 ≤ x) (h1 : x < 2147483648) : mu 40 x y = mu 41 x y := by
  rw [mu40, mu41, show wrap32 x = x by unfold wrap32; omega]
theorem neg39 (x y : Int) (h0 : 2147483648 ≤ y) (h1 : y ≤ 4294967295) (g0 : 0 ≤ x) (g1 : x ≤ 4294967295) : mu 39 x y = (mu 40 x y - x) % 4294967296 := by
  rw [mu39, mu40, show wrap32 y = y - 4294967296 by unfold wrap32; omega]
  have : wrap32 x * (y - 4294967296) = wrap32 x * y + 4294967296 * (-wrap32 x) := by grind
  rw [this, Int.add_mul_ediv_left _ _ (by decide)]
  have : wrap32 x = x ∨ wrap32 x = x - 4294967296 := by unfold wrap32; omega
  omega
theorem pos39 (x y : Int) (h0 : 0 ≤ y) (h1 : y < 2147483648) : mu 39 x y = mu 40 x y := by
  rw [mu39, mu40, show wrap32 y = y by unfold wrap32; omega]
set_option maxHeartbeats 1000000 in
theorem rmul_else (op : Int) (x y : Int) (w : World) (h0 : 0 ≤ x) (h1 : x ≤ 4294967295) (g0 : 0 ≤ y) (g1 : y ≤ 4294967295) (h : op < 38 ∨ 41 < op) :
    Calls Try.prog 16 #[.int .i64 op, .int .u32 x, .int .u32 y] w fun e w' => e = .returned (.int .u32 (mu op x y)) ∧ w = w' := by
  have hd := Lib.hid (mu_else op x y h)
  have b := mu_bd 41 x y
  have e38 : (op == 38) = false := by rw [beq_eq_false_iff_ne]; omega
  have e39 : (op == 39) = false := by rw [beq_eq_false_iff_ne]; omega
  have e40 : (op == 40) = false := by rw [beq_eq_false_iff_ne]; omega
  have e41 : (op == 41) = false := by rw [beq_eq_false_iff_ne]; omega
  clear h
  go_enter Try.func16, Try.ntmps16
  go_wp2_with (go_at_call 28; refine (high_any _ _ _ (by omega) (by omega) (by omega) (by omega)).mono ?_; rintro e w' ⟨rfl, rfl⟩)
  go_ret
  exact ⟨ret_u32 hd.out.symm, rfl⟩
set_option maxHeartbeats 1000000 in
theorem rmul_in (op : Int) (x y : Int) (w : World) (h0 : 0 ≤ x) (h1 : x ≤ 4294967295) (g0 : 0 ≤ y) (g1 : y ≤ 4294967295) (h : op = 38 ∨ op = 39 ∨ op = 40 ∨ op = 41) :
    Calls Try.prog 16 #[.int .i64 op, .int .u32 x, .int .u32 y] w fun e w' => e = .returned (.int .u32 (mu op x y)) ∧ w = w' := by
  have b := mu_bd 41 x y
  have q := prod_bd x y h0 h1 g0 g1
  rcases Int.lt_or_le x 2147483648 with cx | cx <;> rcases Int.lt_or_le y 2147483648 with cy | cy <;> rcases h with rfl | rfl | rfl | rfl
  all_goals
    go_enter Try.func16, Try.ntmps16
    go_wp2_with (go_at_call 28; refine (high_any _ _ _ (by omega) (by omega) (by omega) (by omega)).mono ?_; rintro e w' ⟨rfl, rfl⟩)
    go_ret
  · exact ⟨ret_u32 (by rw [mu38]; try omega), rfl⟩
  · exact ⟨ret_u32 (by rw [pos39 x y g0 cy, pos40 x y h0 cx]), rfl⟩
  · exact ⟨ret_u32 (by rw [pos40 x y h0 cx]), rfl⟩
  · exact ⟨ret_u32 rfl, rfl⟩
  · exact ⟨ret_u32 (by rw [mu38]; try omega), rfl⟩
  · exact ⟨ret_u32 (by rw [neg39 x y cy g1 h0 h1, pos40 x y h0 cx]), rfl⟩
  · exact ⟨ret_u32 (by rw [pos40 x y h0 cx]), rfl⟩
  · exact ⟨ret_u32 rfl, rfl⟩
  · exact ⟨ret_u32 (by rw [mu38]; try omega), rfl⟩
  · exact ⟨ret_u32 (by rw [pos39 x y g0 cy, neg40 x y cx h1]), rfl⟩
  · exact ⟨ret_u32 (by rw [neg40 x y cx h1]), rfl⟩
  · exact ⟨ret_u32 rfl, rfl⟩
  · exact ⟨ret_u32 (by rw [mu38]; try omega), rfl⟩
  · exact ⟨ret_u32 (by rw [neg39 x y cy g1 h0 h1, neg40 x y cx h1]), rfl⟩
  · exact ⟨ret_u32 (by rw [neg40 x y cx h1]), rfl⟩
  · exact ⟨ret_u32 rfl, rfl⟩
theorem rmul_all (op : Int) (x y : Int) (w : World) (h0 : 0 ≤ x) (h1 : x ≤ 4294967295) (g0 : 0 ≤ y) (g1 : y ≤ 4294967295) :
    Calls Try.prog 16 #[.int .i64 op, .int .u32 x, .int .u32 y] w fun e w' => e = .returned (.int .u32 (mu op x y)) ∧ w = w' := by
  by_cases h : op < 38 ∨ 41 < op
  · exact rmul_else op x y w h0 h1 g0 g1 h
  · exact rmul_in op x y w h0 h1 g0 g1 (by omega)
/-! ### halves of a product -/
theorem or_sum64 (H L : Int) (h0 : 0 ≤ H) (h1 : H ≤ 4294967295) (g0 : 0 ≤ L) (g1 : L ≤ 4294967295) : bits .or .u64 (H * 4294967296) L = H * 4294967296 + L := by
  rw [u64_or (H * 4294967296) L (by omega) (by omega) g0 (by omega)]
  have e : (H * 4294967296).toNat = 2 ^ 32 * H.toNat := by omega
  have := Nat.two_pow_add_eq_or_of_lt (i := 32) (show L.toNat < 2 ^ 32 by omega) H.toNat
  rw [e, ← this]; omega
theorem halves41 (x y : Int) (h0 : 0 ≤ x) (h1 : x ≤ 4294967295) (g0 : 0 ≤ y) (g1 : y ≤ 4294967295) : bits .or .u64 (mu 41 x y * 4294967296) (mu 38 x y) = x * y := by
  have p := prod_bd x y h0 h1 g0 g1
  have a := mu_bd 41 x y
  have b := mu_bd 38 x y
  rw [or_sum64 _ _ a.1 a.2 b.1 b.2, mu41, mu38]; omega
theorem mod38 (x y : Int) : mu 38 x y = wrap32 x * wrap32 y % 4294967296 := by
  rw [mu38, Int.mul_emod x y, Int.mul_emod (wrap32 x), wrap32_back, wrap32_back]
theorem halves39 (x y : Int) : wrap64 (bits .or .u64 (mu 39 x y * 4294967296) (mu 38 x y)) = wrap64 (wrap64 (wrap32 x) * wrap64 (wrap32 y)) := by
  have a := mu_bd 39 x y
  have b := mu_bd 38 x y
  rw [or_sum64 _ _ a.1 a.2 b.1 b.2, w32_64, w32_64, mu39, mod38]
  unfold wrap64
  omega
theorem by_one (x : Int) (h0 : 0 ≤ x) (h1 : x ≤ 4294967295) : mu 38 x 1 = x ∧ mu 41 x 1 = 0 := by
  rw [mu38, mu41]; omega
end Go.Proofs.Ytdenefeckdlmdaa
