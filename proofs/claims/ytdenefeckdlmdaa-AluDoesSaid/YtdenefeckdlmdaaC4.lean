/- Contracts: the reference's answer of any op and every two words. Condition: both are words. -/
import Derived.Test.YtdenefeckdlmdaaC3
namespace Go.Proofs.Ytdenefeckdlmdaa
open Go.ChangeShapes Go.WideShapes Go.ChangeAt Go.RowKit
set_option linter.unusedVariables false

theorem rule_and {x y : Int} (h0 : 0 ≤ x) (h1 : x ≤ 4294967295) (g0 : 0 ≤ y) (g1 : y ≤ 4294967295) : ByRule 1 x y (bits .and .u32 x y) := by
  intro k hk
  rw [bt_and x y h0 h1 g0 g1 k]
  rcases bt_01 x k with p | p <;> rcases bt_01 y k with q | q <;> rw [p, q] <;> decide
theorem rule_or {x y : Int} (h0 : 0 ≤ x) (h1 : x ≤ 4294967295) (g0 : 0 ≤ y) (g1 : y ≤ 4294967295) : ByRule 2 x y (bits .or .u32 x y) := by
  intro k hk
  rw [bt_or x y h0 h1 g0 g1 k]
  rcases bt_01 x k with p | p <;> rcases bt_01 y k with q | q <;> rw [p, q] <;> decide
theorem rule_xor {x y : Int} (h0 : 0 ≤ x) (h1 : x ≤ 4294967295) (g0 : 0 ≤ y) (g1 : y ≤ 4294967295) : ByRule 3 x y (bits .xor .u32 x y) := by
  intro k hk
  rw [bt_xor x y h0 h1 g0 g1 k]
  rcases bt_01 x k with p | p <;> rcases bt_01 y k with q | q <;> rw [p, q] <;> decide
theorem move_up {x s : Int} (h0 : 0 ≤ x) (s0 : 0 ≤ s) (s1 : s ≤ 31) : ByMove x s 0 (x * 2 ^ s.toNat % 4294967296) := by
  intro k hk
  rw [bt_shl x s.toNat k h0 hk]
  by_cases c : k < s.toNat
  · rw [if_pos c, if_pos (by omega)]
  · rw [if_neg c, if_neg (by omega), show ((k - s.toNat : Nat) : Int) = (k : Int) - s by omega]
theorem move_down {x s : Int} (h0 : 0 ≤ x) (h1 : x ≤ 4294967295) (s0 : 0 ≤ s) (s1 : s ≤ 31) : ByMove x (-s) 0 (x / 2 ^ s.toNat) := by
  intro k hk
  rw [bt_shr x s.toNat k h0 h1]
  by_cases c : 31 < k + s.toNat
  · rw [if_pos c, if_pos (by omega)]
  · rw [if_neg c, if_neg (by omega), show ((k + s.toNat : Nat) : Int) = (k : Int) - -s by omega]
theorem move_sra {x s : Int} (h0 : 0 ≤ x) (h1 : x ≤ 4294967295) (s0 : 0 ≤ s) (s1 : s ≤ 31) : ByMove x (-s) (bt x 31) (wrap32 x / 2 ^ s.toNat % 4294967296) := by
  intro k hk
  rw [bt_sra x s.toNat k h0 h1 (by omega) hk]
  by_cases c : 31 < k + s.toNat
  · rw [if_pos c, if_pos (by omega)]
  · rw [if_neg c, if_neg (by omega), show ((k + s.toNat : Nat) : Int) = (k : Int) - -s by omega]
set_option maxHeartbeats 400000 in
theorem rdo_1 (x y : Int) (w : World) (h0 : 0 ≤ x) (h1 : x ≤ 4294967295) (g0 : 0 ≤ y) (g1 : y ≤ 4294967295) :
    Calls Try.prog 13 #[.int .i64 1, .int .u32 x, .int .u32 y] w fun e w' => e = .returned (.int .u32 (ad 1 x y)) ∧ Below w.heap.size w w' := by
  go_enter Try.func13, Try.ntmps13
  go_wp2
  all_goals go_ret
  exact ⟨ret_u32 (ad1 x y).symm, Below.refl _ _⟩
set_option maxHeartbeats 400000 in
theorem rdo_19 (x y : Int) (w : World) (h0 : 0 ≤ x) (h1 : x ≤ 4294967295) (g0 : 0 ≤ y) (g1 : y ≤ 4294967295) :
    Calls Try.prog 13 #[.int .i64 19, .int .u32 x, .int .u32 y] w fun e w' => e = .returned (.int .u32 (ad 19 x y)) ∧ Below w.heap.size w w' := by
  go_enter Try.func13, Try.ntmps13
  go_wp2
  all_goals go_ret
  exact ⟨ret_u32 (by rw [ad19]), Below.refl _ _⟩
set_option maxHeartbeats 400000 in
theorem rdo_20 (x y : Int) (w : World) (h0 : 0 ≤ x) (h1 : x ≤ 4294967295) (g0 : 0 ≤ y) (g1 : y ≤ 4294967295) :
    Calls Try.prog 13 #[.int .i64 20, .int .u32 x, .int .u32 y] w fun e w' => e = .returned (.int .u32 (ad 20 x y)) ∧ Below w.heap.size w w' := by
  have b1 := wrap32_bd x
  have b2 := wrap32_bd y
  go_enter Try.func13, Try.ntmps13
  go_wp2_with (first | (go_at_call 27; refine (rsigned_any _ _ (by omega) (by omega)).mono ?_; rintro e w' ⟨rfl, rfl⟩) | (go_at_call 26; refine (one_any _ _).mono ?_; rintro e w' ⟨rfl, rfl⟩))
  all_goals go_ret
  all_goals exact ⟨ret_u32 (by rw [ad20]; simp [*] <;> omega), Below.refl _ _⟩
set_option maxHeartbeats 400000 in
theorem rdo_21 (x y : Int) (w : World) (h0 : 0 ≤ x) (h1 : x ≤ 4294967295) (g0 : 0 ≤ y) (g1 : y ≤ 4294967295) :
    Calls Try.prog 13 #[.int .i64 21, .int .u32 x, .int .u32 y] w fun e w' => e = .returned (.int .u32 (ad 21 x y)) ∧ Below w.heap.size w w' := by
  go_enter Try.func13, Try.ntmps13
  go_wp2_with (go_at_call 26; refine (one_any _ _).mono ?_; rintro e w' ⟨rfl, rfl⟩)
  all_goals go_ret
  all_goals exact ⟨ret_u32 (by rw [ad21]; simp [*] <;> omega), Below.refl _ _⟩
set_option maxHeartbeats 400000 in
theorem rdo_22 (x y : Int) (w : World) (h0 : 0 ≤ x) (h1 : x ≤ 4294967295) (g0 : 0 ≤ y) (g1 : y ≤ 4294967295) :
    Calls Try.prog 13 #[.int .i64 22, .int .u32 x, .int .u32 y] w fun e w' => e = .returned (.int .u32 (ad 22 x y)) ∧ Below w.heap.size w w' := by
  have b := xor_bd x y h0 h1 g0 g1
  go_enter Try.func13, Try.ntmps13
  go_wp2_with (go_at_call 23; refine (both_any 3 x y (bits .xor .u32 x y) _ (by decide) h0 h1 g0 g1 b.1 b.2 (rule_xor h0 h1 g0 g1)).mono ?_; rintro e w' ⟨rfl, hb⟩)
  all_goals go_ret
  exact ⟨ret_u32 (ad22 x y).symm, hb⟩
set_option maxHeartbeats 400000 in
theorem rdo_23 (x y : Int) (w : World) (h0 : 0 ≤ x) (h1 : x ≤ 4294967295) (g0 : 0 ≤ y) (g1 : y ≤ 4294967295) :
    Calls Try.prog 13 #[.int .i64 23, .int .u32 x, .int .u32 y] w fun e w' => e = .returned (.int .u32 (ad 23 x y)) ∧ Below w.heap.size w w' := by
  have b := or_bd x y h0 h1 g0 g1
  go_enter Try.func13, Try.ntmps13
  go_wp2_with (go_at_call 23; refine (both_any 2 x y (bits .or .u32 x y) _ (by decide) h0 h1 g0 g1 b.1 b.2 (rule_or h0 h1 g0 g1)).mono ?_; rintro e w' ⟨rfl, hb⟩)
  all_goals go_ret
  exact ⟨ret_u32 (ad23 x y).symm, hb⟩
set_option maxHeartbeats 400000 in
theorem rdo_24 (x y : Int) (w : World) (h0 : 0 ≤ x) (h1 : x ≤ 4294967295) (g0 : 0 ≤ y) (g1 : y ≤ 4294967295) :
    Calls Try.prog 13 #[.int .i64 24, .int .u32 x, .int .u32 y] w fun e w' => e = .returned (.int .u32 (ad 24 x y)) ∧ Below w.heap.size w w' := by
  have b := and_bd x y h0 h1 g0 g1
  go_enter Try.func13, Try.ntmps13
  go_wp2_with (go_at_call 23; refine (both_any 1 x y (bits .and .u32 x y) _ (by decide) h0 h1 g0 g1 b.1 b.2 (rule_and h0 h1 g0 g1)).mono ?_; rintro e w' ⟨rfl, hb⟩)
  all_goals go_ret
  exact ⟨ret_u32 (ad24 x y).symm, hb⟩
set_option maxHeartbeats 400000 in
theorem rdo_25 (x y : Int) (w : World) (h0 : 0 ≤ x) (h1 : x ≤ 4294967295) (g0 : 0 ≤ y) (g1 : y ≤ 4294967295) :
    Calls Try.prog 13 #[.int .i64 25, .int .u32 x, .int .u32 y] w fun e w' => e = .returned (.int .u32 (ad 25 x y)) ∧ Below w.heap.size w w' := by
  have b := wd_mod (x * 2 ^ (y % 32).toNat)
  go_enter Try.func13, Try.ntmps13
  go_wp2_with (go_at_call 24; refine (moved_any x (y % 32) 0 _ _ (by omega) (by omega) h0 h1 (by decide) (by decide) b.1 b.2 (move_up h0 (by omega) (by omega))).mono ?_; rintro e w' ⟨rfl, hb⟩)
  all_goals go_ret
  exact ⟨ret_u32 (ad25 x y).symm, hb⟩
set_option maxHeartbeats 400000 in
theorem rdo_26 (x y : Int) (w : World) (h0 : 0 ≤ x) (h1 : x ≤ 4294967295) (g0 : 0 ≤ y) (g1 : y ≤ 4294967295) :
    Calls Try.prog 13 #[.int .i64 26, .int .u32 x, .int .u32 y] w fun e w' => e = .returned (.int .u32 (ad 26 x y)) ∧ Below w.heap.size w w' := by
  have b := shr_bd x (y % 32).toNat h0 h1
  go_enter Try.func13, Try.ntmps13
  go_wp2_with (go_at_call 24; refine (moved_any x (-(y % 32)) 0 _ _ (by omega) (by omega) h0 h1 (by decide) (by decide) b.1 b.2 (move_down h0 h1 (by omega) (by omega))).mono ?_; rintro e w' ⟨rfl, hb⟩)
  all_goals go_ret
  exact ⟨ret_u32 (ad26 x y).symm, hb⟩
set_option maxHeartbeats 400000 in
theorem rdo_27 (x y : Int) (w : World) (h0 : 0 ≤ x) (h1 : x ≤ 4294967295) (g0 : 0 ≤ y) (g1 : y ≤ 4294967295) :
    Calls Try.prog 13 #[.int .i64 27, .int .u32 x, .int .u32 y] w fun e w' => e = .returned (.int .u32 (ad 27 x y)) ∧ Below w.heap.size w w' := by
  have b := wd_mod (wrap32 x / 2 ^ (y % 32).toNat)
  have f := bt_bd x 31
  go_enter Try.func13, Try.ntmps13
  go_wp2_with (first | (go_at_call 25; refine (bit_any _ _ _ (by omega) (by omega) (by omega) (by omega)).mono ?_; rintro e w' ⟨rfl, rfl⟩) | (go_at_call 24; refine (moved_any x (-(y % 32)) (bt x 31) _ _ (by omega) (by omega) h0 h1 f.1 f.2 b.1 b.2 (move_sra h0 h1 (by omega) (by omega))).mono ?_; rintro e w' ⟨rfl, hb⟩))
  all_goals go_ret
  exact ⟨ret_u32 (ad27 x y).symm, hb⟩
set_option maxHeartbeats 400000 in
theorem rdo_28 (x y : Int) (w : World) (h0 : 0 ≤ x) (h1 : x ≤ 4294967295) (g0 : 0 ≤ y) (g1 : y ≤ 4294967295) :
    Calls Try.prog 13 #[.int .i64 28, .int .u32 x, .int .u32 y] w fun e w' => e = .returned (.int .u32 (ad 28 x y)) ∧ Below w.heap.size w w' := by
  go_enter Try.func13, Try.ntmps13
  go_wp2
  all_goals go_ret
  exact ⟨ret_u32 (by rw [ad28]), Below.refl _ _⟩
set_option maxHeartbeats 400000 in
theorem rdo_29 (x y : Int) (w : World) (h0 : 0 ≤ x) (h1 : x ≤ 4294967295) (g0 : 0 ≤ y) (g1 : y ≤ 4294967295) :
    Calls Try.prog 13 #[.int .i64 29, .int .u32 x, .int .u32 y] w fun e w' => e = .returned (.int .u32 (ad 29 x y)) ∧ Below w.heap.size w w' := by
  go_enter Try.func13, Try.ntmps13
  go_wp2
  all_goals go_ret
  exact ⟨ret_u32 (by rw [ad29]; omega), Below.refl _ _⟩
set_option maxHeartbeats 400000 in
theorem rdo_30 (x y : Int) (w : World) (h0 : 0 ≤ x) (h1 : x ≤ 4294967295) (g0 : 0 ≤ y) (g1 : y ≤ 4294967295) :
    Calls Try.prog 13 #[.int .i64 30, .int .u32 x, .int .u32 y] w fun e w' => e = .returned (.int .u32 (ad 30 x y)) ∧ Below w.heap.size w w' := by
  have b := wd_mod (x * 2 ^ (y % 32).toNat)
  go_enter Try.func13, Try.ntmps13
  go_wp2_with (go_at_call 24; refine (moved_any x (y % 32) 0 _ _ (by omega) (by omega) h0 h1 (by decide) (by decide) b.1 b.2 (move_up h0 (by omega) (by omega))).mono ?_; rintro e w' ⟨rfl, hb⟩)
  all_goals go_ret
  exact ⟨ret_u32 (ad30 x y).symm, hb⟩
set_option maxHeartbeats 400000 in
theorem rdo_31 (x y : Int) (w : World) (h0 : 0 ≤ x) (h1 : x ≤ 4294967295) (g0 : 0 ≤ y) (g1 : y ≤ 4294967295) :
    Calls Try.prog 13 #[.int .i64 31, .int .u32 x, .int .u32 y] w fun e w' => e = .returned (.int .u32 (ad 31 x y)) ∧ Below w.heap.size w w' := by
  have b1 := wrap32_bd x
  have b2 := wrap32_bd y
  go_enter Try.func13, Try.ntmps13
  go_wp2_with (first | (go_at_call 27; refine (rsigned_any _ _ (by omega) (by omega)).mono ?_; rintro e w' ⟨rfl, rfl⟩) | (go_at_call 26; refine (one_any _ _).mono ?_; rintro e w' ⟨rfl, rfl⟩))
  all_goals go_ret
  all_goals exact ⟨ret_u32 (by rw [ad31]; simp [*] <;> omega), Below.refl _ _⟩
set_option maxHeartbeats 400000 in
theorem rdo_32 (x y : Int) (w : World) (h0 : 0 ≤ x) (h1 : x ≤ 4294967295) (g0 : 0 ≤ y) (g1 : y ≤ 4294967295) :
    Calls Try.prog 13 #[.int .i64 32, .int .u32 x, .int .u32 y] w fun e w' => e = .returned (.int .u32 (ad 32 x y)) ∧ Below w.heap.size w w' := by
  go_enter Try.func13, Try.ntmps13
  go_wp2_with (go_at_call 26; refine (one_any _ _).mono ?_; rintro e w' ⟨rfl, rfl⟩)
  all_goals go_ret
  all_goals exact ⟨ret_u32 (by rw [ad32]; simp [*] <;> omega), Below.refl _ _⟩
set_option maxHeartbeats 400000 in
theorem rdo_33 (x y : Int) (w : World) (h0 : 0 ≤ x) (h1 : x ≤ 4294967295) (g0 : 0 ≤ y) (g1 : y ≤ 4294967295) :
    Calls Try.prog 13 #[.int .i64 33, .int .u32 x, .int .u32 y] w fun e w' => e = .returned (.int .u32 (ad 33 x y)) ∧ Below w.heap.size w w' := by
  have b := xor_bd x y h0 h1 g0 g1
  go_enter Try.func13, Try.ntmps13
  go_wp2_with (go_at_call 23; refine (both_any 3 x y (bits .xor .u32 x y) _ (by decide) h0 h1 g0 g1 b.1 b.2 (rule_xor h0 h1 g0 g1)).mono ?_; rintro e w' ⟨rfl, hb⟩)
  all_goals go_ret
  exact ⟨ret_u32 (ad33 x y).symm, hb⟩
set_option maxHeartbeats 400000 in
theorem rdo_34 (x y : Int) (w : World) (h0 : 0 ≤ x) (h1 : x ≤ 4294967295) (g0 : 0 ≤ y) (g1 : y ≤ 4294967295) :
    Calls Try.prog 13 #[.int .i64 34, .int .u32 x, .int .u32 y] w fun e w' => e = .returned (.int .u32 (ad 34 x y)) ∧ Below w.heap.size w w' := by
  have b := shr_bd x (y % 32).toNat h0 h1
  go_enter Try.func13, Try.ntmps13
  go_wp2_with (go_at_call 24; refine (moved_any x (-(y % 32)) 0 _ _ (by omega) (by omega) h0 h1 (by decide) (by decide) b.1 b.2 (move_down h0 h1 (by omega) (by omega))).mono ?_; rintro e w' ⟨rfl, hb⟩)
  all_goals go_ret
  exact ⟨ret_u32 (ad34 x y).symm, hb⟩
set_option maxHeartbeats 400000 in
theorem rdo_35 (x y : Int) (w : World) (h0 : 0 ≤ x) (h1 : x ≤ 4294967295) (g0 : 0 ≤ y) (g1 : y ≤ 4294967295) :
    Calls Try.prog 13 #[.int .i64 35, .int .u32 x, .int .u32 y] w fun e w' => e = .returned (.int .u32 (ad 35 x y)) ∧ Below w.heap.size w w' := by
  have b := wd_mod (wrap32 x / 2 ^ (y % 32).toNat)
  have f := bt_bd x 31
  go_enter Try.func13, Try.ntmps13
  go_wp2_with (first | (go_at_call 25; refine (bit_any _ _ _ (by omega) (by omega) (by omega) (by omega)).mono ?_; rintro e w' ⟨rfl, rfl⟩) | (go_at_call 24; refine (moved_any x (-(y % 32)) (bt x 31) _ _ (by omega) (by omega) h0 h1 f.1 f.2 b.1 b.2 (move_sra h0 h1 (by omega) (by omega))).mono ?_; rintro e w' ⟨rfl, hb⟩))
  all_goals go_ret
  exact ⟨ret_u32 (ad35 x y).symm, hb⟩
set_option maxHeartbeats 400000 in
theorem rdo_36 (x y : Int) (w : World) (h0 : 0 ≤ x) (h1 : x ≤ 4294967295) (g0 : 0 ≤ y) (g1 : y ≤ 4294967295) :
    Calls Try.prog 13 #[.int .i64 36, .int .u32 x, .int .u32 y] w fun e w' => e = .returned (.int .u32 (ad 36 x y)) ∧ Below w.heap.size w w' := by
  have b := or_bd x y h0 h1 g0 g1
  go_enter Try.func13, Try.ntmps13
  go_wp2_with (go_at_call 23; refine (both_any 2 x y (bits .or .u32 x y) _ (by decide) h0 h1 g0 g1 b.1 b.2 (rule_or h0 h1 g0 g1)).mono ?_; rintro e w' ⟨rfl, hb⟩)
  all_goals go_ret
  exact ⟨ret_u32 (ad36 x y).symm, hb⟩
set_option maxHeartbeats 400000 in
theorem rdo_37 (x y : Int) (w : World) (h0 : 0 ≤ x) (h1 : x ≤ 4294967295) (g0 : 0 ≤ y) (g1 : y ≤ 4294967295) :
    Calls Try.prog 13 #[.int .i64 37, .int .u32 x, .int .u32 y] w fun e w' => e = .returned (.int .u32 (ad 37 x y)) ∧ Below w.heap.size w w' := by
  have b := and_bd x y h0 h1 g0 g1
  go_enter Try.func13, Try.ntmps13
  go_wp2_with (go_at_call 23; refine (both_any 1 x y (bits .and .u32 x y) _ (by decide) h0 h1 g0 g1 b.1 b.2 (rule_and h0 h1 g0 g1)).mono ?_; rintro e w' ⟨rfl, hb⟩)
  all_goals go_ret
  exact ⟨ret_u32 (ad37 x y).symm, hb⟩
set_option maxHeartbeats 1000000 in
theorem rdo_else (op x y : Int) (w : World) (g0 : 0 ≤ y) (g1 : y ≤ 4294967295) (h : op ≠ 1 ∧ op ≠ 19 ∧ op ≠ 20 ∧ op ≠ 21 ∧ op ≠ 22 ∧ op ≠ 23 ∧ op ≠ 24 ∧ op ≠ 25 ∧ op ≠ 26 ∧ op ≠ 27 ∧ op ≠ 28 ∧ op ≠ 29 ∧ op ≠ 30 ∧ op ≠ 31 ∧ op ≠ 32 ∧ op ≠ 33 ∧ op ≠ 34 ∧ op ≠ 35 ∧ op ≠ 36 ∧ op ≠ 37) :
    Calls Try.prog 13 #[.int .i64 op, .int .u32 x, .int .u32 y] w fun e w' => e = .returned (.int .u32 (ad op x y)) ∧ Below w.heap.size w w' := by
  have hd := Lib.hid (ad_else op x y h)
  have e1 : (op == 1) = false := by rw [beq_eq_false_iff_ne]; omega
  have e19 : (op == 19) = false := by rw [beq_eq_false_iff_ne]; omega
  have e20 : (op == 20) = false := by rw [beq_eq_false_iff_ne]; omega
  have e21 : (op == 21) = false := by rw [beq_eq_false_iff_ne]; omega
  have e22 : (op == 22) = false := by rw [beq_eq_false_iff_ne]; omega
  have e23 : (op == 23) = false := by rw [beq_eq_false_iff_ne]; omega
  have e24 : (op == 24) = false := by rw [beq_eq_false_iff_ne]; omega
  have e25 : (op == 25) = false := by rw [beq_eq_false_iff_ne]; omega
  have e26 : (op == 26) = false := by rw [beq_eq_false_iff_ne]; omega
  have e27 : (op == 27) = false := by rw [beq_eq_false_iff_ne]; omega
  have e28 : (op == 28) = false := by rw [beq_eq_false_iff_ne]; omega
  have e29 : (op == 29) = false := by rw [beq_eq_false_iff_ne]; omega
  have e30 : (op == 30) = false := by rw [beq_eq_false_iff_ne]; omega
  have e31 : (op == 31) = false := by rw [beq_eq_false_iff_ne]; omega
  have e32 : (op == 32) = false := by rw [beq_eq_false_iff_ne]; omega
  have e33 : (op == 33) = false := by rw [beq_eq_false_iff_ne]; omega
  have e34 : (op == 34) = false := by rw [beq_eq_false_iff_ne]; omega
  have e35 : (op == 35) = false := by rw [beq_eq_false_iff_ne]; omega
  have e36 : (op == 36) = false := by rw [beq_eq_false_iff_ne]; omega
  have e37 : (op == 37) = false := by rw [beq_eq_false_iff_ne]; omega
  clear h
  go_enter Try.func13, Try.ntmps13
  go_wp2
  go_ret
  exact ⟨ret_u32 hd.out.symm, Below.refl _ _⟩
/-- the reference's Do, of any op and every two words -/
theorem rdo_all (op : Int) (x y : Int) (w : World) (h0 : 0 ≤ x) (h1 : x ≤ 4294967295) (g0 : 0 ≤ y) (g1 : y ≤ 4294967295) :
    Calls Try.prog 13 #[.int .i64 op, .int .u32 x, .int .u32 y] w fun e w' => e = .returned (.int .u32 (ad op x y)) ∧ Below w.heap.size w w' := by
  by_cases e1 : op = 1
  · subst e1; exact rdo_1 x y w h0 h1 g0 g1
  by_cases e19 : op = 19
  · subst e19; exact rdo_19 x y w h0 h1 g0 g1
  by_cases e20 : op = 20
  · subst e20; exact rdo_20 x y w h0 h1 g0 g1
  by_cases e21 : op = 21
  · subst e21; exact rdo_21 x y w h0 h1 g0 g1
  by_cases e22 : op = 22
  · subst e22; exact rdo_22 x y w h0 h1 g0 g1
  by_cases e23 : op = 23
  · subst e23; exact rdo_23 x y w h0 h1 g0 g1
  by_cases e24 : op = 24
  · subst e24; exact rdo_24 x y w h0 h1 g0 g1
  by_cases e25 : op = 25
  · subst e25; exact rdo_25 x y w h0 h1 g0 g1
  by_cases e26 : op = 26
  · subst e26; exact rdo_26 x y w h0 h1 g0 g1
  by_cases e27 : op = 27
  · subst e27; exact rdo_27 x y w h0 h1 g0 g1
  by_cases e28 : op = 28
  · subst e28; exact rdo_28 x y w h0 h1 g0 g1
  by_cases e29 : op = 29
  · subst e29; exact rdo_29 x y w h0 h1 g0 g1
  by_cases e30 : op = 30
  · subst e30; exact rdo_30 x y w h0 h1 g0 g1
  by_cases e31 : op = 31
  · subst e31; exact rdo_31 x y w h0 h1 g0 g1
  by_cases e32 : op = 32
  · subst e32; exact rdo_32 x y w h0 h1 g0 g1
  by_cases e33 : op = 33
  · subst e33; exact rdo_33 x y w h0 h1 g0 g1
  by_cases e34 : op = 34
  · subst e34; exact rdo_34 x y w h0 h1 g0 g1
  by_cases e35 : op = 35
  · subst e35; exact rdo_35 x y w h0 h1 g0 g1
  by_cases e36 : op = 36
  · subst e36; exact rdo_36 x y w h0 h1 g0 g1
  by_cases e37 : op = 37
  · subst e37; exact rdo_37 x y w h0 h1 g0 g1
  exact rdo_else op x y w g0 g1 ⟨e1, e19, e20, e21, e22, e23, e24, e25, e26, e27, e28, e29, e30, e31, e32, e33, e34, e35, e36, e37⟩
end Go.Proofs.Ytdenefeckdlmdaa
