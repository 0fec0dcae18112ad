/- Contracts: the sizes, the bits and the times of divisions, the program's and the reference's. Condition: the numbers are words. -/
import Derived.Test.YtajedochalaadaaC1
import Derived.Test.YtajedochalaadaaPlain2
import Derived.Test.YtajedochalaadaaShelf
import Derived.Lib.Hide
namespace Go.Proofs.Ytajedochalaadaa
open Go.ChangeShapes Go.WideShapes Go.ChangeAt Go.RowKit

set_option maxHeartbeats 1000000 in
theorem size_any (op x : Int) (w : World) (hop : 42 ≤ op ∧ op ≤ 45) (h0 : 0 ≤ x) (h1 : x ≤ 4294967295) :
    Calls Try.prog 18 #[.int .i64 op, .int .u32 x] w fun e w' => e = .returned (.int .u32 (szo op x)) ∧ w = w' := by
  have hop : op = 42 ∨ op = 43 ∨ op = 44 ∨ op = 45 := by omega
  rcases hop with rfl | rfl | rfl | rfl
  · rcases Int.lt_or_le x 2147483648 with cx | cx
    · have a1 := wrap32_pos cx h0
      go_enter Try.func18, Try.ntmps18
      go_wp2
      go_ret
      exact ⟨ret_u32 (by rw [szo42, szz_p cx]), rfl⟩
    · have a1 := wrap32_neg cx h1
      go_enter Try.func18, Try.ntmps18
      go_wp2
      go_ret
      exact ⟨ret_u32 (by rw [szo42, szz_n cx]; omega), rfl⟩
  · go_enter Try.func18, Try.ntmps18
    go_wp2
    go_ret
    exact ⟨ret_u32 (by rw [szo43]), rfl⟩
  · rcases Int.lt_or_le x 2147483648 with cx | cx
    · have a1 := wrap32_pos cx h0
      go_enter Try.func18, Try.ntmps18
      go_wp2
      go_ret
      exact ⟨ret_u32 (by rw [szo44, szz_p cx]), rfl⟩
    · have a1 := wrap32_neg cx h1
      go_enter Try.func18, Try.ntmps18
      go_wp2
      go_ret
      exact ⟨ret_u32 (by rw [szo44, szz_n cx]; omega), rfl⟩
  · go_enter Try.func18, Try.ntmps18
    go_wp2
    go_ret
    exact ⟨ret_u32 (by rw [szo45]), rfl⟩
set_option maxHeartbeats 400000 in
theorem rsize_any (op x : Int) (w : World) (hop : 42 ≤ op ∧ op ≤ 45) (h0 : 0 ≤ x) (h1 : x ≤ 4294967295) :
    Calls Try.prog 11 #[.int .i64 op, .int .u32 x] w fun e w' => e = .returned (.int .i64 (szo op x)) ∧ w = w' := by
  have hop : op = 42 ∨ op = 43 ∨ op = 44 ∨ op = 45 := by omega
  rcases hop with rfl | rfl | rfl | rfl
  · rcases Int.lt_or_le x 2147483648 with cx | cx
    all_goals
      go_enter Try.func11, Try.ntmps11
      go_wp2
      go_ret
    · exact ⟨ret_i64 (by rw [szo42, szz_p cx]), rfl⟩
    · exact ⟨ret_i64 (by rw [szo42, szz_n cx]; omega), rfl⟩
  · go_enter Try.func11, Try.ntmps11
    go_wp2
    go_ret
    exact ⟨ret_i64 (by rw [szo43]), rfl⟩
  · rcases Int.lt_or_le x 2147483648 with cx | cx
    all_goals
      go_enter Try.func11, Try.ntmps11
      go_wp2
      go_ret
    · exact ⟨ret_i64 (by rw [szo44, szz_p cx]), rfl⟩
    · exact ⟨ret_i64 (by rw [szo44, szz_n cx]; omega), rfl⟩
  · go_enter Try.func11, Try.ntmps11
    go_wp2
    go_ret
    exact ⟨ret_i64 (by rw [szo45]), rfl⟩
theorem bits_any (x : Int) (w : World) (h0 : 0 ≤ x) (h1 : x ≤ 4294967295) :
    Calls Try.prog 12 #[.int .u32 x] w fun e w' => e = .returned (.int .i64 (bl x)) ∧ w = w' := by
  go_enter Try.func12, Try.ntmps12
  go_wp2_with (go_at_call 20; refine (Try.bits_Len32 _ _ (by omega) (by omega)).mono ?_; rintro e w' ⟨rfl, rfl⟩)
  go_ret
  exact ⟨ret_i64 rfl, rfl⟩
set_option maxHeartbeats 400000 in
theorem rbits_any (x : Int) (w : World) (h0 : 0 ≤ x) (h1 : x ≤ 4294967295) :
    Calls Try.prog 16 #[.int .u32 x] w fun e w' => e = .returned (.int .i64 (bl x)) ∧ w = w' := by
  have hb := bl_32 h0 h1
  go_enter Try.func16, Try.ntmps16
  go_wp2
  go_loop [0, 3] (fun v n => ∃ a k : Int, 0 ≤ a ∧ a ≤ 4294967295 ∧ 0 ≤ k ∧ k + bl a ≤ 32 ∧ Hid (k + bl a = bl x) ∧ v = .int .u32 a ∧ n = .int .i64 k) (fun v _ => (intOf v).toNat)
  case atStart => exact ⟨x, 0, h0, h1, by omega, by omega, Lib.hid (by omega), rfl, rfl⟩
  case round =>
    obtain ⟨a, k, ha0, ha1, hk0, hk1, hid, rfl, rfl⟩ := hrel
    have hn := bl_nonneg a
    by_cases hz : 0 < a
    · have hh := Lib.hid (bl_half (x := a) (by omega) ha1)
      have hk2 : k + 1 + bl (a / 2) ≤ 32 := by have := hh.out; omega
      have hn2 := bl_nonneg (a / 2)
      go_wp2
      go_round
      case rel => exact ⟨a / 2, k + 1, by omega, by omega, by omega, hk2, Lib.hid (by have := hh.out; have := hid.out; omega), rfl, rfl⟩
      case measure => simp [intOf]; omega
    · go_wp2
      go_ret
      have : a = 0 := by omega
      subst this
      exact ⟨ret_i64 (by have := hid.out; rw [bl_zero] at this; omega), rfl⟩
set_option maxHeartbeats 400000 in
theorem took_out (op x y : Int) (w : World) (hop : op < 42 ∨ 45 < op) :
    Calls Try.prog 14 #[.int .i64 op, .int .u32 x, .int .u32 y] w fun e w' => e = .returned (.int .i64 (tk op x y)) ∧ w = w' := by
  have ht := Lib.hid (tk_out x y hop)
  rcases hop with hop | hop
  all_goals
    go_enter Try.func14, Try.ntmps14
    go_wp2
    go_ret
    exact ⟨ret_i64 ht.out.symm, rfl⟩
set_option maxHeartbeats 400000 in
theorem took_in (op x y : Int) (w : World) (hop : 42 ≤ op ∧ op ≤ 45) (h0 : 0 ≤ x) (h1 : x ≤ 4294967295) (g0 : 0 ≤ y) (g1 : y ≤ 4294967295) :
    Calls Try.prog 14 #[.int .i64 op, .int .u32 x, .int .u32 y] w fun e w' => e = .returned (.int .i64 (tk op x y)) ∧ w = w' := by
  have s1 := szo_bd op h0 h1
  have s2 := szo_bd op g0 g1
  have b1 := bl_32 s1.1 s1.2
  have b2 := bl_32 s2.1 s2.2
  by_cases hy : y = 0
  · have hy' : (y == 0) = true := by rw [beq_iff_eq]; omega
    have ht := Lib.hid (tk_two (op := op) x y hop (Or.inl hy))
    clear hy
    go_enter Try.func14, Try.ntmps14
    go_wp2_with (first | (go_at_call 18; refine (size_any _ _ _ (by omega) (by omega) (by omega)).mono ?_; rintro e w' ⟨rfl, rfl⟩) | (go_at_call 12; refine (bits_any _ _ (by omega) (by omega)).mono ?_; rintro e w' ⟨rfl, rfl⟩))
    go_ret
    exact ⟨ret_i64 ht.out.symm, rfl⟩
  · have hy' : (y == 0) = false := by rw [beq_eq_false_iff_ne]; omega
    by_cases c : szo op x < szo op y
    · have ht := Lib.hid (tk_two (op := op) x y hop (Or.inr c))
      go_enter Try.func14, Try.ntmps14
      go_wp2_with (first | (go_at_call 18; refine (size_any _ _ _ (by omega) (by omega) (by omega)).mono ?_; rintro e w' ⟨rfl, rfl⟩) | (go_at_call 12; refine (bits_any _ _ (by omega) (by omega)).mono ?_; rintro e w' ⟨rfl, rfl⟩))
      go_ret
      exact ⟨ret_i64 ht.out.symm, rfl⟩
    · have ht := Lib.hid (tk_more (op := op) x y hop hy (by omega))
      go_enter Try.func14, Try.ntmps14
      go_wp2_with (first | (go_at_call 18; refine (size_any _ _ _ (by omega) (by omega) (by omega)).mono ?_; rintro e w' ⟨rfl, rfl⟩) | (go_at_call 12; refine (bits_any _ _ (by omega) (by omega)).mono ?_; rintro e w' ⟨rfl, rfl⟩))
      go_ret
      exact ⟨ret_i64 (by have := ht.out; omega), rfl⟩
theorem took_any (op x y : Int) (w : World) (h0 : 0 ≤ x) (h1 : x ≤ 4294967295) (g0 : 0 ≤ y) (g1 : y ≤ 4294967295) :
    Calls Try.prog 14 #[.int .i64 op, .int .u32 x, .int .u32 y] w fun e w' => e = .returned (.int .i64 (tk op x y)) ∧ w = w' := by
  by_cases h : op < 42 ∨ 45 < op
  · exact took_out op x y w h
  · exact took_in op x y w (by omega) h0 h1 g0 g1
set_option maxHeartbeats 400000 in
theorem rtook_any (op x y : Int) (w : World) (h0 : 0 ≤ x) (h1 : x ≤ 4294967295) (g0 : 0 ≤ y) (g1 : y ≤ 4294967295) :
    Calls Try.prog 15 #[.int .i64 op, .int .u32 x, .int .u32 y] w fun e w' => e = .returned (.int .i64 (tk op x y)) ∧ w = w' := by
  by_cases hop : op < 42 ∨ 45 < op
  · have ht := Lib.hid (tk_out x y hop)
    rcases hop with hop | hop
    all_goals
      go_enter Try.func15, Try.ntmps15
      go_wp2
      go_ret
      exact ⟨ret_i64 ht.out.symm, rfl⟩
  · have hop : 42 ≤ op ∧ op ≤ 45 := by omega
    have s1 := szo_bd op h0 h1
    have s2 := szo_bd op g0 g1
    have b1 := bl_32 s1.1 s1.2
    have b2 := bl_32 s2.1 s2.2
    by_cases hy : y = 0
    · have hy' : (y == 0) = true := by rw [beq_iff_eq]; omega
      have ht := Lib.hid (tk_two (op := op) x y hop (Or.inl hy))
      clear hy
      go_enter Try.func15, Try.ntmps15
      go_wp2_with (first | (go_at_call 11; refine (rsize_any _ _ _ (by omega) (by omega) (by omega)).mono ?_; rintro e w' ⟨rfl, rfl⟩) | (go_at_call 16; refine (rbits_any _ _ (by omega) (by omega)).mono ?_; rintro e w' ⟨rfl, rfl⟩))
      go_ret
      exact ⟨ret_i64 ht.out.symm, rfl⟩
    · have hy' : (y == 0) = false := by rw [beq_eq_false_iff_ne]; omega
      by_cases c : szo op x < szo op y
      · have ht := Lib.hid (tk_two (op := op) x y hop (Or.inr c))
        go_enter Try.func15, Try.ntmps15
        go_wp2_with (first | (go_at_call 11; refine (rsize_any _ _ _ (by omega) (by omega) (by omega)).mono ?_; rintro e w' ⟨rfl, rfl⟩) | (go_at_call 16; refine (rbits_any _ _ (by omega) (by omega)).mono ?_; rintro e w' ⟨rfl, rfl⟩))
        go_ret
        exact ⟨ret_i64 ht.out.symm, rfl⟩
      · have ht := Lib.hid (tk_more (op := op) x y hop hy (by omega))
        go_enter Try.func15, Try.ntmps15
        go_wp2_with (first | (go_at_call 11; refine (rsize_any _ _ _ (by omega) (by omega) (by omega)).mono ?_; rintro e w' ⟨rfl, rfl⟩) | (go_at_call 16; refine (rbits_any _ _ (by omega) (by omega)).mono ?_; rintro e w' ⟨rfl, rfl⟩))
        go_ret
        exact ⟨ret_i64 (by have := ht.out; omega), rfl⟩
end Go.Proofs.Ytajedochalaadaa
