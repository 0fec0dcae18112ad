/- Contracts: divide.Do of any op, and the reference's. Condition: the numbers are words. -/
import Derived.Test.YtajedochalaadaaC2
namespace Go.Proofs.Ytajedochalaadaa
open Go.ChangeShapes Go.WideShapes Go.ChangeAt Go.RowKit

theorem dv_else {op : Int} (x y : Int) (h : op < 42 ∨ 45 < op) : dv op x y = 0 := by
  unfold dv; rw [if_neg (by omega), if_neg (by omega), if_neg (by omega), if_neg (by omega)]
set_option maxHeartbeats 400000 in
theorem do_else (op x y : Int) (w : World) (hop : op < 42 ∨ 45 < op) :
    Calls Try.prog 9 #[.int .i64 op, .int .u32 x, .int .u32 y] w fun e w' => e = .returned (.int .u32 (dv op x y)) ∧ Grown w w' := by
  have e1 : (op == 42) = false := by rw [beq_eq_false_iff_ne]; omega
  have e2 : (op == 43) = false := by rw [beq_eq_false_iff_ne]; omega
  have e3 : (op == 44) = false := by rw [beq_eq_false_iff_ne]; omega
  have e4 : (op == 45) = false := by rw [beq_eq_false_iff_ne]; omega
  have hd := Lib.hid (dv_else x y hop)
  clear hop
  go_enter Try.func9, Try.ntmps9
  go_wp2
  go_ret
  exact ⟨ret_u32 hd.out.symm, by go_grown⟩
/-- divide.Do, of whatever op -/
theorem do_all (op x y : Int) (w : World) (h0 : 0 ≤ x) (h1 : x ≤ 4294967295) (g0 : 0 ≤ y) (g1 : y ≤ 4294967295) :
    Calls Try.prog 9 #[.int .i64 op, .int .u32 x, .int .u32 y] w fun e w' => e = .returned (.int .u32 (dv op x y)) ∧ Grown w w' := by
  by_cases h : op < 42 ∨ 45 < op
  · exact do_else op x y w h
  · exact do_any op x y w (by omega) h0 h1 g0 g1
theorem signed_any (x : Int) (w : World) (h0 : 0 ≤ x) (h1 : x ≤ 4294967295) :
    Calls Try.prog 19 #[.int .u32 x] w fun e w' => e = .returned (.int .i64 (sg x)) ∧ w = w' := by
  rcases Int.lt_or_le x 2147483648 with cx | cx
  all_goals
    go_enter Try.func19, Try.ntmps19
    go_wp2
    go_ret
  · exact ⟨ret_i64 (by rw [sg_p cx]), rfl⟩
  · exact ⟨ret_i64 (by rw [sg_n cx]; omega), rfl⟩
theorem tmodM (n : Int) : (0 ≤ n.tmod 4294967296 → n.tmod 4294967296 = n % 4294967296) ∧ (n.tmod 4294967296 < 0 → n.tmod 4294967296 + 4294967296 = n % 4294967296) ∧ -4294967296 < n.tmod 4294967296 ∧ n.tmod 4294967296 < 4294967296 := by
  rcases Int.le_total 0 n with c | c
  · rw [Int.tmod_eq_emod_of_nonneg c]; omega
  · have : n.tmod 4294967296 = -((-n) % 4294967296) := by
      rw [← Int.tmod_eq_emod_of_nonneg (by omega), Int.neg_tmod, Int.neg_neg]
    rw [this]; omega
set_option maxHeartbeats 400000 in
theorem word_any (n : Int) (w : World) (_h0 : -4294967296 ≤ n) (_h1 : n ≤ 4294967296) :
    Calls Try.prog 21 #[.int .i64 n] w fun e w' => e = .returned (.int .u32 (n % 4294967296)) ∧ w = w' := by
  have t := tmodM n
  obtain ⟨t1, t2, t3, t4⟩ := t
  have t1 := Lib.hid t1
  have t2 := Lib.hid t2
  rcases Int.lt_or_le (n.tmod 4294967296) 0 with c | c
  · have e := Lib.hid (t2.out c)
    clear t1 t2
    go_enter Try.func21, Try.ntmps21
    go_wp2
    go_ret
    exact ⟨ret_u32 rfl, rfl⟩
  · have e := Lib.hid (t1.out c)
    clear t1 t2
    go_enter Try.func21, Try.ntmps21
    go_wp2
    go_ret
    exact ⟨ret_u32 e.out, rfl⟩
set_option maxHeartbeats 1000000 in
theorem rdo_any (op x y : Int) (w : World) (h0 : 0 ≤ x) (h1 : x ≤ 4294967295) (g0 : 0 ≤ y) (g1 : y ≤ 4294967295) :
    Calls Try.prog 13 #[.int .i64 op, .int .u32 x, .int .u32 y] w fun e w' => e = .returned (.int .u32 (dv op x y)) ∧ w = w' := by
  by_cases hop : op < 42 ∨ 45 < op
  · have ht := Lib.hid (dv_else x y hop)
    rcases hop with hop | hop
    all_goals
      go_enter Try.func13, Try.ntmps13
      go_wp2
      go_ret
      exact ⟨ret_u32 ht.out.symm, rfl⟩
  · have hop : op = 42 ∨ op = 43 ∨ op = 44 ∨ op = 45 := by omega
    by_cases hy : y = 0
    · subst hy
      rcases hop with rfl | rfl | rfl | rfl
      all_goals
        go_enter Try.func13, Try.ntmps13
        go_wp2
        go_ret
      · exact ⟨ret_u32 (dv42z x).symm, rfl⟩
      · exact ⟨ret_u32 (dv43z x).symm, rfl⟩
      · exact ⟨ret_u32 (dv44z x).symm, rfl⟩
      · exact ⟨ret_u32 (dv45z x).symm, rfl⟩
    · have hy1 : 1 ≤ y := by omega
      have hy' : (y == 0) = false := by rw [beq_eq_false_iff_ne]; omega
      have q1 := sg_tdiv_bd x y h0 h1
      have q2 := sg_tmod_bd x y h0 h1
      have hs : (sg y == 0) = false := by rw [beq_eq_false_iff_ne]; exact sg_pos hy1 g1
      have sx := sg_bd h0 h1
      have sy := sg_bd g0 g1
      have sx := And.intro sx.1 sx.2.1
      have sy := And.intro sy.1 sy.2.1
      have d1 : 0 ≤ x / y := Int.ediv_nonneg h0 g0
      have d2 : x / y ≤ x := Int.ediv_le_self _ h0
      have d3 : 0 ≤ x % y := Int.emod_nonneg _ (by omega)
      have d4 : x % y < y := Int.emod_lt_of_pos _ (by omega)
      clear hy
      rcases hop with rfl | rfl | rfl | rfl
      all_goals
        go_enter Try.func13, Try.ntmps13
        go_wp2_with (first | (go_at_call 19; refine (signed_any _ _ (by omega) (by omega)).mono ?_; rintro e w' ⟨rfl, rfl⟩) | (go_at_call 21; refine (word_any _ _ (by omega) (by omega)).mono ?_; rintro e w' ⟨rfl, rfl⟩))
        all_goals go_ret
      · exact ⟨ret_u32 (dv42 x y hy1).symm, rfl⟩
      · exact ⟨ret_u32 (by rw [dv43 x y hy1]; omega), rfl⟩
      · exact ⟨ret_u32 (dv44 x y hy1).symm, rfl⟩
      · exact ⟨ret_u32 (by rw [dv45 x y hy1]; omega), rfl⟩
end Go.Proofs.Ytajedochalaadaa
