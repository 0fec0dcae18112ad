/- Contracts: how two rates stand, whether they are the same, a rate of two numbers. Conditions: the words are doubles. -/
import Derived.Test.YtmahjlmblgboaaaDoorG1
namespace Go.Proofs.YtmahjlmblgboaaaDoor
open Go.RowKit
set_option linter.unusedVariables false
theorem ord_lt {a b : Nat} (h : nanB a = false) (k : nanB b = false) (c : ky a < ky b) : FloatKind.f64.format.order a b = some .lt := by
  rw [fmt64, order_ky a b (nan_le h) (nan_le k), Int.compare_eq_lt.2 c]
theorem ord_gt {a b : Nat} (h : nanB a = false) (k : nanB b = false) (c : ky b < ky a) : FloatKind.f64.format.order a b = some .gt := by
  rw [fmt64, order_ky a b (nan_le h) (nan_le k), Int.compare_eq_gt.2 c]
theorem ord_eq {a b : Nat} (h : nanB a = false) (k : nanB b = false) (c : ky a = ky b) : FloatKind.f64.format.order a b = some .eq := by
  rw [fmt64, order_ky a b (nan_le h) (nan_le k), Int.compare_eq_eq.2 c]
theorem tk_eq {a b : Nat} (h : nanB a = false) (k : nanB b = false) (c : ky a = ky b) (s : sg a = sg b) : tk a = tk b := by
  have := ky_eq_sg h k c
  rw [s] at this
  cases hb : sg b <;> simp [hb] at this <;> omega
set_option maxHeartbeats 4000000 in
theorem same_any (a b : Nat) (w : World) : Calls Tryd.prog 11 #[.float .f64 a, .float .f64 b] w fun e w' => e = .returned (.bool (sameB a b)) ∧ w = w' := by
  have N := Lib.hid none_any
  cases an : nanB a with
  | true =>
    cases bn : nanB b with
    | true =>
      have r := Lib.hid (show sameB a b = true by unfold sameB; rw [tk_nan an, tk_nan bn]; rfl)
      go_enter Tryd.func11, Tryd.ntmps11
      go_wp2_with (go_at_call 14; refine (N.out _ _).mono ?_; rintro e w' ⟨rfl, rfl⟩)
      go_ret
      exact ⟨ret_bl r.out.symm, rfl⟩
    | false =>
      have r := Lib.hid (show sameB a b = false by unfold sameB; have := tk_lo bn; rw [tk_nan an]; exact decide_eq_false (by omega))
      go_enter Tryd.func11, Tryd.ntmps11
      go_wp2_with (go_at_call 14; refine (N.out _ _).mono ?_; rintro e w' ⟨rfl, rfl⟩)
      go_ret
      exact ⟨ret_bl r.out.symm, rfl⟩
  | false =>
    cases bn : nanB b with
    | true =>
      have r := Lib.hid (show sameB a b = false by unfold sameB; have := tk_lo an; rw [tk_nan bn]; exact decide_eq_false (by omega))
      go_enter Tryd.func11, Tryd.ntmps11
      go_wp2_with (go_at_call 14; refine (N.out _ _).mono ?_; rintro e w' ⟨rfl, rfl⟩)
      go_ret
      exact ⟨ret_bl r.out.symm, rfl⟩
    | false =>
      rcases Int.lt_trichotomy (ky a) (ky b) with c | c | c
      · have o := ord_lt an bn c
        have r := Lib.hid (show sameB a b = false by unfold sameB; have := ky_lt an bn c; exact decide_eq_false (by omega))
        clear c
        go_enter Tryd.func11, Tryd.ntmps11
        go_wp2_with (go_at_call 14; refine (N.out _ _).mono ?_; rintro e w' ⟨rfl, rfl⟩)
        go_ret
        exact ⟨ret_bl r.out.symm, rfl⟩
      · have o := ord_eq an bn c
        have r := Lib.hid (show sameB a b = (sg a == sg b) by
          have k := ky_eq_sg an bn c
          unfold sameB
          cases sa : sg a <;> cases sb : sg b <;> simp [sa, sb] at k <;> simp <;> omega)
        clear c
        go_enter Tryd.func11, Tryd.ntmps11
        go_wp2_with (first | (go_at_call 14; refine (N.out _ _).mono ?_; rintro e w' ⟨rfl, rfl⟩) | (go_at_call 25; refine (minus_any _ (by assumption) _).mono ?_; rintro e w' ⟨rfl, rfl⟩))
        go_ret
        exact ⟨ret_bl r.out.symm, rfl⟩
      · have o := ord_gt an bn c
        have r := Lib.hid (show sameB a b = false by unfold sameB; have := ky_lt bn an c; exact decide_eq_false (by omega))
        clear c
        go_enter Tryd.func11, Tryd.ntmps11
        go_wp2_with (go_at_call 14; refine (N.out _ _).mono ?_; rintro e w' ⟨rfl, rfl⟩)
        go_ret
        exact ⟨ret_bl r.out.symm, rfl⟩
set_option maxHeartbeats 4000000 in
theorem Order_any (a b : Nat) (ha : a < 18446744073709551616) (hb : b < 18446744073709551616) (w : World) : Calls Tryd.prog 16 #[.float .f64 a, .float .f64 b] w fun e w' => e = .returned (.int .i64 (cmpI (tk a) (tk b))) ∧ w = w' := by
  have N := Lib.hid isnan_any
  cases an : nanB a with
  | true =>
    cases bn : nanB b with
    | true =>
      have r := Lib.hid (show cmpI (tk a) (tk b) = 0 from cmpI_eq (by rw [tk_nan an, tk_nan bn]))
      go_enter Tryd.func16, Tryd.ntmps16
      go_wp2_with (first | (go_at_call 26; refine (N.out _ _).mono ?_; rintro e w' ⟨rfl, rfl⟩) | (go_at_call 27; refine (signbit_any _ (by assumption) _).mono ?_; rintro e w' ⟨rfl, rfl⟩))
      go_ret
      exact ⟨ret_i r.out.symm, rfl⟩
    | false =>
      have r := Lib.hid (show cmpI (tk a) (tk b) = -1 from cmpI_lt (by rw [tk_nan an]; exact tk_lo bn))
      go_enter Tryd.func16, Tryd.ntmps16
      go_wp2_with (first | (go_at_call 26; refine (N.out _ _).mono ?_; rintro e w' ⟨rfl, rfl⟩) | (go_at_call 27; refine (signbit_any _ (by assumption) _).mono ?_; rintro e w' ⟨rfl, rfl⟩))
      go_ret
      exact ⟨ret_i r.out.symm, rfl⟩
  | false =>
    cases bn : nanB b with
    | true =>
      have r := Lib.hid (show cmpI (tk a) (tk b) = 1 from cmpI_gt (by rw [tk_nan bn]; exact tk_lo an))
      go_enter Tryd.func16, Tryd.ntmps16
      go_wp2_with (first | (go_at_call 26; refine (N.out _ _).mono ?_; rintro e w' ⟨rfl, rfl⟩) | (go_at_call 27; refine (signbit_any _ (by assumption) _).mono ?_; rintro e w' ⟨rfl, rfl⟩))
      go_ret
      exact ⟨ret_i r.out.symm, rfl⟩
    | false =>
      rcases Int.lt_trichotomy (ky a) (ky b) with c | c | c
      · have o := ord_lt an bn c
        have r := Lib.hid (show cmpI (tk a) (tk b) = -1 from cmpI_lt (ky_lt an bn c))
        clear c
        go_enter Tryd.func16, Tryd.ntmps16
        go_wp2_with (first | (go_at_call 26; refine (N.out _ _).mono ?_; rintro e w' ⟨rfl, rfl⟩) | (go_at_call 27; refine (signbit_any _ (by assumption) _).mono ?_; rintro e w' ⟨rfl, rfl⟩))
        go_ret
        exact ⟨ret_i r.out.symm, rfl⟩
      · have o := ord_eq an bn c
        have k := Lib.hid (ky_eq_sg an bn c)
        have t := Lib.hid (tk_eq an bn c)
        clear c
        cases sa : sg a <;> cases sb : sg b
        all_goals
          go_enter Tryd.func16, Tryd.ntmps16
          go_wp2_with (first | (go_at_call 26; refine (N.out _ _).mono ?_; rintro e w' ⟨rfl, rfl⟩) | (go_at_call 27; refine (signbit_any _ (by assumption) _).mono ?_; rintro e w' ⟨rfl, rfl⟩))
          go_ret
        · exact ⟨ret_i (cmpI_eq (t.out (by rw [sa, sb]))).symm, rfl⟩
        · exact ⟨ret_i (cmpI_gt (k.out.2.2 ⟨sa, sb⟩)).symm, rfl⟩
        · exact ⟨ret_i (cmpI_lt (k.out.1.2 ⟨sa, sb⟩)).symm, rfl⟩
        · exact ⟨ret_i (cmpI_eq (t.out (by rw [sa, sb]))).symm, rfl⟩
      · have o := ord_gt an bn c
        have r := Lib.hid (show cmpI (tk a) (tk b) = 1 from cmpI_gt (ky_lt bn an c))
        clear c
        go_enter Tryd.func16, Tryd.ntmps16
        go_wp2_with (first | (go_at_call 26; refine (N.out _ _).mono ?_; rintro e w' ⟨rfl, rfl⟩) | (go_at_call 27; refine (signbit_any _ (by assumption) _).mono ?_; rintro e w' ⟨rfl, rfl⟩))
        go_ret
        exact ⟨ret_i r.out.symm, rfl⟩
set_option maxHeartbeats 4000000 in
theorem order_any (a b : Nat) (w : World) : Calls Tryd.prog 17 #[.float .f64 a, .float .f64 b] w fun e w' => e = .returned (.int .i64 (cmpI (tk a) (tk b))) ∧ w = w' := by
  have R := Lib.hid rank_any
  rcases Int.lt_trichotomy (rnk a) (rnk b) with c | c | c
  · have r := Lib.hid (show cmpI (tk a) (tk b) = -1 from cmpI_lt (rnk_lt c))
    have c1 : (rnk a != rnk b) = true := by rw [bne_iff_ne]; omega
    have c2 : decide (rnk a < rnk b) = true := decide_eq_true c
    clear c
    go_enter Tryd.func17, Tryd.ntmps17
    go_wp2_with (go_at_call 28; refine (R.out _ _).mono ?_; rintro e w' ⟨rfl, rfl⟩)
    go_ret
    exact ⟨ret_i r.out.symm, rfl⟩
  · have c1 : (rnk a != rnk b) = false := by rw [c]; simp
    rcases rnk_eq c with ⟨an, bn, e⟩ | ⟨an, bn, k1, k2⟩
    · have r := Lib.hid (show cmpI (tk a) (tk b) = 0 from cmpI_eq e)
      have o : FloatKind.f64.format.order a b = none := order_nan a b (.inl (nan_lt an))
      clear c e an bn
      go_enter Tryd.func17, Tryd.ntmps17
      go_wp2_with (go_at_call 28; refine (R.out _ _).mono ?_; rintro e w' ⟨rfl, rfl⟩)
      go_ret
      exact ⟨ret_i r.out.symm, rfl⟩
    · rcases Int.lt_trichotomy (ky a) (ky b) with d | d | d
      · have r := Lib.hid (show cmpI (tk a) (tk b) = -1 from cmpI_lt (k1.1 d))
        have o := ord_lt an bn d
        clear c d k1 k2 an bn
        go_enter Tryd.func17, Tryd.ntmps17
        go_wp2_with (go_at_call 28; refine (R.out _ _).mono ?_; rintro e w' ⟨rfl, rfl⟩)
        go_ret
        exact ⟨ret_i r.out.symm, rfl⟩
      · have r := Lib.hid (show cmpI (tk a) (tk b) = 0 from cmpI_eq (by have := mt k1.2 (by omega); have := mt k2.2 (by omega); omega))
        have o := ord_eq an bn d
        clear c d k1 k2 an bn
        go_enter Tryd.func17, Tryd.ntmps17
        go_wp2_with (go_at_call 28; refine (R.out _ _).mono ?_; rintro e w' ⟨rfl, rfl⟩)
        go_ret
        exact ⟨ret_i r.out.symm, rfl⟩
      · have r := Lib.hid (show cmpI (tk a) (tk b) = 1 from cmpI_gt (k2.1 d))
        have o := ord_gt an bn d
        clear c d k1 k2 an bn
        go_enter Tryd.func17, Tryd.ntmps17
        go_wp2_with (go_at_call 28; refine (R.out _ _).mono ?_; rintro e w' ⟨rfl, rfl⟩)
        go_ret
        exact ⟨ret_i r.out.symm, rfl⟩
  · have r := Lib.hid (show cmpI (tk a) (tk b) = 1 from cmpI_gt (rnk_lt c))
    have c1 : (rnk a != rnk b) = true := by rw [bne_iff_ne]; omega
    have c2 : decide (rnk a < rnk b) = false := decide_eq_false (by omega)
    clear c
    go_enter Tryd.func17, Tryd.ntmps17
    go_wp2_with (go_at_call 28; refine (R.out _ _).mono ?_; rintro e w' ⟨rfl, rfl⟩)
    go_ret
    exact ⟨ret_i r.out.symm, rfl⟩
/-! ### A rate of two numbers -/
/-- the quotient of two numbers -/
def qt (n k : Int) : Option Nat := Ieee.double.div (floatOfInt .f64 n) (floatOfInt .f64 k)
theorem nanOf_lt (x y : Nat) (w : World) : nanOf x y w < 2 * SW := by
  unfold nanOf
  generalize w.tape w.drawn (.nanBits .f64 x y) = t
  show (t % 2) * 2 ^ 63 + 0x7ff0000000000000 + 1 + (t / 2) % (2 ^ 52 - 1) < 2 * SW
  have h1 : (t / 2) % (2 ^ 52 - 1) < 2 ^ 52 - 1 := Nat.mod_lt _ (by decide)
  have h2 : t % 2 < 2 := Nat.mod_lt _ (by decide)
  generalize (t / 2) % (2 ^ 52 - 1) = a at *
  generalize t % 2 = b at *
  unfold SW
  have : b = 0 ∨ b = 1 := by omega
  rcases this with rfl | rfl <;> omega
theorem fv_nan (x y : Nat) (w : World) : FV (nanOf x y w) none := ⟨nanOf_lt x y w, nanOf_nan x y w⟩
theorem fv_div {x y v : Nat} (h : Ieee.double.div x y = some v) : FV v (some v) := ⟨(div_ok h).2, rfl⟩
theorem fv_add {x y v : Nat} (h : Ieee.double.add x y = some v) : FV v (some v) := ⟨(add_ok h).2, rfl⟩
/-- what a call that hands back a rate leaves -/
def RP (o : Option Nat) (w : World) (e : Ending) (w' : World) : Prop := ∃ r, e = .returned (.float .f64 r) ∧ FV r o ∧ Below w.heap.size w w'
set_option maxHeartbeats 1000000 in
theorem Rate_any (n k : Int) (w : World) : Calls Tryd.prog 15 #[.int .i64 n, .int .i64 k] w (RP (qt n k) w) := by
  cases hq : qt n k with
  | none =>
    have q := run_quo_nan 43 _ _ hq
    have q' := Lib.hid hq
    clear hq
    go_enter Tryd.func15, Tryd.ntmps15
    go_wp2
    go_ret
    exact ⟨_, rfl, fv_nan _ _ _, (Below.refl _ _).drew⟩
  | some v =>
    have q := fun w => run_float_arith (P := Tryd.prog) w .quo 43 .f64 (floatOfInt .f64 n) (floatOfInt .f64 k) v hq
    have q' := Lib.hid hq
    clear hq
    go_enter Tryd.func15, Tryd.ntmps15
    go_wp2
    go_ret
    exact ⟨_, rfl, fv_div q'.out, Below.refl _ _⟩
set_option maxHeartbeats 1000000 in
theorem rate_any (n k : Int) (w : World) : Calls Tryd.prog 13 #[.int .i64 n, .int .i64 k] w (RP (qt n k) w) := by
  cases hq : qt n k with
  | none =>
    have q := run_quo_nan 43 _ _ hq
    have q' := Lib.hid hq
    clear hq
    go_enter Tryd.func13, Tryd.ntmps13
    go_wp2
    go_ret
    exact ⟨_, rfl, fv_nan _ _ _, (Below.refl _ _).drew⟩
  | some v =>
    have q := fun w => run_float_arith (P := Tryd.prog) w .quo 43 .f64 (floatOfInt .f64 n) (floatOfInt .f64 k) v hq
    have q' := Lib.hid hq
    clear hq
    go_enter Tryd.func13, Tryd.ntmps13
    go_wp2
    go_ret
    exact ⟨_, rfl, fv_div q'.out, Below.refl _ _⟩
end Go.Proofs.YtmahjlmblgboaaaDoor
