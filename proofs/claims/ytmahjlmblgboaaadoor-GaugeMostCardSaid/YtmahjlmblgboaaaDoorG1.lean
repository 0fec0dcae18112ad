/- Contracts of the small functions on rates. Conditions: the words are doubles. -/
import Derived.Test.YtmahjlmblgboaaaDoorG0
import Derived.Test.YtmahjlmblgboaaaDoorF3
namespace Go.Proofs.YtmahjlmblgboaaaDoor
open Go.RowKit
set_option linter.unusedVariables false
theorem ret_bl {a b : Bool} (h : a = b) : Ending.returned (.bool a) = .returned (.bool b) := by rw [h]
theorem ret_i {a b : Int} (h : a = b) : Ending.returned (.int .i64 a) = .returned (.int .i64 b) := by rw [h]
theorem ret_f {a b : Nat} (h : a = b) : Ending.returned (.float .f64 a) = .returned (.float .f64 b) := by rw [h]
theorem w64 (n : Int) : wrap64 n = IntKind.i64.wrap n := by unfold wrap64; rw [IntKind.wrap_i64]
theorem ne_self (x : Nat) : (FloatKind.f64.format.order x x != some .eq) = nanB x := by
  rw [fmt64]
  cases h : nanB x with
  | true => rw [order_nan x x (.inl (nan_lt h))]; rfl
  | false => rw [order_ky x x (nan_le h) (nan_le h), Int.compare_eq_eq.2 rfl]; rfl
theorem none_any (x : Nat) (w : World) : Calls Tryd.prog 14 #[.float .f64 x] w fun e w' => e = .returned (.bool (nanB x)) ∧ w = w' := by
  go_enter Tryd.func14, Tryd.ntmps14
  go_wp2
  go_ret
  exact ⟨ret_bl (ne_self x), rfl⟩
theorem isnan_any (x : Nat) (w : World) : Calls Tryd.prog 26 #[.float .f64 x] w fun e w' => e = .returned (.bool (nanB x)) ∧ w = w' := by
  go_enter Tryd.func26, Tryd.ntmps26
  go_wp2
  go_ret
  exact ⟨ret_bl (ne_self x), rfl⟩
theorem signbit_any (x : Nat) (h : x < 18446744073709551616) (w : World) : Calls Tryd.prog 27 #[.float .f64 x] w fun e w' => e = .returned (.bool (sg x)) ∧ w = w' := by
  have H := Lib.hid h
  clear h
  have c35 := call35
  go_enter Tryd.func27, Tryd.ntmps27
  go_wp2
  go_ret
  exact ⟨ret_bl (by rw [w64]; exact sign_i64 x H.out), rfl⟩
theorem abs_any (x : Nat) (h : x < 18446744073709551616) (w : World) : Calls Tryd.prog 29 #[.float .f64 x] w fun e w' => e = .returned (.float .f64 (rg x)) ∧ w = w' := by
  have H := Lib.hid h
  clear h
  have c35 := call35
  have c36 := call36
  go_enter Tryd.func29, Tryd.ntmps29
  go_wp2
  go_ret
  exact ⟨ret_f (by rw [abs_bits x H.out, Int.toNat_natCast]), rfl⟩
theorem nan_any (w : World) : Calls Tryd.prog 33 #[] w fun e w' => e = .returned (.float .f64 9221120237041090561) ∧ w = w' := by
  have c36 := call36
  go_enter Tryd.func33, Tryd.ntmps33
  go_wp2
  go_ret
  exact ⟨rfl, rfl⟩
theorem floor_any (x : Nat) (hs : sg x = false) (h : rg x < I) (w : World) : Calls Tryd.prog 30 #[.float .f64 x] w fun e w' => e = .returned (.float .f64 (wI (Mv (rg x) / U))) ∧ w = w' := by
  have c37 := call37 x hs h
  have H := Lib.hid (And.intro hs h)
  clear hs h
  generalize wI (Mv (rg x) / U) = y at *
  go_enter Tryd.func30, Tryd.ntmps30
  go_wp2
  go_ret
  exact ⟨rfl, rfl⟩
/-- one through nought -/
theorem one_zero (x : Nat) (h : rg x = 0) : Ieee.double.div 4607182418800017408 x = some (wd (sg x) I) := by
  have e : Ieee.double.read 4607182418800017408 = .number false 4503599627370496 (-52) := by decide +kernel
  unfold Ieee.Format.div
  rw [e, read_num x (by rw [h]; decide), h]
  have e1 : mg 0 = 0 := by decide
  rw [e1]
  unfold Ieee.Datum.quotient
  dsimp only
  rw [if_pos rfl, if_neg (by decide), Option.map_some, write_inf, Bool.false_xor]
theorem ky_zero : ky 0 = 0 := by decide
theorem rg_zero : rg 0 ≤ I := by decide
set_option maxHeartbeats 1000000 in
theorem minus_any (x : Nat) (h : nanB x = false) (w : World) : Calls Tryd.prog 25 #[.float .f64 x] w fun e w' => e = .returned (.bool (sg x)) ∧ w = w' := by
  have o := order_ky x 0 (nan_le h) rg_zero
  rw [ky_zero] at o
  rcases Int.lt_trichotomy (ky x) 0 with c | c | c
  · rw [Int.compare_eq_lt.2 c] at o
    have o' : FloatKind.f64.format.order x 0 = some .lt := o
    have s := Lib.hid (show sg x = true by unfold ky at c; revert c; cases sg x <;> simp <;> omega)
    clear o c h
    go_enter Tryd.func25, Tryd.ntmps25
    go_wp2
    go_ret
    exact ⟨ret_bl s.out.symm, rfl⟩
  · rw [Int.compare_eq_eq.2 c] at o
    have o' : FloatKind.f64.format.order x 0 = some .eq := o
    have r0 : rg x = 0 := by unfold ky at c; revert c; cases sg x <;> simp
    have q : ∀ w, (binOp .quo 43 (.float .f64 4607182418800017408) (.float .f64 x)).run Tryd.prog w = .ok (.float .f64 (wd (sg x) I)) w := fun w => run_float_arith w .quo 43 .f64 _ _ _ (one_zero x r0)
    have o2 : FloatKind.f64.format.order (wd (sg x) I) 0 = some (if sg x then .lt else .gt) := by
      rw [fmt64]; cases sg x <;> decide +kernel
    have S := Lib.hid (rfl : sg x = sg x)
    clear o c h r0
    cases hs : sg x with
    | true =>
      rw [hs] at q o2
      simp only [if_true] at o2
      clear hs
      generalize wd true I = y at *
      go_enter Tryd.func25, Tryd.ntmps25
      go_wp2
      go_ret
      exact ⟨rfl, rfl⟩
    | false =>
      rw [hs] at q o2
      simp only [Bool.false_eq_true, if_false] at o2
      clear hs
      generalize wd false I = y at *
      go_enter Tryd.func25, Tryd.ntmps25
      go_wp2
      go_ret
      exact ⟨rfl, rfl⟩
  · rw [Int.compare_eq_gt.2 c] at o
    have o' : FloatKind.f64.format.order x 0 = some .gt := o
    have s := Lib.hid (show sg x = false by unfold ky at c; revert c; cases sg x <;> simp <;> omega)
    clear o c h
    go_enter Tryd.func25, Tryd.ntmps25
    go_wp2
    go_ret
    exact ⟨ret_bl s.out.symm, rfl⟩
set_option maxHeartbeats 1000000 in
theorem rank_any (x : Nat) (w : World) : Calls Tryd.prog 28 #[.float .f64 x] w fun e w' => e = .returned (.int .i64 (rnk x)) ∧ w = w' := by
  cases h : nanB x with
  | true =>
    have r := Lib.hid (show rnk x = 0 by unfold rnk; rw [if_pos h])
    go_enter Tryd.func28, Tryd.ntmps28
    go_wp2_with (go_at_call 14; refine (none_any x _).mono ?_; rintro e w' ⟨rfl, rfl⟩)
    go_ret
    exact ⟨ret_i r.out.symm, rfl⟩
  | false =>
    have o := order_ky x 0 (nan_le h) rg_zero
    rw [ky_zero] at o
    have M := Lib.hid (minus_any x h)
    rcases Int.lt_trichotomy (ky x) 0 with c | c | c
    · rw [Int.compare_eq_lt.2 c] at o
      have o' : FloatKind.f64.format.order x 0 = some .lt := o
      have r := Lib.hid (show rnk x = 1 by unfold rnk; rw [h]; simp only [Bool.false_eq_true, if_false]; rw [if_pos c])
      clear o c
      go_enter Tryd.func28, Tryd.ntmps28
      go_wp2_with (go_at_call 14; refine (none_any x _).mono ?_; rintro e w' ⟨rfl, rfl⟩)
      go_ret
      exact ⟨ret_i r.out.symm, rfl⟩
    · rw [Int.compare_eq_eq.2 c] at o
      have o' : FloatKind.f64.format.order x 0 = some .eq := o
      have r := Lib.hid (show rnk x = if sg x then 2 else 3 by unfold rnk; rw [h]; simp only [Bool.false_eq_true, if_false]; rw [if_neg (by omega), if_neg (by omega)])
      clear o c
      cases hs : sg x with
      | true =>
        go_enter Tryd.func28, Tryd.ntmps28
        go_wp2_with (first | (go_at_call 14; refine (none_any x _).mono ?_; rintro e w' ⟨rfl, rfl⟩) | (go_at_call 25; refine (M.out _).mono ?_; rintro e w' ⟨rfl, rfl⟩))
        go_ret
        exact ⟨ret_i (by rw [r.out, hs]; rfl), rfl⟩
      | false =>
        go_enter Tryd.func28, Tryd.ntmps28
        go_wp2_with (first | (go_at_call 14; refine (none_any x _).mono ?_; rintro e w' ⟨rfl, rfl⟩) | (go_at_call 25; refine (M.out _).mono ?_; rintro e w' ⟨rfl, rfl⟩))
        go_ret
        exact ⟨ret_i (by rw [r.out, hs]; rfl), rfl⟩
    · rw [Int.compare_eq_gt.2 c] at o
      have o' : FloatKind.f64.format.order x 0 = some .gt := o
      have r := Lib.hid (show rnk x = 4 by unfold rnk; rw [h]; simp only [Bool.false_eq_true, if_false]; rw [if_neg (by omega), if_pos c])
      clear o c
      go_enter Tryd.func28, Tryd.ntmps28
      go_wp2_with (go_at_call 14; refine (none_any x _).mono ?_; rintro e w' ⟨rfl, rfl⟩)
      go_ret
      exact ⟨ret_i r.out.symm, rfl⟩
end Go.Proofs.YtmahjlmblgboaaaDoor
