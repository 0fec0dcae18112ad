/- The walks of the statements GaugeRates, GaugeOrder, GaugeSigns. Conditions: the words are doubles; the table of the powers of ten reads as it is laid. -/
import Derived.Test.YtmahjlmblgboaaaDoorG4
namespace Go.Proofs.YtmahjlmblgboaaaDoor
open Go.RowKit
set_option linter.unusedVariables false
theorem FV.lt {r : Nat} {o : Option Nat} (h : FV r o) : r < 18446744073709551616 := h.1
set_option maxHeartbeats 4000000 in
theorem rates (n k : Int) (a b : Nat) (ha : a < 18446744073709551616) (hb : b < 18446744073709551616) (w : World) (ht : TabAt w) : Calls Tryd.prog 4 #[.int .i64 n, .int .i64 k, .float .f64 a, .float .f64 b] w fun e w' => e = .returned (.bool true) ∧ Below w.heap.size w w' := by
  have T := Lib.hid ht
  clear ht
  go_enter Tryd.func4, Tryd.ntmps4
  go_wp2_with fail
  refine (alive_any _ T.out).mono ?_
  rintro e w1 ⟨rfl, hb1⟩
  have B1 := Lib.hid hb1
  clear hb1
  go_wp2_with fail
  refine (Rate_any n k _).mono ?_
  rintro e w2 ⟨r1, rfl, f1, hb2⟩
  have B2 := Lib.hid (B1.out.trans (hb2.mono B1.out.size))
  clear hb2 B1
  go_wp2_with fail
  refine (rate_any n k _).mono ?_
  rintro e w3 ⟨r2, rfl, f2, hb3⟩
  have B3 := Lib.hid (B2.out.trans (hb3.mono B2.out.size))
  clear hb3 B2
  have s12 := f1.same f2
  clear f1 f2
  go_wp2_with fail
  refine (same_any r1 r2 _).mono ?_
  rw [s12]
  rintro e w' ⟨rfl, rfl⟩
  go_wp2_with fail
  refine (Order_any a b ha hb _).mono ?_
  rintro e w' ⟨rfl, rfl⟩
  go_wp2_with fail
  refine (order_any a b _).mono ?_
  rintro e w' ⟨rfl, rfl⟩
  generalize cmpI (tk a) (tk b) = c
  go_wp2_with fail
  refine (Text_any a ha _ (T.out.below B3.out)).mono ?_
  rintro e w4 ⟨s1, rfl, l1, z1, hb4⟩
  have B4 := Lib.hid (B3.out.trans (hb4.mono B3.out.size))
  have e1 := str_of l1
  subst e1
  clear l1 z1 hb4 B3
  go_wp2_with fail
  refine (text_any a ha _ (T.out.below B4.out)).mono ?_
  rintro e w5 ⟨s2, rfl, l2, z2, hb5⟩
  have B5 := Lib.hid (B4.out.trans (hb5.mono B4.out.size))
  have e2 := str_of l2
  subst e2
  clear l2 z2 hb5 B4
  go_wp2_with fail
  refine (Rate_any n k _).mono ?_
  rintro e w6 ⟨r3, rfl, f3, hb6⟩
  have B6 := Lib.hid (B5.out.trans (hb6.mono B5.out.size))
  have F3 := Lib.hid f3
  clear hb6 B5 f3
  go_wp2_with fail
  refine (Text_any r3 F3.out.lt _ (T.out.below B6.out)).mono ?_
  rintro e w7 ⟨s3, rfl, l3, z3, hb7⟩
  have B7 := Lib.hid (B6.out.trans (hb7.mono B6.out.size))
  have e3 := str_of l3
  subst e3
  clear l3 z3 hb7 B6
  go_wp2_with fail
  refine (rate_any n k _).mono ?_
  rintro e w8 ⟨r4, rfl, f4, hb8⟩
  have B8 := Lib.hid (B7.out.trans (hb8.mono B7.out.size))
  have e34 := Lib.hid (F3.out.txt f4)
  have F4 := Lib.hid f4
  clear hb8 B7 f4
  go_wp2_with fail
  refine (text_any r4 F4.out.lt _ (T.out.below B8.out)).mono ?_
  rw [← e34.out]
  rintro e w9 ⟨s4, rfl, l4, z4, hb9⟩
  have B9 := Lib.hid (B8.out.trans (hb9.mono B8.out.size))
  have e4 := str_of l4
  subst e4
  clear l4 z4 hb9 B8
  go_wp2
  go_ret
  exact ⟨rfl, B9.out⟩
theorem cmp_swap (p q : Int) : cmpI q p = - cmpI p q := by unfold cmpI; split <;> split <;> (try split) <;> omega
theorem cmp_self (p : Int) : cmpI p p = 0 := cmpI_eq rfl
/-- nine ways three rates may stand -/
theorem cmp_ways (p q r : Int) : (cmpI p q = -1 ∧ cmpI q r = -1 ∧ cmpI p r = -1) ∨ (cmpI p q = -1 ∧ cmpI q r = 0 ∧ cmpI p r = -1) ∨ (cmpI p q = 0 ∧ cmpI q r = -1 ∧ cmpI p r = -1) ∨ (cmpI p q = 0 ∧ cmpI q r = 0 ∧ cmpI p r = 0) ∨ (cmpI p q = 1) ∨ (cmpI p q = -1 ∧ cmpI q r = 1) ∨ (cmpI p q = 0 ∧ cmpI q r = 1) := by
  unfold cmpI
  split <;> (try split) <;> (try split) <;> (try split) <;> (try split) <;> (try split) <;> (try split) <;> simp <;> omega
set_option maxHeartbeats 4000000 in
theorem orders (a b c : Nat) (ha : a < 18446744073709551616) (hb : b < 18446744073709551616) (hc : c < 18446744073709551616) (w : World) (ht : TabAt w) : Calls Tryd.prog 5 #[.float .f64 a, .float .f64 b, .float .f64 c] w fun e w' => e = .returned (.bool true) ∧ Below w.heap.size w w' := by
  have A := Lib.hid (alive_any _ ht)
  clear ht
  have O1 := Lib.hid (Order_any a b ha hb w)
  have O2 := Lib.hid (Order_any b c hb hc w)
  have O3 := Lib.hid (Order_any a c ha hc w)
  have O4 := Lib.hid (Order_any b a hb ha w)
  have O5 := Lib.hid (Order_any a a ha ha w)
  rw [cmp_swap (tk a) (tk b)] at O4
  rw [cmp_self] at O5
  have W := cmp_ways (tk a) (tk b) (tk c)
  clear ha hb hc
  generalize cmpI (tk a) (tk b) = x at *
  generalize cmpI (tk b) (tk c) = y at *
  generalize cmpI (tk a) (tk c) = z at *
  rcases W with ⟨rfl, rfl, rfl⟩ | ⟨rfl, rfl, rfl⟩ | ⟨rfl, rfl, rfl⟩ | ⟨rfl, rfl, rfl⟩ | rfl | ⟨rfl, rfl⟩ | ⟨rfl, rfl⟩
  all_goals
    go_enter Tryd.func5, Tryd.ntmps5
    go_wp2_with fail
    refine (O1.out).mono ?_
    rintro e w' ⟨rfl, rfl⟩
    go_wp2_with fail
    refine (O2.out).mono ?_
    rintro e w' ⟨rfl, rfl⟩
    go_wp2_with fail
    refine (O3.out).mono ?_
    rintro e w' ⟨rfl, rfl⟩
    go_wp2_with fail
    refine (O4.out).mono ?_
    rintro e w' ⟨rfl, rfl⟩
    go_wp2_with fail
    refine (O5.out).mono ?_
    rintro e w' ⟨rfl, rfl⟩
    go_wp2_with fail
    refine (A.out).mono ?_
    rintro e w1 ⟨rfl, hb1⟩
    have B1 := Lib.hid hb1
    clear hb1
    go_wp2
    go_ret
    exact ⟨rfl, B1.out⟩
/-! ### Signs -/
theorem neg_run' (x : Nat) (h : x < 18446744073709551616) : ∀ w, (Op.unary .neg (.float .f64 x)).run Tryd.prog w = .ok (.float .f64 (wd (!sg x) (rg x))) w := fun w => by rw [← neg_bits x h]; rfl
theorem neg_lt (x : Nat) : wd (!sg x) (rg x) < 18446744073709551616 := by
  have := rg_lt' x
  unfold wd SW
  cases sg x <;> simp <;> omega
theorem neg_facts (x : Nat) : rg (wd (!sg x) (rg x)) = rg x ∧ sg (wd (!sg x) (rg x)) = !sg x ∧ nanB (wd (!sg x) (rg x)) = nanB x := by
  have a := rg_wd (!sg x) (rg_lt x)
  exact ⟨a, sg_wd _ (rg_lt x), by unfold nanB; rw [a]⟩
theorem neg_tk (x : Nat) (h : nanB x = false) : tk (wd (!sg x) (rg x)) = -1 - tk x := by
  obtain ⟨a, b, c⟩ := neg_facts x
  rw [tk_num (by rw [c]; exact h), tk_num h, a, b]
  cases sg x <;> simp <;> omega
theorem cmp_neg (p q : Int) : cmpI (-1 - q) (-1 - p) = cmpI p q := by unfold cmpI; split <;> split <;> (try split) <;> (try split) <;> omega
/-- a text with its sign turned -/
theorem txt_neg (x : Nat) (h : nanB x = false) : (sg x = false ∧ txt (wd (!sg x) (rg x)) = 45 :: txt x) ∨ (sg x = true ∧ txt x = 45 :: txt (wd (!sg x) (rg x))) := by
  obtain ⟨a, b, c⟩ := neg_facts x
  have e1 : txt x = (if sg x then [45] else []) ++ (if rg x < C12 then Lib.decDigits (Mv (rg x) / U) ++ [46] ++ pad3 (Mv (th (rg x)) / U) else [105, 110, 102]) := by unfold txt; rw [h]; rfl
  have e2 : txt (wd (!sg x) (rg x)) = (if (!sg x) then [45] else []) ++ (if rg x < C12 then Lib.decDigits (Mv (rg x) / U) ++ [46] ++ pad3 (Mv (th (rg x)) / U) else [105, 110, 102]) := by unfold txt; rw [c, h, a, b]; rfl
  rw [e1, e2]
  cases sg x
  · exact .inl ⟨rfl, rfl⟩
  · exact .inr ⟨rfl, rfl⟩
theorem txt_len (x : Nat) : (txt x).length ≤ 17 := by
  unfold txt
  cases nanB x with
  | true => rw [if_pos rfl]; decide
  | false =>
    rw [if_neg (by decide)]
    have h1 : (if sg x = true then [(45 : UInt8)] else []).length ≤ 1 := by cases sg x <;> decide
    rw [List.length_append]
    by_cases hb : rg x < C12
    · rw [if_pos hb]
      have h2 := dig_len12 _ (whole_lt _ hb)
      have h3 := len_1000 _ (th_999 (rg x))
      have h4 : (pad3 (Mv (th (rg x)) / U)).length = 3 := by unfold pad3; rw [List.length_drop, h3]
      rw [List.length_append, List.length_append, h4]
      simp only [List.length_cons, List.length_nil]
      omega
    · rw [if_neg hb]
      have h5 : ([105, 110, 102] : List UInt8).length = 3 := rfl
      omega
theorem app_minus (l : List UInt8) : ((⟨#[45]⟩ : ByteArray) ++ ⟨l.toArray⟩) = ⟨(45 :: l).toArray⟩ := by
  have : (⟨#[45]⟩ : ByteArray) = ⟨[45].toArray⟩ := rfl
  rw [this, ByteArray.mk_append_mk]; rfl
set_option maxHeartbeats 4000000 in
theorem signs_none (a b : Nat) (ha : a < 18446744073709551616) (hb : b < 18446744073709551616) (h : nanB a = true ∨ nanB b = true) (w : World) (ht : TabAt w) : Calls Tryd.prog 6 #[.float .f64 a, .float .f64 b] w fun e w' => e = .returned (.bool true) ∧ Below w.heap.size w w' := by
  have T := Lib.hid ht
  clear ht
  have A := Lib.hid (alive_any _ T.out)
  have ta : ∀ x, nanB x = true → txt x = [110, 111, 110, 101] := fun x hx => by unfold txt; rw [if_pos hx]
  have TA := Lib.hid ta
  clear ta
  cases an : nanB a with
  | true =>
    cases bn : nanB b with
    | true =>
      have n1 := Lib.hid (TA.out a an)
      have n2 := Lib.hid (TA.out b bn)
      clear h
      go_enter Tryd.func6, Tryd.ntmps6
      go_wp2_with (first | (go_at_call 14; refine (none_any _ _).mono ?_; rintro e w' ⟨rfl, rfl⟩))
      refine (A.out).mono ?_
      rintro e w1 ⟨rfl, hb1⟩
      have B1 := Lib.hid hb1
      clear hb1
      go_wp2_with (first | (go_at_call 14; refine (none_any _ _).mono ?_; rintro e w' ⟨rfl, rfl⟩))
      refine (Text_any a ha _ (T.out.below B1.out)).mono ?_
      rintro e w2 ⟨s1, rfl, l1, z1, hb2⟩
      rw [n1.out] at l1
      have e1 := str_of l1
      subst e1
      have B2 := Lib.hid (B1.out.trans (hb2.mono B1.out.size))
      clear l1 z1 hb2 B1
      go_wp2_with (first | (go_at_call 14; refine (none_any _ _).mono ?_; rintro e w' ⟨rfl, rfl⟩))
      refine (Text_any b hb _ (T.out.below B2.out)).mono ?_
      rintro e w3 ⟨s2, rfl, l2, z2, hb3⟩
      rw [n2.out] at l2
      have e2 := str_of l2
      subst e2
      have B3 := Lib.hid (B2.out.trans (hb3.mono B2.out.size))
      clear l2 z2 hb3 B2
      go_wp2
      go_ret
      exact ⟨rfl, B3.out⟩
    | false =>
      have n1 := Lib.hid (TA.out a an)
      clear h
      go_enter Tryd.func6, Tryd.ntmps6
      go_wp2_with (first | (go_at_call 14; refine (none_any _ _).mono ?_; rintro e w' ⟨rfl, rfl⟩))
      refine (A.out).mono ?_
      rintro e w1 ⟨rfl, hb1⟩
      have B1 := Lib.hid hb1
      clear hb1
      go_wp2_with (first | (go_at_call 14; refine (none_any _ _).mono ?_; rintro e w' ⟨rfl, rfl⟩))
      refine (Text_any a ha _ (T.out.below B1.out)).mono ?_
      rintro e w2 ⟨s1, rfl, l1, z1, hb2⟩
      rw [n1.out] at l1
      have e1 := str_of l1
      subst e1
      have B2 := Lib.hid (B1.out.trans (hb2.mono B1.out.size))
      clear l1 z1 hb2 B1
      go_wp2_with (first | (go_at_call 14; refine (none_any _ _).mono ?_; rintro e w' ⟨rfl, rfl⟩))
      go_ret
      exact ⟨rfl, B2.out⟩
  | false =>
    cases bn : nanB b with
    | true =>
      have n2 := Lib.hid (TA.out b bn)
      clear h
      go_enter Tryd.func6, Tryd.ntmps6
      go_wp2_with (first | (go_at_call 14; refine (none_any _ _).mono ?_; rintro e w' ⟨rfl, rfl⟩))
      refine (A.out).mono ?_
      rintro e w1 ⟨rfl, hb1⟩
      have B1 := Lib.hid hb1
      clear hb1
      go_wp2_with (first | (go_at_call 14; refine (none_any _ _).mono ?_; rintro e w' ⟨rfl, rfl⟩))
      refine (Text_any b hb _ (T.out.below B1.out)).mono ?_
      rintro e w3 ⟨s2, rfl, l2, z2, hb3⟩
      rw [n2.out] at l2
      have e2 := str_of l2
      subst e2
      have B3 := Lib.hid (B1.out.trans (hb3.mono B1.out.size))
      clear l2 z2 hb3 B1
      go_wp2
      go_ret
      exact ⟨rfl, B3.out⟩
    | false => rw [an, bn] at h; simp at h
set_option maxHeartbeats 4000000 in
theorem signs_num (a b : Nat) (ha : a < 18446744073709551616) (hb : b < 18446744073709551616) (an : nanB a = false) (bn : nanB b = false) (w : World) (ht : TabAt w) : Calls Tryd.prog 6 #[.float .f64 a, .float .f64 b] w fun e w' => e = .returned (.bool true) ∧ Below w.heap.size w w' := by
  have T := Lib.hid ht
  clear ht
  have na := neg_run' a ha
  have nb := neg_run' b hb
  have X := txt_neg a an
  have la := txt_len a
  have lb := txt_len (wd (!sg a) (rg a))
  have ca := neg_lt a
  have cb := neg_lt b
  have C := Lib.hid (show cmpI (tk (wd (!sg b) (rg b))) (tk (wd (!sg a) (rg a))) = cmpI (tk a) (tk b) by rw [neg_tk a an, neg_tk b bn]; exact cmp_neg _ _)
  generalize wd (!sg a) (rg a) = a' at *
  generalize wd (!sg b) (rg b) = b' at *
  have X : txt a' = 45 :: txt a ∨ txt a = 45 :: txt a' := X.imp (·.2) (·.2)
  rcases X with x | x
  · have x' := Lib.hid x
    clear x
    go_enter Tryd.func6, Tryd.ntmps6
    go_wp2_with (first | (go_at_call 14; refine (none_any _ _).mono ?_; rintro e w' ⟨rfl, rfl⟩))
    refine (Text_any a ha _ T.out).mono ?_
    rintro e w1 ⟨s1, rfl, l1, z1, hb1⟩
    have e1 := str_of l1
    subst e1
    have B1 := Lib.hid hb1
    clear l1 z1 hb1
    go_wp2_with fail
    refine (Text_any a' ca _ (T.out.below B1.out)).mono ?_
    rw [x'.out]
    rintro e w2 ⟨s2, rfl, l2, z2, hb2⟩
    have e2 := str_of l2
    subst e2
    have B2 := Lib.hid (B1.out.trans (hb2.mono B1.out.size))
    clear l2 z2 hb2 B1
    have ap := app_minus (txt a)
    have sz : (⟨(txt a).toArray⟩ : ByteArray).size ≤ 17 := by rw [str_size]; exact la
    generalize txt a = l at *
    go_wp2_with fail
    refine (alive_any _ (T.out.below B2.out)).mono ?_
    rintro e w3 ⟨rfl, hb3⟩
    have B3 := Lib.hid (B2.out.trans (hb3.mono B2.out.size))
    clear hb3 B2
    go_wp2_with fail
    refine (Order_any b' a' cb ca _).mono ?_
    rw [C.out]
    rintro e w' ⟨rfl, rfl⟩
    go_wp2_with fail
    refine (Order_any a b ha hb _).mono ?_
    rintro e w' ⟨rfl, rfl⟩
    generalize cmpI (tk a) (tk b) = c
    go_wp2
    go_ret
    exact ⟨rfl, B3.out⟩
  · have x' := Lib.hid x
    clear x
    go_enter Tryd.func6, Tryd.ntmps6
    go_wp2_with (first | (go_at_call 14; refine (none_any _ _).mono ?_; rintro e w' ⟨rfl, rfl⟩))
    refine (Text_any a ha _ T.out).mono ?_
    rw [x'.out]
    rintro e w1 ⟨s1, rfl, l1, z1, hb1⟩
    have e1 := str_of l1
    subst e1
    have B1 := Lib.hid hb1
    clear l1 z1 hb1
    go_wp2_with fail
    refine (Text_any a' ca _ (T.out.below B1.out)).mono ?_
    rintro e w2 ⟨s2, rfl, l2, z2, hb2⟩
    have e2 := str_of l2
    subst e2
    have B2 := Lib.hid (B1.out.trans (hb2.mono B1.out.size))
    clear l2 z2 hb2 B1
    have ap := app_minus (txt a')
    have sz : (⟨(txt a').toArray⟩ : ByteArray).size ≤ 17 := by rw [str_size]; exact lb
    have sz2 : (⟨(45 :: txt a').toArray⟩ : ByteArray).size ≤ 18 := by rw [str_size, List.length_cons]; omega
    have ap2 := app_minus (45 :: txt a')
    generalize txt a' = l at *
    have ne1 : ¬ (45 :: 45 :: l = l) := fun h => by have := congrArg List.length h; simp at this <;> omega
    have ne2 : ((45 :: 45 :: l) == l) = false := by rw [beq_eq_false_iff_ne]; exact ne1
    all_goals
      go_wp2_with fail
      refine (alive_any _ (T.out.below B2.out)).mono ?_
      rintro e w3 ⟨rfl, hb3⟩
      have B3 := Lib.hid (B2.out.trans (hb3.mono B2.out.size))
      clear hb3 B2
      go_wp2_with fail
      refine (Order_any b' a' cb ca _).mono ?_
      rw [C.out]
      rintro e w' ⟨rfl, rfl⟩
      go_wp2_with fail
      refine (Order_any a b ha hb _).mono ?_
      rintro e w' ⟨rfl, rfl⟩
      generalize cmpI (tk a) (tk b) = c
      go_wp2
      go_ret
      exact ⟨rfl, B3.out⟩
theorem signs (a b : Nat) (ha : a < 18446744073709551616) (hb : b < 18446744073709551616) (w : World) (ht : TabAt w) : Calls Tryd.prog 6 #[.float .f64 a, .float .f64 b] w fun e w' => e = .returned (.bool true) ∧ Below w.heap.size w w' := by
  cases an : nanB a with
  | true => exact signs_none a b ha hb (.inl an) w ht
  | false =>
    cases bn : nanB b with
    | true => exact signs_none a b ha hb (.inr bn) w ht
    | false => exact signs_num a b ha hb an bn w ht
end Go.Proofs.YtmahjlmblgboaaaDoor
