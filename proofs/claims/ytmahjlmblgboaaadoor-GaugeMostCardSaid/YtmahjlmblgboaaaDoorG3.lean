/- Contracts of a rate's text. Conditions: the word is a double; the table of the powers of ten reads as it is laid. -/
import Derived.Test.YtmahjlmblgboaaaDoorG2
import Derived.Test.YtmahjlmblgboaaaDoorShelf
import Derived.Lib.AppendIntMem
import Derived.Lib.SmallJoins
import Derived.Lib.IndexBytes
namespace Go.Proofs.YtmahjlmblgboaaaDoor
open Go.RowKit
set_option linter.unusedVariables false
/-- the library's table of the powers of ten reads as it is laid -/
def TabAt (w : World) : Prop := Lib.TabIs Tryd.prog w "internal/strconv.uint64pow10" .u64 Lib.pow10Tab
theorem TabAt.below {w w' : World} (h : TabAt w) (hb : Below w.heap.size w w') : TabAt w' := Lib.tabBelow_of_tabIs h w' hb
/-- what a call that hands back a text leaves -/
def TP (l : List UInt8) (w : World) (e : Ending) (w' : World) : Prop := ∃ s : ByteArray, e = .returned (.string s) ∧ s.data.toList = l ∧ s.size = l.length ∧ Below w.heap.size w w'
theorem below_grow (w : World) (k : Nat) (os : Array Obj) : Below w.heap.size w (Sort.grow (w.drewN k) os) :=
  ⟨rfl, rfl, rfl, by simp [Sort.grow, World.drewN], fun i hi => by simp [Sort.grow, World.drewN, Array.getElem?_append, hi]⟩
theorem str_size (l : List UInt8) : (⟨l.toArray⟩ : ByteArray).size = l.length := by simp [ByteArray.size]
theorem itoa_any (n : Nat) (h : n < 9223372036854775808) (w : World) (ht : TabAt w) : Calls Tryd.prog 24 #[.int .i64 n] w (TP (Lib.decDigits n) w) :=
  (Tryd.strconv_Itoa n (by omega) (by omega) w ht).mono fun e w' ⟨he, k, os, hw⟩ => by
    have e1 : Lib.itoa (n : Int) = Lib.decDigits n := by unfold Lib.itoa; rw [if_neg (by omega), Int.toNat_natCast]
    rw [e1] at he
    exact ⟨_, he, rfl, str_size _, by rw [hw]; exact below_grow w k os⟩
theorem fmt_any (n : Nat) (h : n < 9223372036854775808) (w : World) (ht : TabAt w) : Calls Tryd.prog 31 #[.int .i64 n, .int .i64 10] w (TP (Lib.decDigits n) w) :=
  (Tryd.strconv_FormatInt_10 n (by omega) (by omega) w ht).mono fun e w' ⟨he, k, os, hw⟩ => by
    have e1 : Lib.itoa (n : Int) = Lib.decDigits n := by unfold Lib.itoa; rw [if_neg (by omega), Int.toNat_natCast]
    rw [e1] at he
    exact ⟨_, he, rfl, str_size _, by rw [hw]; exact below_grow w k os⟩
theorem conv_int (t : TypeId) (u : Tryd.prog.underlying t = some (.int .i64)) (x n : Nat) (hs : sg x = false) (h : rg x < I) (hn : Mv (rg x) / U = n) (hb : n < 9223372036854775808) (w : World) : (convert 43 t (.float .f64 x)).run Tryd.prog w = .ok (.int .i64 n) w := by
  refine run_convert_float_int w 43 t .f64 .i64 x n (by rw [Tryd.underlying43]; rfl) u ?_
  unfold floatToIntVal
  have e : (FloatKind.f64.decode x).toInt .zero = some ((Mv (rg x) / U : Nat) : Int) := toInt_val x hs h
  rw [e, hn]
  have e2 : IntKind.i64.min = -9223372036854775808 := by decide
  have e3 : IntKind.i64.max = 9223372036854775807 := by decide
  rw [e2, e3]
  show (if _ ∧ _ then some (n : Int) else none) = _
  rw [if_pos ⟨by omega, by omega⟩]
theorem conv_wI (t : TypeId) (u : Tryd.prog.underlying t = some (.int .i64)) (n : Nat) (hb : n < 9007199254740992) (w : World) : (convert 43 t (.float .f64 (wI n))).run Tryd.prog w = .ok (.int .i64 n) w := by
  have hv := rI_val n hb
  refine conv_int t u (wI n) n (sg_wI n hb) (by rw [rg_wI n hb]; exact hv.2) ?_ (by omega) w
  rw [rg_wI n hb, hv.1, Nat.mul_div_cancel _ U_pos]
theorem sg_rg (x : Nat) : sg (rg x) = false := by
  have := rg_lt x
  unfold sg
  rw [Nat.div_eq_of_lt this]; rfl
theorem rg_rg (x : Nat) : rg (rg x) = rg x := Nat.mod_eq_of_lt (rg_lt x)
theorem wd_rg (x : Nat) : wd false (rg x) = rg x := rfl
theorem ky_rg (x : Nat) : ky (rg x) = rg x := by unfold ky; rw [sg_rg, rg_rg]; rfl
theorem nan_rg (x : Nat) : nanB (rg x) = nanB x := by unfold nanB; rw [rg_rg]
theorem C12_num : nanB C12 = false ∧ ky C12 = (C12 : Int) := by decide
theorem dig_len : ∀ (k u : Nat), u < 10 ^ (k + 1) → (Lib.decDigits u).length ≤ k + 1
  | 0, u, h => by rw [dig1 (by omega)]; exact Nat.le_refl _
  | k + 1, u, h => by
    by_cases c : u < 10
    · rw [dig1 c]; simp
    · rw [dig2 c, List.length_append]
      have := dig_len k (u / 10) (by rw [Nat.div_lt_iff_lt_mul (by decide), ← Nat.pow_succ]; exact h)
      simp; omega
theorem dig_len12 (u : Nat) (h : u < 1000000000000) : (Lib.decDigits u).length ≤ 12 := dig_len 11 u h
theorem dig_len3 (u : Nat) (h : u ≤ 999) : (Lib.decDigits u).length ≤ 3 := dig_len 2 u (by omega)
theorem size_list (s : ByteArray) : s.size = s.data.toList.length := by rw [Array.length_toList]; rfl
theorem TP.mk {l : List UInt8} {w w' : World} {s : ByteArray} (h : s.data.toList = l) (hb : Below w.heap.size w w') : TP l w (.returned (.string s)) w' := ⟨s, rfl, h, by rw [size_list, h], hb⟩
theorem drop4 (s : ByteArray) (l : List UInt8) (h : s.data.toList = l) (hl : l.length = 4) : (s.extract 1 4).data.toList = l.drop 1 := by
  rw [Lib.extract_data, h, List.take_of_length_le (by rw [List.length_drop, hl]; omega)]
set_option maxHeartbeats 4000000 in
theorem Text_any (x : Nat) (hx : x < 18446744073709551616) (w : World) (ht : TabAt w) : Calls Tryd.prog 18 #[.float .f64 x] w (TP (txt x) w) := by
  have T := Lib.hid ht
  clear ht
  cases xn : nanB x with
  | true =>
    have r := Lib.hid (show txt x = [110, 111, 110, 101] by unfold txt; rw [if_pos xn])
    go_enter Tryd.func18, Tryd.ntmps18
    go_wp2_with (go_at_call 26; refine (isnan_any _ _).mono ?_; rintro e w' ⟨rfl, rfl⟩)
    go_ret
    exact ⟨_, rfl, by rw [r.out], by rw [r.out]; rfl, Below.refl _ _⟩
  | false =>
    by_cases hbig : rg x < C12
    · obtain ⟨n, hn⟩ : ∃ n, Mv (rg x) / U = n := ⟨_, rfl⟩
      obtain ⟨q, hq⟩ : ∃ q, Mv (th (rg x)) / U = q := ⟨_, rfl⟩
      have nlt := whole_lt _ hbig
      have qle := th_999 (rg x)
      rw [hn] at nlt
      rw [hq] at qle
      have r := Lib.hid (show txt x = (if sg x then [45] else []) ++ (Lib.decDigits n ++ [46] ++ pad3 q) by unfold txt; rw [xn, if_pos hbig, hn, hq]; rfl)
      have o : FloatKind.f64.format.order (rg x) 4786511204640096256 = some .lt := ord_lt (by rw [nan_rg]; exact xn) C12_num.1 (by rw [ky_rg, show ky 4786511204640096256 = _ from C12_num.2]; exact Int.ofNat_lt.2 hbig)
      have F1 := Lib.hid (floor_any (rg x) (sg_rg x) (by rw [rg_rg]; exact Nat.lt_trans hbig C12_val.2))
      have F2 := Lib.hid (floor_any (wd false (th (rg x))) (sg_wd false (Nat.lt_trans (th_lt _) I_lt)) (by rw [rg_wd false (Nat.lt_trans (th_lt _) I_lt)]; exact th_lt _))
      rw [rg_rg, hn] at F1
      rw [rg_wd false (Nat.lt_trans (th_lt _) I_lt), hq] at F2
      have d1 := fun w => run_float_arith (P := Tryd.prog) w .sub 43 .f64 (rg x) (wI n) _ (by rw [← hn]; exact sub_whole (rg x) hbig)
      have d2 := fun w => run_float_arith (P := Tryd.prog) w .mul 43 .f64 (wd false (fr (rg x))) 4652007308841189376 _ (mul_frac (rg x))
      have v1 := conv_wI 3 Tryd.underlying3 q (by omega)
      have v2 := conv_wI 2 Tryd.underlying2 n (by omega)
      clear hbig hn hq
      generalize wd false (th (rg x)) = Y at *
      generalize wd false (fr (rg x)) = D at *
      generalize wI n = N at *
      generalize wI q = Q at *
      have AB0 := Lib.hid (abs_any x hx)
      generalize rg x = z at *
      have P4 := Lib.hid (len_1000 q qle)
      have I4 := Lib.hid (fun w ht => itoa_any (1000 + q) (by omega) w ht)
      have I5 := Lib.hid (fun w ht => fmt_any n (by omega) w ht)
      have ec : ((1000 + q : Nat) : Int) = 1000 + (q : Int) := by omega
      rw [ec] at I4
      clear ec
      have P5 := Lib.hid (dig_len12 n nlt)
      have AB := AB0
      cases hs : sg x with
      | true =>
        go_enter Tryd.func18, Tryd.ntmps18
        go_wp2_with (first | (go_at_call 26; refine (isnan_any _ _).mono ?_; rintro e w' ⟨rfl, rfl⟩) | (go_at_call 27; refine (signbit_any _ (by assumption) _).mono ?_; rintro e w' ⟨rfl, rfl⟩) | (go_at_call 29; refine (AB.out _).mono ?_; rintro e w' ⟨rfl, rfl⟩))
        refine (F1.out _).mono ?_
        rintro e w' ⟨rfl, rfl⟩
        go_wp2_with fail
        refine (F2.out _).mono ?_
        rintro e w' ⟨rfl, rfl⟩
        go_wp2_with fail
        refine (I4.out _ T.out).mono ?_
        rintro e w1 ⟨s4, rfl, y4, z4, hb4⟩
        have hs4 : s4.size = 4 := z4.trans P4.out
        have Y4 := Lib.hid y4
        have B4 := Lib.hid hb4
        clear y4 z4 hb4
        go_wp2_with fail
        refine (I5.out _ (T.out.below B4.out)).mono ?_
        rintro e w2 ⟨s5, rfl, y5, z5, hb5⟩
        have hs5 : s5.size ≤ 12 := by rw [z5]; exact P5.out
        have Y5 := Lib.hid y5
        have B5 := Lib.hid (B4.out.trans (hb5.mono B4.out.size))
        clear y5 z5 hb5
        go_wp2
        go_ret
        refine TP.mk ?_ B5.out
        rw [r.out, hs]
        simp only [Joins.data_append, drop4 s4 _ Y4.out P4.out, Y5.out]
        simp [pad3]
      | false =>
        go_enter Tryd.func18, Tryd.ntmps18
        go_wp2_with (first | (go_at_call 26; refine (isnan_any _ _).mono ?_; rintro e w' ⟨rfl, rfl⟩) | (go_at_call 27; refine (signbit_any _ (by assumption) _).mono ?_; rintro e w' ⟨rfl, rfl⟩) | (go_at_call 29; refine (AB.out _).mono ?_; rintro e w' ⟨rfl, rfl⟩))
        refine (F1.out _).mono ?_
        rintro e w' ⟨rfl, rfl⟩
        go_wp2_with fail
        refine (F2.out _).mono ?_
        rintro e w' ⟨rfl, rfl⟩
        go_wp2_with fail
        refine (I4.out _ T.out).mono ?_
        rintro e w1 ⟨s4, rfl, y4, z4, hb4⟩
        have hs4 : s4.size = 4 := z4.trans P4.out
        have Y4 := Lib.hid y4
        have B4 := Lib.hid hb4
        clear y4 z4 hb4
        go_wp2_with fail
        refine (I5.out _ (T.out.below B4.out)).mono ?_
        rintro e w2 ⟨s5, rfl, y5, z5, hb5⟩
        have hs5 : s5.size ≤ 12 := by rw [z5]; exact P5.out
        have Y5 := Lib.hid y5
        have B5 := Lib.hid (B4.out.trans (hb5.mono B4.out.size))
        clear y5 z5 hb5
        go_wp2
        go_ret
        refine TP.mk ?_ B5.out
        rw [r.out, hs]
        simp only [Joins.data_append, drop4 s4 _ Y4.out P4.out, Y5.out]
        simp [pad3]
    · skip
      have o : FloatKind.f64.format.order (rg x) 4786511204640096256 = some .gt ∨ FloatKind.f64.format.order (rg x) 4786511204640096256 = some .eq := by
        rcases Nat.eq_or_lt_of_le (Nat.not_lt.1 hbig) with c | c
        · right; exact ord_eq (by rw [nan_rg]; exact xn) C12_num.1 (by rw [ky_rg, show ky 4786511204640096256 = _ from C12_num.2, c])
        · left; exact ord_gt (by rw [nan_rg]; exact xn) C12_num.1 (by rw [ky_rg, show ky 4786511204640096256 = _ from C12_num.2]; exact Int.ofNat_lt.2 c)
      have r := Lib.hid (show txt x = (if sg x then [45] else []) ++ [105, 110, 102] by unfold txt; rw [xn, if_neg hbig]; rfl)
      have AB := Lib.hid (abs_any x hx)
      clear hbig
      generalize rg x = z at *
      rcases o with o | o
      all_goals
        cases hs : sg x
        all_goals
          go_enter Tryd.func18, Tryd.ntmps18
          go_wp2_with (first | (go_at_call 26; refine (isnan_any _ _).mono ?_; rintro e w' ⟨rfl, rfl⟩) | (go_at_call 27; refine (signbit_any _ (by assumption) _).mono ?_; rintro e w' ⟨rfl, rfl⟩) | (go_at_call 29; refine (AB.out _).mono ?_; rintro e w' ⟨rfl, rfl⟩))
          go_ret
          refine TP.mk ?_ (Below.refl _ _)
          rw [r.out, hs]
          rfl
end Go.Proofs.YtmahjlmblgboaaaDoor
