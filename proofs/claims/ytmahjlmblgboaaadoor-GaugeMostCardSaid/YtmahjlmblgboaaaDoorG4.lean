/- Contract of the reference's text of a rate; that two of three are so many thousandths. Conditions: the word is a double; the table of the powers of ten reads as it is laid. -/
import Derived.Test.YtmahjlmblgboaaaDoorG3
namespace Go.Proofs.YtmahjlmblgboaaaDoor
open Go.RowKit
set_option linter.unusedVariables false
theorem neg_true {x : Nat} (h : x < 18446744073709551616) (hs : sg x = true) : Op.negFloat .f64 x = rg x := by rw [neg_bits x h, hs]; rfl
theorem neg_run {x : Nat} (h : x < 18446744073709551616) (hs : sg x = true) : ∀ w, (Op.unary .neg (.float .f64 x)).run Tryd.prog w = .ok (.float .f64 (rg x)) w := fun w => by rw [← neg_true h hs]; rfl
theorem pos_self {x : Nat} (h : x < 18446744073709551616) (hs : sg x = false) : x = rg x := by
  have := wd_of x h
  rw [hs] at this; exact this.symm
set_option maxHeartbeats 4000000 in
theorem text_neg (x : Nat) (hx : x < 18446744073709551616) (xn : nanB x = false) (hs : sg x = true) (hbig : rg x < C12) (w : World) (ht : TabAt w) : Calls Tryd.prog 19 #[.float .f64 x] w (TP (txt x) w) := by
  have T := Lib.hid ht
  clear ht
  obtain ⟨n, hn⟩ : ∃ n, Mv (rg x) / U = n := ⟨_, rfl⟩
  obtain ⟨q, hq⟩ : ∃ q, Mv (th (rg x)) / U = q := ⟨_, rfl⟩
  have nlt := whole_lt _ hbig
  have qle := th_999 (rg x)
  rw [hn] at nlt
  rw [hq] at qle
  have r := Lib.hid (show txt x = [45] ++ (Lib.decDigits n ++ [46] ++ pad3 q) by unfold txt; rw [xn, if_pos hbig, hn, hq, hs]; rfl)
  have o : FloatKind.f64.format.order (rg x) 4786511204640096256 = some .lt := ord_lt (by rw [nan_rg]; exact xn) C12_num.1 (by rw [ky_rg, show ky 4786511204640096256 = _ from C12_num.2]; exact Int.ofNat_lt.2 hbig)
  have d1 := fun w => run_float_arith (P := Tryd.prog) w .sub 43 .f64 (rg x) (wI n) _ (by rw [← hn]; exact sub_whole (rg x) hbig)
  have d2 := fun w => run_float_arith (P := Tryd.prog) w .mul 43 .f64 (wd false (fr (rg x))) 4652007308841189376 _ (mul_frac (rg x))
  have v2 := conv_int 2 Tryd.underlying2 (rg x) n (sg_rg x) (by rw [rg_rg]; exact Nat.lt_trans hbig C12_val.2) (by rw [rg_rg]; exact hn) (by omega)
  have v3 := conv_int 2 Tryd.underlying2 (wd false (th (rg x))) q (sg_wd false (Nat.lt_trans (th_lt _) I_lt)) (by rw [rg_wd false (Nat.lt_trans (th_lt _) I_lt)]; exact th_lt _) (by rw [rg_wd false (Nat.lt_trans (th_lt _) I_lt)]; exact hq) (by omega)
  have cn := conv_nat n
  have ng := neg_run hx hs
  have P4 := Lib.hid (dig_len12 n nlt)
  have P5 := Lib.hid (dig_len3 q qle)
  have I4 := Lib.hid (fun w ht => fmt_any n (by omega) w ht)
  have I5 := Lib.hid (fun w ht => fmt_any q (by omega) w ht)
  clear hbig hn hq
  generalize wd false (th (rg x)) = Y at *
  generalize wd false (fr (rg x)) = D at *
  generalize wI n = N at *
  generalize rg x = z at *
  rcases Nat.lt_or_ge q 10 with ca | ca
  · have t1 : decide (q < 10) = true := decide_eq_true ca
    have t2 : decide (q < 100) = true := decide_eq_true (by omega)
    go_enter Tryd.func19, Tryd.ntmps19
    go_wp2_with (first | (go_at_call 14; refine (none_any _ _).mono ?_; rintro e w' ⟨rfl, rfl⟩) | (go_at_call 25; refine (minus_any _ (by assumption) _).mono ?_; rintro e w' ⟨rfl, rfl⟩))
    refine (I4.out _ T.out).mono ?_
    rintro e w1 ⟨s4, rfl, y4, z4, hb4⟩
    have hs4 : s4.size ≤ 12 := by rw [z4]; exact P4.out
    have Y4 := Lib.hid y4
    have B4 := Lib.hid hb4
    clear y4 z4 hb4
    go_wp2_with fail
    refine (I5.out _ (T.out.below B4.out)).mono ?_
    rintro e w2 ⟨s5, rfl, y5, z5, hb5⟩
    have hs5 : s5.size ≤ 3 := by rw [z5]; exact P5.out
    have Y5 := Lib.hid y5
    have B5 := Lib.hid (B4.out.trans (hb5.mono B4.out.size))
    clear y5 z5 hb5
    go_wp2
    go_ret
    refine TP.mk ?_ B5.out
    rw [r.out]
    rw [pad_a q ca]
    simp only [Joins.data_append, Y4.out, Y5.out]
    simp
  · rcases Nat.lt_or_ge q 100 with cb | cb
    · have t1 : decide (q < 10) = false := decide_eq_false (by omega)
      have t2 : decide (q < 100) = true := decide_eq_true cb
      go_enter Tryd.func19, Tryd.ntmps19
      go_wp2_with (first | (go_at_call 14; refine (none_any _ _).mono ?_; rintro e w' ⟨rfl, rfl⟩) | (go_at_call 25; refine (minus_any _ (by assumption) _).mono ?_; rintro e w' ⟨rfl, rfl⟩))
      refine (I4.out _ T.out).mono ?_
      rintro e w1 ⟨s4, rfl, y4, z4, hb4⟩
      have hs4 : s4.size ≤ 12 := by rw [z4]; exact P4.out
      have Y4 := Lib.hid y4
      have B4 := Lib.hid hb4
      clear y4 z4 hb4
      go_wp2_with fail
      refine (I5.out _ (T.out.below B4.out)).mono ?_
      rintro e w2 ⟨s5, rfl, y5, z5, hb5⟩
      have hs5 : s5.size ≤ 3 := by rw [z5]; exact P5.out
      have Y5 := Lib.hid y5
      have B5 := Lib.hid (B4.out.trans (hb5.mono B4.out.size))
      clear y5 z5 hb5
      go_wp2
      go_ret
      refine TP.mk ?_ B5.out
      rw [r.out]
      rw [pad_b q ca cb]
      simp only [Joins.data_append, Y4.out, Y5.out]
      simp
    · have t1 : decide (q < 10) = false := decide_eq_false (by omega)
      have t2 : decide (q < 100) = false := decide_eq_false (by omega)
      go_enter Tryd.func19, Tryd.ntmps19
      go_wp2_with (first | (go_at_call 14; refine (none_any _ _).mono ?_; rintro e w' ⟨rfl, rfl⟩) | (go_at_call 25; refine (minus_any _ (by assumption) _).mono ?_; rintro e w' ⟨rfl, rfl⟩))
      refine (I4.out _ T.out).mono ?_
      rintro e w1 ⟨s4, rfl, y4, z4, hb4⟩
      have hs4 : s4.size ≤ 12 := by rw [z4]; exact P4.out
      have Y4 := Lib.hid y4
      have B4 := Lib.hid hb4
      clear y4 z4 hb4
      go_wp2_with fail
      refine (I5.out _ (T.out.below B4.out)).mono ?_
      rintro e w2 ⟨s5, rfl, y5, z5, hb5⟩
      have hs5 : s5.size ≤ 3 := by rw [z5]; exact P5.out
      have Y5 := Lib.hid y5
      have B5 := Lib.hid (B4.out.trans (hb5.mono B4.out.size))
      clear y5 z5 hb5
      go_wp2
      go_ret
      refine TP.mk ?_ B5.out
      rw [r.out]
      rw [pad_c q cb qle]
      simp only [Joins.data_append, Y4.out, Y5.out]
      simp
set_option maxHeartbeats 4000000 in
theorem text_pos (x : Nat) (hx : x < 18446744073709551616) (xn : nanB x = false) (hs : sg x = false) (hbig : rg x < C12) (w : World) (ht : TabAt w) : Calls Tryd.prog 19 #[.float .f64 x] w (TP (txt x) w) := by
  have T := Lib.hid ht
  clear ht
  obtain ⟨n, hn⟩ : ∃ n, Mv (rg x) / U = n := ⟨_, rfl⟩
  obtain ⟨q, hq⟩ : ∃ q, Mv (th (rg x)) / U = q := ⟨_, rfl⟩
  have nlt := whole_lt _ hbig
  have qle := th_999 (rg x)
  rw [hn] at nlt
  rw [hq] at qle
  have r := Lib.hid (show txt x = [] ++ (Lib.decDigits n ++ [46] ++ pad3 q) by unfold txt; rw [xn, if_pos hbig, hn, hq, hs]; rfl)
  have o : FloatKind.f64.format.order (rg x) 4786511204640096256 = some .lt := ord_lt (by rw [nan_rg]; exact xn) C12_num.1 (by rw [ky_rg, show ky 4786511204640096256 = _ from C12_num.2]; exact Int.ofNat_lt.2 hbig)
  have d1 := fun w => run_float_arith (P := Tryd.prog) w .sub 43 .f64 (rg x) (wI n) _ (by rw [← hn]; exact sub_whole (rg x) hbig)
  have d2 := fun w => run_float_arith (P := Tryd.prog) w .mul 43 .f64 (wd false (fr (rg x))) 4652007308841189376 _ (mul_frac (rg x))
  have v2 := conv_int 2 Tryd.underlying2 (rg x) n (sg_rg x) (by rw [rg_rg]; exact Nat.lt_trans hbig C12_val.2) (by rw [rg_rg]; exact hn) (by omega)
  have v3 := conv_int 2 Tryd.underlying2 (wd false (th (rg x))) q (sg_wd false (Nat.lt_trans (th_lt _) I_lt)) (by rw [rg_wd false (Nat.lt_trans (th_lt _) I_lt)]; exact th_lt _) (by rw [rg_wd false (Nat.lt_trans (th_lt _) I_lt)]; exact hq) (by omega)
  have cn := conv_nat n
  have es := pos_self hx hs
  have X := Lib.hid xn
  have P4 := Lib.hid (dig_len12 n nlt)
  have P5 := Lib.hid (dig_len3 q qle)
  have I4 := Lib.hid (fun w ht => fmt_any n (by omega) w ht)
  have I5 := Lib.hid (fun w ht => fmt_any q (by omega) w ht)
  clear hbig hn hq
  generalize wd false (th (rg x)) = Y at *
  generalize wd false (fr (rg x)) = D at *
  generalize wI n = N at *
  rw [← es] at o d1 v2
  have es' := Lib.hid es
  clear es
  rcases Nat.lt_or_ge q 10 with ca | ca
  · have t1 : decide (q < 10) = true := decide_eq_true ca
    have t2 : decide (q < 100) = true := decide_eq_true (by omega)
    go_enter Tryd.func19, Tryd.ntmps19
    go_wp2_with (first | (go_at_call 14; refine (none_any _ _).mono ?_; rintro e w' ⟨rfl, rfl⟩) | (go_at_call 25; refine (minus_any _ (by assumption) _).mono ?_; rintro e w' ⟨rfl, rfl⟩))
    refine (I4.out _ T.out).mono ?_
    rintro e w1 ⟨s4, rfl, y4, z4, hb4⟩
    have hs4 : s4.size ≤ 12 := by rw [z4]; exact P4.out
    have Y4 := Lib.hid y4
    have B4 := Lib.hid hb4
    clear y4 z4 hb4
    go_wp2_with fail
    refine (I5.out _ (T.out.below B4.out)).mono ?_
    rintro e w2 ⟨s5, rfl, y5, z5, hb5⟩
    have hs5 : s5.size ≤ 3 := by rw [z5]; exact P5.out
    have Y5 := Lib.hid y5
    have B5 := Lib.hid (B4.out.trans (hb5.mono B4.out.size))
    clear y5 z5 hb5
    go_wp2
    go_ret
    refine TP.mk ?_ B5.out
    rw [r.out]
    rw [pad_a q ca]
    simp only [Joins.data_append, Y4.out, Y5.out]
    simp
  · rcases Nat.lt_or_ge q 100 with cb | cb
    · have t1 : decide (q < 10) = false := decide_eq_false (by omega)
      have t2 : decide (q < 100) = true := decide_eq_true cb
      go_enter Tryd.func19, Tryd.ntmps19
      go_wp2_with (first | (go_at_call 14; refine (none_any _ _).mono ?_; rintro e w' ⟨rfl, rfl⟩) | (go_at_call 25; refine (minus_any _ (by assumption) _).mono ?_; rintro e w' ⟨rfl, rfl⟩))
      refine (I4.out _ T.out).mono ?_
      rintro e w1 ⟨s4, rfl, y4, z4, hb4⟩
      have hs4 : s4.size ≤ 12 := by rw [z4]; exact P4.out
      have Y4 := Lib.hid y4
      have B4 := Lib.hid hb4
      clear y4 z4 hb4
      go_wp2_with fail
      refine (I5.out _ (T.out.below B4.out)).mono ?_
      rintro e w2 ⟨s5, rfl, y5, z5, hb5⟩
      have hs5 : s5.size ≤ 3 := by rw [z5]; exact P5.out
      have Y5 := Lib.hid y5
      have B5 := Lib.hid (B4.out.trans (hb5.mono B4.out.size))
      clear y5 z5 hb5
      go_wp2
      go_ret
      refine TP.mk ?_ B5.out
      rw [r.out]
      rw [pad_b q ca cb]
      simp only [Joins.data_append, Y4.out, Y5.out]
      simp
    · have t1 : decide (q < 10) = false := decide_eq_false (by omega)
      have t2 : decide (q < 100) = false := decide_eq_false (by omega)
      go_enter Tryd.func19, Tryd.ntmps19
      go_wp2_with (first | (go_at_call 14; refine (none_any _ _).mono ?_; rintro e w' ⟨rfl, rfl⟩) | (go_at_call 25; refine (minus_any _ (by assumption) _).mono ?_; rintro e w' ⟨rfl, rfl⟩))
      refine (I4.out _ T.out).mono ?_
      rintro e w1 ⟨s4, rfl, y4, z4, hb4⟩
      have hs4 : s4.size ≤ 12 := by rw [z4]; exact P4.out
      have Y4 := Lib.hid y4
      have B4 := Lib.hid hb4
      clear y4 z4 hb4
      go_wp2_with fail
      refine (I5.out _ (T.out.below B4.out)).mono ?_
      rintro e w2 ⟨s5, rfl, y5, z5, hb5⟩
      have hs5 : s5.size ≤ 3 := by rw [z5]; exact P5.out
      have Y5 := Lib.hid y5
      have B5 := Lib.hid (B4.out.trans (hb5.mono B4.out.size))
      clear y5 z5 hb5
      go_wp2
      go_ret
      refine TP.mk ?_ B5.out
      rw [r.out]
      rw [pad_c q cb qle]
      simp only [Joins.data_append, Y4.out, Y5.out]
      simp
set_option maxHeartbeats 4000000 in
theorem text_any (x : Nat) (hx : x < 18446744073709551616) (w : World) (ht : TabAt w) : Calls Tryd.prog 19 #[.float .f64 x] w (TP (txt x) w) := by
  cases xn : nanB x with
  | true =>
    have r := Lib.hid (show txt x = [110, 111, 110, 101] by unfold txt; rw [if_pos xn])
    have T := Lib.hid ht
    clear ht
    go_enter Tryd.func19, Tryd.ntmps19
    go_wp2_with (go_at_call 14; refine (none_any _ _).mono ?_; rintro e w' ⟨rfl, rfl⟩)
    go_ret
    exact TP.mk (by rw [r.out]) (Below.refl _ _)
  | false =>
    by_cases hbig : rg x < C12
    · cases hs : sg x with
      | true => exact text_neg x hx xn hs hbig w ht
      | false => exact text_pos x hx xn hs hbig w ht
    · have T := Lib.hid ht
      clear ht
      have o : FloatKind.f64.format.order (rg x) 4786511204640096256 = some .gt ∨ FloatKind.f64.format.order (rg x) 4786511204640096256 = some .eq := by
        rcases Nat.eq_or_lt_of_le (Nat.not_lt.1 hbig) with c | c
        · right; exact ord_eq (by rw [nan_rg]; exact xn) C12_num.1 (by rw [ky_rg, show ky 4786511204640096256 = _ from C12_num.2, c])
        · left; exact ord_gt (by rw [nan_rg]; exact xn) C12_num.1 (by rw [ky_rg, show ky 4786511204640096256 = _ from C12_num.2]; exact Int.ofNat_lt.2 c)
      have r := Lib.hid (show txt x = (if sg x then [45] else []) ++ [105, 110, 102] by unfold txt; rw [xn, if_neg hbig]; rfl)
      clear hbig
      cases hs : sg x with
      | true =>
        have ng := neg_run hx hs
        generalize rg x = z at *
        rcases o with o | o
        all_goals
          go_enter Tryd.func19, Tryd.ntmps19
          go_wp2_with (first | (go_at_call 14; refine (none_any _ _).mono ?_; rintro e w' ⟨rfl, rfl⟩) | (go_at_call 25; refine (minus_any _ (by assumption) _).mono ?_; rintro e w' ⟨rfl, rfl⟩))
          go_ret
          refine TP.mk ?_ (Below.refl _ _)
          rw [r.out, hs]
          rfl
      | false =>
        have es := pos_self hx hs
        rw [← es] at o
        have es' := Lib.hid es
        clear es
        rcases o with o | o
        all_goals
          go_enter Tryd.func19, Tryd.ntmps19
          go_wp2_with (first | (go_at_call 14; refine (none_any _ _).mono ?_; rintro e w' ⟨rfl, rfl⟩) | (go_at_call 25; refine (minus_any _ (by assumption) _).mono ?_; rintro e w' ⟨rfl, rfl⟩))
          go_ret
          refine TP.mk ?_ (Below.refl _ _)
          rw [r.out, hs]
          rfl
theorem txt_23 : qt 2 3 = some 4604180019048437077 ∧ nanB 4604180019048437077 = false ∧ sg 4604180019048437077 = false ∧ rg 4604180019048437077 < C12 ∧ Mv (rg 4604180019048437077) / U = 0 ∧ Mv (th (rg 4604180019048437077)) / U = 666 := by decide +kernel
theorem txt_ok : txt 4604180019048437077 = [48, 46, 54, 54, 54] := by
  obtain ⟨_, h1, h2, h3, h4, h5⟩ := txt_23
  unfold txt
  rw [h1, h2, if_pos h3, h4, h5, pad_c 666 (by decide) (by decide), dig1 (u := 0) (by decide), dig2 (u := 666) (by decide), dig2 (u := 666 / 10) (by decide), dig1 (u := 666 / 10 / 10) (by decide)]
  rfl
theorem str_of {s : ByteArray} {l : List UInt8} (h : s.data.toList = l) : s = ⟨l.toArray⟩ := by
  cases s with
  | mk d => simp at h; subst h; simp
theorem alive_any (w : World) (ht : TabAt w) : Calls Tryd.prog 10 #[] w fun e w' => e = .returned (.bool true) ∧ Below w.heap.size w w' := by
  have T := Lib.hid ht
  clear ht
  have R := Lib.hid (fun W => Rate_any 2 3 W)
  rw [txt_23.1] at R
  go_enter Tryd.func10, Tryd.ntmps10
  go_wp2_with fail
  refine (R.out _).mono ?_
  rintro e w1 ⟨r, rfl, hr, hb⟩
  obtain rfl := hr.num
  have B1 := Lib.hid hb
  clear hr hb
  go_wp2_with fail
  refine (Text_any 4604180019048437077 (by decide) _ (T.out.below B1.out)).mono ?_
  rintro e w2 ⟨s, rfl, hl, hsz, hb2⟩
  rw [txt_ok] at hl
  have es := str_of hl
  subst es
  have B2 := Lib.hid (B1.out.trans (hb2.mono B1.out.size))
  clear hb2 hsz hl
  go_wp2
  go_ret
  exact ⟨rfl, B2.out⟩
end Go.Proofs.YtmahjlmblgboaaaDoor
