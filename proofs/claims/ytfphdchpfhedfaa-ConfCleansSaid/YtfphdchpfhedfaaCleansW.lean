/- The walk of the statement ConfCleans. Conditions: the slices read as lists. -/
import Derived.Test.YtfphdchpfhedfaaRc3
import Derived.Test.YtfphdchpfhedfaaC9
import Derived.Test.YtfphdchpfhedfaaC10
namespace Go.Proofs.Ytfphdchpfhedfaa
open Go.ChangeShapes Go.WideShapes Go.ChangeAt Go.RowKit
set_option linter.unusedVariables false
open Classical in
theorem right_like (m wd ro qu st sl se wa : Int) (tb : Bool) (L T : List Int) (n n2 : Nat) (hn : L.length = n) (h2 : T.length = n2) :
    rightB m wd ro qu st sl se wa L n n2 = decide (likeP m wd ro qu st sl se wa (cl 0 2 m) (cl 1 2 wd) (cl 2 8 ro) (cl 1 4 qu) (cl 1 4 st) (cl 2 6 sl) (cs se) (cl 1 2 wa) tb tb L (la L) T (ta T)) := by
  cases hr : rightB m wd ro qu st sl se wa L n n2 with
  | true =>
    obtain ⟨r1, r2, r3, r4, r5, r6, r7, r8, r9, r10, r11⟩ := right_stays hn hr
    symm
    apply decide_eq_true
    have t : ta T = T := by unfold ta; exact List.take_of_length_le (by omega)
    unfold likeP
    rw [r1, r2, r3, r4, r5, r6, r7, r8, r9, t]
    exact ⟨⟨rfl, rfl, rfl, rfl, rfl, rfl, rfl, rfl, rfl, rfl, rfl⟩, rfl, rfl⟩
  | false =>
    symm
    apply decide_eq_false
    unfold likeP
    rintro ⟨⟨e1, e2, e3, e4, e5, e6, e7, e8, _, e10, e11⟩, e12, e13⟩
    have q1 := la_len L
    have q2 := ta_len T
    have q3 : Nat.min L.length 64 = min L.length 64 := rfl
    have q4 : Nat.min T.length 64 = min T.length 64 := rfl
    have a : L.all (wi 1 8) = true := by
      rw [e12, List.all_eq_true]
      intro x hx
      unfold la at hx
      rw [List.mem_map] at hx
      obtain ⟨y, _, rfl⟩ := hx
      exact wi_cl 1 8 y (by decide)
    have b := cs_bd se
    have c : wi 1 4 se = true := by rw [e7]; unfold wi; simp; omega
    have d : (se != 3) = true := by
      have h := cl_bd 1 4 se (by decide)
      rw [bne_iff_ne, e7]; unfold cs; split <;> omega
    have f1 : decide ((n : Int) ≤ 64) = true := by simp; omega
    have f2 : decide ((n2 : Int) ≤ 64) = true := by simp; omega
    have w1 : wi 0 2 m = true := by rw [e1]; exact wi_cl 0 2 m (by decide)
    have w2 : wi 1 2 wd = true := by rw [e2]; exact wi_cl 1 2 wd (by decide)
    have w3 : wi 2 8 ro = true := by rw [e3]; exact wi_cl 2 8 ro (by decide)
    have w4 : wi 1 4 qu = true := by rw [e4]; exact wi_cl 1 4 qu (by decide)
    have w5 : wi 1 4 st = true := by rw [e5]; exact wi_cl 1 4 st (by decide)
    have w6 : wi 2 6 sl = true := by rw [e6]; exact wi_cl 2 6 sl (by decide)
    have w8 : wi 1 2 wa = true := by rw [e8]; exact wi_cl 1 2 wa (by decide)
    unfold rightB at hr
    rw [a, w1, w2, w3, w4, w5, w6, c, d, w8, f1, f2] at hr
    exact absurd hr (by decide)
open Classical in
set_option maxHeartbeats 16000000 in
set_option maxRecDepth 100000 in
theorem cleans (m wd ro qu st sl se wa : Int) (A A2 : Option Addr) (C C2 : Nat) (L T : List Int) (tb : Bool) (n n2 : Nat) (w : World) (hn : L.length = n) (h2 : T.length = n2) (c1 : n ≤ C) (c2 : n2 ≤ C2) (bc : C ≤ 9223372036854775807) (bc2 : C2 ≤ 9223372036854775807) (hL : Sl w .i64 A L) (hT : Sl w .u32 A2 T) :
    Calls Try.prog 3 #[.agg #[.int .i64 m, .int .i64 wd, .int .i64 ro, .int .i64 qu, .int .i64 st, .int .i64 sl, .int .i64 se, .int .i64 wa, .slice A n C, .bool tb, .slice A2 n2 C2]] w fun e w' => e = .returned (.bool true) ∧ Below w.heap.size w w' := by
  obtain ⟨p, hp⟩ : ∃ p, min n 100 = p := ⟨_, rfl⟩
  obtain ⟨p2, hp2⟩ : ∃ p, min n2 100 = p := ⟨_, rfl⟩
  obtain ⟨L', eL⟩ : ∃ M, L.take 100 = M := ⟨_, rfl⟩
  obtain ⟨T', eT⟩ : ∃ M, T.take 100 = M := ⟨_, rfl⟩
  have P1 := Lib.hid (show L'.length = p by rw [← eL, ← hp, ← hn, List.length_take]; omega)
  have P2 := Lib.hid (show T'.length = p2 by rw [← eT, ← hp2, ← h2, List.length_take]; omega)
  have J1 := Lib.hid (show Sl w .i64 A L' by rw [← eL]; exact hL.take 100)
  have J2 := Lib.hid (show Sl w .u32 A2 T' by rw [← eT]; exact hT.take 100)
  have bp : p ≤ 100 := by omega
  have bp2 : p2 ≤ 100 := by omega
  have HF := Lib.hid (fun W => (few_any m wd ro qu st sl se wa A A2 C C2 n n2 tb W c1 c2 bc bc2))
  rw [hp, hp2] at HF
  clear eL eT hL hT hn h2
  go_enter Try.func3, Try.ntmps3
  go_wp2_with fail
  refine (HF.out _).mono ?_
  rintro e w1 ⟨rfl, hb⟩
  have hq1 : w.heap.size < (w.alloc (.cells #[.int .i64 m, .int .i64 wd, .int .i64 ro, .int .i64 qu, .int .i64 st, .int .i64 sl, .int .i64 se, .int .i64 wa, .slice A n C, .bool tb, .slice A2 n2 C2] 25)).heap.size := by simp
  have HO := Lib.hid ((hb.block w.heap.size hq1).trans (heap_alloc_new w _))
  have hb0 := Lib.hid (((Below.refl w.heap.size w).alloc (Nat.le_refl _) _).trans (hb.mono (by simp)))
  have I1 := Lib.hid (J1.out.below hb0.out)
  have I2 := Lib.hid (J2.out.below hb0.out)
  clear hb hq1 HF hp hp2
  go_wp2_with (refine store_box (o := ⟨none, Op.store 25 _ _, _, _, _, _⟩) rfl _ _ rfl w.heap.size _ rfl rfl _ HO.out rfl rfl box_one ?_)
  intro w2 hbx2 hoth hsz hbel
  have lc2 : w.heap.size < w2.heap.size := Box.lt hbx2
  obtain ⟨k0, k1, k2, k3, k4, k5, k6, k7, k8, k9, k10⟩ := Box.cells hbx2
  have X1 := Lib.hid (I1.out.apart hoth hsz (fun b off h hp e => by
    obtain ⟨b', off', h', hlt, _⟩ := J1.out hp
    rw [h] at h'; simp at h' <;> omega))
  have X2 := Lib.hid (I2.out.apart hoth hsz (fun b off h hp e => by
    obtain ⟨b', off', h', hlt, _⟩ := J2.out hp
    rw [h] at h'; simp at h' <;> omega))
  have hb2 := Lib.hid (hbel _ _ hb0.out (Nat.le_refl _))
  have BX := Lib.hid (show Box w2 w.heap.size m wd ro qu st sl se wa A p C tb A2 p2 C2 from hbx2)
  clear hbx2 hoth hsz hbel I1 I2 J1 J2 HO hb0
  go_wp2_with fail
  refine (rclean_any m wd ro qu st sl se wa A A2 C C2 L' T' tb p p2 _ P1.out P2.out (by omega) (by omega) X1.out X2.out).mono ?_
  rintro e w3 ⟨A8, A10, N, C8, N2, C10, rfl, l1, l2, b3, b4, s1, s2, hb, hg0, hg2⟩
  clear k0 k1 k2 k3 k4 k5 k6 k7 k8 k9 k10
  have lc3 : w.heap.size < w3.heap.size := Nat.lt_of_lt_of_le lc2 hb.size
  have A4 := Lib.hid (hb.alloc hb.size (.cells #[.int .i64 (cl 0 2 m), .int .i64 (cl 1 2 wd), .int .i64 (cl 2 8 ro), .int .i64 (cl 1 4 qu), .int .i64 (cl 1 4 st), .int .i64 (cl 2 6 sl), .int .i64 (cs se), .int .i64 (cl 1 2 wa), .slice A8 N C8, .bool tb, .slice A10 N2 C10] 25))
  have HB1 := Lib.hid (BX.out.below A4.out lc2)
  have HB2 := Lib.hid (show Box (w3.alloc (.cells #[.int .i64 (cl 0 2 m), .int .i64 (cl 1 2 wd), .int .i64 (cl 2 8 ro), .int .i64 (cl 1 4 qu), .int .i64 (cl 1 4 st), .int .i64 (cl 2 6 sl), .int .i64 (cs se), .int .i64 (cl 1 2 wa), .slice A8 N C8, .bool tb, .slice A10 N2 C10] 25)) w3.heap.size (cl 0 2 m) (cl 1 2 wd) (cl 2 8 ro) (cl 1 4 qu) (cl 1 4 st) (cl 2 6 sl) (cs se) (cl 1 2 wa) A8 N C8 tb A10 N2 C10 from heap_alloc_new w3 _)
  have hb4 := Lib.hid (hb2.out.trans (A4.out.mono (Nat.le_of_lt lc2)))
  have K1 := Lib.hid (X1.out.below A4.out)
  have K2 := Lib.hid (X2.out.below A4.out)
  have D1 := Lib.hid (s1.alloc (.cells #[.int .i64 (cl 0 2 m), .int .i64 (cl 1 2 wd), .int .i64 (cl 2 8 ro), .int .i64 (cl 1 4 qu), .int .i64 (cl 1 4 st), .int .i64 (cl 2 6 sl), .int .i64 (cs se), .int .i64 (cl 1 2 wa), .slice A8 N C8, .bool tb, .slice A10 N2 C10] 25))
  have D2 := Lib.hid (s2.alloc (.cells #[.int .i64 (cl 0 2 m), .int .i64 (cl 1 2 wd), .int .i64 (cl 2 8 ro), .int .i64 (cl 1 4 qu), .int .i64 (cl 1 4 st), .int .i64 (cl 2 6 sl), .int .i64 (cs se), .int .i64 (cl 1 2 wa), .slice A8 N C8, .bool tb, .slice A10 N2 C10] 25))
  have L1 := Lib.hid l1
  have L2 := Lib.hid l2
  clear hb s1 s2 l1 l2 hg0 hg2 X1 X2 BX hb2 A4
  obtain ⟨rb, erb⟩ : ∃ x, rightB m wd ro qu st sl se wa L' p p2 = x := ⟨_, rfl⟩
  have hk := right_like m wd ro qu st sl se wa tb L' T' p p2 P1.out P2.out
  rw [erb] at hk
  have ERB := Lib.hid erb
  have HK := Lib.hid hk
  clear erb hk
  go_wp2_with fail
  generalize hG : w3.alloc (.cells #[.int .i64 (cl 0 2 m), .int .i64 (cl 1 2 wd), .int .i64 (cl 2 8 ro), .int .i64 (cl 1 4 qu), .int .i64 (cl 1 4 st), .int .i64 (cl 2 6 sl), .int .i64 (cs se), .int .i64 (cl 1 2 wa), .slice A8 N C8, .bool tb, .slice A10 N2 C10] 25) = w4 at *
  have ld : w3.heap.size < w4.heap.size := Box.lt HB2.out
  have lc : w.heap.size < w4.heap.size := by omega
  clear hG
  have Cc : Hid (∀ W : World, Below w4.heap.size w4 W → Calls Try.prog 12 #[.agg #[.int .i64 m, .int .i64 wd, .int .i64 ro, .int .i64 qu, .int .i64 st, .int .i64 sl, .int .i64 se, .int .i64 wa, .slice A p C, .bool tb, .slice A2 p2 C2]] W fun e w' => ∃ x y : Nat, e = .returned (.agg #[.int .i64 (cl 0 2 m), .int .i64 (cl 1 2 wd), .int .i64 (cl 2 8 ro), .int .i64 (cl 1 4 qu), .int .i64 (cl 1 4 st), .int .i64 (cl 2 6 sl), .int .i64 (cs se), .int .i64 (cl 1 2 wa), .slice (some ⟨x, 0, none⟩) N N, .bool tb, .slice (some ⟨y, 0, none⟩) N2 N2]) ∧ Sl w' .i64 (some ⟨x, 0, none⟩) (la L') ∧ Sl w' .u32 (some ⟨y, 0, none⟩) (ta T') ∧ Below W.heap.size W w') := Lib.hid (fun W hW => (clean_all m wd ro qu st sl se wa A A2 C C2 L' T' tb p p2 W P1.out P2.out (by omega) (by omega) (K1.out.below hW) (K2.out.below hW)).mono fun e w' ⟨x, y, X, Y, he, lx, ly, _, _, sx, sy, hb, _, _⟩ => by
    obtain rfl : X = N := lx.symm.trans L1.out
    obtain rfl : Y = N2 := ly.symm.trans L2.out
    exact ⟨x, y, he, sx, sy, hb⟩)
  have Ld : Hid (∀ (W : World) (x y : Nat), Sl W .i64 (some ⟨x, 0, none⟩) (la L') → Sl W .u32 (some ⟨y, 0, none⟩) (ta T') → Below w4.heap.size w4 W → Calls Try.prog 11 #[.agg #[.int .i64 (cl 0 2 m), .int .i64 (cl 1 2 wd), .int .i64 (cl 2 8 ro), .int .i64 (cl 1 4 qu), .int .i64 (cl 1 4 st), .int .i64 (cl 2 6 sl), .int .i64 (cs se), .int .i64 (cl 1 2 wa), .slice (some ⟨x, 0, none⟩) N N, .bool tb, .slice (some ⟨y, 0, none⟩) N2 N2], .agg #[.int .i64 (cl 0 2 m), .int .i64 (cl 1 2 wd), .int .i64 (cl 2 8 ro), .int .i64 (cl 1 4 qu), .int .i64 (cl 1 4 st), .int .i64 (cl 2 6 sl), .int .i64 (cs se), .int .i64 (cl 1 2 wa), .slice A8 N C8, .bool tb, .slice A10 N2 C10]] W fun e w' => e = .returned (.bool true) ∧ Below W.heap.size W w') := Lib.hid (fun W x y sx sy hW => (like_any (cl 0 2 m) (cl 1 2 wd) (cl 2 8 ro) (cl 1 4 qu) (cl 1 4 st) (cl 2 6 sl) (cs se) (cl 1 2 wa) (cl 0 2 m) (cl 1 2 wd) (cl 2 8 ro) (cl 1 4 qu) (cl 1 4 st) (cl 2 6 sl) (cs se) (cl 1 2 wa) tb tb _ _ _ _ N N N2 N2 N C8 N2 C10 (la L') (la L') (ta T') (ta T') W (by omega) (by omega) (by omega) (by omega) L1.out L1.out L2.out L2.out sx (D1.out.below hW) sy (D2.out.below hW)).mono fun e w' ⟨he, hb⟩ => ⟨he.trans (ret_bl (decide_eq_true ⟨⟨rfl, rfl, rfl, rfl, rfl, rfl, rfl, rfl, rfl, rfl, rfl⟩, rfl, rfl⟩)), hb⟩)
  have Rc : Hid (∀ W : World, Below w4.heap.size w4 W → Calls Try.prog 13 #[.agg #[.int .i64 m, .int .i64 wd, .int .i64 ro, .int .i64 qu, .int .i64 st, .int .i64 sl, .int .i64 se, .int .i64 wa, .slice A p C, .bool tb, .slice A2 p2 C2]] W fun e w' => e = .returned (.bool rb) ∧ Below W.heap.size W w') := Lib.hid (fun W hW => (right_any m wd ro qu st sl se wa A A2 C C2 p p2 tb L' W P1.out (by omega) (by omega) (K1.out.below hW)).mono fun e w' ⟨he, hb⟩ => ⟨he.trans (ret_bl ERB.out), hb⟩)
  have Lk : Hid (∀ W : World, Below w4.heap.size w4 W → Calls Try.prog 11 #[.agg #[.int .i64 m, .int .i64 wd, .int .i64 ro, .int .i64 qu, .int .i64 st, .int .i64 sl, .int .i64 se, .int .i64 wa, .slice A p C, .bool tb, .slice A2 p2 C2], .agg #[.int .i64 (cl 0 2 m), .int .i64 (cl 1 2 wd), .int .i64 (cl 2 8 ro), .int .i64 (cl 1 4 qu), .int .i64 (cl 1 4 st), .int .i64 (cl 2 6 sl), .int .i64 (cs se), .int .i64 (cl 1 2 wa), .slice A8 N C8, .bool tb, .slice A10 N2 C10]] W fun e w' => e = .returned (.bool rb) ∧ Below W.heap.size W w') := Lib.hid (fun W hW => (like_any m wd ro qu st sl se wa (cl 0 2 m) (cl 1 2 wd) (cl 2 8 ro) (cl 1 4 qu) (cl 1 4 st) (cl 2 6 sl) (cs se) (cl 1 2 wa) tb tb _ _ _ _ p N p2 N2 C C8 C2 C10 L' (la L') T' (ta T') W (by omega) (by omega) (by omega) (by omega) P1.out L1.out P2.out L2.out (K1.out.below hW) (D1.out.below hW) (K2.out.below hW) (D2.out.below hW)).mono fun e w' ⟨he, hb⟩ => ⟨he.trans (ret_bl HK.out.symm), hb⟩)
  clear K1 K2 D1 D2 P1 P2 L1 L2 ERB HK
  refine wp_region_held_drew (S := fun w' => Box w' w.heap.size m wd ro qu st sl se wa A p C tb A2 p2 C2 ∧ Box w' w3.heap.size (cl 0 2 m) (cl 1 2 wd) (cl 2 8 ro) (cl 1 4 qu) (cl 1 4 st) (cl 2 6 sl) (cs se) (cl 1 2 wa) A8 N C8 tb A10 N2 C10 ∧ w4.heap.size ≤ w'.heap.size ∧ Below w4.heap.size w4 w') (by kernel_rfl) ⟨HB1.out, HB2.out, Nat.le_refl _, (Below.refl _ _).drew⟩ (fun hHeld => ?_)
  refine wpAnyH_ready (rs := [0]) (by kernel_rfl) (by simp) ?_
  refine AllReadyH.cons (o := ⟨some 8, _, _, _, _, _⟩) rfl (fun K hK => ?_) AllReadyH.nil
  go_simp
  refine (alive_any _).mono ?_; rintro e w' ⟨rfl, hg⟩
  refine hK.out _ _ ⟨Box.below hHeld.1 hg (Nat.lt_of_lt_of_le lc hHeld.2.2.1), Box.below hHeld.2.1 hg (Nat.lt_of_lt_of_le ld hHeld.2.2.1), Nat.le_trans hHeld.2.2.1 hg.size, hHeld.2.2.2.trans (hg.mono hHeld.2.2.1)⟩ (fun hHeld' => ?_)
  clear hK K hHeld
  have hHeld := hHeld'
  clear hHeld'
  try simp only [Act.put, List.setIfInBounds_toArray, List.set_cons_zero, List.set_cons_succ]
  refine wpAnyH_take (i := 1) (oi := ⟨some 9, _, _, _, _, _⟩) (v := ?vc1) rfl (by kernel_rfl) (by kernel_rfl) (by kernel_rfl) (fun _ _ _ h => h) (Or.inl ⟨by rfl, ?hyc1⟩) hHeld ?restc1
  case hyc1 => (intro w hSw; go_simp; try (with_reducible rfl))
  try simp only [Act.put, List.setIfInBounds_toArray, List.set_cons_zero, List.set_cons_succ]
  refine tk_box (i := 2) (oi := ⟨some 10, _, _, _, _, _⟩) rfl (by kernel_rfl) (by kernel_rfl) (by kernel_rfl) (fun _ _ _ h => h) (by rfl) _ rfl _ rfl _ (fun _ h => h.1) rfl hHeld ?_
  try simp only [Act.put, List.setIfInBounds_toArray, List.set_cons_zero, List.set_cons_succ]
  refine tk_box (i := 4) (oi := ⟨some 12, _, _, _, _, _⟩) rfl (by kernel_rfl) (by kernel_rfl) (by kernel_rfl) (fun _ _ _ h => h) (by rfl) _ rfl _ rfl _ (fun _ h => h.2.1) rfl hHeld ?_
  try simp only [Act.put, List.setIfInBounds_toArray, List.set_cons_zero, List.set_cons_succ]
  refine wpAnyH_ready (rs := [3]) (by kernel_rfl) (by simp) ?_
  refine AllReadyH.cons (o := ⟨some 11, _, _, _, _, _⟩) rfl (fun K hK => ?_) AllReadyH.nil
  go_simp
  refine (Cc.out _ hHeld.2.2.2).mono ?_; rintro e w' ⟨x, y, rfl, sx, sy, hg⟩
  refine hK.out _ _ ⟨Box.below hHeld.1 hg (Nat.lt_of_lt_of_le lc hHeld.2.2.1), Box.below hHeld.2.1 hg (Nat.lt_of_lt_of_le ld hHeld.2.2.1), Nat.le_trans hHeld.2.2.1 hg.size, hHeld.2.2.2.trans (hg.mono hHeld.2.2.1)⟩ (fun hHeld' => ?_)
  clear hK K hHeld
  have hHeld := hHeld'
  clear hHeld'
  try simp only [Act.put, List.setIfInBounds_toArray, List.set_cons_zero, List.set_cons_succ]
  refine wpAnyH_ready (rs := [5]) (by kernel_rfl) (by simp) ?_
  refine AllReadyH.cons (o := ⟨some 13, _, _, _, _, _⟩) rfl (fun K hK => ?_) AllReadyH.nil
  go_simp
  refine (Ld.out _ _ _ sx sy hHeld.2.2.2).mono ?_; rintro e w' ⟨rfl, hg⟩
  refine hK.out _ _ ⟨Box.below hHeld.1 hg (Nat.lt_of_lt_of_le lc hHeld.2.2.1), Box.below hHeld.2.1 hg (Nat.lt_of_lt_of_le ld hHeld.2.2.1), Nat.le_trans hHeld.2.2.1 hg.size, hHeld.2.2.2.trans (hg.mono hHeld.2.2.1)⟩ (fun hHeld' => ?_)
  clear hK K hHeld
  have hHeld := hHeld'
  clear hHeld'
  try simp only [Act.put, List.setIfInBounds_toArray, List.set_cons_zero, List.set_cons_succ]
  refine wpAnyH_take (i := 6) (oi := ⟨some 14, _, _, _, _, _⟩) (v := ?vc6) rfl (by kernel_rfl) (by kernel_rfl) (by kernel_rfl) (fun _ _ _ h => h) (Or.inl ⟨by rfl, ?hyc6⟩) hHeld ?restc6
  case hyc6 => (intro w hSw; go_simp; try (with_reducible rfl))
  try simp only [Act.put, List.setIfInBounds_toArray, List.set_cons_zero, List.set_cons_succ]
  refine wpAnyH_take (i := 7) (oi := ⟨some 15, _, _, _, _, _⟩) (v := ?vc7) rfl (by kernel_rfl) (by kernel_rfl) (by kernel_rfl) (fun _ _ _ h => h) (Or.inl ⟨by rfl, ?hyc7⟩) hHeld ?restc7
  case hyc7 => (intro w hSw; go_simp; try (with_reducible rfl))
  try simp only [Act.put, List.setIfInBounds_toArray, List.set_cons_zero, List.set_cons_succ]
  refine tk_box (i := 8) (oi := ⟨some 16, _, _, _, _, _⟩) rfl (by kernel_rfl) (by kernel_rfl) (by kernel_rfl) (fun _ _ _ h => h) (by rfl) _ rfl _ rfl _ (fun _ h => h.1) rfl hHeld ?_
  try simp only [Act.put, List.setIfInBounds_toArray, List.set_cons_zero, List.set_cons_succ]
  refine tk_box (i := 10) (oi := ⟨some 18, _, _, _, _, _⟩) rfl (by kernel_rfl) (by kernel_rfl) (by kernel_rfl) (fun _ _ _ h => h) (by rfl) _ rfl _ rfl _ (fun _ h => h.1) rfl hHeld ?_
  try simp only [Act.put, List.setIfInBounds_toArray, List.set_cons_zero, List.set_cons_succ]
  refine tk_box (i := 11) (oi := ⟨some 19, _, _, _, _, _⟩) rfl (by kernel_rfl) (by kernel_rfl) (by kernel_rfl) (fun _ _ _ h => h) (by rfl) _ rfl _ rfl _ (fun _ h => h.2.1) rfl hHeld ?_
  try simp only [Act.put, List.setIfInBounds_toArray, List.set_cons_zero, List.set_cons_succ]
  refine wpAnyH_ready (rs := [9]) (by kernel_rfl) (by simp) ?_
  refine AllReadyH.cons (o := ⟨some 17, _, _, _, _, _⟩) rfl (fun K hK => ?_) AllReadyH.nil
  go_simp
  refine (Rc.out _ hHeld.2.2.2).mono ?_; rintro e w' ⟨rfl, hg⟩
  refine hK.out _ _ ⟨Box.below hHeld.1 hg (Nat.lt_of_lt_of_le lc hHeld.2.2.1), Box.below hHeld.2.1 hg (Nat.lt_of_lt_of_le ld hHeld.2.2.1), Nat.le_trans hHeld.2.2.1 hg.size, hHeld.2.2.2.trans (hg.mono hHeld.2.2.1)⟩ (fun hHeld' => ?_)
  clear hK K hHeld
  have hHeld := hHeld'
  clear hHeld'
  try simp only [Act.put, List.setIfInBounds_toArray, List.set_cons_zero, List.set_cons_succ]
  refine wpAnyH_ready (rs := [12]) (by kernel_rfl) (by simp) ?_
  refine AllReadyH.cons (o := ⟨some 20, _, _, _, _, _⟩) rfl (fun K hK => ?_) AllReadyH.nil
  go_simp
  refine (Lk.out _ hHeld.2.2.2).mono ?_; rintro e w' ⟨rfl, hg⟩
  refine hK.out _ _ ⟨Box.below hHeld.1 hg (Nat.lt_of_lt_of_le lc hHeld.2.2.1), Box.below hHeld.2.1 hg (Nat.lt_of_lt_of_le ld hHeld.2.2.1), Nat.le_trans hHeld.2.2.1 hg.size, hHeld.2.2.2.trans (hg.mono hHeld.2.2.1)⟩ (fun hHeld' => ?_)
  clear hK K hHeld
  have hHeld := hHeld'
  clear hHeld'
  try simp only [Act.put, List.setIfInBounds_toArray, List.set_cons_zero, List.set_cons_succ]
  refine wpAnyH_take (i := 13) (oi := ⟨some 21, _, _, _, _, _⟩) (v := ?vc13) rfl (by kernel_rfl) (by kernel_rfl) (by kernel_rfl) (fun _ _ _ h => h) (Or.inl ⟨by rfl, ?hyc13⟩) hHeld ?restc13
  case hyc13 => (intro w hSw; go_simp; try (with_reducible rfl))
  try simp only [Act.put, List.setIfInBounds_toArray, List.set_cons_zero, List.set_cons_succ]
  refine wpAnyH_take (i := 14) (oi := ⟨some 22, _, _, _, _, _⟩) (v := ?vc14) rfl (by kernel_rfl) (by kernel_rfl) (by kernel_rfl) (fun _ _ _ h => h) (Or.inl ⟨by rfl, ?hyc14⟩) hHeld ?restc14
  case hyc14 => (intro w hSw; go_simp; try (with_reducible rfl))
  try simp only [Act.put, List.setIfInBounds_toArray, List.set_cons_zero, List.set_cons_succ]
  refine wpAnyH_take (i := 15) (oi := ⟨some 2, _, _, _, _, _⟩) (v := ?vc15) rfl (by kernel_rfl) (by kernel_rfl) (by kernel_rfl) (fun _ _ _ h => h) (Or.inl ⟨by rfl, ?hyc15⟩) hHeld ?restc15
  case hyc15 => (intro w hSw; go_simp; try (with_reducible rfl))
  try simp only [Act.put, List.setIfInBounds_toArray, List.set_cons_zero, List.set_cons_succ]
  refine wpAnyH_done (by kernel_rfl) ?_ _
  have Z := Lib.hid hHeld.2.2.2
  clear hHeld
  go_wp2
  go_ret
  exact ⟨rfl, hb4.out.trans (Z.out.mono (Nat.le_of_lt (by omega)))⟩
end Go.Proofs.Ytfphdchpfhedfaa
