/- The walk of the statement ConfTurns. Conditions: the slices read as lists. -/
import Derived.Test.YtfphdchpfhedfaaRc3
import Derived.Test.YtfphdchpfhedfaaC10
namespace Go.Proofs.Ytfphdchpfhedfaa
open Go.ChangeShapes Go.WideShapes Go.ChangeAt Go.RowKit
set_option linter.unusedVariables false
theorem lav_turn (L : List Int) (k : Int) (N : Nat) (hN : (la L).length = N) (h : 0 ≤ k) : lav L (k + N) = lav L k := by
  unfold lav
  rw [hN]
  by_cases h0 : N = 0
  · rw [if_pos h0, if_pos h0]
  · rw [if_neg h0, if_neg h0, pl_pos _ (by omega), pl_pos _ h, Int.add_emod_right]
theorem tav_turn (T : List Int) (k pc : Int) (N : Nat) (hN : (ta T).length = N) (h : 0 ≤ k) : tav T (k + N) pc = tav T k pc := by
  unfold tav
  rw [hN]
  by_cases h0 : N = 0
  · rw [if_pos h0, if_pos h0]
  · rw [if_neg h0, if_neg h0, pl_pos _ (by omega), pl_pos _ h, Int.add_emod_right]
theorem lav_neg (L : List Int) (k : Int) (h : 0 ≤ k) : lav L (-k) = lav L 0 := by
  have e : ∀ n : Int, pl (-k) n = pl 0 n := fun n => by
    unfold pl
    by_cases h0 : k = 0
    · subst h0; rfl
    · rw [if_pos (by omega), if_neg (by omega)]; simp
  unfold lav
  rw [e]
set_option maxHeartbeats 16000000 in
set_option maxRecDepth 100000 in
theorem turns (m wd ro qu st sl se wa : Int) (A A2 : Option Addr) (C C2 : Nat) (L T : List Int) (tb : Bool) (n n2 : Nat) (k pc : Int) (w : World) (hn : L.length = n) (h2 : T.length = n2) (c1 : n ≤ C) (c2 : n2 ≤ C2) (bc : C ≤ 9223372036854775807) (bc2 : C2 ≤ 9223372036854775807) (hL : Sl w .i64 A L) (hT : Sl w .u32 A2 T) (p0 : 0 ≤ pc) (p1 : pc ≤ 4294967295) :
    Calls Try.prog 4 #[.agg #[.int .i64 m, .int .i64 wd, .int .i64 ro, .int .i64 qu, .int .i64 st, .int .i64 sl, .int .i64 se, .int .i64 wa, .slice A n C, .bool tb, .slice A2 n2 C2], .int .i64 k, .int .u32 pc] w fun e w' => e = .returned (.bool true) ∧ Below w.heap.size w w' := by
  obtain ⟨p, hp⟩ : ∃ p, min n 100 = p := ⟨_, rfl⟩
  obtain ⟨p2, hp2⟩ : ∃ p, min n2 100 = p := ⟨_, rfl⟩
  obtain ⟨L', eL⟩ : ∃ M, L.take 100 = M := ⟨_, rfl⟩
  obtain ⟨T', eT⟩ : ∃ M, T.take 100 = M := ⟨_, rfl⟩
  have P1 := Lib.hid (show L'.length = p by rw [← eL, ← hp, ← hn, List.length_take]; omega)
  have P2 := Lib.hid (show T'.length = p2 by rw [← eT, ← hp2, ← h2, List.length_take]; omega)
  have J1 := Lib.hid (show Sl w .i64 A L' by rw [← eL]; exact hL.take 100)
  have J2 := Lib.hid (show Sl w .u32 A2 T' by rw [← eT]; exact hT.take 100)
  have bp : p ≤ 100 := by omega
  have bp2 : p2 ≤ 100 := by omega
  have HF := Lib.hid (fun W => (few_any m wd ro qu st sl se wa A A2 C C2 n n2 tb W c1 c2 bc bc2))
  rw [hp, hp2] at HF
  clear eL eT hL hT hn h2
  obtain ⟨q, eq1⟩ : ∃ x, (if k < 0 then (0 : Int) else k) = x := ⟨_, rfl⟩
  have bq : 0 ≤ q := by rw [← eq1]; split <;> omega
  obtain ⟨kk, eq2⟩ : ∃ x, (if 1048576 < q then (1048576 : Int) else q) = x := ⟨_, rfl⟩
  have bk : 0 ≤ kk ∧ kk ≤ 1048576 := by rw [← eq2]; split <;> omega
  have bk0 := bk.1
  have bk1 := bk.2
  clear bk
  go_enter Try.func4, Try.ntmps4
  go_wp2_with fail
  refine (HF.out _).mono ?_
  rintro e w1 ⟨rfl, hb⟩
  have hq1 : w.heap.size < (w.alloc (.cells #[.int .i64 m, .int .i64 wd, .int .i64 ro, .int .i64 qu, .int .i64 st, .int .i64 sl, .int .i64 se, .int .i64 wa, .slice A n C, .bool tb, .slice A2 n2 C2] 25)).heap.size := by simp
  have HO := Lib.hid ((hb.block w.heap.size hq1).trans (heap_alloc_new w _))
  have hb0 := Lib.hid (((Below.refl w.heap.size w).alloc (Nat.le_refl _) _).trans (hb.mono (by simp)))
  have I1 := Lib.hid (J1.out.below hb0.out)
  have I2 := Lib.hid (J2.out.below hb0.out)
  clear hb hq1 HF hp hp2
  go_wp2_with (refine store_box (o := ⟨none, Op.store 25 _ _, _, _, _, _⟩) rfl _ _ rfl w.heap.size _ rfl rfl _ HO.out rfl rfl box_one ?_)
  intro w2 hbx2 hoth hsz hbel
  have lc2 : w.heap.size < w2.heap.size := Box.lt hbx2
  obtain ⟨k0, k1, k2, k3, k4, k5, k6, k7, k8, k9, k10⟩ := Box.cells hbx2
  have X1 := Lib.hid (I1.out.apart hoth hsz (fun b off h hp e => by
    obtain ⟨b', off', h', hlt, _⟩ := J1.out hp
    rw [h] at h'; simp at h' <;> omega))
  have X2 := Lib.hid (I2.out.apart hoth hsz (fun b off h hp e => by
    obtain ⟨b', off', h', hlt, _⟩ := J2.out hp
    rw [h] at h'; simp at h' <;> omega))
  have hb2 := Lib.hid (hbel _ _ hb0.out (Nat.le_refl _))
  have BX := Lib.hid (show Box w2 w.heap.size m wd ro qu st sl se wa A p C tb A2 p2 C2 from hbx2)
  clear hbx2 hoth hsz hbel I1 I2 J1 J2 HO hb0
  go_wp2_with fail
  refine (rclean_any m wd ro qu st sl se wa A A2 C C2 L' T' tb p p2 _ P1.out P2.out (by omega) (by omega) X1.out X2.out).mono ?_
  rintro e w3 ⟨A8, A10, N, C8, N2, C10, rfl, l1, l2, b3, b4, s1, s2, hb, hg0, hg2⟩
  clear k0 k1 k2 k3 k4 k5 k6 k7 k8 k9 k10
  have lc3 : w.heap.size < w3.heap.size := Nat.lt_of_lt_of_le lc2 hb.size
  have A4 := Lib.hid (hb.alloc hb.size (.cells #[.int .i64 (cl 0 2 m), .int .i64 (cl 1 2 wd), .int .i64 (cl 2 8 ro), .int .i64 (cl 1 4 qu), .int .i64 (cl 1 4 st), .int .i64 (cl 2 6 sl), .int .i64 (cs se), .int .i64 (cl 1 2 wa), .slice A8 N C8, .bool tb, .slice A10 N2 C10] 25))
  have HB1 := Lib.hid (BX.out.below A4.out lc2)
  have HB2 := Lib.hid (show Box (w3.alloc (.cells #[.int .i64 (cl 0 2 m), .int .i64 (cl 1 2 wd), .int .i64 (cl 2 8 ro), .int .i64 (cl 1 4 qu), .int .i64 (cl 1 4 st), .int .i64 (cl 2 6 sl), .int .i64 (cs se), .int .i64 (cl 1 2 wa), .slice A8 N C8, .bool tb, .slice A10 N2 C10] 25)) w3.heap.size (cl 0 2 m) (cl 1 2 wd) (cl 2 8 ro) (cl 1 4 qu) (cl 1 4 st) (cl 2 6 sl) (cs se) (cl 1 2 wa) A8 N C8 tb A10 N2 C10 from heap_alloc_new w3 _)
  have hb4 := Lib.hid (hb2.out.trans (A4.out.mono (Nat.le_of_lt lc2)))
  have K1 := Lib.hid (X1.out.below A4.out)
  have K2 := Lib.hid (X2.out.below A4.out)
  have D1 := Lib.hid (s1.alloc (.cells #[.int .i64 (cl 0 2 m), .int .i64 (cl 1 2 wd), .int .i64 (cl 2 8 ro), .int .i64 (cl 1 4 qu), .int .i64 (cl 1 4 st), .int .i64 (cl 2 6 sl), .int .i64 (cs se), .int .i64 (cl 1 2 wa), .slice A8 N C8, .bool tb, .slice A10 N2 C10] 25))
  have D2 := Lib.hid (s2.alloc (.cells #[.int .i64 (cl 0 2 m), .int .i64 (cl 1 2 wd), .int .i64 (cl 2 8 ro), .int .i64 (cl 1 4 qu), .int .i64 (cl 1 4 st), .int .i64 (cl 2 6 sl), .int .i64 (cs se), .int .i64 (cl 1 2 wa), .slice A8 N C8, .bool tb, .slice A10 N2 C10] 25))
  have L1 := Lib.hid l1
  have L2 := Lib.hid l2
  clear hb s1 s2 l1 l2 hg0 hg2 X1 X2 BX hb2 A4
  go_wp2_with fail
  generalize hG : w3.alloc (.cells #[.int .i64 (cl 0 2 m), .int .i64 (cl 1 2 wd), .int .i64 (cl 2 8 ro), .int .i64 (cl 1 4 qu), .int .i64 (cl 1 4 st), .int .i64 (cl 2 6 sl), .int .i64 (cs se), .int .i64 (cl 1 2 wa), .slice A8 N C8, .bool tb, .slice A10 N2 C10] 25) = w4 at *
  have ld : w3.heap.size < w4.heap.size := Box.lt HB2.out
  have lc : w.heap.size < w4.heap.size := by omega
  clear hG eq1 eq2 bq
  obtain ⟨v1, ev1⟩ : ∃ x, lav L' kk = x := ⟨_, rfl⟩
  obtain ⟨v2, ev2⟩ : ∃ x, tav T' kk pc = x := ⟨_, rfl⟩
  obtain ⟨v0, ev0⟩ : ∃ x, lav L' 0 = x := ⟨_, rfl⟩
  have E1 := Lib.hid ev1
  have E2 := Lib.hid ev2
  have E0 := Lib.hid ev0
  have F1 := Lib.hid (show lav L' (kk + N) = v1 by rw [← ev1]; exact lav_turn L' kk N L1.out bk0)
  have F2 := Lib.hid (show tav T' (kk + N2) pc = v2 by rw [← ev2]; exact tav_turn T' kk pc N2 L2.out bk0)
  have F0 := Lib.hid (show lav L' (-kk) = v0 by rw [← ev0]; exact lav_neg L' kk bk0)
  clear ev1 ev2 ev0
  have Hn1 : Hid (∀ W : World, Below w4.heap.size w4 W → Calls Try.prog 14 #[.agg #[.int .i64 m, .int .i64 wd, .int .i64 ro, .int .i64 qu, .int .i64 st, .int .i64 sl, .int .i64 se, .int .i64 wa, .slice A p C, .bool tb, .slice A2 p2 C2], .int .i64 (kk + ↑N)] W fun e w' => e = .returned (.int .i64 v1) ∧ Below W.heap.size W w') := Lib.hid (fun W hW => (lat_any (kk + N) m wd ro qu st sl se wa A A2 C C2 L' T' tb p p2 W P1.out P2.out (by omega) (by omega) (K1.out.below hW) (K2.out.below hW)).mono fun e w' ⟨he, hb⟩ => ⟨he.trans (ret_i64 F1.out), hb⟩)
  have Hk : Hid (∀ W : World, Below w4.heap.size w4 W → Calls Try.prog 14 #[.agg #[.int .i64 m, .int .i64 wd, .int .i64 ro, .int .i64 qu, .int .i64 st, .int .i64 sl, .int .i64 se, .int .i64 wa, .slice A p C, .bool tb, .slice A2 p2 C2], .int .i64 kk] W fun e w' => e = .returned (.int .i64 v1) ∧ Below W.heap.size W w') := Lib.hid (fun W hW => (lat_any kk m wd ro qu st sl se wa A A2 C C2 L' T' tb p p2 W P1.out P2.out (by omega) (by omega) (K1.out.below hW) (K2.out.below hW)).mono fun e w' ⟨he, hb⟩ => ⟨he.trans (ret_i64 E1.out), hb⟩)
  have Ht1 : Hid (∀ W : World, Below w4.heap.size w4 W → Calls Try.prog 15 #[.agg #[.int .i64 m, .int .i64 wd, .int .i64 ro, .int .i64 qu, .int .i64 st, .int .i64 sl, .int .i64 se, .int .i64 wa, .slice A p C, .bool tb, .slice A2 p2 C2], .int .i64 (kk + ↑N2), .int .u32 pc] W fun e w' => e = .returned (.int .u32 v2) ∧ Below W.heap.size W w') := Lib.hid (fun W hW => (tape_any (kk + N2) pc m wd ro qu st sl se wa A A2 C C2 L' T' tb p p2 W P1.out P2.out (by omega) (by omega) (K1.out.below hW) (K2.out.below hW) p0 p1).mono fun e w' ⟨he, hb⟩ => ⟨he.trans (ret_u32 F2.out), hb⟩)
  have Ht : Hid (∀ W : World, Below w4.heap.size w4 W → Calls Try.prog 15 #[.agg #[.int .i64 m, .int .i64 wd, .int .i64 ro, .int .i64 qu, .int .i64 st, .int .i64 sl, .int .i64 se, .int .i64 wa, .slice A p C, .bool tb, .slice A2 p2 C2], .int .i64 kk, .int .u32 pc] W fun e w' => e = .returned (.int .u32 v2) ∧ Below W.heap.size W w') := Lib.hid (fun W hW => (tape_any kk pc m wd ro qu st sl se wa A A2 C C2 L' T' tb p p2 W P1.out P2.out (by omega) (by omega) (K1.out.below hW) (K2.out.below hW) p0 p1).mono fun e w' ⟨he, hb⟩ => ⟨he.trans (ret_u32 E2.out), hb⟩)
  have Hm : Hid (∀ W : World, Below w4.heap.size w4 W → Calls Try.prog 14 #[.agg #[.int .i64 m, .int .i64 wd, .int .i64 ro, .int .i64 qu, .int .i64 st, .int .i64 sl, .int .i64 se, .int .i64 wa, .slice A p C, .bool tb, .slice A2 p2 C2], .int .i64 (-kk)] W fun e w' => e = .returned (.int .i64 v0) ∧ Below W.heap.size W w') := Lib.hid (fun W hW => (lat_any (-kk) m wd ro qu st sl se wa A A2 C C2 L' T' tb p p2 W P1.out P2.out (by omega) (by omega) (K1.out.below hW) (K2.out.below hW)).mono fun e w' ⟨he, hb⟩ => ⟨he.trans (ret_i64 F0.out), hb⟩)
  have H0 : Hid (∀ W : World, Below w4.heap.size w4 W → Calls Try.prog 14 #[.agg #[.int .i64 m, .int .i64 wd, .int .i64 ro, .int .i64 qu, .int .i64 st, .int .i64 sl, .int .i64 se, .int .i64 wa, .slice A p C, .bool tb, .slice A2 p2 C2], .int .i64 0] W fun e w' => e = .returned (.int .i64 v0) ∧ Below W.heap.size W w') := Lib.hid (fun W hW => (lat_any 0 m wd ro qu st sl se wa A A2 C C2 L' T' tb p p2 W P1.out P2.out (by omega) (by omega) (K1.out.below hW) (K2.out.below hW)).mono fun e w' ⟨he, hb⟩ => ⟨he.trans (ret_i64 E0.out), hb⟩)
  have s1 : IntKind.i64.wrap (kk + ↑N) = kk + ↑N := IntWalk.i64_in _ (by omega)
  have s2 : IntKind.i64.wrap (kk + ↑N2) = kk + ↑N2 := IntWalk.i64_in _ (by omega)
  have s3 : IntKind.i64.wrap (-kk) = -kk := IntWalk.i64_in _ (by omega)
  clear K1 K2 P1 P2 F1 F2 F0 E0
  refine wp_region_held_drew (S := fun w' => Box w' w.heap.size m wd ro qu st sl se wa A p C tb A2 p2 C2 ∧ Box w' w3.heap.size (cl 0 2 m) (cl 1 2 wd) (cl 2 8 ro) (cl 1 4 qu) (cl 1 4 st) (cl 2 6 sl) (cs se) (cl 1 2 wa) A8 N C8 tb A10 N2 C10 ∧ w4.heap.size ≤ w'.heap.size ∧ Below w4.heap.size w4 w') (by kernel_rfl) ⟨HB1.out, HB2.out, Nat.le_refl _, (Below.refl _ _).drew⟩ (fun hHeld => ?_)
  refine wpAnyH_take (i := 0) (oi := ⟨some 17, _, _, _, _, _⟩) (v := ?vd0) rfl (by kernel_rfl) (by kernel_rfl) (by kernel_rfl) (fun _ _ _ h => h) (Or.inl ⟨by rfl, ?hyd0⟩) hHeld ?restd0
  case hyd0 => (intro w hSw; go_simp; try (with_reducible rfl))
  try simp only [Act.put, List.setIfInBounds_toArray, List.set_cons_zero, List.set_cons_succ]
  refine wpAnyH_take (i := 1) (oi := ⟨some 18, _, _, _, _, _⟩) (v := ?vd1) rfl (by kernel_rfl) (by kernel_rfl) (by kernel_rfl) (fun _ _ _ h => h) (Or.inl ⟨by rfl, ?hyd1⟩) hHeld ?restd1
  case hyd1 => (intro w hSw; obtain ⟨hA, hB, hC⟩ := hSw; obtain ⟨k0, k1, k2, k3, k4, k5, k6, k7, k8, k9, k10⟩ := Box.cells hB; go_simp; try (with_reducible rfl))
  try simp only [Act.put, List.setIfInBounds_toArray, List.set_cons_zero, List.set_cons_succ]
  refine wpAnyH_take (i := 2) (oi := ⟨some 19, _, _, _, _, _⟩) (v := ?vd2) rfl (by kernel_rfl) (by kernel_rfl) (by kernel_rfl) (fun _ _ _ h => h) (Or.inl ⟨by rfl, ?hyd2⟩) hHeld ?restd2
  case hyd2 => (intro w hSw; go_simp; try (with_reducible rfl))
  try simp only [Act.put, List.setIfInBounds_toArray, List.set_cons_zero, List.set_cons_succ]
  refine wpAnyH_take (i := 3) (oi := ⟨some 20, _, _, _, _, _⟩) (v := ?vd3) rfl (by kernel_rfl) (by kernel_rfl) (by kernel_rfl) (fun _ _ _ h => h) (Or.inl ⟨by rfl, ?hyd3⟩) hHeld ?restd3
  case hyd3 => (intro w hSw; go_simp; try (with_reducible rfl))
  try simp only [Act.put, List.setIfInBounds_toArray, List.set_cons_zero, List.set_cons_succ]
  refine wpAnyH_take (i := 4) (oi := ⟨some 21, _, _, _, _, _⟩) (v := ?vd4) rfl (by kernel_rfl) (by kernel_rfl) (by kernel_rfl) (fun _ _ _ h => h) (Or.inl ⟨by rfl, ?hyd4⟩) hHeld ?restd4
  case hyd4 => (intro w hSw; obtain ⟨hA, hB, hC⟩ := hSw; obtain ⟨k0, k1, k2, k3, k4, k5, k6, k7, k8, k9, k10⟩ := Box.cells hB; go_simp; try (with_reducible rfl))
  try simp only [Act.put, List.setIfInBounds_toArray, List.set_cons_zero, List.set_cons_succ]
  refine wpAnyH_take (i := 5) (oi := ⟨some 22, _, _, _, _, _⟩) (v := ?vd5) rfl (by kernel_rfl) (by kernel_rfl) (by kernel_rfl) (fun _ _ _ h => h) (Or.inl ⟨by rfl, ?hyd5⟩) hHeld ?restd5
  case hyd5 => (intro w hSw; go_simp; try (with_reducible rfl))
  try simp only [Act.put, List.setIfInBounds_toArray, List.set_cons_zero, List.set_cons_succ]
  refine wpAnyH_take (i := 6) (oi := ⟨some 8, _, _, _, _, _⟩) (v := ?vd6) rfl (by kernel_rfl) (by kernel_rfl) (by kernel_rfl) (fun _ _ _ h => h) (Or.inl ⟨by rfl, ?hyd6⟩) hHeld ?restd6
  case hyd6 => (intro w hSw; go_simp; try (with_reducible rfl))
  try simp only [Act.put, List.setIfInBounds_toArray, List.set_cons_zero, List.set_cons_succ]
  refine wpAnyH_take (i := 7) (oi := ⟨some 9, _, _, _, _, _⟩) (v := ?vd7) rfl (by kernel_rfl) (by kernel_rfl) (by kernel_rfl) (fun _ _ _ h => h) (Or.inl ⟨by rfl, ?hyd7⟩) hHeld ?restd7
  case hyd7 => (intro w hSw; go_simp; try (with_reducible rfl))
  try simp only [Act.put, List.setIfInBounds_toArray, List.set_cons_zero, List.set_cons_succ]
  refine wpAnyH_done (by kernel_rfl) ?_ _
  clear hHeld
  go_wp2_with fail
  refine wp_region_held_drew (S := fun w' => Box w' w.heap.size m wd ro qu st sl se wa A p C tb A2 p2 C2 ∧ Box w' w3.heap.size (cl 0 2 m) (cl 1 2 wd) (cl 2 8 ro) (cl 1 4 qu) (cl 1 4 st) (cl 2 6 sl) (cs se) (cl 1 2 wa) A8 N C8 tb A10 N2 C10 ∧ w4.heap.size ≤ w'.heap.size ∧ Below w4.heap.size w4 w') (by kernel_rfl) ⟨HB1.out, HB2.out, Nat.le_refl _, (Below.refl _ _).drew.drew⟩ (fun hHeld => ?_)
  refine tk_box (i := 0) (oi := ⟨some 23, _, _, _, _, _⟩) rfl (by kernel_rfl) (by kernel_rfl) (by kernel_rfl) (fun _ _ _ h => h) (by rfl) _ rfl _ rfl _ (fun _ h => h.1) rfl hHeld ?_
  try simp only [Act.put, List.setIfInBounds_toArray, List.set_cons_zero, List.set_cons_succ]
  refine wpAnyH_take (i := 1) (oi := ⟨some 24, _, _, _, _, _⟩) (v := ?ve1) rfl (by kernel_rfl) (by kernel_rfl) (by kernel_rfl) (fun _ _ _ h => h) (Or.inl ⟨by rfl, ?hye1⟩) hHeld ?reste1
  case hye1 => (intro w hSw; go_simp; try (with_reducible rfl))
  try simp only [Act.put, List.setIfInBounds_toArray, List.set_cons_zero, List.set_cons_succ]
  refine wpAnyH_take (i := 2) (oi := ⟨some 25, _, _, _, _, _⟩) (v := ?ve2) rfl (by kernel_rfl) (by kernel_rfl) (by kernel_rfl) (fun _ _ _ h => h) (Or.inl ⟨by rfl, ?hye2⟩) hHeld ?reste2
  case hye2 => (intro w hSw; go_simp; try (with_reducible rfl))
  try simp only [Act.put, List.setIfInBounds_toArray, List.set_cons_zero, List.set_cons_succ]
  refine wpAnyH_take (i := 3) (oi := ⟨some 26, _, _, _, _, _⟩) (v := ?ve3) rfl (by kernel_rfl) (by kernel_rfl) (by kernel_rfl) (fun _ _ _ h => h) (Or.inl ⟨by rfl, ?hye3⟩) hHeld ?reste3
  case hye3 => (intro w hSw; go_simp; try (with_reducible rfl))
  try simp only [Act.put, List.setIfInBounds_toArray, List.set_cons_zero, List.set_cons_succ]
  refine tk_box (i := 5) (oi := ⟨some 28, _, _, _, _, _⟩) rfl (by kernel_rfl) (by kernel_rfl) (by kernel_rfl) (fun _ _ _ h => h) (by rfl) _ rfl _ rfl _ (fun _ h => h.1) rfl hHeld ?_
  try simp only [Act.put, List.setIfInBounds_toArray, List.set_cons_zero, List.set_cons_succ]
  refine wpAnyH_take (i := 6) (oi := ⟨some 29, _, _, _, _, _⟩) (v := ?ve6) rfl (by kernel_rfl) (by kernel_rfl) (by kernel_rfl) (fun _ _ _ h => h) (Or.inl ⟨by rfl, ?hye6⟩) hHeld ?reste6
  case hye6 => (intro w hSw; go_simp; try (with_reducible rfl))
  try simp only [Act.put, List.setIfInBounds_toArray, List.set_cons_zero, List.set_cons_succ]
  refine wpAnyH_ready (rs := [4]) (by kernel_rfl) (by simp) ?_
  refine AllReadyH.cons (o := ⟨some 27, _, _, _, _, _⟩) rfl (fun K hK => ?_) AllReadyH.nil
  go_simp
  refine (Hn1.out _ hHeld.2.2.2).mono ?_; rintro e w' ⟨rfl, hg⟩
  refine hK.out _ _ ⟨Box.below hHeld.1 hg (Nat.lt_of_lt_of_le lc hHeld.2.2.1), Box.below hHeld.2.1 hg (Nat.lt_of_lt_of_le ld hHeld.2.2.1), Nat.le_trans hHeld.2.2.1 hg.size, hHeld.2.2.2.trans (hg.mono hHeld.2.2.1)⟩ (fun hHeld' => ?_)
  clear hK K hHeld
  have hHeld := hHeld'
  clear hHeld'
  try simp only [Act.put, List.setIfInBounds_toArray, List.set_cons_zero, List.set_cons_succ]
  refine wpAnyH_ready (rs := [7]) (by kernel_rfl) (by simp) ?_
  refine AllReadyH.cons (o := ⟨some 30, _, _, _, _, _⟩) rfl (fun K hK => ?_) AllReadyH.nil
  go_simp
  refine (Hk.out _ hHeld.2.2.2).mono ?_; rintro e w' ⟨rfl, hg⟩
  refine hK.out _ _ ⟨Box.below hHeld.1 hg (Nat.lt_of_lt_of_le lc hHeld.2.2.1), Box.below hHeld.2.1 hg (Nat.lt_of_lt_of_le ld hHeld.2.2.1), Nat.le_trans hHeld.2.2.1 hg.size, hHeld.2.2.2.trans (hg.mono hHeld.2.2.1)⟩ (fun hHeld' => ?_)
  clear hK K hHeld
  have hHeld := hHeld'
  clear hHeld'
  try simp only [Act.put, List.setIfInBounds_toArray, List.set_cons_zero, List.set_cons_succ]
  refine wpAnyH_take (i := 8) (oi := ⟨some 31, _, _, _, _, _⟩) (v := ?ve8) rfl (by kernel_rfl) (by kernel_rfl) (by kernel_rfl) (fun _ _ _ h => h) (Or.inl ⟨by rfl, ?hye8⟩) hHeld ?reste8
  case hye8 => (intro w hSw; go_simp; try (with_reducible rfl))
  try simp only [Act.put, List.setIfInBounds_toArray, List.set_cons_zero, List.set_cons_succ]
  refine wpAnyH_take (i := 9) (oi := ⟨some 32, _, _, _, _, _⟩) (v := ?ve9) rfl (by kernel_rfl) (by kernel_rfl) (by kernel_rfl) (fun _ _ _ h => h) (Or.inl ⟨by rfl, ?hye9⟩) hHeld ?reste9
  case hye9 => (intro w hSw; go_simp; try (with_reducible rfl))
  try simp only [Act.put, List.setIfInBounds_toArray, List.set_cons_zero, List.set_cons_succ]
  refine tk_box (i := 10) (oi := ⟨some 33, _, _, _, _, _⟩) rfl (by kernel_rfl) (by kernel_rfl) (by kernel_rfl) (fun _ _ _ h => h) (by rfl) _ rfl _ rfl _ (fun _ h => h.1) rfl hHeld ?_
  try simp only [Act.put, List.setIfInBounds_toArray, List.set_cons_zero, List.set_cons_succ]
  refine wpAnyH_take (i := 11) (oi := ⟨some 34, _, _, _, _, _⟩) (v := ?ve11) rfl (by kernel_rfl) (by kernel_rfl) (by kernel_rfl) (fun _ _ _ h => h) (Or.inl ⟨by rfl, ?hye11⟩) hHeld ?reste11
  case hye11 => (intro w hSw; go_simp; try (with_reducible rfl))
  try simp only [Act.put, List.setIfInBounds_toArray, List.set_cons_zero, List.set_cons_succ]
  refine wpAnyH_take (i := 12) (oi := ⟨some 35, _, _, _, _, _⟩) (v := ?ve12) rfl (by kernel_rfl) (by kernel_rfl) (by kernel_rfl) (fun _ _ _ h => h) (Or.inl ⟨by rfl, ?hye12⟩) hHeld ?reste12
  case hye12 => (intro w hSw; go_simp; try (with_reducible rfl))
  try simp only [Act.put, List.setIfInBounds_toArray, List.set_cons_zero, List.set_cons_succ]
  refine wpAnyH_take (i := 13) (oi := ⟨some 36, _, _, _, _, _⟩) (v := ?ve13) rfl (by kernel_rfl) (by kernel_rfl) (by kernel_rfl) (fun _ _ _ h => h) (Or.inl ⟨by rfl, ?hye13⟩) hHeld ?reste13
  case hye13 => (intro w hSw; go_simp; try (with_reducible rfl))
  try simp only [Act.put, List.setIfInBounds_toArray, List.set_cons_zero, List.set_cons_succ]
  refine wpAnyH_take (i := 14) (oi := ⟨some 37, _, _, _, _, _⟩) (v := ?ve14) rfl (by kernel_rfl) (by kernel_rfl) (by kernel_rfl) (fun _ _ _ h => h) (Or.inl ⟨by rfl, ?hye14⟩) hHeld ?reste14
  case hye14 => (intro w hSw; go_simp; try (with_reducible rfl))
  try simp only [Act.put, List.setIfInBounds_toArray, List.set_cons_zero, List.set_cons_succ]
  refine tk_box (i := 16) (oi := ⟨some 39, _, _, _, _, _⟩) rfl (by kernel_rfl) (by kernel_rfl) (by kernel_rfl) (fun _ _ _ h => h) (by rfl) _ rfl _ rfl _ (fun _ h => h.1) rfl hHeld ?_
  try simp only [Act.put, List.setIfInBounds_toArray, List.set_cons_zero, List.set_cons_succ]
  refine wpAnyH_take (i := 17) (oi := ⟨some 40, _, _, _, _, _⟩) (v := ?ve17) rfl (by kernel_rfl) (by kernel_rfl) (by kernel_rfl) (fun _ _ _ h => h) (Or.inl ⟨by rfl, ?hye17⟩) hHeld ?reste17
  case hye17 => (intro w hSw; go_simp; try (with_reducible rfl))
  try simp only [Act.put, List.setIfInBounds_toArray, List.set_cons_zero, List.set_cons_succ]
  refine wpAnyH_take (i := 18) (oi := ⟨some 41, _, _, _, _, _⟩) (v := ?ve18) rfl (by kernel_rfl) (by kernel_rfl) (by kernel_rfl) (fun _ _ _ h => h) (Or.inl ⟨by rfl, ?hye18⟩) hHeld ?reste18
  case hye18 => (intro w hSw; go_simp; try (with_reducible rfl))
  try simp only [Act.put, List.setIfInBounds_toArray, List.set_cons_zero, List.set_cons_succ]
  refine wpAnyH_ready (rs := [15]) (by kernel_rfl) (by simp) ?_
  refine AllReadyH.cons (o := ⟨some 38, _, _, _, _, _⟩) rfl (fun K hK => ?_) AllReadyH.nil
  go_simp
  refine (Ht1.out _ hHeld.2.2.2).mono ?_; rintro e w' ⟨rfl, hg⟩
  refine hK.out _ _ ⟨Box.below hHeld.1 hg (Nat.lt_of_lt_of_le lc hHeld.2.2.1), Box.below hHeld.2.1 hg (Nat.lt_of_lt_of_le ld hHeld.2.2.1), Nat.le_trans hHeld.2.2.1 hg.size, hHeld.2.2.2.trans (hg.mono hHeld.2.2.1)⟩ (fun hHeld' => ?_)
  clear hK K hHeld
  have hHeld := hHeld'
  clear hHeld'
  try simp only [Act.put, List.setIfInBounds_toArray, List.set_cons_zero, List.set_cons_succ]
  refine wpAnyH_ready (rs := [19]) (by kernel_rfl) (by simp) ?_
  refine AllReadyH.cons (o := ⟨some 42, _, _, _, _, _⟩) rfl (fun K hK => ?_) AllReadyH.nil
  go_simp
  refine (Ht.out _ hHeld.2.2.2).mono ?_; rintro e w' ⟨rfl, hg⟩
  refine hK.out _ _ ⟨Box.below hHeld.1 hg (Nat.lt_of_lt_of_le lc hHeld.2.2.1), Box.below hHeld.2.1 hg (Nat.lt_of_lt_of_le ld hHeld.2.2.1), Nat.le_trans hHeld.2.2.1 hg.size, hHeld.2.2.2.trans (hg.mono hHeld.2.2.1)⟩ (fun hHeld' => ?_)
  clear hK K hHeld
  have hHeld := hHeld'
  clear hHeld'
  try simp only [Act.put, List.setIfInBounds_toArray, List.set_cons_zero, List.set_cons_succ]
  refine wpAnyH_take (i := 20) (oi := ⟨some 43, _, _, _, _, _⟩) (v := ?ve20) rfl (by kernel_rfl) (by kernel_rfl) (by kernel_rfl) (fun _ _ _ h => h) (Or.inl ⟨by rfl, ?hye20⟩) hHeld ?reste20
  case hye20 => (intro w hSw; go_simp; try (with_reducible rfl))
  try simp only [Act.put, List.setIfInBounds_toArray, List.set_cons_zero, List.set_cons_succ]
  refine wpAnyH_take (i := 21) (oi := ⟨some 44, _, _, _, _, _⟩) (v := ?ve21) rfl (by kernel_rfl) (by kernel_rfl) (by kernel_rfl) (fun _ _ _ h => h) (Or.inl ⟨by rfl, ?hye21⟩) hHeld ?reste21
  case hye21 => (intro w hSw; go_simp; try (with_reducible rfl))
  try simp only [Act.put, List.setIfInBounds_toArray, List.set_cons_zero, List.set_cons_succ]
  refine wpAnyH_take (i := 22) (oi := ⟨some 45, _, _, _, _, _⟩) (v := ?ve22) rfl (by kernel_rfl) (by kernel_rfl) (by kernel_rfl) (fun _ _ _ h => h) (Or.inl ⟨by rfl, ?hye22⟩) hHeld ?reste22
  case hye22 => (intro w hSw; go_simp; try (with_reducible rfl))
  try simp only [Act.put, List.setIfInBounds_toArray, List.set_cons_zero, List.set_cons_succ]
  refine tk_box (i := 23) (oi := ⟨some 46, _, _, _, _, _⟩) rfl (by kernel_rfl) (by kernel_rfl) (by kernel_rfl) (fun _ _ _ h => h) (by rfl) _ rfl _ rfl _ (fun _ h => h.1) rfl hHeld ?_
  try simp only [Act.put, List.setIfInBounds_toArray, List.set_cons_zero, List.set_cons_succ]
  refine wpAnyH_take (i := 24) (oi := ⟨some 47, _, _, _, _, _⟩) (v := ?ve24) rfl (by kernel_rfl) (by kernel_rfl) (by kernel_rfl) (fun _ _ _ h => h) (Or.inl ⟨by rfl, ?hye24⟩) hHeld ?reste24
  case hye24 => (intro w hSw; go_simp; try (with_reducible rfl))
  try simp only [Act.put, List.setIfInBounds_toArray, List.set_cons_zero, List.set_cons_succ]
  refine wpAnyH_take (i := 25) (oi := ⟨some 48, _, _, _, _, _⟩) (v := ?ve25) rfl (by kernel_rfl) (by kernel_rfl) (by kernel_rfl) (fun _ _ _ h => h) (Or.inl ⟨by rfl, ?hye25⟩) hHeld ?reste25
  case hye25 => (intro w hSw; go_simp; try (with_reducible rfl))
  try simp only [Act.put, List.setIfInBounds_toArray, List.set_cons_zero, List.set_cons_succ]
  refine tk_box (i := 27) (oi := ⟨some 50, _, _, _, _, _⟩) rfl (by kernel_rfl) (by kernel_rfl) (by kernel_rfl) (fun _ _ _ h => h) (by rfl) _ rfl _ rfl _ (fun _ h => h.1) rfl hHeld ?_
  try simp only [Act.put, List.setIfInBounds_toArray, List.set_cons_zero, List.set_cons_succ]
  refine wpAnyH_ready (rs := [26]) (by kernel_rfl) (by simp) ?_
  refine AllReadyH.cons (o := ⟨some 49, _, _, _, _, _⟩) rfl (fun K hK => ?_) AllReadyH.nil
  go_simp
  refine (Hm.out _ hHeld.2.2.2).mono ?_; rintro e w' ⟨rfl, hg⟩
  refine hK.out _ _ ⟨Box.below hHeld.1 hg (Nat.lt_of_lt_of_le lc hHeld.2.2.1), Box.below hHeld.2.1 hg (Nat.lt_of_lt_of_le ld hHeld.2.2.1), Nat.le_trans hHeld.2.2.1 hg.size, hHeld.2.2.2.trans (hg.mono hHeld.2.2.1)⟩ (fun hHeld' => ?_)
  clear hK K hHeld
  have hHeld := hHeld'
  clear hHeld'
  try simp only [Act.put, List.setIfInBounds_toArray, List.set_cons_zero, List.set_cons_succ]
  refine wpAnyH_ready (rs := [28]) (by kernel_rfl) (by simp) ?_
  refine AllReadyH.cons (o := ⟨some 51, _, _, _, _, _⟩) rfl (fun K hK => ?_) AllReadyH.nil
  go_simp
  refine (H0.out _ hHeld.2.2.2).mono ?_; rintro e w' ⟨rfl, hg⟩
  refine hK.out _ _ ⟨Box.below hHeld.1 hg (Nat.lt_of_lt_of_le lc hHeld.2.2.1), Box.below hHeld.2.1 hg (Nat.lt_of_lt_of_le ld hHeld.2.2.1), Nat.le_trans hHeld.2.2.1 hg.size, hHeld.2.2.2.trans (hg.mono hHeld.2.2.1)⟩ (fun hHeld' => ?_)
  clear hK K hHeld
  have hHeld := hHeld'
  clear hHeld'
  try simp only [Act.put, List.setIfInBounds_toArray, List.set_cons_zero, List.set_cons_succ]
  refine wpAnyH_take (i := 29) (oi := ⟨some 52, _, _, _, _, _⟩) (v := ?ve29) rfl (by kernel_rfl) (by kernel_rfl) (by kernel_rfl) (fun _ _ _ h => h) (Or.inl ⟨by rfl, ?hye29⟩) hHeld ?reste29
  case hye29 => (intro w hSw; go_simp; try (with_reducible rfl))
  try simp only [Act.put, List.setIfInBounds_toArray, List.set_cons_zero, List.set_cons_succ]
  refine wpAnyH_take (i := 30) (oi := ⟨some 53, _, _, _, _, _⟩) (v := ?ve30) rfl (by kernel_rfl) (by kernel_rfl) (by kernel_rfl) (fun _ _ _ h => h) (Or.inl ⟨by rfl, ?hye30⟩) hHeld ?reste30
  case hye30 => (intro w hSw; go_simp; try (with_reducible rfl))
  try simp only [Act.put, List.setIfInBounds_toArray, List.set_cons_zero, List.set_cons_succ]
  refine wpAnyH_done (by kernel_rfl) ?_ _
  have Z := Lib.hid hHeld
  clear hHeld
  go_wp2_with fail
  have LE := Lib.hid (show N = 0 → v1 = 1 from fun h => by rw [← E1.out]; unfold lav; rw [if_pos (by rw [L1.out]; exact h)])
  have TE := Lib.hid (show N2 = 0 → v2 = (pc + 4) % 4294967296 from fun h => by rw [← E2.out]; unfold tav; rw [if_pos (by rw [L2.out]; exact h)])
  clear s1 s2 s3
  have u4 : IntKind.u32.wrap (pc + 4) = (pc + 4) % 4294967296 := IntKind.wrap_u32 _
  by_cases hN : N = 0
  · subst hN
    have lv := LE.out rfl
    subst lv
    by_cases hM : N2 = 0
    · subst hM
      have tv := TE.out rfl
      subst tv
      refine wp_region_held_drew (S := fun w' => Box w' w.heap.size m wd ro qu st sl se wa A p C tb A2 p2 C2 ∧ Box w' w3.heap.size (cl 0 2 m) (cl 1 2 wd) (cl 2 8 ro) (cl 1 4 qu) (cl 1 4 st) (cl 2 6 sl) (cs se) (cl 1 2 wa) A8 0 C8 tb A10 0 C10 ∧ w4.heap.size ≤ w'.heap.size ∧ Below w4.heap.size w4 w') (by kernel_rfl) ⟨Z.out.1, Z.out.2.1, Z.out.2.2.1, Z.out.2.2.2.drew⟩ (fun hHeld => ?_)
      refine wpAnyH_ready (rs := [0]) (by kernel_rfl) (by simp) ?_
      refine AllReadyH.cons (o := ⟨some 54, _, _, _, _, _⟩) rfl (fun K hK => ?_) AllReadyH.nil
      go_simp
      refine (alive_any _).mono ?_; rintro e w' ⟨rfl, hg⟩
      refine hK.out _ _ ⟨Box.below hHeld.1 hg (Nat.lt_of_lt_of_le lc hHeld.2.2.1), Box.below hHeld.2.1 hg (Nat.lt_of_lt_of_le ld hHeld.2.2.1), Nat.le_trans hHeld.2.2.1 hg.size, hHeld.2.2.2.trans (hg.mono hHeld.2.2.1)⟩ (fun hHeld' => ?_)
      clear hK K hHeld
      have hHeld := hHeld'
      clear hHeld'
      try simp only [Act.put, List.setIfInBounds_toArray, List.set_cons_zero, List.set_cons_succ]
      refine wpAnyH_take (i := 1) (oi := ⟨some 55, _, _, _, _, _⟩) (v := ?vf111) rfl (by kernel_rfl) (by kernel_rfl) (by kernel_rfl) (fun _ _ _ h => h) (Or.inl ⟨by rfl, ?hyf111⟩) hHeld ?restf111
      case hyf111 => (intro w hSw; go_simp; try (with_reducible rfl))
      try simp only [Act.put, List.setIfInBounds_toArray, List.set_cons_zero, List.set_cons_succ]
      refine wpAnyH_take (i := 2) (oi := ⟨some 56, _, _, _, _, _⟩) (v := ?vf112) rfl (by kernel_rfl) (by kernel_rfl) (by kernel_rfl) (fun _ _ _ h => h) (Or.inl ⟨by rfl, ?hyf112⟩) hHeld ?restf112
      case hyf112 => (intro w hSw; go_simp; try (with_reducible rfl))
      try simp only [Act.put, List.setIfInBounds_toArray, List.set_cons_zero, List.set_cons_succ]
      refine wpAnyH_take (i := 3) (oi := ⟨some 57, _, _, _, _, _⟩) (v := ?vf113) rfl (by kernel_rfl) (by kernel_rfl) (by kernel_rfl) (fun _ _ _ h => h) (Or.inl ⟨by rfl, ?hyf113⟩) hHeld ?restf113
      case hyf113 => (intro w hSw; go_simp; try (with_reducible rfl))
      try simp only [Act.put, List.setIfInBounds_toArray, List.set_cons_zero, List.set_cons_succ]
      refine wpAnyH_take (i := 4) (oi := ⟨some 58, _, _, _, _, _⟩) (v := ?vf114) rfl (by kernel_rfl) (by kernel_rfl) (by kernel_rfl) (fun _ _ _ h => h) (Or.inl ⟨by rfl, ?hyf114⟩) hHeld ?restf114
      case hyf114 => (intro w hSw; go_simp; try (with_reducible rfl))
      try simp only [Act.put, List.setIfInBounds_toArray, List.set_cons_zero, List.set_cons_succ]
      refine tk_box (i := 5) (oi := ⟨some 59, _, _, _, _, _⟩) rfl (by kernel_rfl) (by kernel_rfl) (by kernel_rfl) (fun _ _ _ h => h) (by rfl) _ rfl _ rfl _ (fun _ h => h.1) rfl hHeld ?_
      try simp only [Act.put, List.setIfInBounds_toArray, List.set_cons_zero, List.set_cons_succ]
      refine wpAnyH_take (i := 6) (oi := ⟨some 60, _, _, _, _, _⟩) (v := ?vf116) rfl (by kernel_rfl) (by kernel_rfl) (by kernel_rfl) (fun _ _ _ h => h) (Or.inl ⟨by rfl, ?hyf116⟩) hHeld ?restf116
      case hyf116 => (intro w hSw; go_simp; try (with_reducible rfl))
      try simp only [Act.put, List.setIfInBounds_toArray, List.set_cons_zero, List.set_cons_succ]
      refine wpAnyH_ready (rs := [7]) (by kernel_rfl) (by simp) ?_
      refine AllReadyH.cons (o := ⟨some 61, _, _, _, _, _⟩) rfl (fun K hK => ?_) AllReadyH.nil
      go_simp
      refine (Hk.out _ hHeld.2.2.2).mono ?_; rintro e w' ⟨rfl, hg⟩
      refine hK.out _ _ ⟨Box.below hHeld.1 hg (Nat.lt_of_lt_of_le lc hHeld.2.2.1), Box.below hHeld.2.1 hg (Nat.lt_of_lt_of_le ld hHeld.2.2.1), Nat.le_trans hHeld.2.2.1 hg.size, hHeld.2.2.2.trans (hg.mono hHeld.2.2.1)⟩ (fun hHeld' => ?_)
      clear hK K hHeld
      have hHeld := hHeld'
      clear hHeld'
      try simp only [Act.put, List.setIfInBounds_toArray, List.set_cons_zero, List.set_cons_succ]
      refine wpAnyH_take (i := 8) (oi := ⟨some 62, _, _, _, _, _⟩) (v := ?vf118) rfl (by kernel_rfl) (by kernel_rfl) (by kernel_rfl) (fun _ _ _ h => h) (Or.inl ⟨by rfl, ?hyf118⟩) hHeld ?restf118
      case hyf118 => (intro w hSw; go_simp; try (with_reducible rfl))
      try simp only [Act.put, List.setIfInBounds_toArray, List.set_cons_zero, List.set_cons_succ]
      refine wpAnyH_take (i := 9) (oi := ⟨some 63, _, _, _, _, _⟩) (v := ?vf119) rfl (by kernel_rfl) (by kernel_rfl) (by kernel_rfl) (fun _ _ _ h => h) (Or.inl ⟨by rfl, ?hyf119⟩) hHeld ?restf119
      case hyf119 => (intro w hSw; go_simp; try (with_reducible rfl))
      try simp only [Act.put, List.setIfInBounds_toArray, List.set_cons_zero, List.set_cons_succ]
      refine wpAnyH_take (i := 10) (oi := ⟨some 64, _, _, _, _, _⟩) (v := ?vf1110) rfl (by kernel_rfl) (by kernel_rfl) (by kernel_rfl) (fun _ _ _ h => h) (Or.inl ⟨by rfl, ?hyf1110⟩) hHeld ?restf1110
      case hyf1110 => (intro w hSw; go_simp; try (with_reducible rfl))
      try simp only [Act.put, List.setIfInBounds_toArray, List.set_cons_zero, List.set_cons_succ]
      refine wpAnyH_take (i := 11) (oi := ⟨some 65, _, _, _, _, _⟩) (v := ?vf1111) rfl (by kernel_rfl) (by kernel_rfl) (by kernel_rfl) (fun _ _ _ h => h) (Or.inl ⟨by rfl, ?hyf1111⟩) hHeld ?restf1111
      case hyf1111 => (intro w hSw; go_simp; try (with_reducible rfl))
      try simp only [Act.put, List.setIfInBounds_toArray, List.set_cons_zero, List.set_cons_succ]
      refine wpAnyH_take (i := 12) (oi := ⟨some 66, _, _, _, _, _⟩) (v := ?vf1112) rfl (by kernel_rfl) (by kernel_rfl) (by kernel_rfl) (fun _ _ _ h => h) (Or.inl ⟨by rfl, ?hyf1112⟩) hHeld ?restf1112
      case hyf1112 => (intro w hSw; go_simp; try (with_reducible rfl))
      try simp only [Act.put, List.setIfInBounds_toArray, List.set_cons_zero, List.set_cons_succ]
      refine wpAnyH_take (i := 13) (oi := ⟨some 67, _, _, _, _, _⟩) (v := ?vf1113) rfl (by kernel_rfl) (by kernel_rfl) (by kernel_rfl) (fun _ _ _ h => h) (Or.inl ⟨by rfl, ?hyf1113⟩) hHeld ?restf1113
      case hyf1113 => (intro w hSw; go_simp; try (with_reducible rfl))
      try simp only [Act.put, List.setIfInBounds_toArray, List.set_cons_zero, List.set_cons_succ]
      refine wpAnyH_take (i := 14) (oi := ⟨some 68, _, _, _, _, _⟩) (v := ?vf1114) rfl (by kernel_rfl) (by kernel_rfl) (by kernel_rfl) (fun _ _ _ h => h) (Or.inl ⟨by rfl, ?hyf1114⟩) hHeld ?restf1114
      case hyf1114 => (intro w hSw; go_simp; try (with_reducible rfl))
      try simp only [Act.put, List.setIfInBounds_toArray, List.set_cons_zero, List.set_cons_succ]
      refine tk_box (i := 15) (oi := ⟨some 69, _, _, _, _, _⟩) rfl (by kernel_rfl) (by kernel_rfl) (by kernel_rfl) (fun _ _ _ h => h) (by rfl) _ rfl _ rfl _ (fun _ h => h.1) rfl hHeld ?_
      try simp only [Act.put, List.setIfInBounds_toArray, List.set_cons_zero, List.set_cons_succ]
      refine wpAnyH_take (i := 16) (oi := ⟨some 70, _, _, _, _, _⟩) (v := ?vf1116) rfl (by kernel_rfl) (by kernel_rfl) (by kernel_rfl) (fun _ _ _ h => h) (Or.inl ⟨by rfl, ?hyf1116⟩) hHeld ?restf1116
      case hyf1116 => (intro w hSw; go_simp; try (with_reducible rfl))
      try simp only [Act.put, List.setIfInBounds_toArray, List.set_cons_zero, List.set_cons_succ]
      refine wpAnyH_take (i := 17) (oi := ⟨some 71, _, _, _, _, _⟩) (v := ?vf1117) rfl (by kernel_rfl) (by kernel_rfl) (by kernel_rfl) (fun _ _ _ h => h) (Or.inl ⟨by rfl, ?hyf1117⟩) hHeld ?restf1117
      case hyf1117 => (intro w hSw; go_simp; try (with_reducible rfl))
      try simp only [Act.put, List.setIfInBounds_toArray, List.set_cons_zero, List.set_cons_succ]
      refine wpAnyH_take (i := 19) (oi := ⟨some 73, _, _, _, _, _⟩) (v := ?vf1119) rfl (by kernel_rfl) (by kernel_rfl) (by kernel_rfl) (fun _ _ _ h => h) (Or.inl ⟨by rfl, ?hyf1119⟩) hHeld ?restf1119
      case hyf1119 => (intro w hSw; go_simp; try (with_reducible rfl))
      try simp only [Act.put, List.setIfInBounds_toArray, List.set_cons_zero, List.set_cons_succ]
      refine wpAnyH_take (i := 20) (oi := ⟨some 74, _, _, _, _, _⟩) (v := ?vf1120) rfl (by kernel_rfl) (by kernel_rfl) (by kernel_rfl) (fun _ _ _ h => h) (Or.inl ⟨by rfl, ?hyf1120⟩) hHeld ?restf1120
      case hyf1120 => (intro w hSw; go_simp; try (with_reducible rfl))
      try simp only [Act.put, List.setIfInBounds_toArray, List.set_cons_zero, List.set_cons_succ]
      refine wpAnyH_ready (rs := [18]) (by kernel_rfl) (by simp) ?_
      refine AllReadyH.cons (o := ⟨some 72, _, _, _, _, _⟩) rfl (fun K hK => ?_) AllReadyH.nil
      go_simp
      refine (Ht.out _ hHeld.2.2.2).mono ?_; rintro e w' ⟨rfl, hg⟩
      refine hK.out _ _ ⟨Box.below hHeld.1 hg (Nat.lt_of_lt_of_le lc hHeld.2.2.1), Box.below hHeld.2.1 hg (Nat.lt_of_lt_of_le ld hHeld.2.2.1), Nat.le_trans hHeld.2.2.1 hg.size, hHeld.2.2.2.trans (hg.mono hHeld.2.2.1)⟩ (fun hHeld' => ?_)
      clear hK K hHeld
      have hHeld := hHeld'
      clear hHeld'
      try simp only [Act.put, List.setIfInBounds_toArray, List.set_cons_zero, List.set_cons_succ]
      refine wpAnyH_take (i := 21) (oi := ⟨some 75, _, _, _, _, _⟩) (v := ?vf1121) rfl (by kernel_rfl) (by kernel_rfl) (by kernel_rfl) (fun _ _ _ h => h) (Or.inl ⟨by rfl, ?hyf1121⟩) hHeld ?restf1121
      case hyf1121 => (intro w hSw; go_simp; try (with_reducible rfl))
      try simp only [Act.put, List.setIfInBounds_toArray, List.set_cons_zero, List.set_cons_succ]
      refine wpAnyH_take (i := 22) (oi := ⟨some 76, _, _, _, _, _⟩) (v := ?vf1122) rfl (by kernel_rfl) (by kernel_rfl) (by kernel_rfl) (fun _ _ _ h => h) (Or.inl ⟨by rfl, ?hyf1122⟩) hHeld ?restf1122
      case hyf1122 => (intro w hSw; go_simp; try (with_reducible rfl))
      try simp only [Act.put, List.setIfInBounds_toArray, List.set_cons_zero, List.set_cons_succ]
      refine wpAnyH_take (i := 23) (oi := ⟨some 77, _, _, _, _, _⟩) (v := ?vf1123) rfl (by kernel_rfl) (by kernel_rfl) (by kernel_rfl) (fun _ _ _ h => h) (Or.inl ⟨by rfl, ?hyf1123⟩) hHeld ?restf1123
      case hyf1123 => (intro w hSw; go_simp; try (with_reducible rfl))
      try simp only [Act.put, List.setIfInBounds_toArray, List.set_cons_zero, List.set_cons_succ]
      refine wpAnyH_take (i := 24) (oi := ⟨some 78, _, _, _, _, _⟩) (v := ?vf1124) rfl (by kernel_rfl) (by kernel_rfl) (by kernel_rfl) (fun _ _ _ h => h) (Or.inl ⟨by rfl, ?hyf1124⟩) hHeld ?restf1124
      case hyf1124 => (intro w hSw; go_simp; try (with_reducible rfl))
      try simp only [Act.put, List.setIfInBounds_toArray, List.set_cons_zero, List.set_cons_succ]
      refine wpAnyH_take (i := 25) (oi := ⟨some 79, _, _, _, _, _⟩) (v := ?vf1125) rfl (by kernel_rfl) (by kernel_rfl) (by kernel_rfl) (fun _ _ _ h => h) (Or.inl ⟨by rfl, ?hyf1125⟩) hHeld ?restf1125
      case hyf1125 => (intro w hSw; go_simp; try (with_reducible rfl))
      try simp only [Act.put, List.setIfInBounds_toArray, List.set_cons_zero, List.set_cons_succ]
      refine wpAnyH_take (i := 26) (oi := ⟨some 80, _, _, _, _, _⟩) (v := ?vf1126) rfl (by kernel_rfl) (by kernel_rfl) (by kernel_rfl) (fun _ _ _ h => h) (Or.inl ⟨by rfl, ?hyf1126⟩) hHeld ?restf1126
      case hyf1126 => (intro w hSw; go_simp; try (with_reducible rfl))
      try simp only [Act.put, List.setIfInBounds_toArray, List.set_cons_zero, List.set_cons_succ]
      refine wpAnyH_take (i := 27) (oi := ⟨some 81, _, _, _, _, _⟩) (v := ?vf1127) rfl (by kernel_rfl) (by kernel_rfl) (by kernel_rfl) (fun _ _ _ h => h) (Or.inl ⟨by rfl, ?hyf1127⟩) hHeld ?restf1127
      case hyf1127 => (intro w hSw; go_simp; try (with_reducible rfl))
      try simp only [Act.put, List.setIfInBounds_toArray, List.set_cons_zero, List.set_cons_succ]
      refine tk_skip (i := 28) (oi := ⟨some 82, _, _, _, _, _⟩) rfl (by kernel_rfl) (by kernel_rfl) (by kernel_rfl) (fun _ _ _ h => h) (by rfl) hHeld ?_
      try simp only [Act.put, List.setIfInBounds_toArray, List.set_cons_zero, List.set_cons_succ]
      refine tk_skip (i := 29) (oi := ⟨some 83, _, _, _, _, _⟩) rfl (by kernel_rfl) (by kernel_rfl) (by kernel_rfl) (fun _ _ _ h => h) (by rfl) hHeld ?_
      try simp only [Act.put, List.setIfInBounds_toArray, List.set_cons_zero, List.set_cons_succ]
      refine tk_skip (i := 30) (oi := ⟨some 84, _, _, _, _, _⟩) rfl (by kernel_rfl) (by kernel_rfl) (by kernel_rfl) (fun _ _ _ h => h) (by rfl) hHeld ?_
      try simp only [Act.put, List.setIfInBounds_toArray, List.set_cons_zero, List.set_cons_succ]
      refine tk_skip (i := 31) (oi := ⟨some 85, _, _, _, _, _⟩) rfl (by kernel_rfl) (by kernel_rfl) (by kernel_rfl) (fun _ _ _ h => h) (by rfl) hHeld ?_
      try simp only [Act.put, List.setIfInBounds_toArray, List.set_cons_zero, List.set_cons_succ]
      refine tk_skip (i := 32) (oi := ⟨some 86, _, _, _, _, _⟩) rfl (by kernel_rfl) (by kernel_rfl) (by kernel_rfl) (fun _ _ _ h => h) (by rfl) hHeld ?_
      try simp only [Act.put, List.setIfInBounds_toArray, List.set_cons_zero, List.set_cons_succ]
      refine tk_skip (i := 33) (oi := ⟨some 87, _, _, _, _, _⟩) rfl (by kernel_rfl) (by kernel_rfl) (by kernel_rfl) (fun _ _ _ h => h) (by rfl) hHeld ?_
      try simp only [Act.put, List.setIfInBounds_toArray, List.set_cons_zero, List.set_cons_succ]
      refine tk_skip (i := 34) (oi := ⟨some 88, _, _, _, _, _⟩) rfl (by kernel_rfl) (by kernel_rfl) (by kernel_rfl) (fun _ _ _ h => h) (by rfl) hHeld ?_
      try simp only [Act.put, List.setIfInBounds_toArray, List.set_cons_zero, List.set_cons_succ]
      refine tk_skip (i := 35) (oi := ⟨some 89, _, _, _, _, _⟩) rfl (by kernel_rfl) (by kernel_rfl) (by kernel_rfl) (fun _ _ _ h => h) (by rfl) hHeld ?_
      try simp only [Act.put, List.setIfInBounds_toArray, List.set_cons_zero, List.set_cons_succ]
      refine tk_skip (i := 36) (oi := ⟨some 90, _, _, _, _, _⟩) rfl (by kernel_rfl) (by kernel_rfl) (by kernel_rfl) (fun _ _ _ h => h) (by rfl) hHeld ?_
      try simp only [Act.put, List.setIfInBounds_toArray, List.set_cons_zero, List.set_cons_succ]
      refine tk_skip (i := 37) (oi := ⟨some 91, _, _, _, _, _⟩) rfl (by kernel_rfl) (by kernel_rfl) (by kernel_rfl) (fun _ _ _ h => h) (by rfl) hHeld ?_
      try simp only [Act.put, List.setIfInBounds_toArray, List.set_cons_zero, List.set_cons_succ]
      refine tk_skip (i := 38) (oi := ⟨some 92, _, _, _, _, _⟩) rfl (by kernel_rfl) (by kernel_rfl) (by kernel_rfl) (fun _ _ _ h => h) (by rfl) hHeld ?_
      try simp only [Act.put, List.setIfInBounds_toArray, List.set_cons_zero, List.set_cons_succ]
      refine tk_skip (i := 39) (oi := ⟨some 93, _, _, _, _, _⟩) rfl (by kernel_rfl) (by kernel_rfl) (by kernel_rfl) (fun _ _ _ h => h) (by rfl) hHeld ?_
      try simp only [Act.put, List.setIfInBounds_toArray, List.set_cons_zero, List.set_cons_succ]
      refine wpAnyH_take (i := 40) (oi := ⟨some 94, _, _, _, _, _⟩) (v := ?vf1140) rfl (by kernel_rfl) (by kernel_rfl) (by kernel_rfl) (fun _ _ _ h => h) (Or.inl ⟨by rfl, ?hyf1140⟩) hHeld ?restf1140
      case hyf1140 => (intro w hSw; go_simp; try (with_reducible rfl))
      try simp only [Act.put, List.setIfInBounds_toArray, List.set_cons_zero, List.set_cons_succ]
      refine wpAnyH_take (i := 41) (oi := ⟨some 95, _, _, _, _, _⟩) (v := ?vf1141) rfl (by kernel_rfl) (by kernel_rfl) (by kernel_rfl) (fun _ _ _ h => h) (Or.inl ⟨by rfl, ?hyf1141⟩) hHeld ?restf1141
      case hyf1141 => (intro w hSw; go_simp; try (with_reducible rfl))
      try simp only [Act.put, List.setIfInBounds_toArray, List.set_cons_zero, List.set_cons_succ]
      refine wpAnyH_take (i := 42) (oi := ⟨some 6, _, _, _, _, _⟩) (v := ?vf1142) rfl (by kernel_rfl) (by kernel_rfl) (by kernel_rfl) (fun _ _ _ h => h) (Or.inl ⟨by rfl, ?hyf1142⟩) hHeld ?restf1142
      case hyf1142 => (intro w hSw; go_simp; try (with_reducible rfl))
      try simp only [Act.put, List.setIfInBounds_toArray, List.set_cons_zero, List.set_cons_succ]
      refine wpAnyH_done (by kernel_rfl) ?_ _
      have Z := Lib.hid hHeld.2.2
      clear hHeld
      go_wp2
      go_ret
      exact ⟨rfl, hb4.out.trans (Z.out.2.mono (Nat.le_of_lt (by omega)))⟩
    · clear TE
      have g2 : decide (0 < N2) = true := decide_eq_true (by omega)
      have g4 : (N2 == 0) = false := by rw [beq_eq_false_iff_ne]; omega
      have g3 : ((N2 : Int) == 0) = false := by rw [beq_eq_false_iff_ne]; omega
      have s4 : kk.tmod (N2 : Int) = kk % (N2 : Int) := Int.tmod_eq_emod_of_nonneg bk0
      have hp0 : 0 ≤ kk % (N2 : Int) := Int.emod_nonneg _ (by omega)
      have hp1 : kk % (N2 : Int) < N2 := Int.emod_lt_of_pos _ (by omega)
      obtain ⟨b, off, rfl, hblt, hc⟩ := D2.out (by rw [L2.out]; omega)
      have hcell := hc (kk % (N2 : Int)).toNat (by rw [L2.out]; omega)
      have hv : (ta T').getD (kk % (N2 : Int)).toNat 0 = v2 := by rw [← E2.out]; unfold tav; rw [if_neg (by rw [L2.out]; omega), L2.out, pl_pos _ bk0]
      rw [hv] at hcell
      have hcell := Lib.hid hcell
      have hcell := hcell.out
      clear hc hv
      refine wp_region_held_drew (S := fun w' => Box w' w.heap.size m wd ro qu st sl se wa A p C tb A2 p2 C2 ∧ Box w' w3.heap.size (cl 0 2 m) (cl 1 2 wd) (cl 2 8 ro) (cl 1 4 qu) (cl 1 4 st) (cl 2 6 sl) (cs se) (cl 1 2 wa) A8 0 C8 tb (some ⟨b, off, none⟩) N2 C10 ∧ w4.heap.size ≤ w'.heap.size ∧ Below w4.heap.size w4 w' ∧ w'.cell? ⟨b, off + (kk % ↑N2).toNat, none⟩ = some (.int .u32 v2)) (by kernel_rfl) ⟨Z.out.1, Z.out.2.1, Z.out.2.2.1, Z.out.2.2.2.drew, (Z.out.2.2.2.cell (p := ⟨b, off + (kk % ↑N2).toNat, none⟩) hblt).trans hcell⟩ (fun hHeld => ?_)
      refine wpAnyH_ready (rs := [0]) (by kernel_rfl) (by simp) ?_
      refine AllReadyH.cons (o := ⟨some 54, _, _, _, _, _⟩) rfl (fun K hK => ?_) AllReadyH.nil
      go_simp
      refine (alive_any _).mono ?_; rintro e w' ⟨rfl, hg⟩
      refine hK.out _ _ ⟨Box.below hHeld.1 hg (Nat.lt_of_lt_of_le lc hHeld.2.2.1), Box.below hHeld.2.1 hg (Nat.lt_of_lt_of_le ld hHeld.2.2.1), Nat.le_trans hHeld.2.2.1 hg.size, hHeld.2.2.2.1.trans (hg.mono hHeld.2.2.1), (hg.cell (p := ⟨b, off + (kk % ↑N2).toNat, none⟩) (Nat.lt_of_lt_of_le hblt hHeld.2.2.1)).trans hHeld.2.2.2.2⟩ (fun hHeld' => ?_)
      clear hK K hHeld
      have hHeld := hHeld'
      clear hHeld'
      try simp only [Act.put, List.setIfInBounds_toArray, List.set_cons_zero, List.set_cons_succ]
      refine wpAnyH_take (i := 1) (oi := ⟨some 55, _, _, _, _, _⟩) (v := ?vf101) rfl (by kernel_rfl) (by kernel_rfl) (by kernel_rfl) (fun _ _ _ h => h) (Or.inl ⟨by rfl, ?hyf101⟩) hHeld ?restf101
      case hyf101 => (intro w hSw; go_simp; try (with_reducible rfl))
      try simp only [Act.put, List.setIfInBounds_toArray, List.set_cons_zero, List.set_cons_succ]
      refine wpAnyH_take (i := 2) (oi := ⟨some 56, _, _, _, _, _⟩) (v := ?vf102) rfl (by kernel_rfl) (by kernel_rfl) (by kernel_rfl) (fun _ _ _ h => h) (Or.inl ⟨by rfl, ?hyf102⟩) hHeld ?restf102
      case hyf102 => (intro w hSw; go_simp; try (with_reducible rfl))
      try simp only [Act.put, List.setIfInBounds_toArray, List.set_cons_zero, List.set_cons_succ]
      refine wpAnyH_take (i := 3) (oi := ⟨some 57, _, _, _, _, _⟩) (v := ?vf103) rfl (by kernel_rfl) (by kernel_rfl) (by kernel_rfl) (fun _ _ _ h => h) (Or.inl ⟨by rfl, ?hyf103⟩) hHeld ?restf103
      case hyf103 => (intro w hSw; go_simp; try (with_reducible rfl))
      try simp only [Act.put, List.setIfInBounds_toArray, List.set_cons_zero, List.set_cons_succ]
      refine wpAnyH_take (i := 4) (oi := ⟨some 58, _, _, _, _, _⟩) (v := ?vf104) rfl (by kernel_rfl) (by kernel_rfl) (by kernel_rfl) (fun _ _ _ h => h) (Or.inl ⟨by rfl, ?hyf104⟩) hHeld ?restf104
      case hyf104 => (intro w hSw; go_simp; try (with_reducible rfl))
      try simp only [Act.put, List.setIfInBounds_toArray, List.set_cons_zero, List.set_cons_succ]
      refine tk_box (i := 5) (oi := ⟨some 59, _, _, _, _, _⟩) rfl (by kernel_rfl) (by kernel_rfl) (by kernel_rfl) (fun _ _ _ h => h) (by rfl) _ rfl _ rfl _ (fun _ h => h.1) rfl hHeld ?_
      try simp only [Act.put, List.setIfInBounds_toArray, List.set_cons_zero, List.set_cons_succ]
      refine wpAnyH_take (i := 6) (oi := ⟨some 60, _, _, _, _, _⟩) (v := ?vf106) rfl (by kernel_rfl) (by kernel_rfl) (by kernel_rfl) (fun _ _ _ h => h) (Or.inl ⟨by rfl, ?hyf106⟩) hHeld ?restf106
      case hyf106 => (intro w hSw; go_simp; try (with_reducible rfl))
      try simp only [Act.put, List.setIfInBounds_toArray, List.set_cons_zero, List.set_cons_succ]
      refine wpAnyH_ready (rs := [7]) (by kernel_rfl) (by simp) ?_
      refine AllReadyH.cons (o := ⟨some 61, _, _, _, _, _⟩) rfl (fun K hK => ?_) AllReadyH.nil
      go_simp
      refine (Hk.out _ hHeld.2.2.2.1).mono ?_; rintro e w' ⟨rfl, hg⟩
      refine hK.out _ _ ⟨Box.below hHeld.1 hg (Nat.lt_of_lt_of_le lc hHeld.2.2.1), Box.below hHeld.2.1 hg (Nat.lt_of_lt_of_le ld hHeld.2.2.1), Nat.le_trans hHeld.2.2.1 hg.size, hHeld.2.2.2.1.trans (hg.mono hHeld.2.2.1), (hg.cell (p := ⟨b, off + (kk % ↑N2).toNat, none⟩) (Nat.lt_of_lt_of_le hblt hHeld.2.2.1)).trans hHeld.2.2.2.2⟩ (fun hHeld' => ?_)
      clear hK K hHeld
      have hHeld := hHeld'
      clear hHeld'
      try simp only [Act.put, List.setIfInBounds_toArray, List.set_cons_zero, List.set_cons_succ]
      refine wpAnyH_take (i := 8) (oi := ⟨some 62, _, _, _, _, _⟩) (v := ?vf108) rfl (by kernel_rfl) (by kernel_rfl) (by kernel_rfl) (fun _ _ _ h => h) (Or.inl ⟨by rfl, ?hyf108⟩) hHeld ?restf108
      case hyf108 => (intro w hSw; go_simp; try (with_reducible rfl))
      try simp only [Act.put, List.setIfInBounds_toArray, List.set_cons_zero, List.set_cons_succ]
      refine wpAnyH_take (i := 9) (oi := ⟨some 63, _, _, _, _, _⟩) (v := ?vf109) rfl (by kernel_rfl) (by kernel_rfl) (by kernel_rfl) (fun _ _ _ h => h) (Or.inl ⟨by rfl, ?hyf109⟩) hHeld ?restf109
      case hyf109 => (intro w hSw; go_simp; try (with_reducible rfl))
      try simp only [Act.put, List.setIfInBounds_toArray, List.set_cons_zero, List.set_cons_succ]
      refine wpAnyH_take (i := 10) (oi := ⟨some 64, _, _, _, _, _⟩) (v := ?vf1010) rfl (by kernel_rfl) (by kernel_rfl) (by kernel_rfl) (fun _ _ _ h => h) (Or.inl ⟨by rfl, ?hyf1010⟩) hHeld ?restf1010
      case hyf1010 => (intro w hSw; go_simp; try (with_reducible rfl))
      try simp only [Act.put, List.setIfInBounds_toArray, List.set_cons_zero, List.set_cons_succ]
      refine wpAnyH_take (i := 11) (oi := ⟨some 65, _, _, _, _, _⟩) (v := ?vf1011) rfl (by kernel_rfl) (by kernel_rfl) (by kernel_rfl) (fun _ _ _ h => h) (Or.inl ⟨by rfl, ?hyf1011⟩) hHeld ?restf1011
      case hyf1011 => (intro w hSw; go_simp; try (with_reducible rfl))
      try simp only [Act.put, List.setIfInBounds_toArray, List.set_cons_zero, List.set_cons_succ]
      refine wpAnyH_take (i := 12) (oi := ⟨some 66, _, _, _, _, _⟩) (v := ?vf1012) rfl (by kernel_rfl) (by kernel_rfl) (by kernel_rfl) (fun _ _ _ h => h) (Or.inl ⟨by rfl, ?hyf1012⟩) hHeld ?restf1012
      case hyf1012 => (intro w hSw; go_simp; try (with_reducible rfl))
      try simp only [Act.put, List.setIfInBounds_toArray, List.set_cons_zero, List.set_cons_succ]
      refine wpAnyH_take (i := 13) (oi := ⟨some 67, _, _, _, _, _⟩) (v := ?vf1013) rfl (by kernel_rfl) (by kernel_rfl) (by kernel_rfl) (fun _ _ _ h => h) (Or.inl ⟨by rfl, ?hyf1013⟩) hHeld ?restf1013
      case hyf1013 => (intro w hSw; go_simp; try (with_reducible rfl))
      try simp only [Act.put, List.setIfInBounds_toArray, List.set_cons_zero, List.set_cons_succ]
      refine wpAnyH_take (i := 14) (oi := ⟨some 68, _, _, _, _, _⟩) (v := ?vf1014) rfl (by kernel_rfl) (by kernel_rfl) (by kernel_rfl) (fun _ _ _ h => h) (Or.inl ⟨by rfl, ?hyf1014⟩) hHeld ?restf1014
      case hyf1014 => (intro w hSw; go_simp; try (with_reducible rfl))
      try simp only [Act.put, List.setIfInBounds_toArray, List.set_cons_zero, List.set_cons_succ]
      refine tk_skip (i := 15) (oi := ⟨some 69, _, _, _, _, _⟩) rfl (by kernel_rfl) (by kernel_rfl) (by kernel_rfl) (fun _ _ _ h => h) (by rfl) hHeld ?_
      try simp only [Act.put, List.setIfInBounds_toArray, List.set_cons_zero, List.set_cons_succ]
      refine tk_skip (i := 16) (oi := ⟨some 70, _, _, _, _, _⟩) rfl (by kernel_rfl) (by kernel_rfl) (by kernel_rfl) (fun _ _ _ h => h) (by rfl) hHeld ?_
      try simp only [Act.put, List.setIfInBounds_toArray, List.set_cons_zero, List.set_cons_succ]
      refine tk_skip (i := 17) (oi := ⟨some 71, _, _, _, _, _⟩) rfl (by kernel_rfl) (by kernel_rfl) (by kernel_rfl) (fun _ _ _ h => h) (by rfl) hHeld ?_
      try simp only [Act.put, List.setIfInBounds_toArray, List.set_cons_zero, List.set_cons_succ]
      refine tk_skip (i := 18) (oi := ⟨some 72, _, _, _, _, _⟩) rfl (by kernel_rfl) (by kernel_rfl) (by kernel_rfl) (fun _ _ _ h => h) (by rfl) hHeld ?_
      try simp only [Act.put, List.setIfInBounds_toArray, List.set_cons_zero, List.set_cons_succ]
      refine tk_skip (i := 19) (oi := ⟨some 73, _, _, _, _, _⟩) rfl (by kernel_rfl) (by kernel_rfl) (by kernel_rfl) (fun _ _ _ h => h) (by rfl) hHeld ?_
      try simp only [Act.put, List.setIfInBounds_toArray, List.set_cons_zero, List.set_cons_succ]
      refine tk_skip (i := 20) (oi := ⟨some 74, _, _, _, _, _⟩) rfl (by kernel_rfl) (by kernel_rfl) (by kernel_rfl) (fun _ _ _ h => h) (by rfl) hHeld ?_
      try simp only [Act.put, List.setIfInBounds_toArray, List.set_cons_zero, List.set_cons_succ]
      refine tk_skip (i := 21) (oi := ⟨some 75, _, _, _, _, _⟩) rfl (by kernel_rfl) (by kernel_rfl) (by kernel_rfl) (fun _ _ _ h => h) (by rfl) hHeld ?_
      try simp only [Act.put, List.setIfInBounds_toArray, List.set_cons_zero, List.set_cons_succ]
      refine wpAnyH_take (i := 22) (oi := ⟨some 76, _, _, _, _, _⟩) (v := ?vf1022) rfl (by kernel_rfl) (by kernel_rfl) (by kernel_rfl) (fun _ _ _ h => h) (Or.inl ⟨by rfl, ?hyf1022⟩) hHeld ?restf1022
      case hyf1022 => (intro w hSw; go_simp; try (with_reducible rfl))
      try simp only [Act.put, List.setIfInBounds_toArray, List.set_cons_zero, List.set_cons_succ]
      refine wpAnyH_take (i := 23) (oi := ⟨some 77, _, _, _, _, _⟩) (v := ?vf1023) rfl (by kernel_rfl) (by kernel_rfl) (by kernel_rfl) (fun _ _ _ h => h) (Or.inl ⟨by rfl, ?hyf1023⟩) hHeld ?restf1023
      case hyf1023 => (intro w hSw; go_simp; try (with_reducible rfl))
      try simp only [Act.put, List.setIfInBounds_toArray, List.set_cons_zero, List.set_cons_succ]
      refine wpAnyH_take (i := 24) (oi := ⟨some 78, _, _, _, _, _⟩) (v := ?vf1024) rfl (by kernel_rfl) (by kernel_rfl) (by kernel_rfl) (fun _ _ _ h => h) (Or.inl ⟨by rfl, ?hyf1024⟩) hHeld ?restf1024
      case hyf1024 => (intro w hSw; go_simp; try (with_reducible rfl))
      try simp only [Act.put, List.setIfInBounds_toArray, List.set_cons_zero, List.set_cons_succ]
      refine wpAnyH_take (i := 25) (oi := ⟨some 79, _, _, _, _, _⟩) (v := ?vf1025) rfl (by kernel_rfl) (by kernel_rfl) (by kernel_rfl) (fun _ _ _ h => h) (Or.inl ⟨by rfl, ?hyf1025⟩) hHeld ?restf1025
      case hyf1025 => (intro w hSw; go_simp; try (with_reducible rfl))
      try simp only [Act.put, List.setIfInBounds_toArray, List.set_cons_zero, List.set_cons_succ]
      refine wpAnyH_take (i := 26) (oi := ⟨some 80, _, _, _, _, _⟩) (v := ?vf1026) rfl (by kernel_rfl) (by kernel_rfl) (by kernel_rfl) (fun _ _ _ h => h) (Or.inl ⟨by rfl, ?hyf1026⟩) hHeld ?restf1026
      case hyf1026 => (intro w hSw; go_simp; try (with_reducible rfl))
      try simp only [Act.put, List.setIfInBounds_toArray, List.set_cons_zero, List.set_cons_succ]
      refine wpAnyH_take (i := 27) (oi := ⟨some 81, _, _, _, _, _⟩) (v := ?vf1027) rfl (by kernel_rfl) (by kernel_rfl) (by kernel_rfl) (fun _ _ _ h => h) (Or.inl ⟨by rfl, ?hyf1027⟩) hHeld ?restf1027
      case hyf1027 => (intro w hSw; go_simp; try (with_reducible rfl))
      try simp only [Act.put, List.setIfInBounds_toArray, List.set_cons_zero, List.set_cons_succ]
      refine tk_box (i := 28) (oi := ⟨some 82, _, _, _, _, _⟩) rfl (by kernel_rfl) (by kernel_rfl) (by kernel_rfl) (fun _ _ _ h => h) (by rfl) _ rfl _ rfl _ (fun _ h => h.1) rfl hHeld ?_
      try simp only [Act.put, List.setIfInBounds_toArray, List.set_cons_zero, List.set_cons_succ]
      refine wpAnyH_take (i := 29) (oi := ⟨some 83, _, _, _, _, _⟩) (v := ?vf1029) rfl (by kernel_rfl) (by kernel_rfl) (by kernel_rfl) (fun _ _ _ h => h) (Or.inl ⟨by rfl, ?hyf1029⟩) hHeld ?restf1029
      case hyf1029 => (intro w hSw; go_simp; try (with_reducible rfl))
      try simp only [Act.put, List.setIfInBounds_toArray, List.set_cons_zero, List.set_cons_succ]
      refine wpAnyH_take (i := 30) (oi := ⟨some 84, _, _, _, _, _⟩) (v := ?vf1030) rfl (by kernel_rfl) (by kernel_rfl) (by kernel_rfl) (fun _ _ _ h => h) (Or.inl ⟨by rfl, ?hyf1030⟩) hHeld ?restf1030
      case hyf1030 => (intro w hSw; go_simp; try (with_reducible rfl))
      try simp only [Act.put, List.setIfInBounds_toArray, List.set_cons_zero, List.set_cons_succ]
      refine wpAnyH_take (i := 32) (oi := ⟨some 86, _, _, _, _, _⟩) (v := ?vf1032) rfl (by kernel_rfl) (by kernel_rfl) (by kernel_rfl) (fun _ _ _ h => h) (Or.inl ⟨by rfl, ?hyf1032⟩) hHeld ?restf1032
      case hyf1032 => (intro w hSw; go_simp; try (with_reducible rfl))
      try simp only [Act.put, List.setIfInBounds_toArray, List.set_cons_zero, List.set_cons_succ]
      refine wpAnyH_take (i := 33) (oi := ⟨some 87, _, _, _, _, _⟩) (v := ?vf1033) rfl (by kernel_rfl) (by kernel_rfl) (by kernel_rfl) (fun _ _ _ h => h) (Or.inl ⟨by rfl, ?hyf1033⟩) hHeld ?restf1033
      case hyf1033 => (intro w hSw; obtain ⟨hA, hB, hC⟩ := hSw; obtain ⟨k0, k1, k2, k3, k4, k5, k6, k7, k8, k9, k10⟩ := Box.cells hB; go_simp; try (with_reducible rfl))
      try simp only [Act.put, List.setIfInBounds_toArray, List.set_cons_zero, List.set_cons_succ]
      refine wpAnyH_take (i := 34) (oi := ⟨some 88, _, _, _, _, _⟩) (v := ?vf1034) rfl (by kernel_rfl) (by kernel_rfl) (by kernel_rfl) (fun _ _ _ h => h) (Or.inl ⟨by rfl, ?hyf1034⟩) hHeld ?restf1034
      case hyf1034 => (intro w hSw; go_simp; try (with_reducible rfl))
      try simp only [Act.put, List.setIfInBounds_toArray, List.set_cons_zero, List.set_cons_succ]
      refine wpAnyH_take (i := 35) (oi := ⟨some 89, _, _, _, _, _⟩) (v := ?vf1035) rfl (by kernel_rfl) (by kernel_rfl) (by kernel_rfl) (fun _ _ _ h => h) (Or.inl ⟨by rfl, ?hyf1035⟩) hHeld ?restf1035
      case hyf1035 => (intro w hSw; go_simp; try (with_reducible rfl))
      try simp only [Act.put, List.setIfInBounds_toArray, List.set_cons_zero, List.set_cons_succ]
      refine wpAnyH_take (i := 36) (oi := ⟨some 90, _, _, _, _, _⟩) (v := ?vf1036) rfl (by kernel_rfl) (by kernel_rfl) (by kernel_rfl) (fun _ _ _ h => h) (Or.inl ⟨by rfl, ?hyf1036⟩) hHeld ?restf1036
      case hyf1036 => (intro w hSw; go_simp; try (with_reducible rfl))
      try simp only [Act.put, List.setIfInBounds_toArray, List.set_cons_zero, List.set_cons_succ]
      refine wpAnyH_take (i := 37) (oi := ⟨some 91, _, _, _, _, _⟩) (v := ?vf1037) rfl (by kernel_rfl) (by kernel_rfl) (by kernel_rfl) (fun _ _ _ h => h) (Or.inl ⟨by rfl, ?hyf1037⟩) hHeld ?restf1037
      case hyf1037 => (intro w hSw; go_simp; try (with_reducible rfl))
      try simp only [Act.put, List.setIfInBounds_toArray, List.set_cons_zero, List.set_cons_succ]
      refine wpAnyH_take (i := 38) (oi := ⟨some 92, _, _, _, _, _⟩) (v := ?vf1038) rfl (by kernel_rfl) (by kernel_rfl) (by kernel_rfl) (fun _ _ _ h => h) (Or.inl ⟨by rfl, ?hyf1038⟩) hHeld ?restf1038
      case hyf1038 => (intro w hSw; obtain ⟨hA, hB, hC, hD, hE⟩ := hSw; clear hA hB; go_simp; try (with_reducible rfl))
      try simp only [Act.put, List.setIfInBounds_toArray, List.set_cons_zero, List.set_cons_succ]
      refine wpAnyH_ready (rs := [31]) (by kernel_rfl) (by simp) ?_
      refine AllReadyH.cons (o := ⟨some 85, _, _, _, _, _⟩) rfl (fun K hK => ?_) AllReadyH.nil
      go_simp
      refine (Ht.out _ hHeld.2.2.2.1).mono ?_; rintro e w' ⟨rfl, hg⟩
      refine hK.out _ _ ⟨Box.below hHeld.1 hg (Nat.lt_of_lt_of_le lc hHeld.2.2.1), Box.below hHeld.2.1 hg (Nat.lt_of_lt_of_le ld hHeld.2.2.1), Nat.le_trans hHeld.2.2.1 hg.size, hHeld.2.2.2.1.trans (hg.mono hHeld.2.2.1), (hg.cell (p := ⟨b, off + (kk % ↑N2).toNat, none⟩) (Nat.lt_of_lt_of_le hblt hHeld.2.2.1)).trans hHeld.2.2.2.2⟩ (fun hHeld' => ?_)
      clear hK K hHeld
      have hHeld := hHeld'
      clear hHeld'
      try simp only [Act.put, List.setIfInBounds_toArray, List.set_cons_zero, List.set_cons_succ]
      refine wpAnyH_take (i := 39) (oi := ⟨some 93, _, _, _, _, _⟩) (v := ?vf1039) rfl (by kernel_rfl) (by kernel_rfl) (by kernel_rfl) (fun _ _ _ h => h) (Or.inl ⟨by rfl, ?hyf1039⟩) hHeld ?restf1039
      case hyf1039 => (intro w hSw; go_simp; try (with_reducible rfl))
      try simp only [Act.put, List.setIfInBounds_toArray, List.set_cons_zero, List.set_cons_succ]
      refine wpAnyH_take (i := 40) (oi := ⟨some 94, _, _, _, _, _⟩) (v := ?vf1040) rfl (by kernel_rfl) (by kernel_rfl) (by kernel_rfl) (fun _ _ _ h => h) (Or.inl ⟨by rfl, ?hyf1040⟩) hHeld ?restf1040
      case hyf1040 => (intro w hSw; go_simp; try (with_reducible rfl))
      try simp only [Act.put, List.setIfInBounds_toArray, List.set_cons_zero, List.set_cons_succ]
      refine wpAnyH_take (i := 41) (oi := ⟨some 95, _, _, _, _, _⟩) (v := ?vf1041) rfl (by kernel_rfl) (by kernel_rfl) (by kernel_rfl) (fun _ _ _ h => h) (Or.inl ⟨by rfl, ?hyf1041⟩) hHeld ?restf1041
      case hyf1041 => (intro w hSw; go_simp; try (with_reducible rfl))
      try simp only [Act.put, List.setIfInBounds_toArray, List.set_cons_zero, List.set_cons_succ]
      refine wpAnyH_take (i := 42) (oi := ⟨some 6, _, _, _, _, _⟩) (v := ?vf1042) rfl (by kernel_rfl) (by kernel_rfl) (by kernel_rfl) (fun _ _ _ h => h) (Or.inl ⟨by rfl, ?hyf1042⟩) hHeld ?restf1042
      case hyf1042 => (intro w hSw; go_simp; try (with_reducible rfl))
      try simp only [Act.put, List.setIfInBounds_toArray, List.set_cons_zero, List.set_cons_succ]
      refine wpAnyH_done (by kernel_rfl) ?_ _
      have Z := Lib.hid hHeld.2.2
      clear hHeld
      go_wp2
      go_ret
      exact ⟨rfl, hb4.out.trans (Z.out.2.1.mono (Nat.le_of_lt (by omega)))⟩
  · have g1 : decide (0 < N) = true := decide_eq_true (by omega)
    by_cases hM : N2 = 0
    · subst hM
      have tv := TE.out rfl
      subst tv
      refine wp_region_held_drew (S := fun w' => Box w' w.heap.size m wd ro qu st sl se wa A p C tb A2 p2 C2 ∧ Box w' w3.heap.size (cl 0 2 m) (cl 1 2 wd) (cl 2 8 ro) (cl 1 4 qu) (cl 1 4 st) (cl 2 6 sl) (cs se) (cl 1 2 wa) A8 N C8 tb A10 0 C10 ∧ w4.heap.size ≤ w'.heap.size ∧ Below w4.heap.size w4 w') (by kernel_rfl) ⟨Z.out.1, Z.out.2.1, Z.out.2.2.1, Z.out.2.2.2.drew⟩ (fun hHeld => ?_)
      refine wpAnyH_ready (rs := [0]) (by kernel_rfl) (by simp) ?_
      refine AllReadyH.cons (o := ⟨some 54, _, _, _, _, _⟩) rfl (fun K hK => ?_) AllReadyH.nil
      go_simp
      refine (alive_any _).mono ?_; rintro e w' ⟨rfl, hg⟩
      refine hK.out _ _ ⟨Box.below hHeld.1 hg (Nat.lt_of_lt_of_le lc hHeld.2.2.1), Box.below hHeld.2.1 hg (Nat.lt_of_lt_of_le ld hHeld.2.2.1), Nat.le_trans hHeld.2.2.1 hg.size, hHeld.2.2.2.trans (hg.mono hHeld.2.2.1)⟩ (fun hHeld' => ?_)
      clear hK K hHeld
      have hHeld := hHeld'
      clear hHeld'
      try simp only [Act.put, List.setIfInBounds_toArray, List.set_cons_zero, List.set_cons_succ]
      refine wpAnyH_take (i := 1) (oi := ⟨some 55, _, _, _, _, _⟩) (v := ?vf011) rfl (by kernel_rfl) (by kernel_rfl) (by kernel_rfl) (fun _ _ _ h => h) (Or.inl ⟨by rfl, ?hyf011⟩) hHeld ?restf011
      case hyf011 => (intro w hSw; go_simp; try (with_reducible rfl))
      try simp only [Act.put, List.setIfInBounds_toArray, List.set_cons_zero, List.set_cons_succ]
      refine wpAnyH_take (i := 2) (oi := ⟨some 56, _, _, _, _, _⟩) (v := ?vf012) rfl (by kernel_rfl) (by kernel_rfl) (by kernel_rfl) (fun _ _ _ h => h) (Or.inl ⟨by rfl, ?hyf012⟩) hHeld ?restf012
      case hyf012 => (intro w hSw; go_simp; try (with_reducible rfl))
      try simp only [Act.put, List.setIfInBounds_toArray, List.set_cons_zero, List.set_cons_succ]
      refine wpAnyH_take (i := 3) (oi := ⟨some 57, _, _, _, _, _⟩) (v := ?vf013) rfl (by kernel_rfl) (by kernel_rfl) (by kernel_rfl) (fun _ _ _ h => h) (Or.inl ⟨by rfl, ?hyf013⟩) hHeld ?restf013
      case hyf013 => (intro w hSw; go_simp; try (with_reducible rfl))
      try simp only [Act.put, List.setIfInBounds_toArray, List.set_cons_zero, List.set_cons_succ]
      refine wpAnyH_take (i := 4) (oi := ⟨some 58, _, _, _, _, _⟩) (v := ?vf014) rfl (by kernel_rfl) (by kernel_rfl) (by kernel_rfl) (fun _ _ _ h => h) (Or.inl ⟨by rfl, ?hyf014⟩) hHeld ?restf014
      case hyf014 => (intro w hSw; go_simp; try (with_reducible rfl))
      try simp only [Act.put, List.setIfInBounds_toArray, List.set_cons_zero, List.set_cons_succ]
      refine tk_skip (i := 5) (oi := ⟨some 59, _, _, _, _, _⟩) rfl (by kernel_rfl) (by kernel_rfl) (by kernel_rfl) (fun _ _ _ h => h) (by rfl) hHeld ?_
      try simp only [Act.put, List.setIfInBounds_toArray, List.set_cons_zero, List.set_cons_succ]
      refine tk_skip (i := 6) (oi := ⟨some 60, _, _, _, _, _⟩) rfl (by kernel_rfl) (by kernel_rfl) (by kernel_rfl) (fun _ _ _ h => h) (by rfl) hHeld ?_
      try simp only [Act.put, List.setIfInBounds_toArray, List.set_cons_zero, List.set_cons_succ]
      refine tk_skip (i := 7) (oi := ⟨some 61, _, _, _, _, _⟩) rfl (by kernel_rfl) (by kernel_rfl) (by kernel_rfl) (fun _ _ _ h => h) (by rfl) hHeld ?_
      try simp only [Act.put, List.setIfInBounds_toArray, List.set_cons_zero, List.set_cons_succ]
      refine tk_skip (i := 8) (oi := ⟨some 62, _, _, _, _, _⟩) rfl (by kernel_rfl) (by kernel_rfl) (by kernel_rfl) (fun _ _ _ h => h) (by rfl) hHeld ?_
      try simp only [Act.put, List.setIfInBounds_toArray, List.set_cons_zero, List.set_cons_succ]
      refine wpAnyH_take (i := 9) (oi := ⟨some 63, _, _, _, _, _⟩) (v := ?vf019) rfl (by kernel_rfl) (by kernel_rfl) (by kernel_rfl) (fun _ _ _ h => h) (Or.inl ⟨by rfl, ?hyf019⟩) hHeld ?restf019
      case hyf019 => (intro w hSw; go_simp; try (with_reducible rfl))
      try simp only [Act.put, List.setIfInBounds_toArray, List.set_cons_zero, List.set_cons_succ]
      refine wpAnyH_take (i := 10) (oi := ⟨some 64, _, _, _, _, _⟩) (v := ?vf0110) rfl (by kernel_rfl) (by kernel_rfl) (by kernel_rfl) (fun _ _ _ h => h) (Or.inl ⟨by rfl, ?hyf0110⟩) hHeld ?restf0110
      case hyf0110 => (intro w hSw; go_simp; try (with_reducible rfl))
      try simp only [Act.put, List.setIfInBounds_toArray, List.set_cons_zero, List.set_cons_succ]
      refine wpAnyH_take (i := 11) (oi := ⟨some 65, _, _, _, _, _⟩) (v := ?vf0111) rfl (by kernel_rfl) (by kernel_rfl) (by kernel_rfl) (fun _ _ _ h => h) (Or.inl ⟨by rfl, ?hyf0111⟩) hHeld ?restf0111
      case hyf0111 => (intro w hSw; go_simp; try (with_reducible rfl))
      try simp only [Act.put, List.setIfInBounds_toArray, List.set_cons_zero, List.set_cons_succ]
      refine wpAnyH_take (i := 12) (oi := ⟨some 66, _, _, _, _, _⟩) (v := ?vf0112) rfl (by kernel_rfl) (by kernel_rfl) (by kernel_rfl) (fun _ _ _ h => h) (Or.inl ⟨by rfl, ?hyf0112⟩) hHeld ?restf0112
      case hyf0112 => (intro w hSw; go_simp; try (with_reducible rfl))
      try simp only [Act.put, List.setIfInBounds_toArray, List.set_cons_zero, List.set_cons_succ]
      refine wpAnyH_take (i := 13) (oi := ⟨some 67, _, _, _, _, _⟩) (v := ?vf0113) rfl (by kernel_rfl) (by kernel_rfl) (by kernel_rfl) (fun _ _ _ h => h) (Or.inl ⟨by rfl, ?hyf0113⟩) hHeld ?restf0113
      case hyf0113 => (intro w hSw; go_simp; try (with_reducible rfl))
      try simp only [Act.put, List.setIfInBounds_toArray, List.set_cons_zero, List.set_cons_succ]
      refine wpAnyH_take (i := 14) (oi := ⟨some 68, _, _, _, _, _⟩) (v := ?vf0114) rfl (by kernel_rfl) (by kernel_rfl) (by kernel_rfl) (fun _ _ _ h => h) (Or.inl ⟨by rfl, ?hyf0114⟩) hHeld ?restf0114
      case hyf0114 => (intro w hSw; go_simp; try (with_reducible rfl))
      try simp only [Act.put, List.setIfInBounds_toArray, List.set_cons_zero, List.set_cons_succ]
      refine tk_box (i := 15) (oi := ⟨some 69, _, _, _, _, _⟩) rfl (by kernel_rfl) (by kernel_rfl) (by kernel_rfl) (fun _ _ _ h => h) (by rfl) _ rfl _ rfl _ (fun _ h => h.1) rfl hHeld ?_
      try simp only [Act.put, List.setIfInBounds_toArray, List.set_cons_zero, List.set_cons_succ]
      refine wpAnyH_take (i := 16) (oi := ⟨some 70, _, _, _, _, _⟩) (v := ?vf0116) rfl (by kernel_rfl) (by kernel_rfl) (by kernel_rfl) (fun _ _ _ h => h) (Or.inl ⟨by rfl, ?hyf0116⟩) hHeld ?restf0116
      case hyf0116 => (intro w hSw; go_simp; try (with_reducible rfl))
      try simp only [Act.put, List.setIfInBounds_toArray, List.set_cons_zero, List.set_cons_succ]
      refine wpAnyH_take (i := 17) (oi := ⟨some 71, _, _, _, _, _⟩) (v := ?vf0117) rfl (by kernel_rfl) (by kernel_rfl) (by kernel_rfl) (fun _ _ _ h => h) (Or.inl ⟨by rfl, ?hyf0117⟩) hHeld ?restf0117
      case hyf0117 => (intro w hSw; go_simp; try (with_reducible rfl))
      try simp only [Act.put, List.setIfInBounds_toArray, List.set_cons_zero, List.set_cons_succ]
      refine wpAnyH_take (i := 19) (oi := ⟨some 73, _, _, _, _, _⟩) (v := ?vf0119) rfl (by kernel_rfl) (by kernel_rfl) (by kernel_rfl) (fun _ _ _ h => h) (Or.inl ⟨by rfl, ?hyf0119⟩) hHeld ?restf0119
      case hyf0119 => (intro w hSw; go_simp; try (with_reducible rfl))
      try simp only [Act.put, List.setIfInBounds_toArray, List.set_cons_zero, List.set_cons_succ]
      refine wpAnyH_take (i := 20) (oi := ⟨some 74, _, _, _, _, _⟩) (v := ?vf0120) rfl (by kernel_rfl) (by kernel_rfl) (by kernel_rfl) (fun _ _ _ h => h) (Or.inl ⟨by rfl, ?hyf0120⟩) hHeld ?restf0120
      case hyf0120 => (intro w hSw; go_simp; try (with_reducible rfl))
      try simp only [Act.put, List.setIfInBounds_toArray, List.set_cons_zero, List.set_cons_succ]
      refine wpAnyH_ready (rs := [18]) (by kernel_rfl) (by simp) ?_
      refine AllReadyH.cons (o := ⟨some 72, _, _, _, _, _⟩) rfl (fun K hK => ?_) AllReadyH.nil
      go_simp
      refine (Ht.out _ hHeld.2.2.2).mono ?_; rintro e w' ⟨rfl, hg⟩
      refine hK.out _ _ ⟨Box.below hHeld.1 hg (Nat.lt_of_lt_of_le lc hHeld.2.2.1), Box.below hHeld.2.1 hg (Nat.lt_of_lt_of_le ld hHeld.2.2.1), Nat.le_trans hHeld.2.2.1 hg.size, hHeld.2.2.2.trans (hg.mono hHeld.2.2.1)⟩ (fun hHeld' => ?_)
      clear hK K hHeld
      have hHeld := hHeld'
      clear hHeld'
      try simp only [Act.put, List.setIfInBounds_toArray, List.set_cons_zero, List.set_cons_succ]
      refine wpAnyH_take (i := 21) (oi := ⟨some 75, _, _, _, _, _⟩) (v := ?vf0121) rfl (by kernel_rfl) (by kernel_rfl) (by kernel_rfl) (fun _ _ _ h => h) (Or.inl ⟨by rfl, ?hyf0121⟩) hHeld ?restf0121
      case hyf0121 => (intro w hSw; go_simp; try (with_reducible rfl))
      try simp only [Act.put, List.setIfInBounds_toArray, List.set_cons_zero, List.set_cons_succ]
      refine wpAnyH_take (i := 22) (oi := ⟨some 76, _, _, _, _, _⟩) (v := ?vf0122) rfl (by kernel_rfl) (by kernel_rfl) (by kernel_rfl) (fun _ _ _ h => h) (Or.inl ⟨by rfl, ?hyf0122⟩) hHeld ?restf0122
      case hyf0122 => (intro w hSw; go_simp; try (with_reducible rfl))
      try simp only [Act.put, List.setIfInBounds_toArray, List.set_cons_zero, List.set_cons_succ]
      refine wpAnyH_take (i := 23) (oi := ⟨some 77, _, _, _, _, _⟩) (v := ?vf0123) rfl (by kernel_rfl) (by kernel_rfl) (by kernel_rfl) (fun _ _ _ h => h) (Or.inl ⟨by rfl, ?hyf0123⟩) hHeld ?restf0123
      case hyf0123 => (intro w hSw; go_simp; try (with_reducible rfl))
      try simp only [Act.put, List.setIfInBounds_toArray, List.set_cons_zero, List.set_cons_succ]
      refine wpAnyH_take (i := 24) (oi := ⟨some 78, _, _, _, _, _⟩) (v := ?vf0124) rfl (by kernel_rfl) (by kernel_rfl) (by kernel_rfl) (fun _ _ _ h => h) (Or.inl ⟨by rfl, ?hyf0124⟩) hHeld ?restf0124
      case hyf0124 => (intro w hSw; go_simp; try (with_reducible rfl))
      try simp only [Act.put, List.setIfInBounds_toArray, List.set_cons_zero, List.set_cons_succ]
      refine wpAnyH_take (i := 25) (oi := ⟨some 79, _, _, _, _, _⟩) (v := ?vf0125) rfl (by kernel_rfl) (by kernel_rfl) (by kernel_rfl) (fun _ _ _ h => h) (Or.inl ⟨by rfl, ?hyf0125⟩) hHeld ?restf0125
      case hyf0125 => (intro w hSw; go_simp; try (with_reducible rfl))
      try simp only [Act.put, List.setIfInBounds_toArray, List.set_cons_zero, List.set_cons_succ]
      refine wpAnyH_take (i := 26) (oi := ⟨some 80, _, _, _, _, _⟩) (v := ?vf0126) rfl (by kernel_rfl) (by kernel_rfl) (by kernel_rfl) (fun _ _ _ h => h) (Or.inl ⟨by rfl, ?hyf0126⟩) hHeld ?restf0126
      case hyf0126 => (intro w hSw; go_simp; try (with_reducible rfl))
      try simp only [Act.put, List.setIfInBounds_toArray, List.set_cons_zero, List.set_cons_succ]
      refine wpAnyH_take (i := 27) (oi := ⟨some 81, _, _, _, _, _⟩) (v := ?vf0127) rfl (by kernel_rfl) (by kernel_rfl) (by kernel_rfl) (fun _ _ _ h => h) (Or.inl ⟨by rfl, ?hyf0127⟩) hHeld ?restf0127
      case hyf0127 => (intro w hSw; go_simp; try (with_reducible rfl))
      try simp only [Act.put, List.setIfInBounds_toArray, List.set_cons_zero, List.set_cons_succ]
      refine tk_skip (i := 28) (oi := ⟨some 82, _, _, _, _, _⟩) rfl (by kernel_rfl) (by kernel_rfl) (by kernel_rfl) (fun _ _ _ h => h) (by rfl) hHeld ?_
      try simp only [Act.put, List.setIfInBounds_toArray, List.set_cons_zero, List.set_cons_succ]
      refine tk_skip (i := 29) (oi := ⟨some 83, _, _, _, _, _⟩) rfl (by kernel_rfl) (by kernel_rfl) (by kernel_rfl) (fun _ _ _ h => h) (by rfl) hHeld ?_
      try simp only [Act.put, List.setIfInBounds_toArray, List.set_cons_zero, List.set_cons_succ]
      refine tk_skip (i := 30) (oi := ⟨some 84, _, _, _, _, _⟩) rfl (by kernel_rfl) (by kernel_rfl) (by kernel_rfl) (fun _ _ _ h => h) (by rfl) hHeld ?_
      try simp only [Act.put, List.setIfInBounds_toArray, List.set_cons_zero, List.set_cons_succ]
      refine tk_skip (i := 31) (oi := ⟨some 85, _, _, _, _, _⟩) rfl (by kernel_rfl) (by kernel_rfl) (by kernel_rfl) (fun _ _ _ h => h) (by rfl) hHeld ?_
      try simp only [Act.put, List.setIfInBounds_toArray, List.set_cons_zero, List.set_cons_succ]
      refine tk_skip (i := 32) (oi := ⟨some 86, _, _, _, _, _⟩) rfl (by kernel_rfl) (by kernel_rfl) (by kernel_rfl) (fun _ _ _ h => h) (by rfl) hHeld ?_
      try simp only [Act.put, List.setIfInBounds_toArray, List.set_cons_zero, List.set_cons_succ]
      refine tk_skip (i := 33) (oi := ⟨some 87, _, _, _, _, _⟩) rfl (by kernel_rfl) (by kernel_rfl) (by kernel_rfl) (fun _ _ _ h => h) (by rfl) hHeld ?_
      try simp only [Act.put, List.setIfInBounds_toArray, List.set_cons_zero, List.set_cons_succ]
      refine tk_skip (i := 34) (oi := ⟨some 88, _, _, _, _, _⟩) rfl (by kernel_rfl) (by kernel_rfl) (by kernel_rfl) (fun _ _ _ h => h) (by rfl) hHeld ?_
      try simp only [Act.put, List.setIfInBounds_toArray, List.set_cons_zero, List.set_cons_succ]
      refine tk_skip (i := 35) (oi := ⟨some 89, _, _, _, _, _⟩) rfl (by kernel_rfl) (by kernel_rfl) (by kernel_rfl) (fun _ _ _ h => h) (by rfl) hHeld ?_
      try simp only [Act.put, List.setIfInBounds_toArray, List.set_cons_zero, List.set_cons_succ]
      refine tk_skip (i := 36) (oi := ⟨some 90, _, _, _, _, _⟩) rfl (by kernel_rfl) (by kernel_rfl) (by kernel_rfl) (fun _ _ _ h => h) (by rfl) hHeld ?_
      try simp only [Act.put, List.setIfInBounds_toArray, List.set_cons_zero, List.set_cons_succ]
      refine tk_skip (i := 37) (oi := ⟨some 91, _, _, _, _, _⟩) rfl (by kernel_rfl) (by kernel_rfl) (by kernel_rfl) (fun _ _ _ h => h) (by rfl) hHeld ?_
      try simp only [Act.put, List.setIfInBounds_toArray, List.set_cons_zero, List.set_cons_succ]
      refine tk_skip (i := 38) (oi := ⟨some 92, _, _, _, _, _⟩) rfl (by kernel_rfl) (by kernel_rfl) (by kernel_rfl) (fun _ _ _ h => h) (by rfl) hHeld ?_
      try simp only [Act.put, List.setIfInBounds_toArray, List.set_cons_zero, List.set_cons_succ]
      refine tk_skip (i := 39) (oi := ⟨some 93, _, _, _, _, _⟩) rfl (by kernel_rfl) (by kernel_rfl) (by kernel_rfl) (fun _ _ _ h => h) (by rfl) hHeld ?_
      try simp only [Act.put, List.setIfInBounds_toArray, List.set_cons_zero, List.set_cons_succ]
      refine wpAnyH_take (i := 40) (oi := ⟨some 94, _, _, _, _, _⟩) (v := ?vf0140) rfl (by kernel_rfl) (by kernel_rfl) (by kernel_rfl) (fun _ _ _ h => h) (Or.inl ⟨by rfl, ?hyf0140⟩) hHeld ?restf0140
      case hyf0140 => (intro w hSw; go_simp; try (with_reducible rfl))
      try simp only [Act.put, List.setIfInBounds_toArray, List.set_cons_zero, List.set_cons_succ]
      refine wpAnyH_take (i := 41) (oi := ⟨some 95, _, _, _, _, _⟩) (v := ?vf0141) rfl (by kernel_rfl) (by kernel_rfl) (by kernel_rfl) (fun _ _ _ h => h) (Or.inl ⟨by rfl, ?hyf0141⟩) hHeld ?restf0141
      case hyf0141 => (intro w hSw; go_simp; try (with_reducible rfl))
      try simp only [Act.put, List.setIfInBounds_toArray, List.set_cons_zero, List.set_cons_succ]
      refine wpAnyH_take (i := 42) (oi := ⟨some 6, _, _, _, _, _⟩) (v := ?vf0142) rfl (by kernel_rfl) (by kernel_rfl) (by kernel_rfl) (fun _ _ _ h => h) (Or.inl ⟨by rfl, ?hyf0142⟩) hHeld ?restf0142
      case hyf0142 => (intro w hSw; go_simp; try (with_reducible rfl))
      try simp only [Act.put, List.setIfInBounds_toArray, List.set_cons_zero, List.set_cons_succ]
      refine wpAnyH_done (by kernel_rfl) ?_ _
      have Z := Lib.hid hHeld.2.2
      clear hHeld
      go_wp2
      go_ret
      exact ⟨rfl, hb4.out.trans (Z.out.2.mono (Nat.le_of_lt (by omega)))⟩
    · clear TE
      have g2 : decide (0 < N2) = true := decide_eq_true (by omega)
      have g4 : (N2 == 0) = false := by rw [beq_eq_false_iff_ne]; omega
      have g3 : ((N2 : Int) == 0) = false := by rw [beq_eq_false_iff_ne]; omega
      have s4 : kk.tmod (N2 : Int) = kk % (N2 : Int) := Int.tmod_eq_emod_of_nonneg bk0
      have hp0 : 0 ≤ kk % (N2 : Int) := Int.emod_nonneg _ (by omega)
      have hp1 : kk % (N2 : Int) < N2 := Int.emod_lt_of_pos _ (by omega)
      obtain ⟨b, off, rfl, hblt, hc⟩ := D2.out (by rw [L2.out]; omega)
      have hcell := hc (kk % (N2 : Int)).toNat (by rw [L2.out]; omega)
      have hv : (ta T').getD (kk % (N2 : Int)).toNat 0 = v2 := by rw [← E2.out]; unfold tav; rw [if_neg (by rw [L2.out]; omega), L2.out, pl_pos _ bk0]
      rw [hv] at hcell
      have hcell := Lib.hid hcell
      have hcell := hcell.out
      clear hc hv
      refine wp_region_held_drew (S := fun w' => Box w' w.heap.size m wd ro qu st sl se wa A p C tb A2 p2 C2 ∧ Box w' w3.heap.size (cl 0 2 m) (cl 1 2 wd) (cl 2 8 ro) (cl 1 4 qu) (cl 1 4 st) (cl 2 6 sl) (cs se) (cl 1 2 wa) A8 N C8 tb (some ⟨b, off, none⟩) N2 C10 ∧ w4.heap.size ≤ w'.heap.size ∧ Below w4.heap.size w4 w' ∧ w'.cell? ⟨b, off + (kk % ↑N2).toNat, none⟩ = some (.int .u32 v2)) (by kernel_rfl) ⟨Z.out.1, Z.out.2.1, Z.out.2.2.1, Z.out.2.2.2.drew, (Z.out.2.2.2.cell (p := ⟨b, off + (kk % ↑N2).toNat, none⟩) hblt).trans hcell⟩ (fun hHeld => ?_)
      refine wpAnyH_ready (rs := [0]) (by kernel_rfl) (by simp) ?_
      refine AllReadyH.cons (o := ⟨some 54, _, _, _, _, _⟩) rfl (fun K hK => ?_) AllReadyH.nil
      go_simp
      refine (alive_any _).mono ?_; rintro e w' ⟨rfl, hg⟩
      refine hK.out _ _ ⟨Box.below hHeld.1 hg (Nat.lt_of_lt_of_le lc hHeld.2.2.1), Box.below hHeld.2.1 hg (Nat.lt_of_lt_of_le ld hHeld.2.2.1), Nat.le_trans hHeld.2.2.1 hg.size, hHeld.2.2.2.1.trans (hg.mono hHeld.2.2.1), (hg.cell (p := ⟨b, off + (kk % ↑N2).toNat, none⟩) (Nat.lt_of_lt_of_le hblt hHeld.2.2.1)).trans hHeld.2.2.2.2⟩ (fun hHeld' => ?_)
      clear hK K hHeld
      have hHeld := hHeld'
      clear hHeld'
      try simp only [Act.put, List.setIfInBounds_toArray, List.set_cons_zero, List.set_cons_succ]
      refine wpAnyH_take (i := 1) (oi := ⟨some 55, _, _, _, _, _⟩) (v := ?vf001) rfl (by kernel_rfl) (by kernel_rfl) (by kernel_rfl) (fun _ _ _ h => h) (Or.inl ⟨by rfl, ?hyf001⟩) hHeld ?restf001
      case hyf001 => (intro w hSw; go_simp; try (with_reducible rfl))
      try simp only [Act.put, List.setIfInBounds_toArray, List.set_cons_zero, List.set_cons_succ]
      refine wpAnyH_take (i := 2) (oi := ⟨some 56, _, _, _, _, _⟩) (v := ?vf002) rfl (by kernel_rfl) (by kernel_rfl) (by kernel_rfl) (fun _ _ _ h => h) (Or.inl ⟨by rfl, ?hyf002⟩) hHeld ?restf002
      case hyf002 => (intro w hSw; go_simp; try (with_reducible rfl))
      try simp only [Act.put, List.setIfInBounds_toArray, List.set_cons_zero, List.set_cons_succ]
      refine wpAnyH_take (i := 3) (oi := ⟨some 57, _, _, _, _, _⟩) (v := ?vf003) rfl (by kernel_rfl) (by kernel_rfl) (by kernel_rfl) (fun _ _ _ h => h) (Or.inl ⟨by rfl, ?hyf003⟩) hHeld ?restf003
      case hyf003 => (intro w hSw; go_simp; try (with_reducible rfl))
      try simp only [Act.put, List.setIfInBounds_toArray, List.set_cons_zero, List.set_cons_succ]
      refine wpAnyH_take (i := 4) (oi := ⟨some 58, _, _, _, _, _⟩) (v := ?vf004) rfl (by kernel_rfl) (by kernel_rfl) (by kernel_rfl) (fun _ _ _ h => h) (Or.inl ⟨by rfl, ?hyf004⟩) hHeld ?restf004
      case hyf004 => (intro w hSw; go_simp; try (with_reducible rfl))
      try simp only [Act.put, List.setIfInBounds_toArray, List.set_cons_zero, List.set_cons_succ]
      refine tk_skip (i := 5) (oi := ⟨some 59, _, _, _, _, _⟩) rfl (by kernel_rfl) (by kernel_rfl) (by kernel_rfl) (fun _ _ _ h => h) (by rfl) hHeld ?_
      try simp only [Act.put, List.setIfInBounds_toArray, List.set_cons_zero, List.set_cons_succ]
      refine tk_skip (i := 6) (oi := ⟨some 60, _, _, _, _, _⟩) rfl (by kernel_rfl) (by kernel_rfl) (by kernel_rfl) (fun _ _ _ h => h) (by rfl) hHeld ?_
      try simp only [Act.put, List.setIfInBounds_toArray, List.set_cons_zero, List.set_cons_succ]
      refine tk_skip (i := 7) (oi := ⟨some 61, _, _, _, _, _⟩) rfl (by kernel_rfl) (by kernel_rfl) (by kernel_rfl) (fun _ _ _ h => h) (by rfl) hHeld ?_
      try simp only [Act.put, List.setIfInBounds_toArray, List.set_cons_zero, List.set_cons_succ]
      refine tk_skip (i := 8) (oi := ⟨some 62, _, _, _, _, _⟩) rfl (by kernel_rfl) (by kernel_rfl) (by kernel_rfl) (fun _ _ _ h => h) (by rfl) hHeld ?_
      try simp only [Act.put, List.setIfInBounds_toArray, List.set_cons_zero, List.set_cons_succ]
      refine wpAnyH_take (i := 9) (oi := ⟨some 63, _, _, _, _, _⟩) (v := ?vf009) rfl (by kernel_rfl) (by kernel_rfl) (by kernel_rfl) (fun _ _ _ h => h) (Or.inl ⟨by rfl, ?hyf009⟩) hHeld ?restf009
      case hyf009 => (intro w hSw; go_simp; try (with_reducible rfl))
      try simp only [Act.put, List.setIfInBounds_toArray, List.set_cons_zero, List.set_cons_succ]
      refine wpAnyH_take (i := 10) (oi := ⟨some 64, _, _, _, _, _⟩) (v := ?vf0010) rfl (by kernel_rfl) (by kernel_rfl) (by kernel_rfl) (fun _ _ _ h => h) (Or.inl ⟨by rfl, ?hyf0010⟩) hHeld ?restf0010
      case hyf0010 => (intro w hSw; go_simp; try (with_reducible rfl))
      try simp only [Act.put, List.setIfInBounds_toArray, List.set_cons_zero, List.set_cons_succ]
      refine wpAnyH_take (i := 11) (oi := ⟨some 65, _, _, _, _, _⟩) (v := ?vf0011) rfl (by kernel_rfl) (by kernel_rfl) (by kernel_rfl) (fun _ _ _ h => h) (Or.inl ⟨by rfl, ?hyf0011⟩) hHeld ?restf0011
      case hyf0011 => (intro w hSw; go_simp; try (with_reducible rfl))
      try simp only [Act.put, List.setIfInBounds_toArray, List.set_cons_zero, List.set_cons_succ]
      refine wpAnyH_take (i := 12) (oi := ⟨some 66, _, _, _, _, _⟩) (v := ?vf0012) rfl (by kernel_rfl) (by kernel_rfl) (by kernel_rfl) (fun _ _ _ h => h) (Or.inl ⟨by rfl, ?hyf0012⟩) hHeld ?restf0012
      case hyf0012 => (intro w hSw; go_simp; try (with_reducible rfl))
      try simp only [Act.put, List.setIfInBounds_toArray, List.set_cons_zero, List.set_cons_succ]
      refine wpAnyH_take (i := 13) (oi := ⟨some 67, _, _, _, _, _⟩) (v := ?vf0013) rfl (by kernel_rfl) (by kernel_rfl) (by kernel_rfl) (fun _ _ _ h => h) (Or.inl ⟨by rfl, ?hyf0013⟩) hHeld ?restf0013
      case hyf0013 => (intro w hSw; go_simp; try (with_reducible rfl))
      try simp only [Act.put, List.setIfInBounds_toArray, List.set_cons_zero, List.set_cons_succ]
      refine wpAnyH_take (i := 14) (oi := ⟨some 68, _, _, _, _, _⟩) (v := ?vf0014) rfl (by kernel_rfl) (by kernel_rfl) (by kernel_rfl) (fun _ _ _ h => h) (Or.inl ⟨by rfl, ?hyf0014⟩) hHeld ?restf0014
      case hyf0014 => (intro w hSw; go_simp; try (with_reducible rfl))
      try simp only [Act.put, List.setIfInBounds_toArray, List.set_cons_zero, List.set_cons_succ]
      refine tk_skip (i := 15) (oi := ⟨some 69, _, _, _, _, _⟩) rfl (by kernel_rfl) (by kernel_rfl) (by kernel_rfl) (fun _ _ _ h => h) (by rfl) hHeld ?_
      try simp only [Act.put, List.setIfInBounds_toArray, List.set_cons_zero, List.set_cons_succ]
      refine tk_skip (i := 16) (oi := ⟨some 70, _, _, _, _, _⟩) rfl (by kernel_rfl) (by kernel_rfl) (by kernel_rfl) (fun _ _ _ h => h) (by rfl) hHeld ?_
      try simp only [Act.put, List.setIfInBounds_toArray, List.set_cons_zero, List.set_cons_succ]
      refine tk_skip (i := 17) (oi := ⟨some 71, _, _, _, _, _⟩) rfl (by kernel_rfl) (by kernel_rfl) (by kernel_rfl) (fun _ _ _ h => h) (by rfl) hHeld ?_
      try simp only [Act.put, List.setIfInBounds_toArray, List.set_cons_zero, List.set_cons_succ]
      refine tk_skip (i := 18) (oi := ⟨some 72, _, _, _, _, _⟩) rfl (by kernel_rfl) (by kernel_rfl) (by kernel_rfl) (fun _ _ _ h => h) (by rfl) hHeld ?_
      try simp only [Act.put, List.setIfInBounds_toArray, List.set_cons_zero, List.set_cons_succ]
      refine tk_skip (i := 19) (oi := ⟨some 73, _, _, _, _, _⟩) rfl (by kernel_rfl) (by kernel_rfl) (by kernel_rfl) (fun _ _ _ h => h) (by rfl) hHeld ?_
      try simp only [Act.put, List.setIfInBounds_toArray, List.set_cons_zero, List.set_cons_succ]
      refine tk_skip (i := 20) (oi := ⟨some 74, _, _, _, _, _⟩) rfl (by kernel_rfl) (by kernel_rfl) (by kernel_rfl) (fun _ _ _ h => h) (by rfl) hHeld ?_
      try simp only [Act.put, List.setIfInBounds_toArray, List.set_cons_zero, List.set_cons_succ]
      refine tk_skip (i := 21) (oi := ⟨some 75, _, _, _, _, _⟩) rfl (by kernel_rfl) (by kernel_rfl) (by kernel_rfl) (fun _ _ _ h => h) (by rfl) hHeld ?_
      try simp only [Act.put, List.setIfInBounds_toArray, List.set_cons_zero, List.set_cons_succ]
      refine wpAnyH_take (i := 22) (oi := ⟨some 76, _, _, _, _, _⟩) (v := ?vf0022) rfl (by kernel_rfl) (by kernel_rfl) (by kernel_rfl) (fun _ _ _ h => h) (Or.inl ⟨by rfl, ?hyf0022⟩) hHeld ?restf0022
      case hyf0022 => (intro w hSw; go_simp; try (with_reducible rfl))
      try simp only [Act.put, List.setIfInBounds_toArray, List.set_cons_zero, List.set_cons_succ]
      refine wpAnyH_take (i := 23) (oi := ⟨some 77, _, _, _, _, _⟩) (v := ?vf0023) rfl (by kernel_rfl) (by kernel_rfl) (by kernel_rfl) (fun _ _ _ h => h) (Or.inl ⟨by rfl, ?hyf0023⟩) hHeld ?restf0023
      case hyf0023 => (intro w hSw; go_simp; try (with_reducible rfl))
      try simp only [Act.put, List.setIfInBounds_toArray, List.set_cons_zero, List.set_cons_succ]
      refine wpAnyH_take (i := 24) (oi := ⟨some 78, _, _, _, _, _⟩) (v := ?vf0024) rfl (by kernel_rfl) (by kernel_rfl) (by kernel_rfl) (fun _ _ _ h => h) (Or.inl ⟨by rfl, ?hyf0024⟩) hHeld ?restf0024
      case hyf0024 => (intro w hSw; go_simp; try (with_reducible rfl))
      try simp only [Act.put, List.setIfInBounds_toArray, List.set_cons_zero, List.set_cons_succ]
      refine wpAnyH_take (i := 25) (oi := ⟨some 79, _, _, _, _, _⟩) (v := ?vf0025) rfl (by kernel_rfl) (by kernel_rfl) (by kernel_rfl) (fun _ _ _ h => h) (Or.inl ⟨by rfl, ?hyf0025⟩) hHeld ?restf0025
      case hyf0025 => (intro w hSw; go_simp; try (with_reducible rfl))
      try simp only [Act.put, List.setIfInBounds_toArray, List.set_cons_zero, List.set_cons_succ]
      refine wpAnyH_take (i := 26) (oi := ⟨some 80, _, _, _, _, _⟩) (v := ?vf0026) rfl (by kernel_rfl) (by kernel_rfl) (by kernel_rfl) (fun _ _ _ h => h) (Or.inl ⟨by rfl, ?hyf0026⟩) hHeld ?restf0026
      case hyf0026 => (intro w hSw; go_simp; try (with_reducible rfl))
      try simp only [Act.put, List.setIfInBounds_toArray, List.set_cons_zero, List.set_cons_succ]
      refine wpAnyH_take (i := 27) (oi := ⟨some 81, _, _, _, _, _⟩) (v := ?vf0027) rfl (by kernel_rfl) (by kernel_rfl) (by kernel_rfl) (fun _ _ _ h => h) (Or.inl ⟨by rfl, ?hyf0027⟩) hHeld ?restf0027
      case hyf0027 => (intro w hSw; go_simp; try (with_reducible rfl))
      try simp only [Act.put, List.setIfInBounds_toArray, List.set_cons_zero, List.set_cons_succ]
      refine tk_box (i := 28) (oi := ⟨some 82, _, _, _, _, _⟩) rfl (by kernel_rfl) (by kernel_rfl) (by kernel_rfl) (fun _ _ _ h => h) (by rfl) _ rfl _ rfl _ (fun _ h => h.1) rfl hHeld ?_
      try simp only [Act.put, List.setIfInBounds_toArray, List.set_cons_zero, List.set_cons_succ]
      refine wpAnyH_take (i := 29) (oi := ⟨some 83, _, _, _, _, _⟩) (v := ?vf0029) rfl (by kernel_rfl) (by kernel_rfl) (by kernel_rfl) (fun _ _ _ h => h) (Or.inl ⟨by rfl, ?hyf0029⟩) hHeld ?restf0029
      case hyf0029 => (intro w hSw; go_simp; try (with_reducible rfl))
      try simp only [Act.put, List.setIfInBounds_toArray, List.set_cons_zero, List.set_cons_succ]
      refine wpAnyH_take (i := 30) (oi := ⟨some 84, _, _, _, _, _⟩) (v := ?vf0030) rfl (by kernel_rfl) (by kernel_rfl) (by kernel_rfl) (fun _ _ _ h => h) (Or.inl ⟨by rfl, ?hyf0030⟩) hHeld ?restf0030
      case hyf0030 => (intro w hSw; go_simp; try (with_reducible rfl))
      try simp only [Act.put, List.setIfInBounds_toArray, List.set_cons_zero, List.set_cons_succ]
      refine wpAnyH_take (i := 32) (oi := ⟨some 86, _, _, _, _, _⟩) (v := ?vf0032) rfl (by kernel_rfl) (by kernel_rfl) (by kernel_rfl) (fun _ _ _ h => h) (Or.inl ⟨by rfl, ?hyf0032⟩) hHeld ?restf0032
      case hyf0032 => (intro w hSw; go_simp; try (with_reducible rfl))
      try simp only [Act.put, List.setIfInBounds_toArray, List.set_cons_zero, List.set_cons_succ]
      refine wpAnyH_take (i := 33) (oi := ⟨some 87, _, _, _, _, _⟩) (v := ?vf0033) rfl (by kernel_rfl) (by kernel_rfl) (by kernel_rfl) (fun _ _ _ h => h) (Or.inl ⟨by rfl, ?hyf0033⟩) hHeld ?restf0033
      case hyf0033 => (intro w hSw; obtain ⟨hA, hB, hC⟩ := hSw; obtain ⟨k0, k1, k2, k3, k4, k5, k6, k7, k8, k9, k10⟩ := Box.cells hB; go_simp; try (with_reducible rfl))
      try simp only [Act.put, List.setIfInBounds_toArray, List.set_cons_zero, List.set_cons_succ]
      refine wpAnyH_take (i := 34) (oi := ⟨some 88, _, _, _, _, _⟩) (v := ?vf0034) rfl (by kernel_rfl) (by kernel_rfl) (by kernel_rfl) (fun _ _ _ h => h) (Or.inl ⟨by rfl, ?hyf0034⟩) hHeld ?restf0034
      case hyf0034 => (intro w hSw; go_simp; try (with_reducible rfl))
      try simp only [Act.put, List.setIfInBounds_toArray, List.set_cons_zero, List.set_cons_succ]
      refine wpAnyH_take (i := 35) (oi := ⟨some 89, _, _, _, _, _⟩) (v := ?vf0035) rfl (by kernel_rfl) (by kernel_rfl) (by kernel_rfl) (fun _ _ _ h => h) (Or.inl ⟨by rfl, ?hyf0035⟩) hHeld ?restf0035
      case hyf0035 => (intro w hSw; go_simp; try (with_reducible rfl))
      try simp only [Act.put, List.setIfInBounds_toArray, List.set_cons_zero, List.set_cons_succ]
      refine wpAnyH_take (i := 36) (oi := ⟨some 90, _, _, _, _, _⟩) (v := ?vf0036) rfl (by kernel_rfl) (by kernel_rfl) (by kernel_rfl) (fun _ _ _ h => h) (Or.inl ⟨by rfl, ?hyf0036⟩) hHeld ?restf0036
      case hyf0036 => (intro w hSw; go_simp; try (with_reducible rfl))
      try simp only [Act.put, List.setIfInBounds_toArray, List.set_cons_zero, List.set_cons_succ]
      refine wpAnyH_take (i := 37) (oi := ⟨some 91, _, _, _, _, _⟩) (v := ?vf0037) rfl (by kernel_rfl) (by kernel_rfl) (by kernel_rfl) (fun _ _ _ h => h) (Or.inl ⟨by rfl, ?hyf0037⟩) hHeld ?restf0037
      case hyf0037 => (intro w hSw; go_simp; try (with_reducible rfl))
      try simp only [Act.put, List.setIfInBounds_toArray, List.set_cons_zero, List.set_cons_succ]
      refine wpAnyH_take (i := 38) (oi := ⟨some 92, _, _, _, _, _⟩) (v := ?vf0038) rfl (by kernel_rfl) (by kernel_rfl) (by kernel_rfl) (fun _ _ _ h => h) (Or.inl ⟨by rfl, ?hyf0038⟩) hHeld ?restf0038
      case hyf0038 => (intro w hSw; obtain ⟨hA, hB, hC, hD, hE⟩ := hSw; clear hA hB; go_simp; try (with_reducible rfl))
      try simp only [Act.put, List.setIfInBounds_toArray, List.set_cons_zero, List.set_cons_succ]
      refine wpAnyH_ready (rs := [31]) (by kernel_rfl) (by simp) ?_
      refine AllReadyH.cons (o := ⟨some 85, _, _, _, _, _⟩) rfl (fun K hK => ?_) AllReadyH.nil
      go_simp
      refine (Ht.out _ hHeld.2.2.2.1).mono ?_; rintro e w' ⟨rfl, hg⟩
      refine hK.out _ _ ⟨Box.below hHeld.1 hg (Nat.lt_of_lt_of_le lc hHeld.2.2.1), Box.below hHeld.2.1 hg (Nat.lt_of_lt_of_le ld hHeld.2.2.1), Nat.le_trans hHeld.2.2.1 hg.size, hHeld.2.2.2.1.trans (hg.mono hHeld.2.2.1), (hg.cell (p := ⟨b, off + (kk % ↑N2).toNat, none⟩) (Nat.lt_of_lt_of_le hblt hHeld.2.2.1)).trans hHeld.2.2.2.2⟩ (fun hHeld' => ?_)
      clear hK K hHeld
      have hHeld := hHeld'
      clear hHeld'
      try simp only [Act.put, List.setIfInBounds_toArray, List.set_cons_zero, List.set_cons_succ]
      refine wpAnyH_take (i := 39) (oi := ⟨some 93, _, _, _, _, _⟩) (v := ?vf0039) rfl (by kernel_rfl) (by kernel_rfl) (by kernel_rfl) (fun _ _ _ h => h) (Or.inl ⟨by rfl, ?hyf0039⟩) hHeld ?restf0039
      case hyf0039 => (intro w hSw; go_simp; try (with_reducible rfl))
      try simp only [Act.put, List.setIfInBounds_toArray, List.set_cons_zero, List.set_cons_succ]
      refine wpAnyH_take (i := 40) (oi := ⟨some 94, _, _, _, _, _⟩) (v := ?vf0040) rfl (by kernel_rfl) (by kernel_rfl) (by kernel_rfl) (fun _ _ _ h => h) (Or.inl ⟨by rfl, ?hyf0040⟩) hHeld ?restf0040
      case hyf0040 => (intro w hSw; go_simp; try (with_reducible rfl))
      try simp only [Act.put, List.setIfInBounds_toArray, List.set_cons_zero, List.set_cons_succ]
      refine wpAnyH_take (i := 41) (oi := ⟨some 95, _, _, _, _, _⟩) (v := ?vf0041) rfl (by kernel_rfl) (by kernel_rfl) (by kernel_rfl) (fun _ _ _ h => h) (Or.inl ⟨by rfl, ?hyf0041⟩) hHeld ?restf0041
      case hyf0041 => (intro w hSw; go_simp; try (with_reducible rfl))
      try simp only [Act.put, List.setIfInBounds_toArray, List.set_cons_zero, List.set_cons_succ]
      refine wpAnyH_take (i := 42) (oi := ⟨some 6, _, _, _, _, _⟩) (v := ?vf0042) rfl (by kernel_rfl) (by kernel_rfl) (by kernel_rfl) (fun _ _ _ h => h) (Or.inl ⟨by rfl, ?hyf0042⟩) hHeld ?restf0042
      case hyf0042 => (intro w hSw; go_simp; try (with_reducible rfl))
      try simp only [Act.put, List.setIfInBounds_toArray, List.set_cons_zero, List.set_cons_succ]
      refine wpAnyH_done (by kernel_rfl) ?_ _
      have Z := Lib.hid hHeld.2.2
      clear hHeld
      go_wp2
      go_ret
      exact ⟨rfl, hb4.out.trans (Z.out.2.1.mono (Nat.le_of_lt (by omega)))⟩
end Go.Proofs.Ytfphdchpfhedfaa
