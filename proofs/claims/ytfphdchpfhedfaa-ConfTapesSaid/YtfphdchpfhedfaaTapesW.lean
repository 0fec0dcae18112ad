/- The walk of the statement ConfTapes. Conditions: the slices read as lists. -/
import Derived.Test.YtfphdchpfhedfaaRc3
import Derived.Test.YtfphdchpfhedfaaC10
namespace Go.Proofs.Ytfphdchpfhedfaa
open Go.ChangeShapes Go.WideShapes Go.ChangeAt Go.RowKit
set_option linter.unusedVariables false
set_option maxHeartbeats 16000000 in
set_option maxRecDepth 100000 in
theorem tapes (m wd ro qu st sl se wa : Int) (A A2 : Option Addr) (C C2 : Nat) (L T : List Int) (tb : Bool) (n n2 : Nat) (k pc : Int) (w : World) (hn : L.length = n) (h2 : T.length = n2) (c1 : n ≤ C) (c2 : n2 ≤ C2) (bc : C ≤ 9223372036854775807) (bc2 : C2 ≤ 9223372036854775807) (hL : Sl w .i64 A L) (hT : Sl w .u32 A2 T) (p0 : 0 ≤ pc) (p1 : pc ≤ 4294967295) :
    Calls Try.prog 7 #[.agg #[.int .i64 m, .int .i64 wd, .int .i64 ro, .int .i64 qu, .int .i64 st, .int .i64 sl, .int .i64 se, .int .i64 wa, .slice A n C, .bool tb, .slice A2 n2 C2], .int .i64 k, .int .u32 pc] w fun e w' => e = .returned (.bool true) ∧ Below w.heap.size w w' := by
  obtain ⟨p, hp⟩ : ∃ p, min n 100 = p := ⟨_, rfl⟩
  obtain ⟨p2, hp2⟩ : ∃ p, min n2 100 = p := ⟨_, rfl⟩
  obtain ⟨L', eL⟩ : ∃ M, L.take 100 = M := ⟨_, rfl⟩
  obtain ⟨T', eT⟩ : ∃ M, T.take 100 = M := ⟨_, rfl⟩
  have P1 := Lib.hid (show L'.length = p by rw [← eL, ← hp, ← hn, List.length_take]; omega)
  have P2 := Lib.hid (show T'.length = p2 by rw [← eT, ← hp2, ← h2, List.length_take]; omega)
  have J1 := Lib.hid (show Sl w .i64 A L' by rw [← eL]; exact hL.take 100)
  have J2 := Lib.hid (show Sl w .u32 A2 T' by rw [← eT]; exact hT.take 100)
  have bp : p ≤ 100 := by omega
  have bp2 : p2 ≤ 100 := by omega
  have HF := Lib.hid (fun W => (few_any m wd ro qu st sl se wa A A2 C C2 n n2 tb W c1 c2 bc bc2))
  rw [hp, hp2] at HF
  clear eL eT hL hT hn h2
  obtain ⟨v1, ev1⟩ : ∃ x, lav L' k = x := ⟨_, rfl⟩
  obtain ⟨v2, ev2⟩ : ∃ x, tav T' k pc = x := ⟨_, rfl⟩
  obtain ⟨v3, ev3⟩ : ∃ x, mov L' = x := ⟨_, rfl⟩
  obtain ⟨v4, ev4⟩ : ∃ x, bo (cl 1 4 st) (cl 2 6 sl) (cs se) (cl 1 2 wa) (mov L') = x := ⟨_, rfl⟩
  obtain ⟨v5, ev5⟩ : ∃ x, dr (cl 1 4 st) (cl 2 6 sl) (cs se) (cl 1 2 wa) (mov L') = x := ⟨_, rfl⟩
  have E1 := Lib.hid ev1
  have E2 := Lib.hid ev2
  have E3 := Lib.hid ev3
  have E4 := Lib.hid ev4
  have E5 := Lib.hid ev5
  clear ev1 ev2 ev3 ev4 ev5
  go_enter Try.func7, Try.ntmps7
  go_wp2_with fail
  refine (HF.out _).mono ?_
  rintro e w1 ⟨rfl, hb⟩
  have hq1 : w.heap.size < (w.alloc (.cells #[.int .i64 m, .int .i64 wd, .int .i64 ro, .int .i64 qu, .int .i64 st, .int .i64 sl, .int .i64 se, .int .i64 wa, .slice A n C, .bool tb, .slice A2 n2 C2] 25)).heap.size := by simp
  have HO := Lib.hid ((hb.block w.heap.size hq1).trans (heap_alloc_new w _))
  have hb0 := Lib.hid (((Below.refl w.heap.size w).alloc (Nat.le_refl _) _).trans (hb.mono (by simp)))
  have I1 := Lib.hid (J1.out.below hb0.out)
  have I2 := Lib.hid (J2.out.below hb0.out)
  clear hb hq1 HF hp hp2
  go_wp2_with (refine store_box (o := ⟨none, Op.store 25 _ _, _, _, _, _⟩) rfl _ _ rfl w.heap.size _ rfl rfl _ HO.out rfl rfl box_one ?_)
  intro w2 hbx2 hoth hsz hbel
  have lc2 : w.heap.size < w2.heap.size := Box.lt hbx2
  obtain ⟨k0, k1, k2, k3, k4, k5, k6, k7, k8, k9, k10⟩ := Box.cells hbx2
  have X1 := Lib.hid (I1.out.apart hoth hsz (fun b off h hp e => by
    obtain ⟨b', off', h', hlt, _⟩ := J1.out hp
    rw [h] at h'; simp at h' <;> omega))
  have X2 := Lib.hid (I2.out.apart hoth hsz (fun b off h hp e => by
    obtain ⟨b', off', h', hlt, _⟩ := J2.out hp
    rw [h] at h'; simp at h' <;> omega))
  have hb2 := Lib.hid (hbel _ _ hb0.out (Nat.le_refl _))
  have BX := Lib.hid (show Box w2 w.heap.size m wd ro qu st sl se wa A p C tb A2 p2 C2 from hbx2)
  clear hbx2 hoth hsz hbel I1 I2 J1 J2 HO hb0
  go_wp2_with fail
  clear k0 k1 k2 k3 k4 k5 k6 k7 k8 k9 k10
  have Hlat : Hid (∀ W : World, Below w2.heap.size w2 W → Calls Try.prog 14 #[.agg #[.int .i64 m, .int .i64 wd, .int .i64 ro, .int .i64 qu, .int .i64 st, .int .i64 sl, .int .i64 se, .int .i64 wa, .slice A p C, .bool tb, .slice A2 p2 C2], .int .i64 k] W fun e w' => e = .returned (.int .i64 v1) ∧ Below W.heap.size W w') := Lib.hid (fun W hW => (lat_any k m wd ro qu st sl se wa A A2 C C2 L' T' tb p p2 W P1.out P2.out (by omega) (by omega) (X1.out.below hW) (X2.out.below hW)).mono fun e w' ⟨he, hb⟩ => ⟨he.trans (ret_i64 (E1.out)), hb⟩)
  have Hrlat : Hid (∀ W : World, Below w2.heap.size w2 W → Calls Try.prog 19 #[.agg #[.int .i64 m, .int .i64 wd, .int .i64 ro, .int .i64 qu, .int .i64 st, .int .i64 sl, .int .i64 se, .int .i64 wa, .slice A p C, .bool tb, .slice A2 p2 C2], .int .i64 k] W fun e w' => e = .returned (.int .i64 v1) ∧ Below W.heap.size W w') := Lib.hid (fun W hW => (rlat_any k m wd ro qu st sl se wa A A2 C C2 L' T' tb p p2 W P1.out P2.out (by omega) (by omega) (X1.out.below hW) (X2.out.below hW)).mono fun e w' ⟨he, hb⟩ => ⟨he.trans (ret_i64 (E1.out)), hb⟩)
  have Htape : Hid (∀ W : World, Below w2.heap.size w2 W → Calls Try.prog 15 #[.agg #[.int .i64 m, .int .i64 wd, .int .i64 ro, .int .i64 qu, .int .i64 st, .int .i64 sl, .int .i64 se, .int .i64 wa, .slice A p C, .bool tb, .slice A2 p2 C2], .int .i64 k, .int .u32 pc] W fun e w' => e = .returned (.int .u32 v2) ∧ Below W.heap.size W w') := Lib.hid (fun W hW => (tape_any k pc m wd ro qu st sl se wa A A2 C C2 L' T' tb p p2 W P1.out P2.out (by omega) (by omega) (X1.out.below hW) (X2.out.below hW) p0 p1).mono fun e w' ⟨he, hb⟩ => ⟨he.trans (ret_u32 (E2.out)), hb⟩)
  have Hrtape : Hid (∀ W : World, Below w2.heap.size w2 W → Calls Try.prog 20 #[.agg #[.int .i64 m, .int .i64 wd, .int .i64 ro, .int .i64 qu, .int .i64 st, .int .i64 sl, .int .i64 se, .int .i64 wa, .slice A p C, .bool tb, .slice A2 p2 C2], .int .i64 k, .int .u32 pc] W fun e w' => e = .returned (.int .u32 v2) ∧ Below W.heap.size W w') := Lib.hid (fun W hW => (rtape_any k pc m wd ro qu st sl se wa A A2 C C2 L' T' tb p p2 W P1.out P2.out (by omega) (by omega) (X1.out.below hW) (X2.out.below hW) p0 p1).mono fun e w' ⟨he, hb⟩ => ⟨he.trans (ret_u32 (E2.out)), hb⟩)
  have Hmost : Hid (∀ W : World, Below w2.heap.size w2 W → Calls Try.prog 18 #[.agg #[.int .i64 m, .int .i64 wd, .int .i64 ro, .int .i64 qu, .int .i64 st, .int .i64 sl, .int .i64 se, .int .i64 wa, .slice A p C, .bool tb, .slice A2 p2 C2]] W fun e w' => e = .returned (.int .i64 v3) ∧ Below W.heap.size W w') := Lib.hid (fun W hW => (most_any m wd ro qu st sl se wa A A2 C C2 L' T' tb p p2 W P1.out P2.out (by omega) (by omega) (X1.out.below hW) (X2.out.below hW)).mono fun e w' ⟨he, hb⟩ => ⟨he.trans (ret_i64 (E3.out)), hb⟩)
  have Hrmost : Hid (∀ W : World, Below w2.heap.size w2 W → Calls Try.prog 21 #[.agg #[.int .i64 m, .int .i64 wd, .int .i64 ro, .int .i64 qu, .int .i64 st, .int .i64 sl, .int .i64 se, .int .i64 wa, .slice A p C, .bool tb, .slice A2 p2 C2]] W fun e w' => e = .returned (.int .i64 v3) ∧ Below W.heap.size W w') := Lib.hid (fun W hW => (rmost_any m wd ro qu st sl se wa A A2 C C2 L' T' tb p p2 W P1.out P2.out (by omega) (by omega) (X1.out.below hW) (X2.out.below hW)).mono fun e w' ⟨he, hb⟩ => ⟨he.trans (ret_i64 (E3.out)), hb⟩)
  have Hbound : Hid (∀ W : World, Below w2.heap.size w2 W → Calls Try.prog 16 #[.agg #[.int .i64 m, .int .i64 wd, .int .i64 ro, .int .i64 qu, .int .i64 st, .int .i64 sl, .int .i64 se, .int .i64 wa, .slice A p C, .bool tb, .slice A2 p2 C2]] W fun e w' => e = .returned (.int .i64 v4) ∧ Below W.heap.size W w') := Lib.hid (fun W hW => (bound_any m wd ro qu st sl se wa A A2 C C2 L' T' tb p p2 W P1.out P2.out (by omega) (by omega) (X1.out.below hW) (X2.out.below hW)).mono fun e w' ⟨he, hb⟩ => ⟨he.trans (ret_i64 ((by rw [mov_la]; exact E4.out))), hb⟩)
  have Hrbound : Hid (∀ W : World, Below w2.heap.size w2 W → Calls Try.prog 22 #[.agg #[.int .i64 m, .int .i64 wd, .int .i64 ro, .int .i64 qu, .int .i64 st, .int .i64 sl, .int .i64 se, .int .i64 wa, .slice A p C, .bool tb, .slice A2 p2 C2]] W fun e w' => e = .returned (.int .i64 v4) ∧ Below W.heap.size W w') := Lib.hid (fun W hW => (rbound_any m wd ro qu st sl se wa A A2 C C2 L' T' tb p p2 W P1.out P2.out (by omega) (by omega) (X1.out.below hW) (X2.out.below hW)).mono fun e w' ⟨he, hb⟩ => ⟨he.trans (ret_i64 (E4.out)), hb⟩)
  have Hdrain : Hid (∀ W : World, Below w2.heap.size w2 W → Calls Try.prog 17 #[.agg #[.int .i64 m, .int .i64 wd, .int .i64 ro, .int .i64 qu, .int .i64 st, .int .i64 sl, .int .i64 se, .int .i64 wa, .slice A p C, .bool tb, .slice A2 p2 C2]] W fun e w' => e = .returned (.int .i64 v5) ∧ Below W.heap.size W w') := Lib.hid (fun W hW => (drain_any m wd ro qu st sl se wa A A2 C C2 L' T' tb p p2 W P1.out P2.out (by omega) (by omega) (X1.out.below hW) (X2.out.below hW)).mono fun e w' ⟨he, hb⟩ => ⟨he.trans (ret_i64 ((by rw [mov_la]; exact E5.out))), hb⟩)
  have Hrdrain : Hid (∀ W : World, Below w2.heap.size w2 W → Calls Try.prog 23 #[.agg #[.int .i64 m, .int .i64 wd, .int .i64 ro, .int .i64 qu, .int .i64 st, .int .i64 sl, .int .i64 se, .int .i64 wa, .slice A p C, .bool tb, .slice A2 p2 C2]] W fun e w' => e = .returned (.int .i64 v5) ∧ Below W.heap.size W w') := Lib.hid (fun W hW => (rdrain_any m wd ro qu st sl se wa A A2 C C2 L' T' tb p p2 W P1.out P2.out (by omega) (by omega) (X1.out.below hW) (X2.out.below hW)).mono fun e w' ⟨he, hb⟩ => ⟨he.trans (ret_i64 (E5.out)), hb⟩)
  clear X1 X2 P1 P2 E1 E2 E3 E4 E5
  refine wp_region_held_drew (S := fun w' => Box w' w.heap.size m wd ro qu st sl se wa A p C tb A2 p2 C2 ∧ w2.heap.size ≤ w'.heap.size ∧ Below w2.heap.size w2 w') (by kernel_rfl) ⟨BX.out, Nat.le_refl _, (Below.refl _ _).drew⟩ (fun hHeld => ?_)
  refine wpAnyH_ready (rs := [0]) (by kernel_rfl) (by simp) ?_
  refine AllReadyH.cons (o := ⟨some 9, _, _, _, _, _⟩) rfl (fun K hK => ?_) AllReadyH.nil
  go_simp
  refine (alive_any _).mono ?_; rintro e w' ⟨rfl, hg⟩
  refine hK.out _ _ ⟨Box.below hHeld.1 hg (Nat.lt_of_lt_of_le lc2 hHeld.2.1), Nat.le_trans hHeld.2.1 hg.size, hHeld.2.2.trans (hg.mono hHeld.2.1)⟩ (fun hHeld' => ?_)
  clear hK K hHeld
  have hHeld := hHeld'
  clear hHeld'
  try simp only [Act.put, List.setIfInBounds_toArray, List.set_cons_zero, List.set_cons_succ]
  refine wpAnyH_take (i := 1) (oi := ⟨some 10, _, _, _, _, _⟩) (v := ?vt1) rfl (by kernel_rfl) (by kernel_rfl) (by kernel_rfl) (fun _ _ _ h => h) (Or.inl ⟨by rfl, ?hyt1⟩) hHeld ?restt1
  case hyt1 => (intro w hSw; go_simp; try (with_reducible rfl))
  try simp only [Act.put, List.setIfInBounds_toArray, List.set_cons_zero, List.set_cons_succ]
  refine tk_box (i := 2) (oi := ⟨some 11, _, _, _, _, _⟩) rfl (by kernel_rfl) (by kernel_rfl) (by kernel_rfl) (fun _ _ _ h => h) (by rfl) _ rfl _ rfl _ (fun _ h => h.1) rfl hHeld ?_
  try simp only [Act.put, List.setIfInBounds_toArray, List.set_cons_zero, List.set_cons_succ]
  refine wpAnyH_take (i := 3) (oi := ⟨some 12, _, _, _, _, _⟩) (v := ?vt3) rfl (by kernel_rfl) (by kernel_rfl) (by kernel_rfl) (fun _ _ _ h => h) (Or.inl ⟨by rfl, ?hyt3⟩) hHeld ?restt3
  case hyt3 => (intro w hSw; go_simp; try (with_reducible rfl))
  try simp only [Act.put, List.setIfInBounds_toArray, List.set_cons_zero, List.set_cons_succ]
  refine tk_box (i := 5) (oi := ⟨some 14, _, _, _, _, _⟩) rfl (by kernel_rfl) (by kernel_rfl) (by kernel_rfl) (fun _ _ _ h => h) (by rfl) _ rfl _ rfl _ (fun _ h => h.1) rfl hHeld ?_
  try simp only [Act.put, List.setIfInBounds_toArray, List.set_cons_zero, List.set_cons_succ]
  refine wpAnyH_take (i := 6) (oi := ⟨some 15, _, _, _, _, _⟩) (v := ?vt6) rfl (by kernel_rfl) (by kernel_rfl) (by kernel_rfl) (fun _ _ _ h => h) (Or.inl ⟨by rfl, ?hyt6⟩) hHeld ?restt6
  case hyt6 => (intro w hSw; go_simp; try (with_reducible rfl))
  try simp only [Act.put, List.setIfInBounds_toArray, List.set_cons_zero, List.set_cons_succ]
  refine wpAnyH_ready (rs := [4]) (by kernel_rfl) (by simp) ?_
  refine AllReadyH.cons (o := ⟨some 13, _, _, _, _, _⟩) rfl (fun K hK => ?_) AllReadyH.nil
  go_simp
  refine (Hlat.out _ hHeld.2.2).mono ?_; rintro e w' ⟨rfl, hg⟩
  refine hK.out _ _ ⟨Box.below hHeld.1 hg (Nat.lt_of_lt_of_le lc2 hHeld.2.1), Nat.le_trans hHeld.2.1 hg.size, hHeld.2.2.trans (hg.mono hHeld.2.1)⟩ (fun hHeld' => ?_)
  clear hK K hHeld
  have hHeld := hHeld'
  clear hHeld'
  try simp only [Act.put, List.setIfInBounds_toArray, List.set_cons_zero, List.set_cons_succ]
  refine wpAnyH_ready (rs := [7]) (by kernel_rfl) (by simp) ?_
  refine AllReadyH.cons (o := ⟨some 16, _, _, _, _, _⟩) rfl (fun K hK => ?_) AllReadyH.nil
  go_simp
  refine (Hrlat.out _ hHeld.2.2).mono ?_; rintro e w' ⟨rfl, hg⟩
  refine hK.out _ _ ⟨Box.below hHeld.1 hg (Nat.lt_of_lt_of_le lc2 hHeld.2.1), Nat.le_trans hHeld.2.1 hg.size, hHeld.2.2.trans (hg.mono hHeld.2.1)⟩ (fun hHeld' => ?_)
  clear hK K hHeld
  have hHeld := hHeld'
  clear hHeld'
  try simp only [Act.put, List.setIfInBounds_toArray, List.set_cons_zero, List.set_cons_succ]
  refine wpAnyH_take (i := 8) (oi := ⟨some 17, _, _, _, _, _⟩) (v := ?vt8) rfl (by kernel_rfl) (by kernel_rfl) (by kernel_rfl) (fun _ _ _ h => h) (Or.inl ⟨by rfl, ?hyt8⟩) hHeld ?restt8
  case hyt8 => (intro w hSw; go_simp; try (with_reducible rfl))
  try simp only [Act.put, List.setIfInBounds_toArray, List.set_cons_zero, List.set_cons_succ]
  refine wpAnyH_take (i := 9) (oi := ⟨some 18, _, _, _, _, _⟩) (v := ?vt9) rfl (by kernel_rfl) (by kernel_rfl) (by kernel_rfl) (fun _ _ _ h => h) (Or.inl ⟨by rfl, ?hyt9⟩) hHeld ?restt9
  case hyt9 => (intro w hSw; go_simp; try (with_reducible rfl))
  try simp only [Act.put, List.setIfInBounds_toArray, List.set_cons_zero, List.set_cons_succ]
  refine wpAnyH_take (i := 10) (oi := ⟨some 19, _, _, _, _, _⟩) (v := ?vt10) rfl (by kernel_rfl) (by kernel_rfl) (by kernel_rfl) (fun _ _ _ h => h) (Or.inl ⟨by rfl, ?hyt10⟩) hHeld ?restt10
  case hyt10 => (intro w hSw; go_simp; try (with_reducible rfl))
  try simp only [Act.put, List.setIfInBounds_toArray, List.set_cons_zero, List.set_cons_succ]
  refine tk_box (i := 11) (oi := ⟨some 20, _, _, _, _, _⟩) rfl (by kernel_rfl) (by kernel_rfl) (by kernel_rfl) (fun _ _ _ h => h) (by rfl) _ rfl _ rfl _ (fun _ h => h.1) rfl hHeld ?_
  try simp only [Act.put, List.setIfInBounds_toArray, List.set_cons_zero, List.set_cons_succ]
  refine wpAnyH_take (i := 12) (oi := ⟨some 21, _, _, _, _, _⟩) (v := ?vt12) rfl (by kernel_rfl) (by kernel_rfl) (by kernel_rfl) (fun _ _ _ h => h) (Or.inl ⟨by rfl, ?hyt12⟩) hHeld ?restt12
  case hyt12 => (intro w hSw; go_simp; try (with_reducible rfl))
  try simp only [Act.put, List.setIfInBounds_toArray, List.set_cons_zero, List.set_cons_succ]
  refine wpAnyH_take (i := 13) (oi := ⟨some 22, _, _, _, _, _⟩) (v := ?vt13) rfl (by kernel_rfl) (by kernel_rfl) (by kernel_rfl) (fun _ _ _ h => h) (Or.inl ⟨by rfl, ?hyt13⟩) hHeld ?restt13
  case hyt13 => (intro w hSw; go_simp; try (with_reducible rfl))
  try simp only [Act.put, List.setIfInBounds_toArray, List.set_cons_zero, List.set_cons_succ]
  refine tk_box (i := 15) (oi := ⟨some 24, _, _, _, _, _⟩) rfl (by kernel_rfl) (by kernel_rfl) (by kernel_rfl) (fun _ _ _ h => h) (by rfl) _ rfl _ rfl _ (fun _ h => h.1) rfl hHeld ?_
  try simp only [Act.put, List.setIfInBounds_toArray, List.set_cons_zero, List.set_cons_succ]
  refine wpAnyH_take (i := 16) (oi := ⟨some 25, _, _, _, _, _⟩) (v := ?vt16) rfl (by kernel_rfl) (by kernel_rfl) (by kernel_rfl) (fun _ _ _ h => h) (Or.inl ⟨by rfl, ?hyt16⟩) hHeld ?restt16
  case hyt16 => (intro w hSw; go_simp; try (with_reducible rfl))
  try simp only [Act.put, List.setIfInBounds_toArray, List.set_cons_zero, List.set_cons_succ]
  refine wpAnyH_take (i := 17) (oi := ⟨some 26, _, _, _, _, _⟩) (v := ?vt17) rfl (by kernel_rfl) (by kernel_rfl) (by kernel_rfl) (fun _ _ _ h => h) (Or.inl ⟨by rfl, ?hyt17⟩) hHeld ?restt17
  case hyt17 => (intro w hSw; go_simp; try (with_reducible rfl))
  try simp only [Act.put, List.setIfInBounds_toArray, List.set_cons_zero, List.set_cons_succ]
  refine wpAnyH_ready (rs := [14]) (by kernel_rfl) (by simp) ?_
  refine AllReadyH.cons (o := ⟨some 23, _, _, _, _, _⟩) rfl (fun K hK => ?_) AllReadyH.nil
  go_simp
  refine (Htape.out _ hHeld.2.2).mono ?_; rintro e w' ⟨rfl, hg⟩
  refine hK.out _ _ ⟨Box.below hHeld.1 hg (Nat.lt_of_lt_of_le lc2 hHeld.2.1), Nat.le_trans hHeld.2.1 hg.size, hHeld.2.2.trans (hg.mono hHeld.2.1)⟩ (fun hHeld' => ?_)
  clear hK K hHeld
  have hHeld := hHeld'
  clear hHeld'
  try simp only [Act.put, List.setIfInBounds_toArray, List.set_cons_zero, List.set_cons_succ]
  refine wpAnyH_ready (rs := [18]) (by kernel_rfl) (by simp) ?_
  refine AllReadyH.cons (o := ⟨some 27, _, _, _, _, _⟩) rfl (fun K hK => ?_) AllReadyH.nil
  go_simp
  refine (Hrtape.out _ hHeld.2.2).mono ?_; rintro e w' ⟨rfl, hg⟩
  refine hK.out _ _ ⟨Box.below hHeld.1 hg (Nat.lt_of_lt_of_le lc2 hHeld.2.1), Nat.le_trans hHeld.2.1 hg.size, hHeld.2.2.trans (hg.mono hHeld.2.1)⟩ (fun hHeld' => ?_)
  clear hK K hHeld
  have hHeld := hHeld'
  clear hHeld'
  try simp only [Act.put, List.setIfInBounds_toArray, List.set_cons_zero, List.set_cons_succ]
  refine wpAnyH_take (i := 19) (oi := ⟨some 28, _, _, _, _, _⟩) (v := ?vt19) rfl (by kernel_rfl) (by kernel_rfl) (by kernel_rfl) (fun _ _ _ h => h) (Or.inl ⟨by rfl, ?hyt19⟩) hHeld ?restt19
  case hyt19 => (intro w hSw; go_simp; try (with_reducible rfl))
  try simp only [Act.put, List.setIfInBounds_toArray, List.set_cons_zero, List.set_cons_succ]
  refine wpAnyH_take (i := 20) (oi := ⟨some 29, _, _, _, _, _⟩) (v := ?vt20) rfl (by kernel_rfl) (by kernel_rfl) (by kernel_rfl) (fun _ _ _ h => h) (Or.inl ⟨by rfl, ?hyt20⟩) hHeld ?restt20
  case hyt20 => (intro w hSw; go_simp; try (with_reducible rfl))
  try simp only [Act.put, List.setIfInBounds_toArray, List.set_cons_zero, List.set_cons_succ]
  refine wpAnyH_take (i := 21) (oi := ⟨some 30, _, _, _, _, _⟩) (v := ?vt21) rfl (by kernel_rfl) (by kernel_rfl) (by kernel_rfl) (fun _ _ _ h => h) (Or.inl ⟨by rfl, ?hyt21⟩) hHeld ?restt21
  case hyt21 => (intro w hSw; go_simp; try (with_reducible rfl))
  try simp only [Act.put, List.setIfInBounds_toArray, List.set_cons_zero, List.set_cons_succ]
  refine tk_box (i := 22) (oi := ⟨some 31, _, _, _, _, _⟩) rfl (by kernel_rfl) (by kernel_rfl) (by kernel_rfl) (fun _ _ _ h => h) (by rfl) _ rfl _ rfl _ (fun _ h => h.1) rfl hHeld ?_
  try simp only [Act.put, List.setIfInBounds_toArray, List.set_cons_zero, List.set_cons_succ]
  refine tk_box (i := 24) (oi := ⟨some 33, _, _, _, _, _⟩) rfl (by kernel_rfl) (by kernel_rfl) (by kernel_rfl) (fun _ _ _ h => h) (by rfl) _ rfl _ rfl _ (fun _ h => h.1) rfl hHeld ?_
  try simp only [Act.put, List.setIfInBounds_toArray, List.set_cons_zero, List.set_cons_succ]
  refine wpAnyH_ready (rs := [23]) (by kernel_rfl) (by simp) ?_
  refine AllReadyH.cons (o := ⟨some 32, _, _, _, _, _⟩) rfl (fun K hK => ?_) AllReadyH.nil
  go_simp
  refine (Hmost.out _ hHeld.2.2).mono ?_; rintro e w' ⟨rfl, hg⟩
  refine hK.out _ _ ⟨Box.below hHeld.1 hg (Nat.lt_of_lt_of_le lc2 hHeld.2.1), Nat.le_trans hHeld.2.1 hg.size, hHeld.2.2.trans (hg.mono hHeld.2.1)⟩ (fun hHeld' => ?_)
  clear hK K hHeld
  have hHeld := hHeld'
  clear hHeld'
  try simp only [Act.put, List.setIfInBounds_toArray, List.set_cons_zero, List.set_cons_succ]
  refine wpAnyH_ready (rs := [25]) (by kernel_rfl) (by simp) ?_
  refine AllReadyH.cons (o := ⟨some 34, _, _, _, _, _⟩) rfl (fun K hK => ?_) AllReadyH.nil
  go_simp
  refine (Hrmost.out _ hHeld.2.2).mono ?_; rintro e w' ⟨rfl, hg⟩
  refine hK.out _ _ ⟨Box.below hHeld.1 hg (Nat.lt_of_lt_of_le lc2 hHeld.2.1), Nat.le_trans hHeld.2.1 hg.size, hHeld.2.2.trans (hg.mono hHeld.2.1)⟩ (fun hHeld' => ?_)
  clear hK K hHeld
  have hHeld := hHeld'
  clear hHeld'
  try simp only [Act.put, List.setIfInBounds_toArray, List.set_cons_zero, List.set_cons_succ]
  refine wpAnyH_take (i := 26) (oi := ⟨some 35, _, _, _, _, _⟩) (v := ?vt26) rfl (by kernel_rfl) (by kernel_rfl) (by kernel_rfl) (fun _ _ _ h => h) (Or.inl ⟨by rfl, ?hyt26⟩) hHeld ?restt26
  case hyt26 => (intro w hSw; go_simp; try (with_reducible rfl))
  try simp only [Act.put, List.setIfInBounds_toArray, List.set_cons_zero, List.set_cons_succ]
  refine wpAnyH_take (i := 27) (oi := ⟨some 36, _, _, _, _, _⟩) (v := ?vt27) rfl (by kernel_rfl) (by kernel_rfl) (by kernel_rfl) (fun _ _ _ h => h) (Or.inl ⟨by rfl, ?hyt27⟩) hHeld ?restt27
  case hyt27 => (intro w hSw; go_simp; try (with_reducible rfl))
  try simp only [Act.put, List.setIfInBounds_toArray, List.set_cons_zero, List.set_cons_succ]
  refine wpAnyH_take (i := 28) (oi := ⟨some 37, _, _, _, _, _⟩) (v := ?vt28) rfl (by kernel_rfl) (by kernel_rfl) (by kernel_rfl) (fun _ _ _ h => h) (Or.inl ⟨by rfl, ?hyt28⟩) hHeld ?restt28
  case hyt28 => (intro w hSw; go_simp; try (with_reducible rfl))
  try simp only [Act.put, List.setIfInBounds_toArray, List.set_cons_zero, List.set_cons_succ]
  refine tk_box (i := 29) (oi := ⟨some 38, _, _, _, _, _⟩) rfl (by kernel_rfl) (by kernel_rfl) (by kernel_rfl) (fun _ _ _ h => h) (by rfl) _ rfl _ rfl _ (fun _ h => h.1) rfl hHeld ?_
  try simp only [Act.put, List.setIfInBounds_toArray, List.set_cons_zero, List.set_cons_succ]
  refine tk_box (i := 31) (oi := ⟨some 40, _, _, _, _, _⟩) rfl (by kernel_rfl) (by kernel_rfl) (by kernel_rfl) (fun _ _ _ h => h) (by rfl) _ rfl _ rfl _ (fun _ h => h.1) rfl hHeld ?_
  try simp only [Act.put, List.setIfInBounds_toArray, List.set_cons_zero, List.set_cons_succ]
  refine wpAnyH_ready (rs := [30]) (by kernel_rfl) (by simp) ?_
  refine AllReadyH.cons (o := ⟨some 39, _, _, _, _, _⟩) rfl (fun K hK => ?_) AllReadyH.nil
  go_simp
  refine (Hbound.out _ hHeld.2.2).mono ?_; rintro e w' ⟨rfl, hg⟩
  refine hK.out _ _ ⟨Box.below hHeld.1 hg (Nat.lt_of_lt_of_le lc2 hHeld.2.1), Nat.le_trans hHeld.2.1 hg.size, hHeld.2.2.trans (hg.mono hHeld.2.1)⟩ (fun hHeld' => ?_)
  clear hK K hHeld
  have hHeld := hHeld'
  clear hHeld'
  try simp only [Act.put, List.setIfInBounds_toArray, List.set_cons_zero, List.set_cons_succ]
  refine wpAnyH_ready (rs := [32]) (by kernel_rfl) (by simp) ?_
  refine AllReadyH.cons (o := ⟨some 41, _, _, _, _, _⟩) rfl (fun K hK => ?_) AllReadyH.nil
  go_simp
  refine (Hrbound.out _ hHeld.2.2).mono ?_; rintro e w' ⟨rfl, hg⟩
  refine hK.out _ _ ⟨Box.below hHeld.1 hg (Nat.lt_of_lt_of_le lc2 hHeld.2.1), Nat.le_trans hHeld.2.1 hg.size, hHeld.2.2.trans (hg.mono hHeld.2.1)⟩ (fun hHeld' => ?_)
  clear hK K hHeld
  have hHeld := hHeld'
  clear hHeld'
  try simp only [Act.put, List.setIfInBounds_toArray, List.set_cons_zero, List.set_cons_succ]
  refine wpAnyH_take (i := 33) (oi := ⟨some 42, _, _, _, _, _⟩) (v := ?vt33) rfl (by kernel_rfl) (by kernel_rfl) (by kernel_rfl) (fun _ _ _ h => h) (Or.inl ⟨by rfl, ?hyt33⟩) hHeld ?restt33
  case hyt33 => (intro w hSw; go_simp; try (with_reducible rfl))
  try simp only [Act.put, List.setIfInBounds_toArray, List.set_cons_zero, List.set_cons_succ]
  refine wpAnyH_take (i := 34) (oi := ⟨some 43, _, _, _, _, _⟩) (v := ?vt34) rfl (by kernel_rfl) (by kernel_rfl) (by kernel_rfl) (fun _ _ _ h => h) (Or.inl ⟨by rfl, ?hyt34⟩) hHeld ?restt34
  case hyt34 => (intro w hSw; go_simp; try (with_reducible rfl))
  try simp only [Act.put, List.setIfInBounds_toArray, List.set_cons_zero, List.set_cons_succ]
  refine wpAnyH_take (i := 35) (oi := ⟨some 44, _, _, _, _, _⟩) (v := ?vt35) rfl (by kernel_rfl) (by kernel_rfl) (by kernel_rfl) (fun _ _ _ h => h) (Or.inl ⟨by rfl, ?hyt35⟩) hHeld ?restt35
  case hyt35 => (intro w hSw; go_simp; try (with_reducible rfl))
  try simp only [Act.put, List.setIfInBounds_toArray, List.set_cons_zero, List.set_cons_succ]
  refine tk_box (i := 36) (oi := ⟨some 45, _, _, _, _, _⟩) rfl (by kernel_rfl) (by kernel_rfl) (by kernel_rfl) (fun _ _ _ h => h) (by rfl) _ rfl _ rfl _ (fun _ h => h.1) rfl hHeld ?_
  try simp only [Act.put, List.setIfInBounds_toArray, List.set_cons_zero, List.set_cons_succ]
  refine tk_box (i := 38) (oi := ⟨some 47, _, _, _, _, _⟩) rfl (by kernel_rfl) (by kernel_rfl) (by kernel_rfl) (fun _ _ _ h => h) (by rfl) _ rfl _ rfl _ (fun _ h => h.1) rfl hHeld ?_
  try simp only [Act.put, List.setIfInBounds_toArray, List.set_cons_zero, List.set_cons_succ]
  refine wpAnyH_ready (rs := [37]) (by kernel_rfl) (by simp) ?_
  refine AllReadyH.cons (o := ⟨some 46, _, _, _, _, _⟩) rfl (fun K hK => ?_) AllReadyH.nil
  go_simp
  refine (Hdrain.out _ hHeld.2.2).mono ?_; rintro e w' ⟨rfl, hg⟩
  refine hK.out _ _ ⟨Box.below hHeld.1 hg (Nat.lt_of_lt_of_le lc2 hHeld.2.1), Nat.le_trans hHeld.2.1 hg.size, hHeld.2.2.trans (hg.mono hHeld.2.1)⟩ (fun hHeld' => ?_)
  clear hK K hHeld
  have hHeld := hHeld'
  clear hHeld'
  try simp only [Act.put, List.setIfInBounds_toArray, List.set_cons_zero, List.set_cons_succ]
  refine wpAnyH_ready (rs := [39]) (by kernel_rfl) (by simp) ?_
  refine AllReadyH.cons (o := ⟨some 48, _, _, _, _, _⟩) rfl (fun K hK => ?_) AllReadyH.nil
  go_simp
  refine (Hrdrain.out _ hHeld.2.2).mono ?_; rintro e w' ⟨rfl, hg⟩
  refine hK.out _ _ ⟨Box.below hHeld.1 hg (Nat.lt_of_lt_of_le lc2 hHeld.2.1), Nat.le_trans hHeld.2.1 hg.size, hHeld.2.2.trans (hg.mono hHeld.2.1)⟩ (fun hHeld' => ?_)
  clear hK K hHeld
  have hHeld := hHeld'
  clear hHeld'
  try simp only [Act.put, List.setIfInBounds_toArray, List.set_cons_zero, List.set_cons_succ]
  refine wpAnyH_take (i := 40) (oi := ⟨some 49, _, _, _, _, _⟩) (v := ?vt40) rfl (by kernel_rfl) (by kernel_rfl) (by kernel_rfl) (fun _ _ _ h => h) (Or.inl ⟨by rfl, ?hyt40⟩) hHeld ?restt40
  case hyt40 => (intro w hSw; go_simp; try (with_reducible rfl))
  try simp only [Act.put, List.setIfInBounds_toArray, List.set_cons_zero, List.set_cons_succ]
  refine wpAnyH_take (i := 41) (oi := ⟨some 50, _, _, _, _, _⟩) (v := ?vt41) rfl (by kernel_rfl) (by kernel_rfl) (by kernel_rfl) (fun _ _ _ h => h) (Or.inl ⟨by rfl, ?hyt41⟩) hHeld ?restt41
  case hyt41 => (intro w hSw; go_simp; try (with_reducible rfl))
  try simp only [Act.put, List.setIfInBounds_toArray, List.set_cons_zero, List.set_cons_succ]
  refine wpAnyH_take (i := 42) (oi := ⟨some 6, _, _, _, _, _⟩) (v := ?vt42) rfl (by kernel_rfl) (by kernel_rfl) (by kernel_rfl) (fun _ _ _ h => h) (Or.inl ⟨by rfl, ?hyt42⟩) hHeld ?restt42
  case hyt42 => (intro w hSw; go_simp; try (with_reducible rfl))
  try simp only [Act.put, List.setIfInBounds_toArray, List.set_cons_zero, List.set_cons_succ]
  refine wpAnyH_done (by kernel_rfl) ?_ _
  have Z := Lib.hid hHeld.2.2
  clear hHeld
  go_wp2
  go_ret
  exact ⟨rfl, hb2.out.trans (Z.out.mono (Nat.le_of_lt lc2))⟩
end Go.Proofs.Ytfphdchpfhedfaa
