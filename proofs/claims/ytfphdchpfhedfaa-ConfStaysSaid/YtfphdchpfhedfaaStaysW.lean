/- The walk of the statement ConfStays. Conditions: the slices read as lists. -/
import Derived.Test.YtfphdchpfhedfaaC9
import Derived.Test.YtfphdchpfhedfaaC10
namespace Go.Proofs.Ytfphdchpfhedfaa
open Go.ChangeShapes Go.WideShapes Go.ChangeAt Go.RowKit
set_option linter.unusedVariables false
theorem take_skip {P : Program} {md : Region.Mode} {ops : Array Oper} {Q : Exit → Act → World → Prop} {S : World → Prop} {i : Nat} {oi : Oper} {fuel : Nat} {listed : Array Bool} {a : Act} {w : World} (hi : ops[i]? = some oi)
    (hs : Region.noSelect ops = true) (hf : Region.free md ops listed i = true) (hr : (Region.ready md ops listed).contains i = true)
    (hQ : ∀ c a w, Q (.panic c) (a.put oi.dst undef) w → Q (.panic c) a w) (hw : Region.wanted oi (yielded ops a.tmps) = false) (hS : S w)
    (h : wpAnyH P md ops Q S fuel (listed.setIfInBounds i true) (a.put oi.dst undef) w) : wpAnyH P md ops Q S (fuel + 1) listed a w :=
  wpAnyH_take hi hs hf hr hQ (Or.inr ⟨hw, rfl⟩) hS h
theorem take_box {md : Region.Mode} {ops : Array Oper} {Q : Exit → Act → World → Prop} {S : World → Prop} {i : Nat} {oi : Oper} {fuel : Nat} {listed : Array Bool} {a : Act} {w : World} (hi : ops[i]? = some oi)
    (hs : Region.noSelect ops = true) (hf : Region.free md ops listed i = true) (hr : (Region.ready md ops listed).contains i = true)
    {cs : Array Value}
    (hQ : ∀ c a w, Q (.panic c) (a.put oi.dst (.agg cs)) w → Q (.panic c) a w) (hw : Region.wanted oi (yielded ops a.tmps) = true) (x : Operand) (ho : oi.op = .load 25 x) (g : Nat) (hx : a.eval x = .pointer (some ⟨g, 0, none⟩)) (fr : Nat × Nat) (hb : ∀ w, S w → w.heap[g]? = some (.cells cs 25 fr)) (hcs : cs.size = 11) (hS : S w)
    (h : wpAnyH Try.prog md ops Q S fuel (listed.setIfInBounds i true) (a.put oi.dst (.agg cs)) w) : wpAnyH Try.prog md ops Q S (fuel + 1) listed a w :=
  wpAnyH_take hi hs hf hr hQ (Or.inl ⟨hw, fun w hSw => by
    unfold execOp
    simp only [ho, hx, Instr.loadAt, Instr.sureAddr, Sem.run_bind, Sem.run_pure, Result.andThen_ok, run_loadVar_row w g 25 25 cs fr _ (hb w hSw) Try.underlying25 rfl (by rw [hcs]; kernel_rfl)]⟩) hS h
set_option maxHeartbeats 16000000 in
set_option maxRecDepth 100000 in
theorem stays (m wd ro qu st sl se wa : Int) (A A2 : Option Addr) (C C2 : Nat) (L T : List Int) (tb : Bool) (n n2 : Nat) (k : Int) (w : World) (hn : L.length = n) (h2 : T.length = n2) (c1 : n ≤ C) (c2 : n2 ≤ C2) (bc : C ≤ 9223372036854775807) (bc2 : C2 ≤ 9223372036854775807) (hL : Sl w .i64 A L) (hT : Sl w .u32 A2 T) :
    Calls Try.prog 6 #[.agg #[.int .i64 m, .int .i64 wd, .int .i64 ro, .int .i64 qu, .int .i64 st, .int .i64 sl, .int .i64 se, .int .i64 wa, .slice A n C, .bool tb, .slice A2 n2 C2], .int .i64 k] w fun e w' => e = .returned (.bool true) ∧ Below w.heap.size w w' := by
  obtain ⟨p, hp⟩ : ∃ p, min n 100 = p := ⟨_, rfl⟩
  obtain ⟨p2, hp2⟩ : ∃ p, min n2 100 = p := ⟨_, rfl⟩
  obtain ⟨L', eL⟩ : ∃ M, L.take 100 = M := ⟨_, rfl⟩
  obtain ⟨T', eT⟩ : ∃ M, T.take 100 = M := ⟨_, rfl⟩
  have P1 := Lib.hid (show L'.length = p by rw [← eL, ← hp, ← hn, List.length_take]; omega)
  have P2 := Lib.hid (show T'.length = p2 by rw [← eT, ← hp2, ← h2, List.length_take]; omega)
  have J1 := Lib.hid (show Sl w .i64 A L' by rw [← eL]; exact hL.take 100)
  have J2 := Lib.hid (show Sl w .u32 A2 T' by rw [← eT]; exact hT.take 100)
  have bp : p ≤ 100 := by omega
  have bp2 : p2 ≤ 100 := by omega
  have HF := Lib.hid (fun W => (few_any m wd ro qu st sl se wa A A2 C C2 n n2 tb W c1 c2 bc bc2))
  rw [hp, hp2] at HF
  clear eL eT hL hT hn h2
  obtain ⟨lq, el⟩ : ∃ z, lav L' k = z := ⟨_, rfl⟩
  obtain ⟨mo, em⟩ : ∃ z, mov L' = z := ⟨_, rfl⟩
  have lb := lav_bd L' k
  have mb := mov_bd L'
  rw [el, em] at lb
  rw [em] at mb
  have EL := Lib.hid el
  have EM := Lib.hid em
  clear el em
  have v4 : decide (1 ≤ lq) = true := decide_eq_true lb.1
  have v5 : decide (lq ≤ mo) = true := decide_eq_true lb.2
  go_enter Try.func6, Try.ntmps6
  go_wp2_with fail
  refine (HF.out _).mono ?_
  rintro e w1 ⟨rfl, hb⟩
  have hq1 : w.heap.size < (w.alloc (.cells #[.int .i64 m, .int .i64 wd, .int .i64 ro, .int .i64 qu, .int .i64 st, .int .i64 sl, .int .i64 se, .int .i64 wa, .slice A n C, .bool tb, .slice A2 n2 C2] 25)).heap.size := by simp
  have HO := Lib.hid ((hb.block w.heap.size hq1).trans (heap_alloc_new w _))
  have hb0 := Lib.hid (((Below.refl w.heap.size w).alloc (Nat.le_refl _) _).trans (hb.mono (by simp)))
  have I1 := Lib.hid (J1.out.below hb0.out)
  have I2 := Lib.hid (J2.out.below hb0.out)
  clear hb hq1 HF hp hp2
  go_wp2_with (refine store_box (o := ⟨none, Op.store 25 _ _, _, _, _, _⟩) rfl _ _ rfl w.heap.size _ rfl rfl _ HO.out rfl rfl box_one ?_)
  intro w2 hbx2 hoth hsz hbel
  have lc2 : w.heap.size < w2.heap.size := Box.lt hbx2
  obtain ⟨k0, k1, k2, k3, k4, k5, k6, k7, k8, k9, k10⟩ := Box.cells hbx2
  have X1 := Lib.hid (I1.out.apart hoth hsz (fun b off h hp e => by
    obtain ⟨b', off', h', hlt, _⟩ := J1.out hp
    rw [h] at h'; simp at h' <;> omega))
  have X2 := Lib.hid (I2.out.apart hoth hsz (fun b off h hp e => by
    obtain ⟨b', off', h', hlt, _⟩ := J2.out hp
    rw [h] at h'; simp at h' <;> omega))
  have hb2 := Lib.hid (hbel _ _ hb0.out (Nat.le_refl _))
  have BX := Lib.hid (show Box w2 w.heap.size m wd ro qu st sl se wa A p C tb A2 p2 C2 from hbx2)
  clear hbx2 hoth hsz hbel I1 I2 J1 J2 HO hb0
  go_wp2_with fail
  refine (clean_all m wd ro qu st sl se wa A A2 C C2 L' T' tb p p2 _ P1.out P2.out (by omega) (by omega) X1.out X2.out).mono ?_
  rintro e w3 ⟨g, g2, N, N2, rfl, l1, l2, b3, b4, s1, s2, hb, hg0, hg2⟩
  have lc3 : w.heap.size < w3.heap.size := Nat.lt_of_lt_of_le lc2 hb.size
  have BX3 := BX.out.below hb lc2
  clear k0 k1 k2 k3 k4 k5 k6 k7 k8 k9 k10
  obtain ⟨k0, k1, k2, k3, k4, k5, k6, k7, k8, k9, k10⟩ := Box.cells BX3
  have BX3 := Lib.hid BX3
  have L1 := Lib.hid l1
  have L2 := Lib.hid l2
  have hb3 := Lib.hid (hb2.out.trans (hb.mono (Nat.le_of_lt lc2)))
  have Y1 := Lib.hid (X1.out.below hb)
  have Y2 := Lib.hid (X2.out.below hb)
  have Z1 := Lib.hid s1
  have Z2 := Lib.hid s2
  clear hb s1 s2 l1 l2 hb2 BX X1 X2 hg0 hg2
  go_wp2_with fail
  refine (lat_any k m wd ro qu st sl se wa A A2 C C2 L' T' tb p p2 _ P1.out P2.out (by omega) (by omega) (Y1.out.alloc _) (Y2.out.alloc _)).mono ?_
  rw [EL.out]
  rintro e w4 ⟨rfl, hb⟩
  have hq : w3.heap.size < (w3.alloc (.cells #[.int .i64 (cl 0 2 m), .int .i64 (cl 1 2 wd), .int .i64 (cl 2 8 ro), .int .i64 (cl 1 4 qu), .int .i64 (cl 1 4 st), .int .i64 (cl 2 6 sl), .int .i64 (cs se), .int .i64 (cl 1 2 wa), .slice (some ⟨g, 0, none⟩) N N, .bool tb, .slice (some ⟨g2, 0, none⟩) N2 N2] 25)).heap.size := by simp
  have ld : w3.heap.size < w4.heap.size := Nat.lt_of_lt_of_le hq hb.size
  have lc : w.heap.size < w4.heap.size := by omega
  have bd := hb.block w3.heap.size hq
  rw [heap_alloc_new] at bd
  have a3 := (Below.refl w3.heap.size w3).alloc (Nat.le_refl _) (.cells #[.int .i64 (cl 0 2 m), .int .i64 (cl 1 2 wd), .int .i64 (cl 2 8 ro), .int .i64 (cl 1 4 qu), .int .i64 (cl 1 4 st), .int .i64 (cl 2 6 sl), .int .i64 (cs se), .int .i64 (cl 1 2 wa), .slice (some ⟨g, 0, none⟩) N N, .bool tb, .slice (some ⟨g2, 0, none⟩) N2 N2] 25)
  have a4 := a3.trans (hb.mono (Nat.le_of_lt hq))
  have BX4 := BX3.out.below a4 lc3
  clear k0 k1 k2 k3 k4 k5 k6 k7 k8 k9 k10
  obtain ⟨k0, k1, k2, k3, k4, k5, k6, k7, k8, k9, k10⟩ := Box.cells BX4
  obtain ⟨q0, q1, q2, q3, q4, q5, q6, q7, q8, q9, q10⟩ := Box.cells (show Box w4 w3.heap.size (cl 0 2 m) (cl 1 2 wd) (cl 2 8 ro) (cl 1 4 qu) (cl 1 4 st) (cl 2 6 sl) (cs se) (cl 1 2 wa) (some ⟨g, 0, none⟩) N N tb (some ⟨g2, 0, none⟩) N2 N2 from bd)
  have hb4 := Lib.hid (hb3.out.trans (a4.mono (Nat.le_of_lt lc3)))
  have K1 := Lib.hid (Y1.out.below a4)
  have K2 := Lib.hid (Y2.out.below a4)
  have D1 := Lib.hid (Z1.out.below a4)
  have D2 := Lib.hid (Z2.out.below a4)
  have HB1 := Lib.hid BX4
  have HB2 := Lib.hid (show Box w4 w3.heap.size (cl 0 2 m) (cl 1 2 wd) (cl 2 8 ro) (cl 1 4 qu) (cl 1 4 st) (cl 2 6 sl) (cs se) (cl 1 2 wa) (some ⟨g, 0, none⟩) N N tb (some ⟨g2, 0, none⟩) N2 N2 from bd)
  clear BX3 BX4 bd a3 a4 hb hq Y1 Y2 Z1 Z2 hb3
  have u1 := cl_bd 1 4 st (by decide)
  have u2 := cl_bd 2 6 sl (by decide)
  have u3 := mul_bd (cs se) (cl 1 2 wa) 4 2 (by have := cs_bd se; omega) (by have := cs_bd se; omega) (by have := cl_bd 1 2 wa (by decide); omega) (by have := cl_bd 1 2 wa (by decide); omega)
  obtain ⟨bv, eb⟩ : ∃ z, bo (cl 1 4 st) (cl 2 6 sl) (cs se) (cl 1 2 wa) (mov (la L')) = z := ⟨_, rfl⟩
  obtain ⟨dvv, ed⟩ : ∃ z, dr (cl 1 4 st) (cl 2 6 sl) (cs se) (cl 1 2 wa) (mov (la L')) = z := ⟨_, rfl⟩
  have xb : 60 + mo < bv := by rw [← eb, mov_la, EM.out]; exact bo_more _ _ _ _ _ u1 u2 u3.1 mb.1
  have xd : 60 + mo < dvv := by rw [← ed, mov_la, EM.out]; exact dr_more _ _ _ _ _ u1 u2 u3.1 mb.1
  have EB := Lib.hid eb
  have ED := Lib.hid ed
  clear eb ed u1 u2 u3
  have Rd : Hid (∀ W : World, Below w4.heap.size w4 W → Calls Try.prog 13 #[.agg #[.int .i64 (cl 0 2 m), .int .i64 (cl 1 2 wd), .int .i64 (cl 2 8 ro), .int .i64 (cl 1 4 qu), .int .i64 (cl 1 4 st), .int .i64 (cl 2 6 sl), .int .i64 (cs se), .int .i64 (cl 1 2 wa), .slice (some ⟨g, 0, none⟩) N N, .bool tb, .slice (some ⟨g2, 0, none⟩) N2 N2]] W fun e w' => e = .returned (.bool true) ∧ Below W.heap.size W w') := Lib.hid (fun W hW => (right_any (cl 0 2 m) (cl 1 2 wd) (cl 2 8 ro) (cl 1 4 qu) (cl 1 4 st) (cl 2 6 sl) (cs se) (cl 1 2 wa) _ _ N N2 N N2 tb (la L') W L1.out (by omega) (by omega) (D1.out.below hW)).mono fun e w' ⟨he, hb⟩ => ⟨he.trans (ret_bl (right_clean m wd ro qu st sl se wa L' N N2 b3 b4)), hb⟩)
  have Rc : Hid (∀ W : World, Below w4.heap.size w4 W → Calls Try.prog 13 #[.agg #[.int .i64 m, .int .i64 wd, .int .i64 ro, .int .i64 qu, .int .i64 st, .int .i64 sl, .int .i64 se, .int .i64 wa, .slice A p C, .bool tb, .slice A2 p2 C2]] W fun e w' => e = .returned (.bool (rightB m wd ro qu st sl se wa L' p p2)) ∧ Below W.heap.size W w') := Lib.hid (fun W hW => right_any m wd ro qu st sl se wa A A2 C C2 p p2 tb L' W P1.out (by omega) (by omega) (K1.out.below hW))
  have Mc : Hid (∀ W : World, Below w4.heap.size w4 W → Calls Try.prog 18 #[.agg #[.int .i64 m, .int .i64 wd, .int .i64 ro, .int .i64 qu, .int .i64 st, .int .i64 sl, .int .i64 se, .int .i64 wa, .slice A p C, .bool tb, .slice A2 p2 C2]] W fun e w' => e = .returned (.int .i64 mo) ∧ Below W.heap.size W w') := Lib.hid (fun W hW => (most_any m wd ro qu st sl se wa A A2 C C2 L' T' tb p p2 W P1.out P2.out (by omega) (by omega) (K1.out.below hW) (K2.out.below hW)).mono fun e w' ⟨he, hb⟩ => ⟨he.trans (ret_i64 EM.out), hb⟩)
  have Md : Hid (∀ W : World, Below w4.heap.size w4 W → Calls Try.prog 18 #[.agg #[.int .i64 (cl 0 2 m), .int .i64 (cl 1 2 wd), .int .i64 (cl 2 8 ro), .int .i64 (cl 1 4 qu), .int .i64 (cl 1 4 st), .int .i64 (cl 2 6 sl), .int .i64 (cs se), .int .i64 (cl 1 2 wa), .slice (some ⟨g, 0, none⟩) N N, .bool tb, .slice (some ⟨g2, 0, none⟩) N2 N2]] W fun e w' => e = .returned (.int .i64 mo) ∧ Below W.heap.size W w') := Lib.hid (fun W hW => (most_any (cl 0 2 m) (cl 1 2 wd) (cl 2 8 ro) (cl 1 4 qu) (cl 1 4 st) (cl 2 6 sl) (cs se) (cl 1 2 wa) _ _ N N2 (la L') (ta T') tb N N2 W L1.out L2.out (by omega) (by omega) (D1.out.below hW) (D2.out.below hW)).mono fun e w' ⟨he, hb⟩ => ⟨he.trans (ret_i64 ((mov_la L').trans EM.out)), hb⟩)
  have Bc : Hid (∀ W : World, Below w4.heap.size w4 W → Calls Try.prog 16 #[.agg #[.int .i64 m, .int .i64 wd, .int .i64 ro, .int .i64 qu, .int .i64 st, .int .i64 sl, .int .i64 se, .int .i64 wa, .slice A p C, .bool tb, .slice A2 p2 C2]] W fun e w' => e = .returned (.int .i64 bv) ∧ Below W.heap.size W w') := Lib.hid (fun W hW => (bound_any m wd ro qu st sl se wa A A2 C C2 L' T' tb p p2 W P1.out P2.out (by omega) (by omega) (K1.out.below hW) (K2.out.below hW)).mono fun e w' ⟨he, hb⟩ => ⟨he.trans (ret_i64 EB.out), hb⟩)
  have Dc : Hid (∀ W : World, Below w4.heap.size w4 W → Calls Try.prog 17 #[.agg #[.int .i64 m, .int .i64 wd, .int .i64 ro, .int .i64 qu, .int .i64 st, .int .i64 sl, .int .i64 se, .int .i64 wa, .slice A p C, .bool tb, .slice A2 p2 C2]] W fun e w' => e = .returned (.int .i64 dvv) ∧ Below W.heap.size W w') := Lib.hid (fun W hW => (drain_any m wd ro qu st sl se wa A A2 C C2 L' T' tb p p2 W P1.out P2.out (by omega) (by omega) (K1.out.below hW) (K2.out.below hW)).mono fun e w' ⟨he, hb⟩ => ⟨he.trans (ret_i64 ED.out), hb⟩)
  have Cd : Hid (∀ W : World, Below w4.heap.size w4 W → Calls Try.prog 12 #[.agg #[.int .i64 (cl 0 2 m), .int .i64 (cl 1 2 wd), .int .i64 (cl 2 8 ro), .int .i64 (cl 1 4 qu), .int .i64 (cl 1 4 st), .int .i64 (cl 2 6 sl), .int .i64 (cs se), .int .i64 (cl 1 2 wa), .slice (some ⟨g, 0, none⟩) N N, .bool tb, .slice (some ⟨g2, 0, none⟩) N2 N2]] W fun e w' => ∃ x y : Nat, e = .returned (.agg #[.int .i64 (cl 0 2 m), .int .i64 (cl 1 2 wd), .int .i64 (cl 2 8 ro), .int .i64 (cl 1 4 qu), .int .i64 (cl 1 4 st), .int .i64 (cl 2 6 sl), .int .i64 (cs se), .int .i64 (cl 1 2 wa), .slice (some ⟨x, 0, none⟩) N N, .bool tb, .slice (some ⟨y, 0, none⟩) N2 N2]) ∧ Sl w' .i64 (some ⟨x, 0, none⟩) (la L') ∧ Sl w' .u32 (some ⟨y, 0, none⟩) (ta T') ∧ Below W.heap.size W w') := Lib.hid (fun W hW => (clean_all (cl 0 2 m) (cl 1 2 wd) (cl 2 8 ro) (cl 1 4 qu) (cl 1 4 st) (cl 2 6 sl) (cs se) (cl 1 2 wa) _ _ N N2 (la L') (ta T') tb N N2 W L1.out L2.out (by omega) (by omega) (D1.out.below hW) (D2.out.below hW)).mono fun e w' ⟨x, y, X, Y, he, lx, ly, _, _, sx, sy, hb, _, _⟩ => by
    rw [la_la] at lx sx
    rw [ta_ta] at ly sy
    obtain rfl : X = N := lx.symm.trans L1.out
    obtain rfl : Y = N2 := ly.symm.trans L2.out
    rw [cl_cl 0 2 m (by decide), cl_cl 1 2 wd (by decide), cl_cl 2 8 ro (by decide), cl_cl 1 4 qu (by decide), cl_cl 1 4 st (by decide), cl_cl 2 6 sl (by decide), cs_cs, cl_cl 1 2 wa (by decide)] at he
    exact ⟨x, y, he, sx, sy, hb⟩)
  have Ld : Hid (∀ (W : World) (x y : Nat), Sl W .i64 (some ⟨x, 0, none⟩) (la L') → Sl W .u32 (some ⟨y, 0, none⟩) (ta T') → Below w4.heap.size w4 W → Calls Try.prog 11 #[.agg #[.int .i64 (cl 0 2 m), .int .i64 (cl 1 2 wd), .int .i64 (cl 2 8 ro), .int .i64 (cl 1 4 qu), .int .i64 (cl 1 4 st), .int .i64 (cl 2 6 sl), .int .i64 (cs se), .int .i64 (cl 1 2 wa), .slice (some ⟨x, 0, none⟩) N N, .bool tb, .slice (some ⟨y, 0, none⟩) N2 N2], .agg #[.int .i64 (cl 0 2 m), .int .i64 (cl 1 2 wd), .int .i64 (cl 2 8 ro), .int .i64 (cl 1 4 qu), .int .i64 (cl 1 4 st), .int .i64 (cl 2 6 sl), .int .i64 (cs se), .int .i64 (cl 1 2 wa), .slice (some ⟨g, 0, none⟩) N N, .bool tb, .slice (some ⟨g2, 0, none⟩) N2 N2]] W fun e w' => e = .returned (.bool true) ∧ Below W.heap.size W w') := Lib.hid (fun W x y sx sy hW => (like_any (cl 0 2 m) (cl 1 2 wd) (cl 2 8 ro) (cl 1 4 qu) (cl 1 4 st) (cl 2 6 sl) (cs se) (cl 1 2 wa) (cl 0 2 m) (cl 1 2 wd) (cl 2 8 ro) (cl 1 4 qu) (cl 1 4 st) (cl 2 6 sl) (cs se) (cl 1 2 wa) tb tb _ _ _ _ N N N2 N2 N N N2 N2 (la L') (la L') (ta T') (ta T') W (by omega) (by omega) (by omega) (by omega) L1.out L1.out L2.out L2.out sx (D1.out.below hW) sy (D2.out.below hW)).mono fun e w' ⟨he, hb⟩ => ⟨he.trans (ret_bl (@decide_eq_true _ (Classical.propDecidable _) ⟨⟨rfl, rfl, rfl, rfl, rfl, rfl, rfl, rfl, rfl, rfl, rfl⟩, rfl, rfl⟩)), hb⟩)
  have Lc : Hid (rightB m wd ro qu st sl se wa L' p p2 = true → ∀ W : World, Below w4.heap.size w4 W → Calls Try.prog 11 #[.agg #[.int .i64 m, .int .i64 wd, .int .i64 ro, .int .i64 qu, .int .i64 st, .int .i64 sl, .int .i64 se, .int .i64 wa, .slice A p C, .bool tb, .slice A2 p2 C2], .agg #[.int .i64 (cl 0 2 m), .int .i64 (cl 1 2 wd), .int .i64 (cl 2 8 ro), .int .i64 (cl 1 4 qu), .int .i64 (cl 1 4 st), .int .i64 (cl 2 6 sl), .int .i64 (cs se), .int .i64 (cl 1 2 wa), .slice (some ⟨g, 0, none⟩) N N, .bool tb, .slice (some ⟨g2, 0, none⟩) N2 N2]] W fun e w' => e = .returned (.bool true) ∧ Below W.heap.size W w') := Lib.hid (fun hr W hW => (like_any m wd ro qu st sl se wa (cl 0 2 m) (cl 1 2 wd) (cl 2 8 ro) (cl 1 4 qu) (cl 1 4 st) (cl 2 6 sl) (cs se) (cl 1 2 wa) tb tb _ _ _ _ p N p2 N2 C N C2 N2 L' (la L') T' (ta T') W (by omega) (by omega) (by omega) (by omega) P1.out L1.out P2.out L2.out (K1.out.below hW) (D1.out.below hW) (K2.out.below hW) (D2.out.below hW)).mono fun e w' ⟨he, hb⟩ => ⟨he.trans (ret_bl (@decide_eq_true _ (Classical.propDecidable _) (by
      obtain ⟨r1, r2, r3, r4, r5, r6, r7, r8, r9, r10, r11⟩ := right_stays P1.out hr
      have t : ta T' = T' := by unfold ta; exact List.take_of_length_le (by rw [P2.out]; exact r11)
      rw [r1, r2, r3, r4, r5, r6, r7, r8, r9, t]
      exact ⟨⟨rfl, rfl, rfl, rfl, rfl, rfl, rfl, rfl, rfl, rfl, rfl⟩, rfl, rfl⟩))), hb⟩)
  clear K1 K2 D1 D2 P1 P2 L1 L2 EB ED EM EL
  have v1 : IntKind.i64.wrap (60 + mo) = 60 + mo := IntWalk.i64_in _ (by omega)
  have v2 : decide (60 + mo < bv) = true := decide_eq_true xb
  have v3 : decide (60 + mo < dvv) = true := decide_eq_true xd
  cases hr : rightB m wd ro qu st sl se wa L' p p2 with
  | true =>
    go_wp2_with fail
    refine wp_region_held_drew (S := fun w' => Box w' w.heap.size m wd ro qu st sl se wa A p C tb A2 p2 C2 ∧ Box w' w3.heap.size (cl 0 2 m) (cl 1 2 wd) (cl 2 8 ro) (cl 1 4 qu) (cl 1 4 st) (cl 2 6 sl) (cs se) (cl 1 2 wa) (some ⟨g, 0, none⟩) N N tb (some ⟨g2, 0, none⟩) N2 N2 ∧ w4.heap.size ≤ w'.heap.size ∧ Below w4.heap.size w4 w') (by kernel_rfl) ⟨HB1.out, HB2.out, Nat.le_refl _, (Below.refl _ _).drew⟩ (fun hHeld => ?_)
    refine wpAnyH_ready (rs := [0]) (by kernel_rfl) (by simp) ?_
    refine AllReadyH.cons (o := ⟨some 14, _, _, _, _, _⟩) rfl (fun K hK => ?_) AllReadyH.nil
    go_simp
    refine (alive_any _).mono ?_; rintro e w' ⟨rfl, hg⟩
    refine hK.out _ _ ⟨(Box.below (hHeld.1) hg (Nat.lt_of_lt_of_le lc hHeld.2.2.1)), (Box.below (hHeld.2.1) hg (Nat.lt_of_lt_of_le ld hHeld.2.2.1)), Nat.le_trans hHeld.2.2.1 hg.size, hHeld.2.2.2.trans (hg.mono hHeld.2.2.1)⟩ (fun hHeld' => ?_)
    clear hK K hHeld
    have hHeld := hHeld'
    clear hHeld'
    try simp only [Act.put, List.setIfInBounds_toArray, List.set_cons_zero, List.set_cons_succ]
    refine wpAnyH_take (i := 1) (oi := ⟨some 15, _, _, _, _, _⟩) (v := ?vt1) rfl (by kernel_rfl) (by kernel_rfl) (by kernel_rfl) (fun _ _ _ h => h) (Or.inl ⟨by rfl, ?hyt1⟩) hHeld ?restt1
    case hyt1 => (intro w hSw; go_simp; try (with_reducible rfl))
    try simp only [Act.put, List.setIfInBounds_toArray, List.set_cons_zero, List.set_cons_succ]
    refine take_box (i := 2) (oi := ⟨some 16, _, _, _, _, _⟩) rfl (by kernel_rfl) (by kernel_rfl) (by kernel_rfl) (fun _ _ _ h => h) (by rfl) _ rfl _ rfl _ (fun _ h => h.2.1) rfl hHeld ?_
    try simp only [Act.put, List.setIfInBounds_toArray, List.set_cons_zero, List.set_cons_succ]
    refine wpAnyH_ready (rs := [3]) (by kernel_rfl) (by simp) ?_
    refine AllReadyH.cons (o := ⟨some 17, _, _, _, _, _⟩) rfl (fun K hK => ?_) AllReadyH.nil
    go_simp
    refine (Rd.out _ hHeld.2.2.2).mono ?_; rintro e w' ⟨rfl, hg⟩
    refine hK.out _ _ ⟨(Box.below (hHeld.1) hg (Nat.lt_of_lt_of_le lc hHeld.2.2.1)), (Box.below (hHeld.2.1) hg (Nat.lt_of_lt_of_le ld hHeld.2.2.1)), Nat.le_trans hHeld.2.2.1 hg.size, hHeld.2.2.2.trans (hg.mono hHeld.2.2.1)⟩ (fun hHeld' => ?_)
    clear hK K hHeld
    have hHeld := hHeld'
    clear hHeld'
    try simp only [Act.put, List.setIfInBounds_toArray, List.set_cons_zero, List.set_cons_succ]
    refine wpAnyH_take (i := 4) (oi := ⟨some 18, _, _, _, _, _⟩) (v := ?vt4) rfl (by kernel_rfl) (by kernel_rfl) (by kernel_rfl) (fun _ _ _ h => h) (Or.inl ⟨by rfl, ?hyt4⟩) hHeld ?restt4
    case hyt4 => (intro w hSw; go_simp; try (with_reducible rfl))
    try simp only [Act.put, List.setIfInBounds_toArray, List.set_cons_zero, List.set_cons_succ]
    refine wpAnyH_take (i := 5) (oi := ⟨some 19, _, _, _, _, _⟩) (v := ?vt5) rfl (by kernel_rfl) (by kernel_rfl) (by kernel_rfl) (fun _ _ _ h => h) (Or.inl ⟨by rfl, ?hyt5⟩) hHeld ?restt5
    case hyt5 => (intro w hSw; go_simp; try (with_reducible rfl))
    try simp only [Act.put, List.setIfInBounds_toArray, List.set_cons_zero, List.set_cons_succ]
    refine take_box (i := 6) (oi := ⟨some 20, _, _, _, _, _⟩) rfl (by kernel_rfl) (by kernel_rfl) (by kernel_rfl) (fun _ _ _ h => h) (by rfl) _ rfl _ rfl _ (fun _ h => h.2.1) rfl hHeld ?_
    try simp only [Act.put, List.setIfInBounds_toArray, List.set_cons_zero, List.set_cons_succ]
    refine take_box (i := 8) (oi := ⟨some 22, _, _, _, _, _⟩) rfl (by kernel_rfl) (by kernel_rfl) (by kernel_rfl) (fun _ _ _ h => h) (by rfl) _ rfl _ rfl _ (fun _ h => h.2.1) rfl hHeld ?_
    try simp only [Act.put, List.setIfInBounds_toArray, List.set_cons_zero, List.set_cons_succ]
    refine wpAnyH_ready (rs := [7]) (by kernel_rfl) (by simp) ?_
    refine AllReadyH.cons (o := ⟨some 21, _, _, _, _, _⟩) rfl (fun K hK => ?_) AllReadyH.nil
    go_simp
    refine (Cd.out _ hHeld.2.2.2).mono ?_; rintro e w' ⟨x, y, rfl, sx, sy, hg⟩
    refine hK.out _ _ ⟨(Box.below (hHeld.1) hg (Nat.lt_of_lt_of_le lc hHeld.2.2.1)), (Box.below (hHeld.2.1) hg (Nat.lt_of_lt_of_le ld hHeld.2.2.1)), Nat.le_trans hHeld.2.2.1 hg.size, hHeld.2.2.2.trans (hg.mono hHeld.2.2.1)⟩ (fun hHeld' => ?_)
    clear hK K hHeld
    have hHeld := hHeld'
    clear hHeld'
    try simp only [Act.put, List.setIfInBounds_toArray, List.set_cons_zero, List.set_cons_succ]
    refine wpAnyH_ready (rs := [9]) (by kernel_rfl) (by simp) ?_
    refine AllReadyH.cons (o := ⟨some 23, _, _, _, _, _⟩) rfl (fun K hK => ?_) AllReadyH.nil
    go_simp
    refine (Ld.out _ _ _ sx sy hHeld.2.2.2).mono ?_; rintro e w' ⟨rfl, hg⟩
    refine hK.out _ _ ⟨(Box.below (hHeld.1) hg (Nat.lt_of_lt_of_le lc hHeld.2.2.1)), (Box.below (hHeld.2.1) hg (Nat.lt_of_lt_of_le ld hHeld.2.2.1)), Nat.le_trans hHeld.2.2.1 hg.size, hHeld.2.2.2.trans (hg.mono hHeld.2.2.1)⟩ (fun hHeld' => ?_)
    clear hK K hHeld
    have hHeld := hHeld'
    clear hHeld'
    try simp only [Act.put, List.setIfInBounds_toArray, List.set_cons_zero, List.set_cons_succ]
    refine wpAnyH_take (i := 10) (oi := ⟨some 24, _, _, _, _, _⟩) (v := ?vt10) rfl (by kernel_rfl) (by kernel_rfl) (by kernel_rfl) (fun _ _ _ h => h) (Or.inl ⟨by rfl, ?hyt10⟩) hHeld ?restt10
    case hyt10 => (intro w hSw; go_simp; try (with_reducible rfl))
    try simp only [Act.put, List.setIfInBounds_toArray, List.set_cons_zero, List.set_cons_succ]
    refine wpAnyH_take (i := 11) (oi := ⟨some 25, _, _, _, _, _⟩) (v := ?vt11) rfl (by kernel_rfl) (by kernel_rfl) (by kernel_rfl) (fun _ _ _ h => h) (Or.inl ⟨by rfl, ?hyt11⟩) hHeld ?restt11
    case hyt11 => (intro w hSw; go_simp; try (with_reducible rfl))
    try simp only [Act.put, List.setIfInBounds_toArray, List.set_cons_zero, List.set_cons_succ]
    refine take_box (i := 12) (oi := ⟨some 26, _, _, _, _, _⟩) rfl (by kernel_rfl) (by kernel_rfl) (by kernel_rfl) (fun _ _ _ h => h) (by rfl) _ rfl _ rfl _ (fun _ h => h.1) rfl hHeld ?_
    try simp only [Act.put, List.setIfInBounds_toArray, List.set_cons_zero, List.set_cons_succ]
    refine wpAnyH_ready (rs := [13]) (by kernel_rfl) (by simp) ?_
    refine AllReadyH.cons (o := ⟨some 27, _, _, _, _, _⟩) rfl (fun K hK => ?_) AllReadyH.nil
    go_simp
    refine (Rc.out _ hHeld.2.2.2).mono ?_; rintro e w' ⟨rfl, hg⟩
    refine hK.out _ _ ⟨(Box.below (hHeld.1) hg (Nat.lt_of_lt_of_le lc hHeld.2.2.1)), (Box.below (hHeld.2.1) hg (Nat.lt_of_lt_of_le ld hHeld.2.2.1)), Nat.le_trans hHeld.2.2.1 hg.size, hHeld.2.2.2.trans (hg.mono hHeld.2.2.1)⟩ (fun hHeld' => ?_)
    clear hK K hHeld
    have hHeld := hHeld'
    clear hHeld'
    try simp only [Act.put, List.setIfInBounds_toArray, List.set_cons_zero, List.set_cons_succ]
    refine wpAnyH_take (i := 14) (oi := ⟨some 28, _, _, _, _, _⟩) (v := ?vt14) rfl (by kernel_rfl) (by kernel_rfl) (by kernel_rfl) (fun _ _ _ h => h) (Or.inl ⟨by rfl, ?hyt14⟩) hHeld ?restt14
    case hyt14 => (intro w hSw; go_simp; try (with_reducible rfl))
    try simp only [Act.put, List.setIfInBounds_toArray, List.set_cons_zero, List.set_cons_succ]
    refine wpAnyH_take (i := 15) (oi := ⟨some 29, _, _, _, _, _⟩) (v := ?vt15) rfl (by kernel_rfl) (by kernel_rfl) (by kernel_rfl) (fun _ _ _ h => h) (Or.inl ⟨by rfl, ?hyt15⟩) hHeld ?restt15
    case hyt15 => (intro w hSw; go_simp; try (with_reducible rfl))
    try simp only [Act.put, List.setIfInBounds_toArray, List.set_cons_zero, List.set_cons_succ]
    refine take_box (i := 16) (oi := ⟨some 30, _, _, _, _, _⟩) rfl (by kernel_rfl) (by kernel_rfl) (by kernel_rfl) (fun _ _ _ h => h) (by rfl) _ rfl _ rfl _ (fun _ h => h.1) rfl hHeld ?_
    try simp only [Act.put, List.setIfInBounds_toArray, List.set_cons_zero, List.set_cons_succ]
    refine take_box (i := 17) (oi := ⟨some 31, _, _, _, _, _⟩) rfl (by kernel_rfl) (by kernel_rfl) (by kernel_rfl) (fun _ _ _ h => h) (by rfl) _ rfl _ rfl _ (fun _ h => h.2.1) rfl hHeld ?_
    try simp only [Act.put, List.setIfInBounds_toArray, List.set_cons_zero, List.set_cons_succ]
    refine wpAnyH_ready (rs := [18]) (by kernel_rfl) (by simp) ?_
    refine AllReadyH.cons (o := ⟨some 32, _, _, _, _, _⟩) rfl (fun K hK => ?_) AllReadyH.nil
    go_simp
    refine (Lc.out hr _ hHeld.2.2.2).mono ?_; rintro e w' ⟨rfl, hg⟩
    refine hK.out _ _ ⟨(Box.below (hHeld.1) hg (Nat.lt_of_lt_of_le lc hHeld.2.2.1)), (Box.below (hHeld.2.1) hg (Nat.lt_of_lt_of_le ld hHeld.2.2.1)), Nat.le_trans hHeld.2.2.1 hg.size, hHeld.2.2.2.trans (hg.mono hHeld.2.2.1)⟩ (fun hHeld' => ?_)
    clear hK K hHeld
    have hHeld := hHeld'
    clear hHeld'
    try simp only [Act.put, List.setIfInBounds_toArray, List.set_cons_zero, List.set_cons_succ]
    refine wpAnyH_take (i := 19) (oi := ⟨some 33, _, _, _, _, _⟩) (v := ?vt19) rfl (by kernel_rfl) (by kernel_rfl) (by kernel_rfl) (fun _ _ _ h => h) (Or.inl ⟨by rfl, ?hyt19⟩) hHeld ?restt19
    case hyt19 => (intro w hSw; go_simp; try (with_reducible rfl))
    try simp only [Act.put, List.setIfInBounds_toArray, List.set_cons_zero, List.set_cons_succ]
    refine wpAnyH_take (i := 20) (oi := ⟨some 34, _, _, _, _, _⟩) (v := ?vt20) rfl (by kernel_rfl) (by kernel_rfl) (by kernel_rfl) (fun _ _ _ h => h) (Or.inl ⟨by rfl, ?hyt20⟩) hHeld ?restt20
    case hyt20 => (intro w hSw; go_simp; try (with_reducible rfl))
    try simp only [Act.put, List.setIfInBounds_toArray, List.set_cons_zero, List.set_cons_succ]
    refine wpAnyH_take (i := 21) (oi := ⟨some 35, _, _, _, _, _⟩) (v := ?vt21) rfl (by kernel_rfl) (by kernel_rfl) (by kernel_rfl) (fun _ _ _ h => h) (Or.inl ⟨by rfl, ?hyt21⟩) hHeld ?restt21
    case hyt21 => (intro w hSw; go_simp; try (with_reducible rfl))
    try simp only [Act.put, List.setIfInBounds_toArray, List.set_cons_zero, List.set_cons_succ]
    refine wpAnyH_take (i := 22) (oi := ⟨some 36, _, _, _, _, _⟩) (v := ?vt22) rfl (by kernel_rfl) (by kernel_rfl) (by kernel_rfl) (fun _ _ _ h => h) (Or.inl ⟨by rfl, ?hyt22⟩) hHeld ?restt22
    case hyt22 => (intro w hSw; go_simp; try (with_reducible rfl))
    try simp only [Act.put, List.setIfInBounds_toArray, List.set_cons_zero, List.set_cons_succ]
    refine wpAnyH_take (i := 23) (oi := ⟨some 37, _, _, _, _, _⟩) (v := ?vt23) rfl (by kernel_rfl) (by kernel_rfl) (by kernel_rfl) (fun _ _ _ h => h) (Or.inl ⟨by rfl, ?hyt23⟩) hHeld ?restt23
    case hyt23 => (intro w hSw; go_simp; try (with_reducible rfl))
    try simp only [Act.put, List.setIfInBounds_toArray, List.set_cons_zero, List.set_cons_succ]
    refine wpAnyH_take (i := 24) (oi := ⟨some 38, _, _, _, _, _⟩) (v := ?vt24) rfl (by kernel_rfl) (by kernel_rfl) (by kernel_rfl) (fun _ _ _ h => h) (Or.inl ⟨by rfl, ?hyt24⟩) hHeld ?restt24
    case hyt24 => (intro w hSw; go_simp; try (with_reducible rfl))
    try simp only [Act.put, List.setIfInBounds_toArray, List.set_cons_zero, List.set_cons_succ]
    refine wpAnyH_take (i := 25) (oi := ⟨some 39, _, _, _, _, _⟩) (v := ?vt25) rfl (by kernel_rfl) (by kernel_rfl) (by kernel_rfl) (fun _ _ _ h => h) (Or.inl ⟨by rfl, ?hyt25⟩) hHeld ?restt25
    case hyt25 => (intro w hSw; go_simp; try (with_reducible rfl))
    try simp only [Act.put, List.setIfInBounds_toArray, List.set_cons_zero, List.set_cons_succ]
    refine wpAnyH_take (i := 26) (oi := ⟨some 40, _, _, _, _, _⟩) (v := ?vt26) rfl (by kernel_rfl) (by kernel_rfl) (by kernel_rfl) (fun _ _ _ h => h) (Or.inl ⟨by rfl, ?hyt26⟩) hHeld ?restt26
    case hyt26 => (intro w hSw; go_simp; try (with_reducible rfl))
    try simp only [Act.put, List.setIfInBounds_toArray, List.set_cons_zero, List.set_cons_succ]
    refine take_box (i := 27) (oi := ⟨some 41, _, _, _, _, _⟩) rfl (by kernel_rfl) (by kernel_rfl) (by kernel_rfl) (fun _ _ _ h => h) (by rfl) _ rfl _ rfl _ (fun _ h => h.1) rfl hHeld ?_
    try simp only [Act.put, List.setIfInBounds_toArray, List.set_cons_zero, List.set_cons_succ]
    refine wpAnyH_ready (rs := [28]) (by kernel_rfl) (by simp) ?_
    refine AllReadyH.cons (o := ⟨some 42, _, _, _, _, _⟩) rfl (fun K hK => ?_) AllReadyH.nil
    go_simp
    refine (Mc.out _ hHeld.2.2.2).mono ?_; rintro e w' ⟨rfl, hg⟩
    refine hK.out _ _ ⟨(Box.below (hHeld.1) hg (Nat.lt_of_lt_of_le lc hHeld.2.2.1)), (Box.below (hHeld.2.1) hg (Nat.lt_of_lt_of_le ld hHeld.2.2.1)), Nat.le_trans hHeld.2.2.1 hg.size, hHeld.2.2.2.trans (hg.mono hHeld.2.2.1)⟩ (fun hHeld' => ?_)
    clear hK K hHeld
    have hHeld := hHeld'
    clear hHeld'
    try simp only [Act.put, List.setIfInBounds_toArray, List.set_cons_zero, List.set_cons_succ]
    refine wpAnyH_take (i := 29) (oi := ⟨some 43, _, _, _, _, _⟩) (v := ?vt29) rfl (by kernel_rfl) (by kernel_rfl) (by kernel_rfl) (fun _ _ _ h => h) (Or.inl ⟨by rfl, ?hyt29⟩) hHeld ?restt29
    case hyt29 => (intro w hSw; go_simp; try (with_reducible rfl))
    try simp only [Act.put, List.setIfInBounds_toArray, List.set_cons_zero, List.set_cons_succ]
    refine wpAnyH_take (i := 30) (oi := ⟨some 44, _, _, _, _, _⟩) (v := ?vt30) rfl (by kernel_rfl) (by kernel_rfl) (by kernel_rfl) (fun _ _ _ h => h) (Or.inl ⟨by rfl, ?hyt30⟩) hHeld ?restt30
    case hyt30 => (intro w hSw; go_simp; try (with_reducible rfl))
    try simp only [Act.put, List.setIfInBounds_toArray, List.set_cons_zero, List.set_cons_succ]
    refine wpAnyH_take (i := 31) (oi := ⟨some 45, _, _, _, _, _⟩) (v := ?vt31) rfl (by kernel_rfl) (by kernel_rfl) (by kernel_rfl) (fun _ _ _ h => h) (Or.inl ⟨by rfl, ?hyt31⟩) hHeld ?restt31
    case hyt31 => (intro w hSw; go_simp; try (with_reducible rfl))
    try simp only [Act.put, List.setIfInBounds_toArray, List.set_cons_zero, List.set_cons_succ]
    refine take_box (i := 32) (oi := ⟨some 46, _, _, _, _, _⟩) rfl (by kernel_rfl) (by kernel_rfl) (by kernel_rfl) (fun _ _ _ h => h) (by rfl) _ rfl _ rfl _ (fun _ h => h.2.1) rfl hHeld ?_
    try simp only [Act.put, List.setIfInBounds_toArray, List.set_cons_zero, List.set_cons_succ]
    refine take_box (i := 34) (oi := ⟨some 48, _, _, _, _, _⟩) rfl (by kernel_rfl) (by kernel_rfl) (by kernel_rfl) (fun _ _ _ h => h) (by rfl) _ rfl _ rfl _ (fun _ h => h.1) rfl hHeld ?_
    try simp only [Act.put, List.setIfInBounds_toArray, List.set_cons_zero, List.set_cons_succ]
    refine wpAnyH_ready (rs := [33]) (by kernel_rfl) (by simp) ?_
    refine AllReadyH.cons (o := ⟨some 47, _, _, _, _, _⟩) rfl (fun K hK => ?_) AllReadyH.nil
    go_simp
    refine (Md.out _ hHeld.2.2.2).mono ?_; rintro e w' ⟨rfl, hg⟩
    refine hK.out _ _ ⟨(Box.below (hHeld.1) hg (Nat.lt_of_lt_of_le lc hHeld.2.2.1)), (Box.below (hHeld.2.1) hg (Nat.lt_of_lt_of_le ld hHeld.2.2.1)), Nat.le_trans hHeld.2.2.1 hg.size, hHeld.2.2.2.trans (hg.mono hHeld.2.2.1)⟩ (fun hHeld' => ?_)
    clear hK K hHeld
    have hHeld := hHeld'
    clear hHeld'
    try simp only [Act.put, List.setIfInBounds_toArray, List.set_cons_zero, List.set_cons_succ]
    refine wpAnyH_ready (rs := [35]) (by kernel_rfl) (by simp) ?_
    refine AllReadyH.cons (o := ⟨some 49, _, _, _, _, _⟩) rfl (fun K hK => ?_) AllReadyH.nil
    go_simp
    refine (Mc.out _ hHeld.2.2.2).mono ?_; rintro e w' ⟨rfl, hg⟩
    refine hK.out _ _ ⟨(Box.below (hHeld.1) hg (Nat.lt_of_lt_of_le lc hHeld.2.2.1)), (Box.below (hHeld.2.1) hg (Nat.lt_of_lt_of_le ld hHeld.2.2.1)), Nat.le_trans hHeld.2.2.1 hg.size, hHeld.2.2.2.trans (hg.mono hHeld.2.2.1)⟩ (fun hHeld' => ?_)
    clear hK K hHeld
    have hHeld := hHeld'
    clear hHeld'
    try simp only [Act.put, List.setIfInBounds_toArray, List.set_cons_zero, List.set_cons_succ]
    refine wpAnyH_take (i := 36) (oi := ⟨some 50, _, _, _, _, _⟩) (v := ?vt36) rfl (by kernel_rfl) (by kernel_rfl) (by kernel_rfl) (fun _ _ _ h => h) (Or.inl ⟨by rfl, ?hyt36⟩) hHeld ?restt36
    case hyt36 => (intro w hSw; go_simp; try (with_reducible rfl))
    try simp only [Act.put, List.setIfInBounds_toArray, List.set_cons_zero, List.set_cons_succ]
    refine wpAnyH_take (i := 37) (oi := ⟨some 51, _, _, _, _, _⟩) (v := ?vt37) rfl (by kernel_rfl) (by kernel_rfl) (by kernel_rfl) (fun _ _ _ h => h) (Or.inl ⟨by rfl, ?hyt37⟩) hHeld ?restt37
    case hyt37 => (intro w hSw; go_simp; try (with_reducible rfl))
    try simp only [Act.put, List.setIfInBounds_toArray, List.set_cons_zero, List.set_cons_succ]
    refine wpAnyH_take (i := 38) (oi := ⟨some 52, _, _, _, _, _⟩) (v := ?vt38) rfl (by kernel_rfl) (by kernel_rfl) (by kernel_rfl) (fun _ _ _ h => h) (Or.inl ⟨by rfl, ?hyt38⟩) hHeld ?restt38
    case hyt38 => (intro w hSw; go_simp; try (with_reducible rfl))
    try simp only [Act.put, List.setIfInBounds_toArray, List.set_cons_zero, List.set_cons_succ]
    refine take_box (i := 39) (oi := ⟨some 53, _, _, _, _, _⟩) rfl (by kernel_rfl) (by kernel_rfl) (by kernel_rfl) (fun _ _ _ h => h) (by rfl) _ rfl _ rfl _ (fun _ h => h.1) rfl hHeld ?_
    try simp only [Act.put, List.setIfInBounds_toArray, List.set_cons_zero, List.set_cons_succ]
    refine take_box (i := 41) (oi := ⟨some 55, _, _, _, _, _⟩) rfl (by kernel_rfl) (by kernel_rfl) (by kernel_rfl) (fun _ _ _ h => h) (by rfl) _ rfl _ rfl _ (fun _ h => h.1) rfl hHeld ?_
    try simp only [Act.put, List.setIfInBounds_toArray, List.set_cons_zero, List.set_cons_succ]
    refine wpAnyH_ready (rs := [40]) (by kernel_rfl) (by simp) ?_
    refine AllReadyH.cons (o := ⟨some 54, _, _, _, _, _⟩) rfl (fun K hK => ?_) AllReadyH.nil
    go_simp
    refine (Bc.out _ hHeld.2.2.2).mono ?_; rintro e w' ⟨rfl, hg⟩
    refine hK.out _ _ ⟨(Box.below (hHeld.1) hg (Nat.lt_of_lt_of_le lc hHeld.2.2.1)), (Box.below (hHeld.2.1) hg (Nat.lt_of_lt_of_le ld hHeld.2.2.1)), Nat.le_trans hHeld.2.2.1 hg.size, hHeld.2.2.2.trans (hg.mono hHeld.2.2.1)⟩ (fun hHeld' => ?_)
    clear hK K hHeld
    have hHeld := hHeld'
    clear hHeld'
    try simp only [Act.put, List.setIfInBounds_toArray, List.set_cons_zero, List.set_cons_succ]
    refine wpAnyH_ready (rs := [42]) (by kernel_rfl) (by simp) ?_
    refine AllReadyH.cons (o := ⟨some 56, _, _, _, _, _⟩) rfl (fun K hK => ?_) AllReadyH.nil
    go_simp
    refine (Mc.out _ hHeld.2.2.2).mono ?_; rintro e w' ⟨rfl, hg⟩
    refine hK.out _ _ ⟨(Box.below (hHeld.1) hg (Nat.lt_of_lt_of_le lc hHeld.2.2.1)), (Box.below (hHeld.2.1) hg (Nat.lt_of_lt_of_le ld hHeld.2.2.1)), Nat.le_trans hHeld.2.2.1 hg.size, hHeld.2.2.2.trans (hg.mono hHeld.2.2.1)⟩ (fun hHeld' => ?_)
    clear hK K hHeld
    have hHeld := hHeld'
    clear hHeld'
    try simp only [Act.put, List.setIfInBounds_toArray, List.set_cons_zero, List.set_cons_succ]
    refine wpAnyH_take (i := 43) (oi := ⟨some 57, _, _, _, _, _⟩) (v := ?vt43) rfl (by kernel_rfl) (by kernel_rfl) (by kernel_rfl) (fun _ _ _ h => h) (Or.inl ⟨by rfl, ?hyt43⟩) hHeld ?restt43
    case hyt43 => (intro w hSw; go_simp; try (with_reducible rfl))
    try simp only [Act.put, List.setIfInBounds_toArray, List.set_cons_zero, List.set_cons_succ]
    refine wpAnyH_take (i := 44) (oi := ⟨some 58, _, _, _, _, _⟩) (v := ?vt44) rfl (by kernel_rfl) (by kernel_rfl) (by kernel_rfl) (fun _ _ _ h => h) (Or.inl ⟨by rfl, ?hyt44⟩) hHeld ?restt44
    case hyt44 => (intro w hSw; go_simp; try (with_reducible rfl))
    try simp only [Act.put, List.setIfInBounds_toArray, List.set_cons_zero, List.set_cons_succ]
    refine wpAnyH_take (i := 45) (oi := ⟨some 59, _, _, _, _, _⟩) (v := ?vt45) rfl (by kernel_rfl) (by kernel_rfl) (by kernel_rfl) (fun _ _ _ h => h) (Or.inl ⟨by rfl, ?hyt45⟩) hHeld ?restt45
    case hyt45 => (intro w hSw; go_simp; try (with_reducible rfl))
    try simp only [Act.put, List.setIfInBounds_toArray, List.set_cons_zero, List.set_cons_succ]
    refine wpAnyH_take (i := 46) (oi := ⟨some 60, _, _, _, _, _⟩) (v := ?vt46) rfl (by kernel_rfl) (by kernel_rfl) (by kernel_rfl) (fun _ _ _ h => h) (Or.inl ⟨by rfl, ?hyt46⟩) hHeld ?restt46
    case hyt46 => (intro w hSw; go_simp; try (with_reducible rfl))
    try simp only [Act.put, List.setIfInBounds_toArray, List.set_cons_zero, List.set_cons_succ]
    refine take_box (i := 47) (oi := ⟨some 61, _, _, _, _, _⟩) rfl (by kernel_rfl) (by kernel_rfl) (by kernel_rfl) (fun _ _ _ h => h) (by rfl) _ rfl _ rfl _ (fun _ h => h.1) rfl hHeld ?_
    try simp only [Act.put, List.setIfInBounds_toArray, List.set_cons_zero, List.set_cons_succ]
    refine take_box (i := 49) (oi := ⟨some 63, _, _, _, _, _⟩) rfl (by kernel_rfl) (by kernel_rfl) (by kernel_rfl) (fun _ _ _ h => h) (by rfl) _ rfl _ rfl _ (fun _ h => h.1) rfl hHeld ?_
    try simp only [Act.put, List.setIfInBounds_toArray, List.set_cons_zero, List.set_cons_succ]
    refine wpAnyH_ready (rs := [48]) (by kernel_rfl) (by simp) ?_
    refine AllReadyH.cons (o := ⟨some 62, _, _, _, _, _⟩) rfl (fun K hK => ?_) AllReadyH.nil
    go_simp
    refine (Dc.out _ hHeld.2.2.2).mono ?_; rintro e w' ⟨rfl, hg⟩
    refine hK.out _ _ ⟨(Box.below (hHeld.1) hg (Nat.lt_of_lt_of_le lc hHeld.2.2.1)), (Box.below (hHeld.2.1) hg (Nat.lt_of_lt_of_le ld hHeld.2.2.1)), Nat.le_trans hHeld.2.2.1 hg.size, hHeld.2.2.2.trans (hg.mono hHeld.2.2.1)⟩ (fun hHeld' => ?_)
    clear hK K hHeld
    have hHeld := hHeld'
    clear hHeld'
    try simp only [Act.put, List.setIfInBounds_toArray, List.set_cons_zero, List.set_cons_succ]
    refine wpAnyH_ready (rs := [50]) (by kernel_rfl) (by simp) ?_
    refine AllReadyH.cons (o := ⟨some 64, _, _, _, _, _⟩) rfl (fun K hK => ?_) AllReadyH.nil
    go_simp
    refine (Mc.out _ hHeld.2.2.2).mono ?_; rintro e w' ⟨rfl, hg⟩
    refine hK.out _ _ ⟨(Box.below (hHeld.1) hg (Nat.lt_of_lt_of_le lc hHeld.2.2.1)), (Box.below (hHeld.2.1) hg (Nat.lt_of_lt_of_le ld hHeld.2.2.1)), Nat.le_trans hHeld.2.2.1 hg.size, hHeld.2.2.2.trans (hg.mono hHeld.2.2.1)⟩ (fun hHeld' => ?_)
    clear hK K hHeld
    have hHeld := hHeld'
    clear hHeld'
    try simp only [Act.put, List.setIfInBounds_toArray, List.set_cons_zero, List.set_cons_succ]
    refine wpAnyH_take (i := 51) (oi := ⟨some 65, _, _, _, _, _⟩) (v := ?vt51) rfl (by kernel_rfl) (by kernel_rfl) (by kernel_rfl) (fun _ _ _ h => h) (Or.inl ⟨by rfl, ?hyt51⟩) hHeld ?restt51
    case hyt51 => (intro w hSw; go_simp; try (with_reducible rfl))
    try simp only [Act.put, List.setIfInBounds_toArray, List.set_cons_zero, List.set_cons_succ]
    refine wpAnyH_take (i := 52) (oi := ⟨some 66, _, _, _, _, _⟩) (v := ?vt52) rfl (by kernel_rfl) (by kernel_rfl) (by kernel_rfl) (fun _ _ _ h => h) (Or.inl ⟨by rfl, ?hyt52⟩) hHeld ?restt52
    case hyt52 => (intro w hSw; go_simp; try (with_reducible rfl))
    try simp only [Act.put, List.setIfInBounds_toArray, List.set_cons_zero, List.set_cons_succ]
    refine wpAnyH_take (i := 53) (oi := ⟨some 67, _, _, _, _, _⟩) (v := ?vt53) rfl (by kernel_rfl) (by kernel_rfl) (by kernel_rfl) (fun _ _ _ h => h) (Or.inl ⟨by rfl, ?hyt53⟩) hHeld ?restt53
    case hyt53 => (intro w hSw; go_simp; try (with_reducible rfl))
    try simp only [Act.put, List.setIfInBounds_toArray, List.set_cons_zero, List.set_cons_succ]
    refine wpAnyH_take (i := 54) (oi := ⟨some 4, _, _, _, _, _⟩) (v := ?vt54) rfl (by kernel_rfl) (by kernel_rfl) (by kernel_rfl) (fun _ _ _ h => h) (Or.inl ⟨by rfl, ?hyt54⟩) hHeld ?restt54
    case hyt54 => (intro w hSw; go_simp; try (with_reducible rfl))
    try simp only [Act.put, List.setIfInBounds_toArray, List.set_cons_zero, List.set_cons_succ]
    refine wpAnyH_done (by kernel_rfl) ?_ _
    have Z := Lib.hid hHeld.2.2.2
    clear hHeld
    go_wp2
    go_ret
    exact ⟨rfl, hb4.out.trans (Z.out.mono (Nat.le_of_lt (by omega)))⟩
  | false =>
    go_wp2_with fail
    refine wp_region_held_drew (S := fun w' => Box w' w.heap.size m wd ro qu st sl se wa A p C tb A2 p2 C2 ∧ Box w' w3.heap.size (cl 0 2 m) (cl 1 2 wd) (cl 2 8 ro) (cl 1 4 qu) (cl 1 4 st) (cl 2 6 sl) (cs se) (cl 1 2 wa) (some ⟨g, 0, none⟩) N N tb (some ⟨g2, 0, none⟩) N2 N2 ∧ w4.heap.size ≤ w'.heap.size ∧ Below w4.heap.size w4 w') (by kernel_rfl) ⟨HB1.out, HB2.out, Nat.le_refl _, (Below.refl _ _).drew⟩ (fun hHeld => ?_)
    refine wpAnyH_ready (rs := [0]) (by kernel_rfl) (by simp) ?_
    refine AllReadyH.cons (o := ⟨some 14, _, _, _, _, _⟩) rfl (fun K hK => ?_) AllReadyH.nil
    go_simp
    refine (alive_any _).mono ?_; rintro e w' ⟨rfl, hg⟩
    refine hK.out _ _ ⟨(Box.below (hHeld.1) hg (Nat.lt_of_lt_of_le lc hHeld.2.2.1)), (Box.below (hHeld.2.1) hg (Nat.lt_of_lt_of_le ld hHeld.2.2.1)), Nat.le_trans hHeld.2.2.1 hg.size, hHeld.2.2.2.trans (hg.mono hHeld.2.2.1)⟩ (fun hHeld' => ?_)
    clear hK K hHeld
    have hHeld := hHeld'
    clear hHeld'
    try simp only [Act.put, List.setIfInBounds_toArray, List.set_cons_zero, List.set_cons_succ]
    refine wpAnyH_take (i := 1) (oi := ⟨some 15, _, _, _, _, _⟩) (v := ?vs1) rfl (by kernel_rfl) (by kernel_rfl) (by kernel_rfl) (fun _ _ _ h => h) (Or.inl ⟨by rfl, ?hys1⟩) hHeld ?rests1
    case hys1 => (intro w hSw; go_simp; try (with_reducible rfl))
    try simp only [Act.put, List.setIfInBounds_toArray, List.set_cons_zero, List.set_cons_succ]
    refine take_box (i := 2) (oi := ⟨some 16, _, _, _, _, _⟩) rfl (by kernel_rfl) (by kernel_rfl) (by kernel_rfl) (fun _ _ _ h => h) (by rfl) _ rfl _ rfl _ (fun _ h => h.2.1) rfl hHeld ?_
    try simp only [Act.put, List.setIfInBounds_toArray, List.set_cons_zero, List.set_cons_succ]
    refine wpAnyH_ready (rs := [3]) (by kernel_rfl) (by simp) ?_
    refine AllReadyH.cons (o := ⟨some 17, _, _, _, _, _⟩) rfl (fun K hK => ?_) AllReadyH.nil
    go_simp
    refine (Rd.out _ hHeld.2.2.2).mono ?_; rintro e w' ⟨rfl, hg⟩
    refine hK.out _ _ ⟨(Box.below (hHeld.1) hg (Nat.lt_of_lt_of_le lc hHeld.2.2.1)), (Box.below (hHeld.2.1) hg (Nat.lt_of_lt_of_le ld hHeld.2.2.1)), Nat.le_trans hHeld.2.2.1 hg.size, hHeld.2.2.2.trans (hg.mono hHeld.2.2.1)⟩ (fun hHeld' => ?_)
    clear hK K hHeld
    have hHeld := hHeld'
    clear hHeld'
    try simp only [Act.put, List.setIfInBounds_toArray, List.set_cons_zero, List.set_cons_succ]
    refine wpAnyH_take (i := 4) (oi := ⟨some 18, _, _, _, _, _⟩) (v := ?vs4) rfl (by kernel_rfl) (by kernel_rfl) (by kernel_rfl) (fun _ _ _ h => h) (Or.inl ⟨by rfl, ?hys4⟩) hHeld ?rests4
    case hys4 => (intro w hSw; go_simp; try (with_reducible rfl))
    try simp only [Act.put, List.setIfInBounds_toArray, List.set_cons_zero, List.set_cons_succ]
    refine wpAnyH_take (i := 5) (oi := ⟨some 19, _, _, _, _, _⟩) (v := ?vs5) rfl (by kernel_rfl) (by kernel_rfl) (by kernel_rfl) (fun _ _ _ h => h) (Or.inl ⟨by rfl, ?hys5⟩) hHeld ?rests5
    case hys5 => (intro w hSw; go_simp; try (with_reducible rfl))
    try simp only [Act.put, List.setIfInBounds_toArray, List.set_cons_zero, List.set_cons_succ]
    refine take_box (i := 6) (oi := ⟨some 20, _, _, _, _, _⟩) rfl (by kernel_rfl) (by kernel_rfl) (by kernel_rfl) (fun _ _ _ h => h) (by rfl) _ rfl _ rfl _ (fun _ h => h.2.1) rfl hHeld ?_
    try simp only [Act.put, List.setIfInBounds_toArray, List.set_cons_zero, List.set_cons_succ]
    refine take_box (i := 8) (oi := ⟨some 22, _, _, _, _, _⟩) rfl (by kernel_rfl) (by kernel_rfl) (by kernel_rfl) (fun _ _ _ h => h) (by rfl) _ rfl _ rfl _ (fun _ h => h.2.1) rfl hHeld ?_
    try simp only [Act.put, List.setIfInBounds_toArray, List.set_cons_zero, List.set_cons_succ]
    refine wpAnyH_ready (rs := [7]) (by kernel_rfl) (by simp) ?_
    refine AllReadyH.cons (o := ⟨some 21, _, _, _, _, _⟩) rfl (fun K hK => ?_) AllReadyH.nil
    go_simp
    refine (Cd.out _ hHeld.2.2.2).mono ?_; rintro e w' ⟨x, y, rfl, sx, sy, hg⟩
    refine hK.out _ _ ⟨(Box.below (hHeld.1) hg (Nat.lt_of_lt_of_le lc hHeld.2.2.1)), (Box.below (hHeld.2.1) hg (Nat.lt_of_lt_of_le ld hHeld.2.2.1)), Nat.le_trans hHeld.2.2.1 hg.size, hHeld.2.2.2.trans (hg.mono hHeld.2.2.1)⟩ (fun hHeld' => ?_)
    clear hK K hHeld
    have hHeld := hHeld'
    clear hHeld'
    try simp only [Act.put, List.setIfInBounds_toArray, List.set_cons_zero, List.set_cons_succ]
    refine wpAnyH_ready (rs := [9]) (by kernel_rfl) (by simp) ?_
    refine AllReadyH.cons (o := ⟨some 23, _, _, _, _, _⟩) rfl (fun K hK => ?_) AllReadyH.nil
    go_simp
    refine (Ld.out _ _ _ sx sy hHeld.2.2.2).mono ?_; rintro e w' ⟨rfl, hg⟩
    refine hK.out _ _ ⟨(Box.below (hHeld.1) hg (Nat.lt_of_lt_of_le lc hHeld.2.2.1)), (Box.below (hHeld.2.1) hg (Nat.lt_of_lt_of_le ld hHeld.2.2.1)), Nat.le_trans hHeld.2.2.1 hg.size, hHeld.2.2.2.trans (hg.mono hHeld.2.2.1)⟩ (fun hHeld' => ?_)
    clear hK K hHeld
    have hHeld := hHeld'
    clear hHeld'
    try simp only [Act.put, List.setIfInBounds_toArray, List.set_cons_zero, List.set_cons_succ]
    refine wpAnyH_take (i := 10) (oi := ⟨some 24, _, _, _, _, _⟩) (v := ?vs10) rfl (by kernel_rfl) (by kernel_rfl) (by kernel_rfl) (fun _ _ _ h => h) (Or.inl ⟨by rfl, ?hys10⟩) hHeld ?rests10
    case hys10 => (intro w hSw; go_simp; try (with_reducible rfl))
    try simp only [Act.put, List.setIfInBounds_toArray, List.set_cons_zero, List.set_cons_succ]
    refine wpAnyH_take (i := 11) (oi := ⟨some 25, _, _, _, _, _⟩) (v := ?vs11) rfl (by kernel_rfl) (by kernel_rfl) (by kernel_rfl) (fun _ _ _ h => h) (Or.inl ⟨by rfl, ?hys11⟩) hHeld ?rests11
    case hys11 => (intro w hSw; go_simp; try (with_reducible rfl))
    try simp only [Act.put, List.setIfInBounds_toArray, List.set_cons_zero, List.set_cons_succ]
    refine take_box (i := 12) (oi := ⟨some 26, _, _, _, _, _⟩) rfl (by kernel_rfl) (by kernel_rfl) (by kernel_rfl) (fun _ _ _ h => h) (by rfl) _ rfl _ rfl _ (fun _ h => h.1) rfl hHeld ?_
    try simp only [Act.put, List.setIfInBounds_toArray, List.set_cons_zero, List.set_cons_succ]
    refine wpAnyH_ready (rs := [13]) (by kernel_rfl) (by simp) ?_
    refine AllReadyH.cons (o := ⟨some 27, _, _, _, _, _⟩) rfl (fun K hK => ?_) AllReadyH.nil
    go_simp
    refine (Rc.out _ hHeld.2.2.2).mono ?_; rintro e w' ⟨rfl, hg⟩
    refine hK.out _ _ ⟨(Box.below (hHeld.1) hg (Nat.lt_of_lt_of_le lc hHeld.2.2.1)), (Box.below (hHeld.2.1) hg (Nat.lt_of_lt_of_le ld hHeld.2.2.1)), Nat.le_trans hHeld.2.2.1 hg.size, hHeld.2.2.2.trans (hg.mono hHeld.2.2.1)⟩ (fun hHeld' => ?_)
    clear hK K hHeld
    have hHeld := hHeld'
    clear hHeld'
    try simp only [Act.put, List.setIfInBounds_toArray, List.set_cons_zero, List.set_cons_succ]
    refine wpAnyH_take (i := 14) (oi := ⟨some 28, _, _, _, _, _⟩) (v := ?vs14) rfl (by kernel_rfl) (by kernel_rfl) (by kernel_rfl) (fun _ _ _ h => h) (Or.inl ⟨by rfl, ?hys14⟩) hHeld ?rests14
    case hys14 => (intro w hSw; go_simp; try (with_reducible rfl))
    try simp only [Act.put, List.setIfInBounds_toArray, List.set_cons_zero, List.set_cons_succ]
    refine wpAnyH_take (i := 15) (oi := ⟨some 29, _, _, _, _, _⟩) (v := ?vs15) rfl (by kernel_rfl) (by kernel_rfl) (by kernel_rfl) (fun _ _ _ h => h) (Or.inl ⟨by rfl, ?hys15⟩) hHeld ?rests15
    case hys15 => (intro w hSw; go_simp; try (with_reducible rfl))
    try simp only [Act.put, List.setIfInBounds_toArray, List.set_cons_zero, List.set_cons_succ]
    refine take_skip (i := 16) (oi := ⟨some 30, _, _, _, _, _⟩) rfl (by kernel_rfl) (by kernel_rfl) (by kernel_rfl) (fun _ _ _ h => h) (by rfl) hHeld ?_
    try simp only [Act.put, List.setIfInBounds_toArray, List.set_cons_zero, List.set_cons_succ]
    refine take_skip (i := 17) (oi := ⟨some 31, _, _, _, _, _⟩) rfl (by kernel_rfl) (by kernel_rfl) (by kernel_rfl) (fun _ _ _ h => h) (by rfl) hHeld ?_
    try simp only [Act.put, List.setIfInBounds_toArray, List.set_cons_zero, List.set_cons_succ]
    refine take_skip (i := 18) (oi := ⟨some 32, _, _, _, _, _⟩) rfl (by kernel_rfl) (by kernel_rfl) (by kernel_rfl) (fun _ _ _ h => h) (by rfl) hHeld ?_
    try simp only [Act.put, List.setIfInBounds_toArray, List.set_cons_zero, List.set_cons_succ]
    refine wpAnyH_take (i := 19) (oi := ⟨some 33, _, _, _, _, _⟩) (v := ?vs19) rfl (by kernel_rfl) (by kernel_rfl) (by kernel_rfl) (fun _ _ _ h => h) (Or.inl ⟨by rfl, ?hys19⟩) hHeld ?rests19
    case hys19 => (intro w hSw; go_simp; try (with_reducible rfl))
    try simp only [Act.put, List.setIfInBounds_toArray, List.set_cons_zero, List.set_cons_succ]
    refine wpAnyH_take (i := 20) (oi := ⟨some 34, _, _, _, _, _⟩) (v := ?vs20) rfl (by kernel_rfl) (by kernel_rfl) (by kernel_rfl) (fun _ _ _ h => h) (Or.inl ⟨by rfl, ?hys20⟩) hHeld ?rests20
    case hys20 => (intro w hSw; go_simp; try (with_reducible rfl))
    try simp only [Act.put, List.setIfInBounds_toArray, List.set_cons_zero, List.set_cons_succ]
    refine wpAnyH_take (i := 21) (oi := ⟨some 35, _, _, _, _, _⟩) (v := ?vs21) rfl (by kernel_rfl) (by kernel_rfl) (by kernel_rfl) (fun _ _ _ h => h) (Or.inl ⟨by rfl, ?hys21⟩) hHeld ?rests21
    case hys21 => (intro w hSw; go_simp; try (with_reducible rfl))
    try simp only [Act.put, List.setIfInBounds_toArray, List.set_cons_zero, List.set_cons_succ]
    refine wpAnyH_take (i := 22) (oi := ⟨some 36, _, _, _, _, _⟩) (v := ?vs22) rfl (by kernel_rfl) (by kernel_rfl) (by kernel_rfl) (fun _ _ _ h => h) (Or.inl ⟨by rfl, ?hys22⟩) hHeld ?rests22
    case hys22 => (intro w hSw; go_simp; try (with_reducible rfl))
    try simp only [Act.put, List.setIfInBounds_toArray, List.set_cons_zero, List.set_cons_succ]
    refine wpAnyH_take (i := 23) (oi := ⟨some 37, _, _, _, _, _⟩) (v := ?vs23) rfl (by kernel_rfl) (by kernel_rfl) (by kernel_rfl) (fun _ _ _ h => h) (Or.inl ⟨by rfl, ?hys23⟩) hHeld ?rests23
    case hys23 => (intro w hSw; go_simp; try (with_reducible rfl))
    try simp only [Act.put, List.setIfInBounds_toArray, List.set_cons_zero, List.set_cons_succ]
    refine wpAnyH_take (i := 24) (oi := ⟨some 38, _, _, _, _, _⟩) (v := ?vs24) rfl (by kernel_rfl) (by kernel_rfl) (by kernel_rfl) (fun _ _ _ h => h) (Or.inl ⟨by rfl, ?hys24⟩) hHeld ?rests24
    case hys24 => (intro w hSw; go_simp; try (with_reducible rfl))
    try simp only [Act.put, List.setIfInBounds_toArray, List.set_cons_zero, List.set_cons_succ]
    refine wpAnyH_take (i := 25) (oi := ⟨some 39, _, _, _, _, _⟩) (v := ?vs25) rfl (by kernel_rfl) (by kernel_rfl) (by kernel_rfl) (fun _ _ _ h => h) (Or.inl ⟨by rfl, ?hys25⟩) hHeld ?rests25
    case hys25 => (intro w hSw; go_simp; try (with_reducible rfl))
    try simp only [Act.put, List.setIfInBounds_toArray, List.set_cons_zero, List.set_cons_succ]
    refine wpAnyH_take (i := 26) (oi := ⟨some 40, _, _, _, _, _⟩) (v := ?vs26) rfl (by kernel_rfl) (by kernel_rfl) (by kernel_rfl) (fun _ _ _ h => h) (Or.inl ⟨by rfl, ?hys26⟩) hHeld ?rests26
    case hys26 => (intro w hSw; go_simp; try (with_reducible rfl))
    try simp only [Act.put, List.setIfInBounds_toArray, List.set_cons_zero, List.set_cons_succ]
    refine take_box (i := 27) (oi := ⟨some 41, _, _, _, _, _⟩) rfl (by kernel_rfl) (by kernel_rfl) (by kernel_rfl) (fun _ _ _ h => h) (by rfl) _ rfl _ rfl _ (fun _ h => h.1) rfl hHeld ?_
    try simp only [Act.put, List.setIfInBounds_toArray, List.set_cons_zero, List.set_cons_succ]
    refine wpAnyH_ready (rs := [28]) (by kernel_rfl) (by simp) ?_
    refine AllReadyH.cons (o := ⟨some 42, _, _, _, _, _⟩) rfl (fun K hK => ?_) AllReadyH.nil
    go_simp
    refine (Mc.out _ hHeld.2.2.2).mono ?_; rintro e w' ⟨rfl, hg⟩
    refine hK.out _ _ ⟨(Box.below (hHeld.1) hg (Nat.lt_of_lt_of_le lc hHeld.2.2.1)), (Box.below (hHeld.2.1) hg (Nat.lt_of_lt_of_le ld hHeld.2.2.1)), Nat.le_trans hHeld.2.2.1 hg.size, hHeld.2.2.2.trans (hg.mono hHeld.2.2.1)⟩ (fun hHeld' => ?_)
    clear hK K hHeld
    have hHeld := hHeld'
    clear hHeld'
    try simp only [Act.put, List.setIfInBounds_toArray, List.set_cons_zero, List.set_cons_succ]
    refine wpAnyH_take (i := 29) (oi := ⟨some 43, _, _, _, _, _⟩) (v := ?vs29) rfl (by kernel_rfl) (by kernel_rfl) (by kernel_rfl) (fun _ _ _ h => h) (Or.inl ⟨by rfl, ?hys29⟩) hHeld ?rests29
    case hys29 => (intro w hSw; go_simp; try (with_reducible rfl))
    try simp only [Act.put, List.setIfInBounds_toArray, List.set_cons_zero, List.set_cons_succ]
    refine wpAnyH_take (i := 30) (oi := ⟨some 44, _, _, _, _, _⟩) (v := ?vs30) rfl (by kernel_rfl) (by kernel_rfl) (by kernel_rfl) (fun _ _ _ h => h) (Or.inl ⟨by rfl, ?hys30⟩) hHeld ?rests30
    case hys30 => (intro w hSw; go_simp; try (with_reducible rfl))
    try simp only [Act.put, List.setIfInBounds_toArray, List.set_cons_zero, List.set_cons_succ]
    refine wpAnyH_take (i := 31) (oi := ⟨some 45, _, _, _, _, _⟩) (v := ?vs31) rfl (by kernel_rfl) (by kernel_rfl) (by kernel_rfl) (fun _ _ _ h => h) (Or.inl ⟨by rfl, ?hys31⟩) hHeld ?rests31
    case hys31 => (intro w hSw; go_simp; try (with_reducible rfl))
    try simp only [Act.put, List.setIfInBounds_toArray, List.set_cons_zero, List.set_cons_succ]
    refine take_box (i := 32) (oi := ⟨some 46, _, _, _, _, _⟩) rfl (by kernel_rfl) (by kernel_rfl) (by kernel_rfl) (fun _ _ _ h => h) (by rfl) _ rfl _ rfl _ (fun _ h => h.2.1) rfl hHeld ?_
    try simp only [Act.put, List.setIfInBounds_toArray, List.set_cons_zero, List.set_cons_succ]
    refine take_box (i := 34) (oi := ⟨some 48, _, _, _, _, _⟩) rfl (by kernel_rfl) (by kernel_rfl) (by kernel_rfl) (fun _ _ _ h => h) (by rfl) _ rfl _ rfl _ (fun _ h => h.1) rfl hHeld ?_
    try simp only [Act.put, List.setIfInBounds_toArray, List.set_cons_zero, List.set_cons_succ]
    refine wpAnyH_ready (rs := [33]) (by kernel_rfl) (by simp) ?_
    refine AllReadyH.cons (o := ⟨some 47, _, _, _, _, _⟩) rfl (fun K hK => ?_) AllReadyH.nil
    go_simp
    refine (Md.out _ hHeld.2.2.2).mono ?_; rintro e w' ⟨rfl, hg⟩
    refine hK.out _ _ ⟨(Box.below (hHeld.1) hg (Nat.lt_of_lt_of_le lc hHeld.2.2.1)), (Box.below (hHeld.2.1) hg (Nat.lt_of_lt_of_le ld hHeld.2.2.1)), Nat.le_trans hHeld.2.2.1 hg.size, hHeld.2.2.2.trans (hg.mono hHeld.2.2.1)⟩ (fun hHeld' => ?_)
    clear hK K hHeld
    have hHeld := hHeld'
    clear hHeld'
    try simp only [Act.put, List.setIfInBounds_toArray, List.set_cons_zero, List.set_cons_succ]
    refine wpAnyH_ready (rs := [35]) (by kernel_rfl) (by simp) ?_
    refine AllReadyH.cons (o := ⟨some 49, _, _, _, _, _⟩) rfl (fun K hK => ?_) AllReadyH.nil
    go_simp
    refine (Mc.out _ hHeld.2.2.2).mono ?_; rintro e w' ⟨rfl, hg⟩
    refine hK.out _ _ ⟨(Box.below (hHeld.1) hg (Nat.lt_of_lt_of_le lc hHeld.2.2.1)), (Box.below (hHeld.2.1) hg (Nat.lt_of_lt_of_le ld hHeld.2.2.1)), Nat.le_trans hHeld.2.2.1 hg.size, hHeld.2.2.2.trans (hg.mono hHeld.2.2.1)⟩ (fun hHeld' => ?_)
    clear hK K hHeld
    have hHeld := hHeld'
    clear hHeld'
    try simp only [Act.put, List.setIfInBounds_toArray, List.set_cons_zero, List.set_cons_succ]
    refine wpAnyH_take (i := 36) (oi := ⟨some 50, _, _, _, _, _⟩) (v := ?vs36) rfl (by kernel_rfl) (by kernel_rfl) (by kernel_rfl) (fun _ _ _ h => h) (Or.inl ⟨by rfl, ?hys36⟩) hHeld ?rests36
    case hys36 => (intro w hSw; go_simp; try (with_reducible rfl))
    try simp only [Act.put, List.setIfInBounds_toArray, List.set_cons_zero, List.set_cons_succ]
    refine wpAnyH_take (i := 37) (oi := ⟨some 51, _, _, _, _, _⟩) (v := ?vs37) rfl (by kernel_rfl) (by kernel_rfl) (by kernel_rfl) (fun _ _ _ h => h) (Or.inl ⟨by rfl, ?hys37⟩) hHeld ?rests37
    case hys37 => (intro w hSw; go_simp; try (with_reducible rfl))
    try simp only [Act.put, List.setIfInBounds_toArray, List.set_cons_zero, List.set_cons_succ]
    refine wpAnyH_take (i := 38) (oi := ⟨some 52, _, _, _, _, _⟩) (v := ?vs38) rfl (by kernel_rfl) (by kernel_rfl) (by kernel_rfl) (fun _ _ _ h => h) (Or.inl ⟨by rfl, ?hys38⟩) hHeld ?rests38
    case hys38 => (intro w hSw; go_simp; try (with_reducible rfl))
    try simp only [Act.put, List.setIfInBounds_toArray, List.set_cons_zero, List.set_cons_succ]
    refine take_box (i := 39) (oi := ⟨some 53, _, _, _, _, _⟩) rfl (by kernel_rfl) (by kernel_rfl) (by kernel_rfl) (fun _ _ _ h => h) (by rfl) _ rfl _ rfl _ (fun _ h => h.1) rfl hHeld ?_
    try simp only [Act.put, List.setIfInBounds_toArray, List.set_cons_zero, List.set_cons_succ]
    refine take_box (i := 41) (oi := ⟨some 55, _, _, _, _, _⟩) rfl (by kernel_rfl) (by kernel_rfl) (by kernel_rfl) (fun _ _ _ h => h) (by rfl) _ rfl _ rfl _ (fun _ h => h.1) rfl hHeld ?_
    try simp only [Act.put, List.setIfInBounds_toArray, List.set_cons_zero, List.set_cons_succ]
    refine wpAnyH_ready (rs := [40]) (by kernel_rfl) (by simp) ?_
    refine AllReadyH.cons (o := ⟨some 54, _, _, _, _, _⟩) rfl (fun K hK => ?_) AllReadyH.nil
    go_simp
    refine (Bc.out _ hHeld.2.2.2).mono ?_; rintro e w' ⟨rfl, hg⟩
    refine hK.out _ _ ⟨(Box.below (hHeld.1) hg (Nat.lt_of_lt_of_le lc hHeld.2.2.1)), (Box.below (hHeld.2.1) hg (Nat.lt_of_lt_of_le ld hHeld.2.2.1)), Nat.le_trans hHeld.2.2.1 hg.size, hHeld.2.2.2.trans (hg.mono hHeld.2.2.1)⟩ (fun hHeld' => ?_)
    clear hK K hHeld
    have hHeld := hHeld'
    clear hHeld'
    try simp only [Act.put, List.setIfInBounds_toArray, List.set_cons_zero, List.set_cons_succ]
    refine wpAnyH_ready (rs := [42]) (by kernel_rfl) (by simp) ?_
    refine AllReadyH.cons (o := ⟨some 56, _, _, _, _, _⟩) rfl (fun K hK => ?_) AllReadyH.nil
    go_simp
    refine (Mc.out _ hHeld.2.2.2).mono ?_; rintro e w' ⟨rfl, hg⟩
    refine hK.out _ _ ⟨(Box.below (hHeld.1) hg (Nat.lt_of_lt_of_le lc hHeld.2.2.1)), (Box.below (hHeld.2.1) hg (Nat.lt_of_lt_of_le ld hHeld.2.2.1)), Nat.le_trans hHeld.2.2.1 hg.size, hHeld.2.2.2.trans (hg.mono hHeld.2.2.1)⟩ (fun hHeld' => ?_)
    clear hK K hHeld
    have hHeld := hHeld'
    clear hHeld'
    try simp only [Act.put, List.setIfInBounds_toArray, List.set_cons_zero, List.set_cons_succ]
    refine wpAnyH_take (i := 43) (oi := ⟨some 57, _, _, _, _, _⟩) (v := ?vs43) rfl (by kernel_rfl) (by kernel_rfl) (by kernel_rfl) (fun _ _ _ h => h) (Or.inl ⟨by rfl, ?hys43⟩) hHeld ?rests43
    case hys43 => (intro w hSw; go_simp; try (with_reducible rfl))
    try simp only [Act.put, List.setIfInBounds_toArray, List.set_cons_zero, List.set_cons_succ]
    refine wpAnyH_take (i := 44) (oi := ⟨some 58, _, _, _, _, _⟩) (v := ?vs44) rfl (by kernel_rfl) (by kernel_rfl) (by kernel_rfl) (fun _ _ _ h => h) (Or.inl ⟨by rfl, ?hys44⟩) hHeld ?rests44
    case hys44 => (intro w hSw; go_simp; try (with_reducible rfl))
    try simp only [Act.put, List.setIfInBounds_toArray, List.set_cons_zero, List.set_cons_succ]
    refine wpAnyH_take (i := 45) (oi := ⟨some 59, _, _, _, _, _⟩) (v := ?vs45) rfl (by kernel_rfl) (by kernel_rfl) (by kernel_rfl) (fun _ _ _ h => h) (Or.inl ⟨by rfl, ?hys45⟩) hHeld ?rests45
    case hys45 => (intro w hSw; go_simp; try (with_reducible rfl))
    try simp only [Act.put, List.setIfInBounds_toArray, List.set_cons_zero, List.set_cons_succ]
    refine wpAnyH_take (i := 46) (oi := ⟨some 60, _, _, _, _, _⟩) (v := ?vs46) rfl (by kernel_rfl) (by kernel_rfl) (by kernel_rfl) (fun _ _ _ h => h) (Or.inl ⟨by rfl, ?hys46⟩) hHeld ?rests46
    case hys46 => (intro w hSw; go_simp; try (with_reducible rfl))
    try simp only [Act.put, List.setIfInBounds_toArray, List.set_cons_zero, List.set_cons_succ]
    refine take_box (i := 47) (oi := ⟨some 61, _, _, _, _, _⟩) rfl (by kernel_rfl) (by kernel_rfl) (by kernel_rfl) (fun _ _ _ h => h) (by rfl) _ rfl _ rfl _ (fun _ h => h.1) rfl hHeld ?_
    try simp only [Act.put, List.setIfInBounds_toArray, List.set_cons_zero, List.set_cons_succ]
    refine take_box (i := 49) (oi := ⟨some 63, _, _, _, _, _⟩) rfl (by kernel_rfl) (by kernel_rfl) (by kernel_rfl) (fun _ _ _ h => h) (by rfl) _ rfl _ rfl _ (fun _ h => h.1) rfl hHeld ?_
    try simp only [Act.put, List.setIfInBounds_toArray, List.set_cons_zero, List.set_cons_succ]
    refine wpAnyH_ready (rs := [48]) (by kernel_rfl) (by simp) ?_
    refine AllReadyH.cons (o := ⟨some 62, _, _, _, _, _⟩) rfl (fun K hK => ?_) AllReadyH.nil
    go_simp
    refine (Dc.out _ hHeld.2.2.2).mono ?_; rintro e w' ⟨rfl, hg⟩
    refine hK.out _ _ ⟨(Box.below (hHeld.1) hg (Nat.lt_of_lt_of_le lc hHeld.2.2.1)), (Box.below (hHeld.2.1) hg (Nat.lt_of_lt_of_le ld hHeld.2.2.1)), Nat.le_trans hHeld.2.2.1 hg.size, hHeld.2.2.2.trans (hg.mono hHeld.2.2.1)⟩ (fun hHeld' => ?_)
    clear hK K hHeld
    have hHeld := hHeld'
    clear hHeld'
    try simp only [Act.put, List.setIfInBounds_toArray, List.set_cons_zero, List.set_cons_succ]
    refine wpAnyH_ready (rs := [50]) (by kernel_rfl) (by simp) ?_
    refine AllReadyH.cons (o := ⟨some 64, _, _, _, _, _⟩) rfl (fun K hK => ?_) AllReadyH.nil
    go_simp
    refine (Mc.out _ hHeld.2.2.2).mono ?_; rintro e w' ⟨rfl, hg⟩
    refine hK.out _ _ ⟨(Box.below (hHeld.1) hg (Nat.lt_of_lt_of_le lc hHeld.2.2.1)), (Box.below (hHeld.2.1) hg (Nat.lt_of_lt_of_le ld hHeld.2.2.1)), Nat.le_trans hHeld.2.2.1 hg.size, hHeld.2.2.2.trans (hg.mono hHeld.2.2.1)⟩ (fun hHeld' => ?_)
    clear hK K hHeld
    have hHeld := hHeld'
    clear hHeld'
    try simp only [Act.put, List.setIfInBounds_toArray, List.set_cons_zero, List.set_cons_succ]
    refine wpAnyH_take (i := 51) (oi := ⟨some 65, _, _, _, _, _⟩) (v := ?vs51) rfl (by kernel_rfl) (by kernel_rfl) (by kernel_rfl) (fun _ _ _ h => h) (Or.inl ⟨by rfl, ?hys51⟩) hHeld ?rests51
    case hys51 => (intro w hSw; go_simp; try (with_reducible rfl))
    try simp only [Act.put, List.setIfInBounds_toArray, List.set_cons_zero, List.set_cons_succ]
    refine wpAnyH_take (i := 52) (oi := ⟨some 66, _, _, _, _, _⟩) (v := ?vs52) rfl (by kernel_rfl) (by kernel_rfl) (by kernel_rfl) (fun _ _ _ h => h) (Or.inl ⟨by rfl, ?hys52⟩) hHeld ?rests52
    case hys52 => (intro w hSw; go_simp; try (with_reducible rfl))
    try simp only [Act.put, List.setIfInBounds_toArray, List.set_cons_zero, List.set_cons_succ]
    refine wpAnyH_take (i := 53) (oi := ⟨some 67, _, _, _, _, _⟩) (v := ?vs53) rfl (by kernel_rfl) (by kernel_rfl) (by kernel_rfl) (fun _ _ _ h => h) (Or.inl ⟨by rfl, ?hys53⟩) hHeld ?rests53
    case hys53 => (intro w hSw; go_simp; try (with_reducible rfl))
    try simp only [Act.put, List.setIfInBounds_toArray, List.set_cons_zero, List.set_cons_succ]
    refine wpAnyH_take (i := 54) (oi := ⟨some 4, _, _, _, _, _⟩) (v := ?vs54) rfl (by kernel_rfl) (by kernel_rfl) (by kernel_rfl) (fun _ _ _ h => h) (Or.inl ⟨by rfl, ?hys54⟩) hHeld ?rests54
    case hys54 => (intro w hSw; go_simp; try (with_reducible rfl))
    try simp only [Act.put, List.setIfInBounds_toArray, List.set_cons_zero, List.set_cons_succ]
    refine wpAnyH_done (by kernel_rfl) ?_ _
    have Z := Lib.hid hHeld.2.2.2
    clear hHeld
    go_wp2
    go_ret
    exact ⟨rfl, hb4.out.trans (Z.out.mono (Nat.le_of_lt (by omega)))⟩
end Go.Proofs.Ytfphdchpfhedfaa
