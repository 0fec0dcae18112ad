/- The walk of the statement ConfRises. Conditions: the slices read as lists. -/
import Derived.Test.YtfphdchpfhedfaaRisesW0
import Derived.Deep.Cut
namespace Go.Proofs.Ytfphdchpfhedfaa
open Go.ChangeShapes Go.WideShapes Go.ChangeAt Go.RowKit
set_option linter.unusedVariables false
set_option maxHeartbeats 16000000 in
set_option maxRecDepth 100000 in
theorem rises (m wd ro qu st sl se wa : Int) (A A2 : Option Addr) (C C2 : Nat) (L T : List Int) (tb : Bool) (n n2 : Nat) (which : Int) (w : World) (hn : L.length = n) (h2 : T.length = n2) (c1 : n ≤ C) (c2 : n2 ≤ C2) (bc : C ≤ 9223372036854775807) (bc2 : C2 ≤ 9223372036854775807) (hL : Sl w .i64 A L) (hT : Sl w .u32 A2 T) :
    Calls Try.prog 5 #[.agg #[.int .i64 m, .int .i64 wd, .int .i64 ro, .int .i64 qu, .int .i64 st, .int .i64 sl, .int .i64 se, .int .i64 wa, .slice A n C, .bool tb, .slice A2 n2 C2], .int .i64 which] w fun e w' => e = .returned (.bool true) ∧ Below w.heap.size w w' := by
  obtain ⟨p, hp⟩ : ∃ p, min n 100 = p := ⟨_, rfl⟩
  obtain ⟨p2, hp2⟩ : ∃ p, min n2 100 = p := ⟨_, rfl⟩
  obtain ⟨L', eL⟩ : ∃ M, L.take 100 = M := ⟨_, rfl⟩
  obtain ⟨T', eT⟩ : ∃ M, T.take 100 = M := ⟨_, rfl⟩
  have P1 := Lib.hid (show L'.length = p by rw [← eL, ← hp, ← hn, List.length_take]; omega)
  have P2 := Lib.hid (show T'.length = p2 by rw [← eT, ← hp2, ← h2, List.length_take]; omega)
  have J1 := Lib.hid (show Sl w .i64 A L' by rw [← eL]; exact hL.take 100)
  have J2 := Lib.hid (show Sl w .u32 A2 T' by rw [← eT]; exact hT.take 100)
  have bp : p ≤ 100 := by omega
  have bp2 : p2 ≤ 100 := by omega
  have HF := Lib.hid (fun W => (few_any m wd ro qu st sl se wa A A2 C C2 n n2 tb W c1 c2 bc bc2))
  rw [hp, hp2] at HF
  clear eL eT hL hT hn h2
  have hx : (-5 < which.tmod 5) ∧ which.tmod 5 < 5 := ⟨by have := Int.lt_tmod_of_pos which (b := 5) (by decide); omega, Int.tmod_lt_of_pos which (by decide)⟩
  obtain ⟨q, eq⟩ : ∃ x, which.tmod 5 = x := ⟨_, rfl⟩
  rw [eq] at hx
  have hx0 := hx.1
  have hx1 := hx.2
  obtain ⟨r, er⟩ : ∃ x, (q + 5) % 5 = x := ⟨_, rfl⟩
  have hr0 : 0 ≤ r := by omega
  have hr1 : r ≤ 4 := by omega
  clear hx
  have x0 := cl_bd 0 2 m (by decide)
  have x1 := cl_bd 1 2 wd (by decide)
  have x2 := cl_bd 2 8 ro (by decide)
  have x3 := cl_bd 1 4 qu (by decide)
  have x4 := cl_bd 1 4 st (by decide)
  have x5 := cl_bd 2 6 sl (by decide)
  have x6 := cs_bd se
  have x6' : cs se ≠ 3 := by
    have h := cl_bd 1 4 se (by decide)
    unfold cs; split <;> omega
  have x7 := cl_bd 1 2 wa (by decide)
  obtain ⟨i8, hi8, hz08, hz18, hz28⟩ := info_parts (show (Try.prog.info? 3).map (fun i => (i.zero, i.size, i.bytes)) = some (some (.int .i64 0), 1, 8) by kernel_rfl)
  have HI8 := Lib.hid (And.intro hi8 (And.intro hz08 (And.intro hz18 hz28)))
  clear hi8 hz08 hz18 hz28
  go_enter Try.func5, Try.ntmps5
  go_wp2_with fail
  refine (HF.out _).mono ?_
  rintro e w1 ⟨rfl, hb⟩
  have hq1 : w.heap.size < (w.alloc (.cells #[.int .i64 m, .int .i64 wd, .int .i64 ro, .int .i64 qu, .int .i64 st, .int .i64 sl, .int .i64 se, .int .i64 wa, .slice A n C, .bool tb, .slice A2 n2 C2] 25)).heap.size := by simp
  have HO := Lib.hid ((hb.block w.heap.size hq1).trans (heap_alloc_new w _))
  have hb0 := Lib.hid (((Below.refl w.heap.size w).alloc (Nat.le_refl _) _).trans (hb.mono (by simp)))
  have I1 := Lib.hid (J1.out.below hb0.out)
  have I2 := Lib.hid (J2.out.below hb0.out)
  have lw1 : w.heap.size < w1.heap.size := Nat.lt_of_lt_of_le hq1 hb.size
  clear hb hq1 HF hp hp2
  go_wp2_with fail
  refine (clean_all m wd ro qu st sl se wa A A2 C C2 L' T' tb p p2 _ P1.out P2.out (by omega) (by omega) I1.out I2.out).mono ?_
  rintro e w2 ⟨g, g2, N, N2, rfl, l1, l2, b3, b4, s1, s2, hb, hg, hg2⟩
  have HO2 := Lib.hid ((hb.block w.heap.size lw1).trans HO.out)
  have hb2 := Lib.hid (hb0.out.trans (hb.mono (Nat.le_of_lt lw1)))
  have lw2 : w.heap.size < w2.heap.size := Nat.lt_of_lt_of_le lw1 hb.size
  have g1' : w.heap.size < g := by omega
  have g2' : w.heap.size < g2 := by omega
  have S1 := Lib.hid s1
  have S2 := Lib.hid s2
  have L1 := Lib.hid l1
  have L2 := Lib.hid l2
  clear hb hg hg2 s1 s2 l1 l2 HO hb0 I1 I2 P1 P2 J1 J2
  generalize cl 0 2 m = m1 at *
  generalize cl 1 2 wd = wd1 at *
  generalize cl 2 8 ro = ro1 at *
  generalize cl 1 4 qu = qu1 at *
  generalize cl 1 4 st = st1 at *
  generalize cl 2 6 sl = sl1 at *
  generalize cs se = se1 at *
  generalize cl 1 2 wa = wa1 at *
  go_wp2_with (refine store_box (o := ⟨none, Op.store 25 _ _, _, _, _, _⟩) rfl _ _ rfl w.heap.size _ rfl rfl _ HO2.out rfl rfl box_one ?_)
  intro w3 hbx3 hoth hsz hbel
  have lc3 : w.heap.size < w3.heap.size := Box.lt hbx3
  obtain ⟨k0, k1, k2, k3, k4, k5, k6, k7, k8, k9, k10⟩ := Box.cells hbx3
  have X1 := Lib.hid (S1.out.apart hoth hsz (fun b off h _ => by simp at h; omega))
  have X2 := Lib.hid (S2.out.apart hoth hsz (fun b off h _ => by simp at h; omega))
  have hb3 := Lib.hid (hbel _ _ hb2.out (Nat.le_refl _))
  have BX := Lib.hid (show Box w3 w.heap.size m1 wd1 ro1 qu1 st1 sl1 se1 wa1 (some ⟨g, 0, none⟩) N N tb (some ⟨g2, 0, none⟩) N2 N2 from hbx3)
  clear hbx3 hoth hsz hbel S1 S2 HO2 hb2
  have XN := Lib.hid (news_of_sl X1.out)
  go_wp2_with (at_builtin; refine wpList_append_own_at _ rfl _ _ _ rfl (w3.heap.size + 1) 3 i8 _ 1 8 Try.underlying22 (HI8.out.1) (HI8.out.2.1) (HI8.out.2.2.1) (HI8.out.2.2.2) rfl (by omega) (.slice (some ⟨w3.heap.size + 1, 0, none⟩) 0 0) 0 [] rfl ?hown ⟨g, 0, none⟩ N N ((la L').map (Value.int .i64)) rfl ?hl ?hnews ?h1 ?h63 ?hbytes ?hbase ?_)
  case hown =>
    have := World.ownsRow_lit (base := w3.heap.size + 1) (e := 3) (size := 1) (w3.alloc (.cells #[.int .i64 m1, .int .i64 wd1, .int .i64 ro1, .int .i64 qu1, .int .i64 st1, .int .i64 sl1, .int .i64 se1, .int .i64 wa1, .slice (some ⟨g, 0, none⟩) N N, .bool tb, .slice (some ⟨g2, 0, none⟩) N2 N2] 25)) #[] 0 (by simp) (by unfold maxLen; omega) (by simp)
    simpa using this
  case hl => have := L1.out; simp; omega
  case hnews => exact news_of_sl ((X1.out.alloc _).alloc _)
  case h1 => exact ints_one _ _
  case h63 => unfold maxLen; omega
  case hbytes => omega
  case hbase => simp
  intro v' w5 hown hgrow hnil hat
  obtain ⟨gg, cap, hv, hgg, hcap⟩ : ∃ gg cap, v' = .slice (some ⟨gg, 0, none⟩) N cap ∧ w3.heap.size + 1 ≤ gg ∧ N ≤ cap := by
    rcases hown.2 with ⟨h1, _⟩ | ⟨gg, cap, cur, h1, h2, _, h3, _⟩
    · exact absurd h1 hnil
    · exact ⟨gg, cap, h1, h2, h3⟩
  rw [hv] at hown
  rw [hv]
  have b5 := (Below.refl w3.heap.size w3).alloc (Nat.le_refl _) (.cells #[.int .i64 m1, .int .i64 wd1, .int .i64 ro1, .int .i64 qu1, .int .i64 st1, .int .i64 sl1, .int .i64 se1, .int .i64 wa1, .slice (some ⟨g, 0, none⟩) N N, .bool tb, .slice (some ⟨g2, 0, none⟩) N2 N2] 25)
  have b6 := (b5.alloc (by simp) (.cells #[] 3)).grown hgrow (by simp <;> omega) (fun k hk => by simp [Value.ownBlock] at hk; omega)
  have bx5 := BX.out.below b6 lc3
  have bd5 : Box w5 w3.heap.size m1 wd1 ro1 qu1 st1 sl1 se1 wa1 (some ⟨g, 0, none⟩) N N tb (some ⟨g2, 0, none⟩) N2 N2 := by
    refine (hgrow.block _ (by simp <;> omega) (by simp [Value.ownBlock])).trans ?_
    exact (Below.heap_alloc _ _ _ (by simp)).trans (heap_alloc_new w3 _)
  have hg3 := Lib.hid (fun h : 0 < (la L').length => (show g < w3.heap.size from by obtain ⟨b, off, e, hl, _⟩ := X1.out h; simp at e; omega))
  have hg4 := Lib.hid (fun h : 0 < (ta T').length => (show g2 < w3.heap.size from by obtain ⟨b, off, e, hl, _⟩ := X2.out h; simp at e; omega))
  have HOW := Lib.hid hown
  have Y1 := Lib.hid (X1.out.below b6)
  have Y2 := Lib.hid (X2.out.below b6)
  have hb5 := Lib.hid (hb3.out.trans (b6.mono (Nat.le_of_lt lc3)))
  have BX5 := Lib.hid bx5
  have BD5 := Lib.hid bd5
  have lz : w3.heap.size + 1 ≤ w5.heap.size := by have := hgrow.size; simp at this; omega
  have kc := (Box.cells bd5).2.2.2.2.2.2.2.2.1
  have kf := Box.frozen bd5 8
  clear hv hown hgrow hnil hat b5 b6 bx5 bd5 XN X1 X2 BX hb3 k0 k1 k2 k3 k4 k5 k6 k7 k8 k9 k10
  go_upto_region 4 with (fail)
  have bx6 := BX5.out.far ⟨w3.heap.size, 8, none⟩ (.slice (some ⟨gg, 0, none⟩) N cap) (Nat.ne_of_lt lc3)
  have bd6 := BD5.out.set8 (some ⟨gg, 0, none⟩) N cap
  have how6 := owns_set HOW.out ⟨w3.heap.size, 8, none⟩ (Nat.lt_succ_self _) (.slice (some ⟨gg, 0, none⟩) N cap)
  have y1 := Y1.out.far0 ⟨w3.heap.size, 8, none⟩ (.slice (some ⟨gg, 0, none⟩) N cap) (fun b off e h => by have := hg3.out h; simp at e; show b ≠ w3.heap.size; omega)
  have y2 := Y2.out.far0 ⟨w3.heap.size, 8, none⟩ (.slice (some ⟨gg, 0, none⟩) N cap) (fun b off e h => by have := hg4.out h; simp at e; show b ≠ w3.heap.size; omega)
  have hb6 := Lib.hid (hb5.out.setCell (p := ⟨w3.heap.size, 8, none⟩) (Nat.le_of_lt lc3) (.slice (some ⟨gg, 0, none⟩) N cap))
  have lz6 : w3.heap.size + 1 ≤ (w5.setCell ⟨w3.heap.size, 8, none⟩ (.slice (some ⟨gg, 0, none⟩) N cap)).heap.size := by simp; omega
  clear BX5 BD5 HOW Y1 Y2 hb5 kc kf lz
  generalize w5.setCell ⟨w3.heap.size, 8, none⟩ (.slice (some ⟨gg, 0, none⟩) N cap) = w6 at *
  have hne : w.heap.size ≠ w3.heap.size := Nat.ne_of_lt lc3
  have hne' : w3.heap.size ≠ w.heap.size := Ne.symm hne
  obtain ⟨k0, k1, k2, k3, k4, k5, k6, k7, k8, k9, k10⟩ := Box.cells bx6
  obtain ⟨d0, d1, d2, d3, d4, d5, d6, d7, d8, d9, d10⟩ := Box.cells bd6
  have f4 := Box.frozen bd6 4
  have f5 := Box.frozen bd6 5
  have f6 := Box.frozen bd6 6
  have f7 := Box.frozen bd6 7
  have f8 := Box.frozen bd6 8
  have BX6 := Lib.hid bx6
  have BD6 := Lib.hid bd6
  have HOW := Lib.hid how6
  have Y1 := Lib.hid y1
  have Y2 := Lib.hid y2
  clear bx6 bd6 how6 y1 y2
  have rr : r = 0 ∨ r = 1 ∨ r = 2 ∨ r = 3 ∨ r = 4 := by omega
  rcases rr with e | e | e | e | e
  · subst e
    clear hr0 hr1
    obtain ⟨st2, es⟩ : ∃ x, (if 4 < st1 + 1 then (4 : Int) else st1 + 1) = x := ⟨_, rfl⟩
    have hs : st2 = 4 ∨ st2 = st1 + 1 ∧ st1 + 1 ≤ 4 := by rw [← es]; split <;> omega
    go_wp2_with fail
    clear k0 k1 k2 k3 k4 k5 k6 k7 k8 k9 k10 d0 d1 d2 d3 d4 d5 d6 d7 d8 d9 d10 f4 f5 f6 f7 f8
    have BX7 := Lib.hid (BX6.out.far ⟨w3.heap.size, 4, none⟩ (.int .i64 st2) hne)
    have BD7 := Lib.hid (BD6.out.set4 st2)
    have SM := Lib.hid (Sl.owned (owns_set HOW.out ⟨w3.heap.size, 4, none⟩ (Nat.lt_succ_self _) (.int .i64 st2)))
    have y1 := Y1.out.far0 ⟨w3.heap.size, 4, none⟩ (.int .i64 st2) (fun b off e h => by have := hg3.out h; simp at e; show b ≠ w3.heap.size; omega)
    have y2 := Y2.out.far0 ⟨w3.heap.size, 4, none⟩ (.int .i64 st2) (fun b off e h => by have := hg4.out h; simp at e; show b ≠ w3.heap.size; omega)
    have hb7 := Lib.hid (hb6.out.setCell (p := ⟨w3.heap.size, 4, none⟩) (Nat.le_of_lt lc3) (.int .i64 st2))
    clear BX6 BD6 HOW Y1 Y2 hb6
    have Y1 := Lib.hid y1
    have Y2 := Lib.hid y2
    have LM := L1
    have ALM := Lib.hid (all_la L')
    clear y1 y2 lz6
    generalize w6.setCell ⟨w3.heap.size, 4, none⟩ (.int .i64 st2) = w7 at *
    obtain ⟨bd, ebd⟩ : ∃ x, bo (cl 1 4 st2) (cl 2 6 sl1) (cs se1) (cl 1 2 wa1) (mov (la (la L'))) = x := ⟨_, rfl⟩
    obtain ⟨bc_, ebc⟩ : ∃ x, bo (cl 1 4 st1) (cl 2 6 sl1) (cs se1) (cl 1 2 wa1) (mov (la (la L'))) = x := ⟨_, rfl⟩
    obtain ⟨dd, edd⟩ : ∃ x, dr (cl 1 4 st2) (cl 2 6 sl1) (cs se1) (cl 1 2 wa1) (mov (la (la L'))) = x := ⟨_, rfl⟩
    obtain ⟨dc, edc⟩ : ∃ x, dr (cl 1 4 st1) (cl 2 6 sl1) (cs se1) (cl 1 2 wa1) (mov (la (la L'))) = x := ⟨_, rfl⟩
    have hmo : mov (la L') ≤ mov (la L') := Int.le_refl _
    have t1 : decide (bc_ ≤ bd) = true := decide_eq_true (by rw [← ebd, ← ebc]; exact rise_bo _ _ _ _ _ _ _ _ _ _ (by omega) (by omega) (by omega) (by omega) (by omega) (by omega) (by omega) (by omega) (by omega) (by omega) hmo)
    have t2 : decide (dc ≤ dd) = true := decide_eq_true (by rw [← edd, ← edc]; exact rise_dr _ _ _ _ _ _ _ _ _ _ (by omega) (by omega) (by omega) (by omega) (by omega) (by omega) (by omega) (by omega) (by omega) (by omega) hmo)
    have EBD := Lib.hid ebd
    have EBC := Lib.hid ebc
    have EDD := Lib.hid edd
    have EDC := Lib.hid edc
    clear ebd ebc edd edc hmo
    have Rd : Hid (∀ W : World, Below w7.heap.size w7 W → Calls Try.prog 13 #[.agg #[.int .i64 m1, .int .i64 wd1, .int .i64 ro1, .int .i64 qu1, .int .i64 st2, .int .i64 sl1, .int .i64 se1, .int .i64 wa1, .slice (some ⟨gg, 0, none⟩) N cap, .bool tb, .slice (some ⟨g2, 0, none⟩) N2 N2]] W fun e w' => e = .returned (.bool true) ∧ Below W.heap.size W w') := Lib.hid (fun W hW => (right_any m1 wd1 ro1 qu1 st2 sl1 se1 wa1 (some ⟨gg, 0, none⟩) (some ⟨g2, 0, none⟩) cap N2 (N) N2 tb (la L') W LM.out (by omega) (by omega) (SM.out.below hW)).mono fun e w' ⟨he, hb⟩ => ⟨he.trans (ret_bl (right_of _ _ _ _ _ _ _ _ _ _ _ ALM.out (by omega) (by omega) (by omega) (by omega) (by omega) (by omega) (by omega) (by omega) (by omega) (by omega) (by omega))), hb⟩)
    have Bd : Hid (∀ W : World, Below w7.heap.size w7 W → Calls Try.prog 16 #[.agg #[.int .i64 m1, .int .i64 wd1, .int .i64 ro1, .int .i64 qu1, .int .i64 st2, .int .i64 sl1, .int .i64 se1, .int .i64 wa1, .slice (some ⟨gg, 0, none⟩) N cap, .bool tb, .slice (some ⟨g2, 0, none⟩) N2 N2]] W fun e w' => e = .returned (.int .i64 bd) ∧ Below W.heap.size W w') := Lib.hid (fun W hW => (bound_any m1 wd1 ro1 qu1 st2 sl1 se1 wa1 (some ⟨gg, 0, none⟩) (some ⟨g2, 0, none⟩) cap N2 (la L') (ta T') tb (N) N2 W LM.out L2.out (by omega) (by omega) (SM.out.below hW) (Y2.out.below hW)).mono fun e w' ⟨he, hb⟩ => ⟨he.trans (ret_i64 (EBD.out)), hb⟩)
    have Bc : Hid (∀ W : World, Below w7.heap.size w7 W → Calls Try.prog 16 #[.agg #[.int .i64 m1, .int .i64 wd1, .int .i64 ro1, .int .i64 qu1, .int .i64 st1, .int .i64 sl1, .int .i64 se1, .int .i64 wa1, .slice (some ⟨g, 0, none⟩) N N, .bool tb, .slice (some ⟨g2, 0, none⟩) N2 N2]] W fun e w' => e = .returned (.int .i64 bc_) ∧ Below W.heap.size W w') := Lib.hid (fun W hW => (bound_any m1 wd1 ro1 qu1 st1 sl1 se1 wa1 (some ⟨g, 0, none⟩) (some ⟨g2, 0, none⟩) N N2 (la L') (ta T') tb N N2 W L1.out L2.out (by omega) (by omega) (Y1.out.below hW) (Y2.out.below hW)).mono fun e w' ⟨he, hb⟩ => ⟨he.trans (ret_i64 (EBC.out)), hb⟩)
    have Dd : Hid (∀ W : World, Below w7.heap.size w7 W → Calls Try.prog 17 #[.agg #[.int .i64 m1, .int .i64 wd1, .int .i64 ro1, .int .i64 qu1, .int .i64 st2, .int .i64 sl1, .int .i64 se1, .int .i64 wa1, .slice (some ⟨gg, 0, none⟩) N cap, .bool tb, .slice (some ⟨g2, 0, none⟩) N2 N2]] W fun e w' => e = .returned (.int .i64 dd) ∧ Below W.heap.size W w') := Lib.hid (fun W hW => (drain_any m1 wd1 ro1 qu1 st2 sl1 se1 wa1 (some ⟨gg, 0, none⟩) (some ⟨g2, 0, none⟩) cap N2 (la L') (ta T') tb (N) N2 W LM.out L2.out (by omega) (by omega) (SM.out.below hW) (Y2.out.below hW)).mono fun e w' ⟨he, hb⟩ => ⟨he.trans (ret_i64 (EDD.out)), hb⟩)
    have Dc : Hid (∀ W : World, Below w7.heap.size w7 W → Calls Try.prog 17 #[.agg #[.int .i64 m1, .int .i64 wd1, .int .i64 ro1, .int .i64 qu1, .int .i64 st1, .int .i64 sl1, .int .i64 se1, .int .i64 wa1, .slice (some ⟨g, 0, none⟩) N N, .bool tb, .slice (some ⟨g2, 0, none⟩) N2 N2]] W fun e w' => e = .returned (.int .i64 dc) ∧ Below W.heap.size W w') := Lib.hid (fun W hW => (drain_any m1 wd1 ro1 qu1 st1 sl1 se1 wa1 (some ⟨g, 0, none⟩) (some ⟨g2, 0, none⟩) N N2 (la L') (ta T') tb N N2 W L1.out L2.out (by omega) (by omega) (Y1.out.below hW) (Y2.out.below hW)).mono fun e w' ⟨he, hb⟩ => ⟨he.trans (ret_i64 (EDC.out)), hb⟩)
    have lb7 : w.heap.size < w7.heap.size := Box.lt BX7.out
    have ld7 : w3.heap.size < w7.heap.size := Box.lt BD7.out
    clear SM Y1 Y2 LM ALM L1 L2 EBD EBC EDD EDC
    refine wp_region_held_drew (S := fun w' => Box w' w.heap.size m1 wd1 ro1 qu1 st1 sl1 se1 wa1 (some ⟨g, 0, none⟩) N N tb (some ⟨g2, 0, none⟩) N2 N2 ∧ Box w' w3.heap.size m1 wd1 ro1 qu1 st2 sl1 se1 wa1 (some ⟨gg, 0, none⟩) N cap tb (some ⟨g2, 0, none⟩) N2 N2 ∧ w7.heap.size ≤ w'.heap.size ∧ Below w7.heap.size w7 w') (by kernel_rfl) ⟨BX7.out, BD7.out, Nat.le_refl _, (Below.refl _ _).drew⟩ (fun hHeld => ?_)
    refine wpAnyH_ready (rs := [0]) (by kernel_rfl) (by simp) ?_
    refine AllReadyH.cons (o := ⟨some 53, _, _, _, _, _⟩) rfl (fun K hK => ?_) AllReadyH.nil
    go_simp
    refine (alive_any _).mono ?_; rintro e w' ⟨rfl, hg⟩
    refine hK.out _ _ ⟨Box.below hHeld.1 hg (Nat.lt_of_lt_of_le lb7 hHeld.2.2.1), Box.below hHeld.2.1 hg (Nat.lt_of_lt_of_le ld7 hHeld.2.2.1), Nat.le_trans hHeld.2.2.1 hg.size, hHeld.2.2.2.trans (hg.mono hHeld.2.2.1)⟩ (fun hHeld' => ?_)
    clear hK K hHeld
    have hHeld := hHeld'
    clear hHeld'
    try simp only [Act.put, List.setIfInBounds_toArray, List.set_cons_zero, List.set_cons_succ]
    refine wpAnyH_take (i := 1) (oi := ⟨some 54, _, _, _, _, _⟩) (v := ?vwa1) rfl (by kernel_rfl) (by kernel_rfl) (by kernel_rfl) (fun _ _ _ h => h) (Or.inl ⟨by rfl, ?hywa1⟩) hHeld ?restwa1
    case hywa1 => (intro w hSw; go_simp; try (with_reducible rfl))
    try simp only [Act.put, List.setIfInBounds_toArray, List.set_cons_zero, List.set_cons_succ]
    refine tk_box (i := 2) (oi := ⟨some 55, _, _, _, _, _⟩) rfl (by kernel_rfl) (by kernel_rfl) (by kernel_rfl) (fun _ _ _ h => h) (by rfl) _ rfl _ rfl _ (fun _ h => h.2.1) rfl hHeld ?_
    try simp only [Act.put, List.setIfInBounds_toArray, List.set_cons_zero, List.set_cons_succ]
    refine wpAnyH_ready (rs := [3]) (by kernel_rfl) (by simp) ?_
    refine AllReadyH.cons (o := ⟨some 56, _, _, _, _, _⟩) rfl (fun K hK => ?_) AllReadyH.nil
    go_simp
    refine (Rd.out _ hHeld.2.2.2).mono ?_; rintro e w' ⟨rfl, hg⟩
    refine hK.out _ _ ⟨Box.below hHeld.1 hg (Nat.lt_of_lt_of_le lb7 hHeld.2.2.1), Box.below hHeld.2.1 hg (Nat.lt_of_lt_of_le ld7 hHeld.2.2.1), Nat.le_trans hHeld.2.2.1 hg.size, hHeld.2.2.2.trans (hg.mono hHeld.2.2.1)⟩ (fun hHeld' => ?_)
    clear hK K hHeld
    have hHeld := hHeld'
    clear hHeld'
    try simp only [Act.put, List.setIfInBounds_toArray, List.set_cons_zero, List.set_cons_succ]
    refine wpAnyH_take (i := 4) (oi := ⟨some 57, _, _, _, _, _⟩) (v := ?vwa4) rfl (by kernel_rfl) (by kernel_rfl) (by kernel_rfl) (fun _ _ _ h => h) (Or.inl ⟨by rfl, ?hywa4⟩) hHeld ?restwa4
    case hywa4 => (intro w hSw; go_simp; try (with_reducible rfl))
    try simp only [Act.put, List.setIfInBounds_toArray, List.set_cons_zero, List.set_cons_succ]
    refine wpAnyH_take (i := 5) (oi := ⟨some 58, _, _, _, _, _⟩) (v := ?vwa5) rfl (by kernel_rfl) (by kernel_rfl) (by kernel_rfl) (fun _ _ _ h => h) (Or.inl ⟨by rfl, ?hywa5⟩) hHeld ?restwa5
    case hywa5 => (intro w hSw; go_simp; try (with_reducible rfl))
    try simp only [Act.put, List.setIfInBounds_toArray, List.set_cons_zero, List.set_cons_succ]
    refine tk_box (i := 6) (oi := ⟨some 59, _, _, _, _, _⟩) rfl (by kernel_rfl) (by kernel_rfl) (by kernel_rfl) (fun _ _ _ h => h) (by rfl) _ rfl _ rfl _ (fun _ h => h.2.1) rfl hHeld ?_
    try simp only [Act.put, List.setIfInBounds_toArray, List.set_cons_zero, List.set_cons_succ]
    refine tk_box (i := 8) (oi := ⟨some 61, _, _, _, _, _⟩) rfl (by kernel_rfl) (by kernel_rfl) (by kernel_rfl) (fun _ _ _ h => h) (by rfl) _ rfl _ rfl _ (fun _ h => h.1) rfl hHeld ?_
    try simp only [Act.put, List.setIfInBounds_toArray, List.set_cons_zero, List.set_cons_succ]
    refine wpAnyH_ready (rs := [7]) (by kernel_rfl) (by simp) ?_
    refine AllReadyH.cons (o := ⟨some 60, _, _, _, _, _⟩) rfl (fun K hK => ?_) AllReadyH.nil
    go_simp
    refine (Bd.out _ hHeld.2.2.2).mono ?_; rintro e w' ⟨rfl, hg⟩
    refine hK.out _ _ ⟨Box.below hHeld.1 hg (Nat.lt_of_lt_of_le lb7 hHeld.2.2.1), Box.below hHeld.2.1 hg (Nat.lt_of_lt_of_le ld7 hHeld.2.2.1), Nat.le_trans hHeld.2.2.1 hg.size, hHeld.2.2.2.trans (hg.mono hHeld.2.2.1)⟩ (fun hHeld' => ?_)
    clear hK K hHeld
    have hHeld := hHeld'
    clear hHeld'
    try simp only [Act.put, List.setIfInBounds_toArray, List.set_cons_zero, List.set_cons_succ]
    refine wpAnyH_ready (rs := [9]) (by kernel_rfl) (by simp) ?_
    refine AllReadyH.cons (o := ⟨some 62, _, _, _, _, _⟩) rfl (fun K hK => ?_) AllReadyH.nil
    go_simp
    refine (Bc.out _ hHeld.2.2.2).mono ?_; rintro e w' ⟨rfl, hg⟩
    refine hK.out _ _ ⟨Box.below hHeld.1 hg (Nat.lt_of_lt_of_le lb7 hHeld.2.2.1), Box.below hHeld.2.1 hg (Nat.lt_of_lt_of_le ld7 hHeld.2.2.1), Nat.le_trans hHeld.2.2.1 hg.size, hHeld.2.2.2.trans (hg.mono hHeld.2.2.1)⟩ (fun hHeld' => ?_)
    clear hK K hHeld
    have hHeld := hHeld'
    clear hHeld'
    try simp only [Act.put, List.setIfInBounds_toArray, List.set_cons_zero, List.set_cons_succ]
    refine wpAnyH_take (i := 10) (oi := ⟨some 63, _, _, _, _, _⟩) (v := ?vwa10) rfl (by kernel_rfl) (by kernel_rfl) (by kernel_rfl) (fun _ _ _ h => h) (Or.inl ⟨by rfl, ?hywa10⟩) hHeld ?restwa10
    case hywa10 => (intro w hSw; go_simp; try (with_reducible rfl))
    try simp only [Act.put, List.setIfInBounds_toArray, List.set_cons_zero, List.set_cons_succ]
    refine wpAnyH_take (i := 11) (oi := ⟨some 64, _, _, _, _, _⟩) (v := ?vwa11) rfl (by kernel_rfl) (by kernel_rfl) (by kernel_rfl) (fun _ _ _ h => h) (Or.inl ⟨by rfl, ?hywa11⟩) hHeld ?restwa11
    case hywa11 => (intro w hSw; go_simp; try (with_reducible rfl))
    try simp only [Act.put, List.setIfInBounds_toArray, List.set_cons_zero, List.set_cons_succ]
    refine wpAnyH_take (i := 12) (oi := ⟨some 65, _, _, _, _, _⟩) (v := ?vwa12) rfl (by kernel_rfl) (by kernel_rfl) (by kernel_rfl) (fun _ _ _ h => h) (Or.inl ⟨by rfl, ?hywa12⟩) hHeld ?restwa12
    case hywa12 => (intro w hSw; go_simp; try (with_reducible rfl))
    try simp only [Act.put, List.setIfInBounds_toArray, List.set_cons_zero, List.set_cons_succ]
    refine tk_box (i := 13) (oi := ⟨some 66, _, _, _, _, _⟩) rfl (by kernel_rfl) (by kernel_rfl) (by kernel_rfl) (fun _ _ _ h => h) (by rfl) _ rfl _ rfl _ (fun _ h => h.2.1) rfl hHeld ?_
    try simp only [Act.put, List.setIfInBounds_toArray, List.set_cons_zero, List.set_cons_succ]
    refine tk_box (i := 15) (oi := ⟨some 68, _, _, _, _, _⟩) rfl (by kernel_rfl) (by kernel_rfl) (by kernel_rfl) (fun _ _ _ h => h) (by rfl) _ rfl _ rfl _ (fun _ h => h.1) rfl hHeld ?_
    try simp only [Act.put, List.setIfInBounds_toArray, List.set_cons_zero, List.set_cons_succ]
    refine wpAnyH_ready (rs := [14]) (by kernel_rfl) (by simp) ?_
    refine AllReadyH.cons (o := ⟨some 67, _, _, _, _, _⟩) rfl (fun K hK => ?_) AllReadyH.nil
    go_simp
    refine (Dd.out _ hHeld.2.2.2).mono ?_; rintro e w' ⟨rfl, hg⟩
    refine hK.out _ _ ⟨Box.below hHeld.1 hg (Nat.lt_of_lt_of_le lb7 hHeld.2.2.1), Box.below hHeld.2.1 hg (Nat.lt_of_lt_of_le ld7 hHeld.2.2.1), Nat.le_trans hHeld.2.2.1 hg.size, hHeld.2.2.2.trans (hg.mono hHeld.2.2.1)⟩ (fun hHeld' => ?_)
    clear hK K hHeld
    have hHeld := hHeld'
    clear hHeld'
    try simp only [Act.put, List.setIfInBounds_toArray, List.set_cons_zero, List.set_cons_succ]
    refine wpAnyH_ready (rs := [16]) (by kernel_rfl) (by simp) ?_
    refine AllReadyH.cons (o := ⟨some 69, _, _, _, _, _⟩) rfl (fun K hK => ?_) AllReadyH.nil
    go_simp
    refine (Dc.out _ hHeld.2.2.2).mono ?_; rintro e w' ⟨rfl, hg⟩
    refine hK.out _ _ ⟨Box.below hHeld.1 hg (Nat.lt_of_lt_of_le lb7 hHeld.2.2.1), Box.below hHeld.2.1 hg (Nat.lt_of_lt_of_le ld7 hHeld.2.2.1), Nat.le_trans hHeld.2.2.1 hg.size, hHeld.2.2.2.trans (hg.mono hHeld.2.2.1)⟩ (fun hHeld' => ?_)
    clear hK K hHeld
    have hHeld := hHeld'
    clear hHeld'
    try simp only [Act.put, List.setIfInBounds_toArray, List.set_cons_zero, List.set_cons_succ]
    refine wpAnyH_take (i := 17) (oi := ⟨some 70, _, _, _, _, _⟩) (v := ?vwa17) rfl (by kernel_rfl) (by kernel_rfl) (by kernel_rfl) (fun _ _ _ h => h) (Or.inl ⟨by rfl, ?hywa17⟩) hHeld ?restwa17
    case hywa17 => (intro w hSw; go_simp; try (with_reducible rfl))
    try simp only [Act.put, List.setIfInBounds_toArray, List.set_cons_zero, List.set_cons_succ]
    refine wpAnyH_take (i := 18) (oi := ⟨some 71, _, _, _, _, _⟩) (v := ?vwa18) rfl (by kernel_rfl) (by kernel_rfl) (by kernel_rfl) (fun _ _ _ h => h) (Or.inl ⟨by rfl, ?hywa18⟩) hHeld ?restwa18
    case hywa18 => (intro w hSw; go_simp; try (with_reducible rfl))
    try simp only [Act.put, List.setIfInBounds_toArray, List.set_cons_zero, List.set_cons_succ]
    refine wpAnyH_take (i := 19) (oi := ⟨some 4, _, _, _, _, _⟩) (v := ?vwa19) rfl (by kernel_rfl) (by kernel_rfl) (by kernel_rfl) (fun _ _ _ h => h) (Or.inl ⟨by rfl, ?hywa19⟩) hHeld ?restwa19
    case hywa19 => (intro w hSw; go_simp; try (with_reducible rfl))
    try simp only [Act.put, List.setIfInBounds_toArray, List.set_cons_zero, List.set_cons_succ]
    refine wpAnyH_done (by kernel_rfl) ?_ _
    have Z := Lib.hid hHeld.2.2.2
    clear hHeld
    go_wp2
    go_ret
    exact ⟨rfl, hb7.out.trans (Z.out.mono (Nat.le_of_lt lb7))⟩
  · subst e
    clear hr0 hr1
    obtain ⟨sl2, es⟩ : ∃ x, (if 6 < sl1 + 1 then (6 : Int) else sl1 + 1) = x := ⟨_, rfl⟩
    have hs : sl2 = 6 ∨ sl2 = sl1 + 1 ∧ sl1 + 1 ≤ 6 := by rw [← es]; split <;> omega
    go_wp2_with fail
    clear k0 k1 k2 k3 k4 k5 k6 k7 k8 k9 k10 d0 d1 d2 d3 d4 d5 d6 d7 d8 d9 d10 f4 f5 f6 f7 f8
    have BX7 := Lib.hid (BX6.out.far ⟨w3.heap.size, 5, none⟩ (.int .i64 sl2) hne)
    have BD7 := Lib.hid (BD6.out.set5 sl2)
    have SM := Lib.hid (Sl.owned (owns_set HOW.out ⟨w3.heap.size, 5, none⟩ (Nat.lt_succ_self _) (.int .i64 sl2)))
    have y1 := Y1.out.far0 ⟨w3.heap.size, 5, none⟩ (.int .i64 sl2) (fun b off e h => by have := hg3.out h; simp at e; show b ≠ w3.heap.size; omega)
    have y2 := Y2.out.far0 ⟨w3.heap.size, 5, none⟩ (.int .i64 sl2) (fun b off e h => by have := hg4.out h; simp at e; show b ≠ w3.heap.size; omega)
    have hb7 := Lib.hid (hb6.out.setCell (p := ⟨w3.heap.size, 5, none⟩) (Nat.le_of_lt lc3) (.int .i64 sl2))
    clear BX6 BD6 HOW Y1 Y2 hb6
    have Y1 := Lib.hid y1
    have Y2 := Lib.hid y2
    have LM := L1
    have ALM := Lib.hid (all_la L')
    clear y1 y2 lz6
    generalize w6.setCell ⟨w3.heap.size, 5, none⟩ (.int .i64 sl2) = w7 at *
    obtain ⟨bd, ebd⟩ : ∃ x, bo (cl 1 4 st1) (cl 2 6 sl2) (cs se1) (cl 1 2 wa1) (mov (la (la L'))) = x := ⟨_, rfl⟩
    obtain ⟨bc_, ebc⟩ : ∃ x, bo (cl 1 4 st1) (cl 2 6 sl1) (cs se1) (cl 1 2 wa1) (mov (la (la L'))) = x := ⟨_, rfl⟩
    obtain ⟨dd, edd⟩ : ∃ x, dr (cl 1 4 st1) (cl 2 6 sl2) (cs se1) (cl 1 2 wa1) (mov (la (la L'))) = x := ⟨_, rfl⟩
    obtain ⟨dc, edc⟩ : ∃ x, dr (cl 1 4 st1) (cl 2 6 sl1) (cs se1) (cl 1 2 wa1) (mov (la (la L'))) = x := ⟨_, rfl⟩
    have hmo : mov (la L') ≤ mov (la L') := Int.le_refl _
    have t1 : decide (bc_ ≤ bd) = true := decide_eq_true (by rw [← ebd, ← ebc]; exact rise_bo _ _ _ _ _ _ _ _ _ _ (by omega) (by omega) (by omega) (by omega) (by omega) (by omega) (by omega) (by omega) (by omega) (by omega) hmo)
    have t2 : decide (dc ≤ dd) = true := decide_eq_true (by rw [← edd, ← edc]; exact rise_dr _ _ _ _ _ _ _ _ _ _ (by omega) (by omega) (by omega) (by omega) (by omega) (by omega) (by omega) (by omega) (by omega) (by omega) hmo)
    have EBD := Lib.hid ebd
    have EBC := Lib.hid ebc
    have EDD := Lib.hid edd
    have EDC := Lib.hid edc
    clear ebd ebc edd edc hmo
    have Rd : Hid (∀ W : World, Below w7.heap.size w7 W → Calls Try.prog 13 #[.agg #[.int .i64 m1, .int .i64 wd1, .int .i64 ro1, .int .i64 qu1, .int .i64 st1, .int .i64 sl2, .int .i64 se1, .int .i64 wa1, .slice (some ⟨gg, 0, none⟩) N cap, .bool tb, .slice (some ⟨g2, 0, none⟩) N2 N2]] W fun e w' => e = .returned (.bool true) ∧ Below W.heap.size W w') := Lib.hid (fun W hW => (right_any m1 wd1 ro1 qu1 st1 sl2 se1 wa1 (some ⟨gg, 0, none⟩) (some ⟨g2, 0, none⟩) cap N2 (N) N2 tb (la L') W LM.out (by omega) (by omega) (SM.out.below hW)).mono fun e w' ⟨he, hb⟩ => ⟨he.trans (ret_bl (right_of _ _ _ _ _ _ _ _ _ _ _ ALM.out (by omega) (by omega) (by omega) (by omega) (by omega) (by omega) (by omega) (by omega) (by omega) (by omega) (by omega))), hb⟩)
    have Bd : Hid (∀ W : World, Below w7.heap.size w7 W → Calls Try.prog 16 #[.agg #[.int .i64 m1, .int .i64 wd1, .int .i64 ro1, .int .i64 qu1, .int .i64 st1, .int .i64 sl2, .int .i64 se1, .int .i64 wa1, .slice (some ⟨gg, 0, none⟩) N cap, .bool tb, .slice (some ⟨g2, 0, none⟩) N2 N2]] W fun e w' => e = .returned (.int .i64 bd) ∧ Below W.heap.size W w') := Lib.hid (fun W hW => (bound_any m1 wd1 ro1 qu1 st1 sl2 se1 wa1 (some ⟨gg, 0, none⟩) (some ⟨g2, 0, none⟩) cap N2 (la L') (ta T') tb (N) N2 W LM.out L2.out (by omega) (by omega) (SM.out.below hW) (Y2.out.below hW)).mono fun e w' ⟨he, hb⟩ => ⟨he.trans (ret_i64 (EBD.out)), hb⟩)
    have Bc : Hid (∀ W : World, Below w7.heap.size w7 W → Calls Try.prog 16 #[.agg #[.int .i64 m1, .int .i64 wd1, .int .i64 ro1, .int .i64 qu1, .int .i64 st1, .int .i64 sl1, .int .i64 se1, .int .i64 wa1, .slice (some ⟨g, 0, none⟩) N N, .bool tb, .slice (some ⟨g2, 0, none⟩) N2 N2]] W fun e w' => e = .returned (.int .i64 bc_) ∧ Below W.heap.size W w') := Lib.hid (fun W hW => (bound_any m1 wd1 ro1 qu1 st1 sl1 se1 wa1 (some ⟨g, 0, none⟩) (some ⟨g2, 0, none⟩) N N2 (la L') (ta T') tb N N2 W L1.out L2.out (by omega) (by omega) (Y1.out.below hW) (Y2.out.below hW)).mono fun e w' ⟨he, hb⟩ => ⟨he.trans (ret_i64 (EBC.out)), hb⟩)
    have Dd : Hid (∀ W : World, Below w7.heap.size w7 W → Calls Try.prog 17 #[.agg #[.int .i64 m1, .int .i64 wd1, .int .i64 ro1, .int .i64 qu1, .int .i64 st1, .int .i64 sl2, .int .i64 se1, .int .i64 wa1, .slice (some ⟨gg, 0, none⟩) N cap, .bool tb, .slice (some ⟨g2, 0, none⟩) N2 N2]] W fun e w' => e = .returned (.int .i64 dd) ∧ Below W.heap.size W w') := Lib.hid (fun W hW => (drain_any m1 wd1 ro1 qu1 st1 sl2 se1 wa1 (some ⟨gg, 0, none⟩) (some ⟨g2, 0, none⟩) cap N2 (la L') (ta T') tb (N) N2 W LM.out L2.out (by omega) (by omega) (SM.out.below hW) (Y2.out.below hW)).mono fun e w' ⟨he, hb⟩ => ⟨he.trans (ret_i64 (EDD.out)), hb⟩)
    have Dc : Hid (∀ W : World, Below w7.heap.size w7 W → Calls Try.prog 17 #[.agg #[.int .i64 m1, .int .i64 wd1, .int .i64 ro1, .int .i64 qu1, .int .i64 st1, .int .i64 sl1, .int .i64 se1, .int .i64 wa1, .slice (some ⟨g, 0, none⟩) N N, .bool tb, .slice (some ⟨g2, 0, none⟩) N2 N2]] W fun e w' => e = .returned (.int .i64 dc) ∧ Below W.heap.size W w') := Lib.hid (fun W hW => (drain_any m1 wd1 ro1 qu1 st1 sl1 se1 wa1 (some ⟨g, 0, none⟩) (some ⟨g2, 0, none⟩) N N2 (la L') (ta T') tb N N2 W L1.out L2.out (by omega) (by omega) (Y1.out.below hW) (Y2.out.below hW)).mono fun e w' ⟨he, hb⟩ => ⟨he.trans (ret_i64 (EDC.out)), hb⟩)
    have lb7 : w.heap.size < w7.heap.size := Box.lt BX7.out
    have ld7 : w3.heap.size < w7.heap.size := Box.lt BD7.out
    clear SM Y1 Y2 LM ALM L1 L2 EBD EBC EDD EDC
    refine wp_region_held_drew (S := fun w' => Box w' w.heap.size m1 wd1 ro1 qu1 st1 sl1 se1 wa1 (some ⟨g, 0, none⟩) N N tb (some ⟨g2, 0, none⟩) N2 N2 ∧ Box w' w3.heap.size m1 wd1 ro1 qu1 st1 sl2 se1 wa1 (some ⟨gg, 0, none⟩) N cap tb (some ⟨g2, 0, none⟩) N2 N2 ∧ w7.heap.size ≤ w'.heap.size ∧ Below w7.heap.size w7 w') (by kernel_rfl) ⟨BX7.out, BD7.out, Nat.le_refl _, (Below.refl _ _).drew⟩ (fun hHeld => ?_)
    refine wpAnyH_ready (rs := [0]) (by kernel_rfl) (by simp) ?_
    refine AllReadyH.cons (o := ⟨some 53, _, _, _, _, _⟩) rfl (fun K hK => ?_) AllReadyH.nil
    go_simp
    refine (alive_any _).mono ?_; rintro e w' ⟨rfl, hg⟩
    refine hK.out _ _ ⟨Box.below hHeld.1 hg (Nat.lt_of_lt_of_le lb7 hHeld.2.2.1), Box.below hHeld.2.1 hg (Nat.lt_of_lt_of_le ld7 hHeld.2.2.1), Nat.le_trans hHeld.2.2.1 hg.size, hHeld.2.2.2.trans (hg.mono hHeld.2.2.1)⟩ (fun hHeld' => ?_)
    clear hK K hHeld
    have hHeld := hHeld'
    clear hHeld'
    try simp only [Act.put, List.setIfInBounds_toArray, List.set_cons_zero, List.set_cons_succ]
    refine wpAnyH_take (i := 1) (oi := ⟨some 54, _, _, _, _, _⟩) (v := ?vwb1) rfl (by kernel_rfl) (by kernel_rfl) (by kernel_rfl) (fun _ _ _ h => h) (Or.inl ⟨by rfl, ?hywb1⟩) hHeld ?restwb1
    case hywb1 => (intro w hSw; go_simp; try (with_reducible rfl))
    try simp only [Act.put, List.setIfInBounds_toArray, List.set_cons_zero, List.set_cons_succ]
    refine tk_box (i := 2) (oi := ⟨some 55, _, _, _, _, _⟩) rfl (by kernel_rfl) (by kernel_rfl) (by kernel_rfl) (fun _ _ _ h => h) (by rfl) _ rfl _ rfl _ (fun _ h => h.2.1) rfl hHeld ?_
    try simp only [Act.put, List.setIfInBounds_toArray, List.set_cons_zero, List.set_cons_succ]
    refine wpAnyH_ready (rs := [3]) (by kernel_rfl) (by simp) ?_
    refine AllReadyH.cons (o := ⟨some 56, _, _, _, _, _⟩) rfl (fun K hK => ?_) AllReadyH.nil
    go_simp
    refine (Rd.out _ hHeld.2.2.2).mono ?_; rintro e w' ⟨rfl, hg⟩
    refine hK.out _ _ ⟨Box.below hHeld.1 hg (Nat.lt_of_lt_of_le lb7 hHeld.2.2.1), Box.below hHeld.2.1 hg (Nat.lt_of_lt_of_le ld7 hHeld.2.2.1), Nat.le_trans hHeld.2.2.1 hg.size, hHeld.2.2.2.trans (hg.mono hHeld.2.2.1)⟩ (fun hHeld' => ?_)
    clear hK K hHeld
    have hHeld := hHeld'
    clear hHeld'
    try simp only [Act.put, List.setIfInBounds_toArray, List.set_cons_zero, List.set_cons_succ]
    refine wpAnyH_take (i := 4) (oi := ⟨some 57, _, _, _, _, _⟩) (v := ?vwb4) rfl (by kernel_rfl) (by kernel_rfl) (by kernel_rfl) (fun _ _ _ h => h) (Or.inl ⟨by rfl, ?hywb4⟩) hHeld ?restwb4
    case hywb4 => (intro w hSw; go_simp; try (with_reducible rfl))
    try simp only [Act.put, List.setIfInBounds_toArray, List.set_cons_zero, List.set_cons_succ]
    refine wpAnyH_take (i := 5) (oi := ⟨some 58, _, _, _, _, _⟩) (v := ?vwb5) rfl (by kernel_rfl) (by kernel_rfl) (by kernel_rfl) (fun _ _ _ h => h) (Or.inl ⟨by rfl, ?hywb5⟩) hHeld ?restwb5
    case hywb5 => (intro w hSw; go_simp; try (with_reducible rfl))
    try simp only [Act.put, List.setIfInBounds_toArray, List.set_cons_zero, List.set_cons_succ]
    refine tk_box (i := 6) (oi := ⟨some 59, _, _, _, _, _⟩) rfl (by kernel_rfl) (by kernel_rfl) (by kernel_rfl) (fun _ _ _ h => h) (by rfl) _ rfl _ rfl _ (fun _ h => h.2.1) rfl hHeld ?_
    try simp only [Act.put, List.setIfInBounds_toArray, List.set_cons_zero, List.set_cons_succ]
    refine tk_box (i := 8) (oi := ⟨some 61, _, _, _, _, _⟩) rfl (by kernel_rfl) (by kernel_rfl) (by kernel_rfl) (fun _ _ _ h => h) (by rfl) _ rfl _ rfl _ (fun _ h => h.1) rfl hHeld ?_
    try simp only [Act.put, List.setIfInBounds_toArray, List.set_cons_zero, List.set_cons_succ]
    refine wpAnyH_ready (rs := [7]) (by kernel_rfl) (by simp) ?_
    refine AllReadyH.cons (o := ⟨some 60, _, _, _, _, _⟩) rfl (fun K hK => ?_) AllReadyH.nil
    go_simp
    refine (Bd.out _ hHeld.2.2.2).mono ?_; rintro e w' ⟨rfl, hg⟩
    refine hK.out _ _ ⟨Box.below hHeld.1 hg (Nat.lt_of_lt_of_le lb7 hHeld.2.2.1), Box.below hHeld.2.1 hg (Nat.lt_of_lt_of_le ld7 hHeld.2.2.1), Nat.le_trans hHeld.2.2.1 hg.size, hHeld.2.2.2.trans (hg.mono hHeld.2.2.1)⟩ (fun hHeld' => ?_)
    clear hK K hHeld
    have hHeld := hHeld'
    clear hHeld'
    try simp only [Act.put, List.setIfInBounds_toArray, List.set_cons_zero, List.set_cons_succ]
    refine wpAnyH_ready (rs := [9]) (by kernel_rfl) (by simp) ?_
    refine AllReadyH.cons (o := ⟨some 62, _, _, _, _, _⟩) rfl (fun K hK => ?_) AllReadyH.nil
    go_simp
    refine (Bc.out _ hHeld.2.2.2).mono ?_; rintro e w' ⟨rfl, hg⟩
    refine hK.out _ _ ⟨Box.below hHeld.1 hg (Nat.lt_of_lt_of_le lb7 hHeld.2.2.1), Box.below hHeld.2.1 hg (Nat.lt_of_lt_of_le ld7 hHeld.2.2.1), Nat.le_trans hHeld.2.2.1 hg.size, hHeld.2.2.2.trans (hg.mono hHeld.2.2.1)⟩ (fun hHeld' => ?_)
    clear hK K hHeld
    have hHeld := hHeld'
    clear hHeld'
    try simp only [Act.put, List.setIfInBounds_toArray, List.set_cons_zero, List.set_cons_succ]
    refine wpAnyH_take (i := 10) (oi := ⟨some 63, _, _, _, _, _⟩) (v := ?vwb10) rfl (by kernel_rfl) (by kernel_rfl) (by kernel_rfl) (fun _ _ _ h => h) (Or.inl ⟨by rfl, ?hywb10⟩) hHeld ?restwb10
    case hywb10 => (intro w hSw; go_simp; try (with_reducible rfl))
    try simp only [Act.put, List.setIfInBounds_toArray, List.set_cons_zero, List.set_cons_succ]
    refine wpAnyH_take (i := 11) (oi := ⟨some 64, _, _, _, _, _⟩) (v := ?vwb11) rfl (by kernel_rfl) (by kernel_rfl) (by kernel_rfl) (fun _ _ _ h => h) (Or.inl ⟨by rfl, ?hywb11⟩) hHeld ?restwb11
    case hywb11 => (intro w hSw; go_simp; try (with_reducible rfl))
    try simp only [Act.put, List.setIfInBounds_toArray, List.set_cons_zero, List.set_cons_succ]
    refine wpAnyH_take (i := 12) (oi := ⟨some 65, _, _, _, _, _⟩) (v := ?vwb12) rfl (by kernel_rfl) (by kernel_rfl) (by kernel_rfl) (fun _ _ _ h => h) (Or.inl ⟨by rfl, ?hywb12⟩) hHeld ?restwb12
    case hywb12 => (intro w hSw; go_simp; try (with_reducible rfl))
    try simp only [Act.put, List.setIfInBounds_toArray, List.set_cons_zero, List.set_cons_succ]
    refine tk_box (i := 13) (oi := ⟨some 66, _, _, _, _, _⟩) rfl (by kernel_rfl) (by kernel_rfl) (by kernel_rfl) (fun _ _ _ h => h) (by rfl) _ rfl _ rfl _ (fun _ h => h.2.1) rfl hHeld ?_
    try simp only [Act.put, List.setIfInBounds_toArray, List.set_cons_zero, List.set_cons_succ]
    refine tk_box (i := 15) (oi := ⟨some 68, _, _, _, _, _⟩) rfl (by kernel_rfl) (by kernel_rfl) (by kernel_rfl) (fun _ _ _ h => h) (by rfl) _ rfl _ rfl _ (fun _ h => h.1) rfl hHeld ?_
    try simp only [Act.put, List.setIfInBounds_toArray, List.set_cons_zero, List.set_cons_succ]
    refine wpAnyH_ready (rs := [14]) (by kernel_rfl) (by simp) ?_
    refine AllReadyH.cons (o := ⟨some 67, _, _, _, _, _⟩) rfl (fun K hK => ?_) AllReadyH.nil
    go_simp
    refine (Dd.out _ hHeld.2.2.2).mono ?_; rintro e w' ⟨rfl, hg⟩
    refine hK.out _ _ ⟨Box.below hHeld.1 hg (Nat.lt_of_lt_of_le lb7 hHeld.2.2.1), Box.below hHeld.2.1 hg (Nat.lt_of_lt_of_le ld7 hHeld.2.2.1), Nat.le_trans hHeld.2.2.1 hg.size, hHeld.2.2.2.trans (hg.mono hHeld.2.2.1)⟩ (fun hHeld' => ?_)
    clear hK K hHeld
    have hHeld := hHeld'
    clear hHeld'
    try simp only [Act.put, List.setIfInBounds_toArray, List.set_cons_zero, List.set_cons_succ]
    refine wpAnyH_ready (rs := [16]) (by kernel_rfl) (by simp) ?_
    refine AllReadyH.cons (o := ⟨some 69, _, _, _, _, _⟩) rfl (fun K hK => ?_) AllReadyH.nil
    go_simp
    refine (Dc.out _ hHeld.2.2.2).mono ?_; rintro e w' ⟨rfl, hg⟩
    refine hK.out _ _ ⟨Box.below hHeld.1 hg (Nat.lt_of_lt_of_le lb7 hHeld.2.2.1), Box.below hHeld.2.1 hg (Nat.lt_of_lt_of_le ld7 hHeld.2.2.1), Nat.le_trans hHeld.2.2.1 hg.size, hHeld.2.2.2.trans (hg.mono hHeld.2.2.1)⟩ (fun hHeld' => ?_)
    clear hK K hHeld
    have hHeld := hHeld'
    clear hHeld'
    try simp only [Act.put, List.setIfInBounds_toArray, List.set_cons_zero, List.set_cons_succ]
    refine wpAnyH_take (i := 17) (oi := ⟨some 70, _, _, _, _, _⟩) (v := ?vwb17) rfl (by kernel_rfl) (by kernel_rfl) (by kernel_rfl) (fun _ _ _ h => h) (Or.inl ⟨by rfl, ?hywb17⟩) hHeld ?restwb17
    case hywb17 => (intro w hSw; go_simp; try (with_reducible rfl))
    try simp only [Act.put, List.setIfInBounds_toArray, List.set_cons_zero, List.set_cons_succ]
    refine wpAnyH_take (i := 18) (oi := ⟨some 71, _, _, _, _, _⟩) (v := ?vwb18) rfl (by kernel_rfl) (by kernel_rfl) (by kernel_rfl) (fun _ _ _ h => h) (Or.inl ⟨by rfl, ?hywb18⟩) hHeld ?restwb18
    case hywb18 => (intro w hSw; go_simp; try (with_reducible rfl))
    try simp only [Act.put, List.setIfInBounds_toArray, List.set_cons_zero, List.set_cons_succ]
    refine wpAnyH_take (i := 19) (oi := ⟨some 4, _, _, _, _, _⟩) (v := ?vwb19) rfl (by kernel_rfl) (by kernel_rfl) (by kernel_rfl) (fun _ _ _ h => h) (Or.inl ⟨by rfl, ?hywb19⟩) hHeld ?restwb19
    case hywb19 => (intro w hSw; go_simp; try (with_reducible rfl))
    try simp only [Act.put, List.setIfInBounds_toArray, List.set_cons_zero, List.set_cons_succ]
    refine wpAnyH_done (by kernel_rfl) ?_ _
    have Z := Lib.hid hHeld.2.2.2
    clear hHeld
    go_wp2
    go_ret
    exact ⟨rfl, hb7.out.trans (Z.out.mono (Nat.le_of_lt lb7))⟩
  · subst e
    clear hr0 hr1
    obtain ⟨se2, es⟩ : ∃ x, (if 4 < 2 * se1 then (4 : Int) else 2 * se1) = x := ⟨_, rfl⟩
    have hs : se2 = 4 ∨ se2 = 2 * se1 ∧ 2 * se1 ≤ 4 := by rw [← es]; split <;> omega
    go_wp2_with fail
    clear k0 k1 k2 k3 k4 k5 k6 k7 k8 k9 k10 d0 d1 d2 d3 d4 d5 d6 d7 d8 d9 d10 f4 f5 f6 f7 f8
    have BX7 := Lib.hid (BX6.out.far ⟨w3.heap.size, 6, none⟩ (.int .i64 se2) hne)
    have BD7 := Lib.hid (BD6.out.set6 se2)
    have SM := Lib.hid (Sl.owned (owns_set HOW.out ⟨w3.heap.size, 6, none⟩ (Nat.lt_succ_self _) (.int .i64 se2)))
    have y1 := Y1.out.far0 ⟨w3.heap.size, 6, none⟩ (.int .i64 se2) (fun b off e h => by have := hg3.out h; simp at e; show b ≠ w3.heap.size; omega)
    have y2 := Y2.out.far0 ⟨w3.heap.size, 6, none⟩ (.int .i64 se2) (fun b off e h => by have := hg4.out h; simp at e; show b ≠ w3.heap.size; omega)
    have hb7 := Lib.hid (hb6.out.setCell (p := ⟨w3.heap.size, 6, none⟩) (Nat.le_of_lt lc3) (.int .i64 se2))
    clear BX6 BD6 HOW Y1 Y2 hb6
    have Y1 := Lib.hid y1
    have Y2 := Lib.hid y2
    have LM := L1
    have ALM := Lib.hid (all_la L')
    clear y1 y2 lz6
    generalize w6.setCell ⟨w3.heap.size, 6, none⟩ (.int .i64 se2) = w7 at *
    obtain ⟨bd, ebd⟩ : ∃ x, bo (cl 1 4 st1) (cl 2 6 sl1) (cs se2) (cl 1 2 wa1) (mov (la (la L'))) = x := ⟨_, rfl⟩
    obtain ⟨bc_, ebc⟩ : ∃ x, bo (cl 1 4 st1) (cl 2 6 sl1) (cs se1) (cl 1 2 wa1) (mov (la (la L'))) = x := ⟨_, rfl⟩
    obtain ⟨dd, edd⟩ : ∃ x, dr (cl 1 4 st1) (cl 2 6 sl1) (cs se2) (cl 1 2 wa1) (mov (la (la L'))) = x := ⟨_, rfl⟩
    obtain ⟨dc, edc⟩ : ∃ x, dr (cl 1 4 st1) (cl 2 6 sl1) (cs se1) (cl 1 2 wa1) (mov (la (la L'))) = x := ⟨_, rfl⟩
    have hmo : mov (la L') ≤ mov (la L') := Int.le_refl _
    have t1 : decide (bc_ ≤ bd) = true := decide_eq_true (by rw [← ebd, ← ebc]; exact rise_bo _ _ _ _ _ _ _ _ _ _ (by omega) (by omega) (by omega) (by omega) (by omega) (by omega) (by omega) (by omega) (by omega) (by omega) hmo)
    have t2 : decide (dc ≤ dd) = true := decide_eq_true (by rw [← edd, ← edc]; exact rise_dr _ _ _ _ _ _ _ _ _ _ (by omega) (by omega) (by omega) (by omega) (by omega) (by omega) (by omega) (by omega) (by omega) (by omega) hmo)
    have EBD := Lib.hid ebd
    have EBC := Lib.hid ebc
    have EDD := Lib.hid edd
    have EDC := Lib.hid edc
    clear ebd ebc edd edc hmo
    have Rd : Hid (∀ W : World, Below w7.heap.size w7 W → Calls Try.prog 13 #[.agg #[.int .i64 m1, .int .i64 wd1, .int .i64 ro1, .int .i64 qu1, .int .i64 st1, .int .i64 sl1, .int .i64 se2, .int .i64 wa1, .slice (some ⟨gg, 0, none⟩) N cap, .bool tb, .slice (some ⟨g2, 0, none⟩) N2 N2]] W fun e w' => e = .returned (.bool true) ∧ Below W.heap.size W w') := Lib.hid (fun W hW => (right_any m1 wd1 ro1 qu1 st1 sl1 se2 wa1 (some ⟨gg, 0, none⟩) (some ⟨g2, 0, none⟩) cap N2 (N) N2 tb (la L') W LM.out (by omega) (by omega) (SM.out.below hW)).mono fun e w' ⟨he, hb⟩ => ⟨he.trans (ret_bl (right_of _ _ _ _ _ _ _ _ _ _ _ ALM.out (by omega) (by omega) (by omega) (by omega) (by omega) (by omega) (by omega) (by omega) (by omega) (by omega) (by omega))), hb⟩)
    have Bd : Hid (∀ W : World, Below w7.heap.size w7 W → Calls Try.prog 16 #[.agg #[.int .i64 m1, .int .i64 wd1, .int .i64 ro1, .int .i64 qu1, .int .i64 st1, .int .i64 sl1, .int .i64 se2, .int .i64 wa1, .slice (some ⟨gg, 0, none⟩) N cap, .bool tb, .slice (some ⟨g2, 0, none⟩) N2 N2]] W fun e w' => e = .returned (.int .i64 bd) ∧ Below W.heap.size W w') := Lib.hid (fun W hW => (bound_any m1 wd1 ro1 qu1 st1 sl1 se2 wa1 (some ⟨gg, 0, none⟩) (some ⟨g2, 0, none⟩) cap N2 (la L') (ta T') tb (N) N2 W LM.out L2.out (by omega) (by omega) (SM.out.below hW) (Y2.out.below hW)).mono fun e w' ⟨he, hb⟩ => ⟨he.trans (ret_i64 (EBD.out)), hb⟩)
    have Bc : Hid (∀ W : World, Below w7.heap.size w7 W → Calls Try.prog 16 #[.agg #[.int .i64 m1, .int .i64 wd1, .int .i64 ro1, .int .i64 qu1, .int .i64 st1, .int .i64 sl1, .int .i64 se1, .int .i64 wa1, .slice (some ⟨g, 0, none⟩) N N, .bool tb, .slice (some ⟨g2, 0, none⟩) N2 N2]] W fun e w' => e = .returned (.int .i64 bc_) ∧ Below W.heap.size W w') := Lib.hid (fun W hW => (bound_any m1 wd1 ro1 qu1 st1 sl1 se1 wa1 (some ⟨g, 0, none⟩) (some ⟨g2, 0, none⟩) N N2 (la L') (ta T') tb N N2 W L1.out L2.out (by omega) (by omega) (Y1.out.below hW) (Y2.out.below hW)).mono fun e w' ⟨he, hb⟩ => ⟨he.trans (ret_i64 (EBC.out)), hb⟩)
    have Dd : Hid (∀ W : World, Below w7.heap.size w7 W → Calls Try.prog 17 #[.agg #[.int .i64 m1, .int .i64 wd1, .int .i64 ro1, .int .i64 qu1, .int .i64 st1, .int .i64 sl1, .int .i64 se2, .int .i64 wa1, .slice (some ⟨gg, 0, none⟩) N cap, .bool tb, .slice (some ⟨g2, 0, none⟩) N2 N2]] W fun e w' => e = .returned (.int .i64 dd) ∧ Below W.heap.size W w') := Lib.hid (fun W hW => (drain_any m1 wd1 ro1 qu1 st1 sl1 se2 wa1 (some ⟨gg, 0, none⟩) (some ⟨g2, 0, none⟩) cap N2 (la L') (ta T') tb (N) N2 W LM.out L2.out (by omega) (by omega) (SM.out.below hW) (Y2.out.below hW)).mono fun e w' ⟨he, hb⟩ => ⟨he.trans (ret_i64 (EDD.out)), hb⟩)
    have Dc : Hid (∀ W : World, Below w7.heap.size w7 W → Calls Try.prog 17 #[.agg #[.int .i64 m1, .int .i64 wd1, .int .i64 ro1, .int .i64 qu1, .int .i64 st1, .int .i64 sl1, .int .i64 se1, .int .i64 wa1, .slice (some ⟨g, 0, none⟩) N N, .bool tb, .slice (some ⟨g2, 0, none⟩) N2 N2]] W fun e w' => e = .returned (.int .i64 dc) ∧ Below W.heap.size W w') := Lib.hid (fun W hW => (drain_any m1 wd1 ro1 qu1 st1 sl1 se1 wa1 (some ⟨g, 0, none⟩) (some ⟨g2, 0, none⟩) N N2 (la L') (ta T') tb N N2 W L1.out L2.out (by omega) (by omega) (Y1.out.below hW) (Y2.out.below hW)).mono fun e w' ⟨he, hb⟩ => ⟨he.trans (ret_i64 (EDC.out)), hb⟩)
    have lb7 : w.heap.size < w7.heap.size := Box.lt BX7.out
    have ld7 : w3.heap.size < w7.heap.size := Box.lt BD7.out
    clear SM Y1 Y2 LM ALM L1 L2 EBD EBC EDD EDC
    refine wp_region_held_drew (S := fun w' => Box w' w.heap.size m1 wd1 ro1 qu1 st1 sl1 se1 wa1 (some ⟨g, 0, none⟩) N N tb (some ⟨g2, 0, none⟩) N2 N2 ∧ Box w' w3.heap.size m1 wd1 ro1 qu1 st1 sl1 se2 wa1 (some ⟨gg, 0, none⟩) N cap tb (some ⟨g2, 0, none⟩) N2 N2 ∧ w7.heap.size ≤ w'.heap.size ∧ Below w7.heap.size w7 w') (by kernel_rfl) ⟨BX7.out, BD7.out, Nat.le_refl _, (Below.refl _ _).drew⟩ (fun hHeld => ?_)
    refine wpAnyH_ready (rs := [0]) (by kernel_rfl) (by simp) ?_
    refine AllReadyH.cons (o := ⟨some 53, _, _, _, _, _⟩) rfl (fun K hK => ?_) AllReadyH.nil
    go_simp
    refine (alive_any _).mono ?_; rintro e w' ⟨rfl, hg⟩
    refine hK.out _ _ ⟨Box.below hHeld.1 hg (Nat.lt_of_lt_of_le lb7 hHeld.2.2.1), Box.below hHeld.2.1 hg (Nat.lt_of_lt_of_le ld7 hHeld.2.2.1), Nat.le_trans hHeld.2.2.1 hg.size, hHeld.2.2.2.trans (hg.mono hHeld.2.2.1)⟩ (fun hHeld' => ?_)
    clear hK K hHeld
    have hHeld := hHeld'
    clear hHeld'
    try simp only [Act.put, List.setIfInBounds_toArray, List.set_cons_zero, List.set_cons_succ]
    refine wpAnyH_take (i := 1) (oi := ⟨some 54, _, _, _, _, _⟩) (v := ?vwc1) rfl (by kernel_rfl) (by kernel_rfl) (by kernel_rfl) (fun _ _ _ h => h) (Or.inl ⟨by rfl, ?hywc1⟩) hHeld ?restwc1
    case hywc1 => (intro w hSw; go_simp; try (with_reducible rfl))
    try simp only [Act.put, List.setIfInBounds_toArray, List.set_cons_zero, List.set_cons_succ]
    refine tk_box (i := 2) (oi := ⟨some 55, _, _, _, _, _⟩) rfl (by kernel_rfl) (by kernel_rfl) (by kernel_rfl) (fun _ _ _ h => h) (by rfl) _ rfl _ rfl _ (fun _ h => h.2.1) rfl hHeld ?_
    try simp only [Act.put, List.setIfInBounds_toArray, List.set_cons_zero, List.set_cons_succ]
    refine wpAnyH_ready (rs := [3]) (by kernel_rfl) (by simp) ?_
    refine AllReadyH.cons (o := ⟨some 56, _, _, _, _, _⟩) rfl (fun K hK => ?_) AllReadyH.nil
    go_simp
    refine (Rd.out _ hHeld.2.2.2).mono ?_; rintro e w' ⟨rfl, hg⟩
    refine hK.out _ _ ⟨Box.below hHeld.1 hg (Nat.lt_of_lt_of_le lb7 hHeld.2.2.1), Box.below hHeld.2.1 hg (Nat.lt_of_lt_of_le ld7 hHeld.2.2.1), Nat.le_trans hHeld.2.2.1 hg.size, hHeld.2.2.2.trans (hg.mono hHeld.2.2.1)⟩ (fun hHeld' => ?_)
    clear hK K hHeld
    have hHeld := hHeld'
    clear hHeld'
    try simp only [Act.put, List.setIfInBounds_toArray, List.set_cons_zero, List.set_cons_succ]
    refine wpAnyH_take (i := 4) (oi := ⟨some 57, _, _, _, _, _⟩) (v := ?vwc4) rfl (by kernel_rfl) (by kernel_rfl) (by kernel_rfl) (fun _ _ _ h => h) (Or.inl ⟨by rfl, ?hywc4⟩) hHeld ?restwc4
    case hywc4 => (intro w hSw; go_simp; try (with_reducible rfl))
    try simp only [Act.put, List.setIfInBounds_toArray, List.set_cons_zero, List.set_cons_succ]
    refine wpAnyH_take (i := 5) (oi := ⟨some 58, _, _, _, _, _⟩) (v := ?vwc5) rfl (by kernel_rfl) (by kernel_rfl) (by kernel_rfl) (fun _ _ _ h => h) (Or.inl ⟨by rfl, ?hywc5⟩) hHeld ?restwc5
    case hywc5 => (intro w hSw; go_simp; try (with_reducible rfl))
    try simp only [Act.put, List.setIfInBounds_toArray, List.set_cons_zero, List.set_cons_succ]
    refine tk_box (i := 6) (oi := ⟨some 59, _, _, _, _, _⟩) rfl (by kernel_rfl) (by kernel_rfl) (by kernel_rfl) (fun _ _ _ h => h) (by rfl) _ rfl _ rfl _ (fun _ h => h.2.1) rfl hHeld ?_
    try simp only [Act.put, List.setIfInBounds_toArray, List.set_cons_zero, List.set_cons_succ]
    refine tk_box (i := 8) (oi := ⟨some 61, _, _, _, _, _⟩) rfl (by kernel_rfl) (by kernel_rfl) (by kernel_rfl) (fun _ _ _ h => h) (by rfl) _ rfl _ rfl _ (fun _ h => h.1) rfl hHeld ?_
    try simp only [Act.put, List.setIfInBounds_toArray, List.set_cons_zero, List.set_cons_succ]
    refine wpAnyH_ready (rs := [7]) (by kernel_rfl) (by simp) ?_
    refine AllReadyH.cons (o := ⟨some 60, _, _, _, _, _⟩) rfl (fun K hK => ?_) AllReadyH.nil
    go_simp
    refine (Bd.out _ hHeld.2.2.2).mono ?_; rintro e w' ⟨rfl, hg⟩
    refine hK.out _ _ ⟨Box.below hHeld.1 hg (Nat.lt_of_lt_of_le lb7 hHeld.2.2.1), Box.below hHeld.2.1 hg (Nat.lt_of_lt_of_le ld7 hHeld.2.2.1), Nat.le_trans hHeld.2.2.1 hg.size, hHeld.2.2.2.trans (hg.mono hHeld.2.2.1)⟩ (fun hHeld' => ?_)
    clear hK K hHeld
    have hHeld := hHeld'
    clear hHeld'
    try simp only [Act.put, List.setIfInBounds_toArray, List.set_cons_zero, List.set_cons_succ]
    refine wpAnyH_ready (rs := [9]) (by kernel_rfl) (by simp) ?_
    refine AllReadyH.cons (o := ⟨some 62, _, _, _, _, _⟩) rfl (fun K hK => ?_) AllReadyH.nil
    go_simp
    refine (Bc.out _ hHeld.2.2.2).mono ?_; rintro e w' ⟨rfl, hg⟩
    refine hK.out _ _ ⟨Box.below hHeld.1 hg (Nat.lt_of_lt_of_le lb7 hHeld.2.2.1), Box.below hHeld.2.1 hg (Nat.lt_of_lt_of_le ld7 hHeld.2.2.1), Nat.le_trans hHeld.2.2.1 hg.size, hHeld.2.2.2.trans (hg.mono hHeld.2.2.1)⟩ (fun hHeld' => ?_)
    clear hK K hHeld
    have hHeld := hHeld'
    clear hHeld'
    try simp only [Act.put, List.setIfInBounds_toArray, List.set_cons_zero, List.set_cons_succ]
    refine wpAnyH_take (i := 10) (oi := ⟨some 63, _, _, _, _, _⟩) (v := ?vwc10) rfl (by kernel_rfl) (by kernel_rfl) (by kernel_rfl) (fun _ _ _ h => h) (Or.inl ⟨by rfl, ?hywc10⟩) hHeld ?restwc10
    case hywc10 => (intro w hSw; go_simp; try (with_reducible rfl))
    try simp only [Act.put, List.setIfInBounds_toArray, List.set_cons_zero, List.set_cons_succ]
    refine wpAnyH_take (i := 11) (oi := ⟨some 64, _, _, _, _, _⟩) (v := ?vwc11) rfl (by kernel_rfl) (by kernel_rfl) (by kernel_rfl) (fun _ _ _ h => h) (Or.inl ⟨by rfl, ?hywc11⟩) hHeld ?restwc11
    case hywc11 => (intro w hSw; go_simp; try (with_reducible rfl))
    try simp only [Act.put, List.setIfInBounds_toArray, List.set_cons_zero, List.set_cons_succ]
    refine wpAnyH_take (i := 12) (oi := ⟨some 65, _, _, _, _, _⟩) (v := ?vwc12) rfl (by kernel_rfl) (by kernel_rfl) (by kernel_rfl) (fun _ _ _ h => h) (Or.inl ⟨by rfl, ?hywc12⟩) hHeld ?restwc12
    case hywc12 => (intro w hSw; go_simp; try (with_reducible rfl))
    try simp only [Act.put, List.setIfInBounds_toArray, List.set_cons_zero, List.set_cons_succ]
    refine tk_box (i := 13) (oi := ⟨some 66, _, _, _, _, _⟩) rfl (by kernel_rfl) (by kernel_rfl) (by kernel_rfl) (fun _ _ _ h => h) (by rfl) _ rfl _ rfl _ (fun _ h => h.2.1) rfl hHeld ?_
    try simp only [Act.put, List.setIfInBounds_toArray, List.set_cons_zero, List.set_cons_succ]
    refine tk_box (i := 15) (oi := ⟨some 68, _, _, _, _, _⟩) rfl (by kernel_rfl) (by kernel_rfl) (by kernel_rfl) (fun _ _ _ h => h) (by rfl) _ rfl _ rfl _ (fun _ h => h.1) rfl hHeld ?_
    try simp only [Act.put, List.setIfInBounds_toArray, List.set_cons_zero, List.set_cons_succ]
    refine wpAnyH_ready (rs := [14]) (by kernel_rfl) (by simp) ?_
    refine AllReadyH.cons (o := ⟨some 67, _, _, _, _, _⟩) rfl (fun K hK => ?_) AllReadyH.nil
    go_simp
    refine (Dd.out _ hHeld.2.2.2).mono ?_; rintro e w' ⟨rfl, hg⟩
    refine hK.out _ _ ⟨Box.below hHeld.1 hg (Nat.lt_of_lt_of_le lb7 hHeld.2.2.1), Box.below hHeld.2.1 hg (Nat.lt_of_lt_of_le ld7 hHeld.2.2.1), Nat.le_trans hHeld.2.2.1 hg.size, hHeld.2.2.2.trans (hg.mono hHeld.2.2.1)⟩ (fun hHeld' => ?_)
    clear hK K hHeld
    have hHeld := hHeld'
    clear hHeld'
    try simp only [Act.put, List.setIfInBounds_toArray, List.set_cons_zero, List.set_cons_succ]
    refine wpAnyH_ready (rs := [16]) (by kernel_rfl) (by simp) ?_
    refine AllReadyH.cons (o := ⟨some 69, _, _, _, _, _⟩) rfl (fun K hK => ?_) AllReadyH.nil
    go_simp
    refine (Dc.out _ hHeld.2.2.2).mono ?_; rintro e w' ⟨rfl, hg⟩
    refine hK.out _ _ ⟨Box.below hHeld.1 hg (Nat.lt_of_lt_of_le lb7 hHeld.2.2.1), Box.below hHeld.2.1 hg (Nat.lt_of_lt_of_le ld7 hHeld.2.2.1), Nat.le_trans hHeld.2.2.1 hg.size, hHeld.2.2.2.trans (hg.mono hHeld.2.2.1)⟩ (fun hHeld' => ?_)
    clear hK K hHeld
    have hHeld := hHeld'
    clear hHeld'
    try simp only [Act.put, List.setIfInBounds_toArray, List.set_cons_zero, List.set_cons_succ]
    refine wpAnyH_take (i := 17) (oi := ⟨some 70, _, _, _, _, _⟩) (v := ?vwc17) rfl (by kernel_rfl) (by kernel_rfl) (by kernel_rfl) (fun _ _ _ h => h) (Or.inl ⟨by rfl, ?hywc17⟩) hHeld ?restwc17
    case hywc17 => (intro w hSw; go_simp; try (with_reducible rfl))
    try simp only [Act.put, List.setIfInBounds_toArray, List.set_cons_zero, List.set_cons_succ]
    refine wpAnyH_take (i := 18) (oi := ⟨some 71, _, _, _, _, _⟩) (v := ?vwc18) rfl (by kernel_rfl) (by kernel_rfl) (by kernel_rfl) (fun _ _ _ h => h) (Or.inl ⟨by rfl, ?hywc18⟩) hHeld ?restwc18
    case hywc18 => (intro w hSw; go_simp; try (with_reducible rfl))
    try simp only [Act.put, List.setIfInBounds_toArray, List.set_cons_zero, List.set_cons_succ]
    refine wpAnyH_take (i := 19) (oi := ⟨some 4, _, _, _, _, _⟩) (v := ?vwc19) rfl (by kernel_rfl) (by kernel_rfl) (by kernel_rfl) (fun _ _ _ h => h) (Or.inl ⟨by rfl, ?hywc19⟩) hHeld ?restwc19
    case hywc19 => (intro w hSw; go_simp; try (with_reducible rfl))
    try simp only [Act.put, List.setIfInBounds_toArray, List.set_cons_zero, List.set_cons_succ]
    refine wpAnyH_done (by kernel_rfl) ?_ _
    have Z := Lib.hid hHeld.2.2.2
    clear hHeld
    go_wp2
    go_ret
    exact ⟨rfl, hb7.out.trans (Z.out.mono (Nat.le_of_lt lb7))⟩
  · subst e
    clear hr0 hr1
    go_wp2_with fail
    clear k0 k1 k2 k3 k4 k5 k6 k7 k8 k9 k10 d0 d1 d2 d3 d4 d5 d6 d7 d8 d9 d10 f4 f5 f6 f7 f8
    have BX7 := Lib.hid (BX6.out.far ⟨w3.heap.size, 7, none⟩ (.int .i64 2) hne)
    have BD7 := Lib.hid (BD6.out.set7 2)
    have SM := Lib.hid (Sl.owned (owns_set HOW.out ⟨w3.heap.size, 7, none⟩ (Nat.lt_succ_self _) (.int .i64 2)))
    have y1 := Y1.out.far0 ⟨w3.heap.size, 7, none⟩ (.int .i64 2) (fun b off e h => by have := hg3.out h; simp at e; show b ≠ w3.heap.size; omega)
    have y2 := Y2.out.far0 ⟨w3.heap.size, 7, none⟩ (.int .i64 2) (fun b off e h => by have := hg4.out h; simp at e; show b ≠ w3.heap.size; omega)
    have hb7 := Lib.hid (hb6.out.setCell (p := ⟨w3.heap.size, 7, none⟩) (Nat.le_of_lt lc3) (.int .i64 2))
    clear BX6 BD6 HOW Y1 Y2 hb6
    have Y1 := Lib.hid y1
    have Y2 := Lib.hid y2
    have LM := L1
    have ALM := Lib.hid (all_la L')
    clear y1 y2 lz6
    generalize w6.setCell ⟨w3.heap.size, 7, none⟩ (.int .i64 2) = w7 at *
    obtain ⟨bd, ebd⟩ : ∃ x, bo (cl 1 4 st1) (cl 2 6 sl1) (cs se1) (cl 1 2 2) (mov (la (la L'))) = x := ⟨_, rfl⟩
    obtain ⟨bc_, ebc⟩ : ∃ x, bo (cl 1 4 st1) (cl 2 6 sl1) (cs se1) (cl 1 2 wa1) (mov (la (la L'))) = x := ⟨_, rfl⟩
    obtain ⟨dd, edd⟩ : ∃ x, dr (cl 1 4 st1) (cl 2 6 sl1) (cs se1) (cl 1 2 2) (mov (la (la L'))) = x := ⟨_, rfl⟩
    obtain ⟨dc, edc⟩ : ∃ x, dr (cl 1 4 st1) (cl 2 6 sl1) (cs se1) (cl 1 2 wa1) (mov (la (la L'))) = x := ⟨_, rfl⟩
    have hmo : mov (la L') ≤ mov (la L') := Int.le_refl _
    have t1 : decide (bc_ ≤ bd) = true := decide_eq_true (by rw [← ebd, ← ebc]; exact rise_bo _ _ _ _ _ _ _ _ _ _ (by omega) (by omega) (by omega) (by omega) (by omega) (by omega) (by omega) (by omega) (by omega) (by omega) hmo)
    have t2 : decide (dc ≤ dd) = true := decide_eq_true (by rw [← edd, ← edc]; exact rise_dr _ _ _ _ _ _ _ _ _ _ (by omega) (by omega) (by omega) (by omega) (by omega) (by omega) (by omega) (by omega) (by omega) (by omega) hmo)
    have EBD := Lib.hid ebd
    have EBC := Lib.hid ebc
    have EDD := Lib.hid edd
    have EDC := Lib.hid edc
    clear ebd ebc edd edc hmo
    have Rd : Hid (∀ W : World, Below w7.heap.size w7 W → Calls Try.prog 13 #[.agg #[.int .i64 m1, .int .i64 wd1, .int .i64 ro1, .int .i64 qu1, .int .i64 st1, .int .i64 sl1, .int .i64 se1, .int .i64 2, .slice (some ⟨gg, 0, none⟩) N cap, .bool tb, .slice (some ⟨g2, 0, none⟩) N2 N2]] W fun e w' => e = .returned (.bool true) ∧ Below W.heap.size W w') := Lib.hid (fun W hW => (right_any m1 wd1 ro1 qu1 st1 sl1 se1 2 (some ⟨gg, 0, none⟩) (some ⟨g2, 0, none⟩) cap N2 (N) N2 tb (la L') W LM.out (by omega) (by omega) (SM.out.below hW)).mono fun e w' ⟨he, hb⟩ => ⟨he.trans (ret_bl (right_of _ _ _ _ _ _ _ _ _ _ _ ALM.out (by omega) (by omega) (by omega) (by omega) (by omega) (by omega) (by omega) (by omega) (by omega) (by omega) (by omega))), hb⟩)
    have Bd : Hid (∀ W : World, Below w7.heap.size w7 W → Calls Try.prog 16 #[.agg #[.int .i64 m1, .int .i64 wd1, .int .i64 ro1, .int .i64 qu1, .int .i64 st1, .int .i64 sl1, .int .i64 se1, .int .i64 2, .slice (some ⟨gg, 0, none⟩) N cap, .bool tb, .slice (some ⟨g2, 0, none⟩) N2 N2]] W fun e w' => e = .returned (.int .i64 bd) ∧ Below W.heap.size W w') := Lib.hid (fun W hW => (bound_any m1 wd1 ro1 qu1 st1 sl1 se1 2 (some ⟨gg, 0, none⟩) (some ⟨g2, 0, none⟩) cap N2 (la L') (ta T') tb (N) N2 W LM.out L2.out (by omega) (by omega) (SM.out.below hW) (Y2.out.below hW)).mono fun e w' ⟨he, hb⟩ => ⟨he.trans (ret_i64 (EBD.out)), hb⟩)
    have Bc : Hid (∀ W : World, Below w7.heap.size w7 W → Calls Try.prog 16 #[.agg #[.int .i64 m1, .int .i64 wd1, .int .i64 ro1, .int .i64 qu1, .int .i64 st1, .int .i64 sl1, .int .i64 se1, .int .i64 wa1, .slice (some ⟨g, 0, none⟩) N N, .bool tb, .slice (some ⟨g2, 0, none⟩) N2 N2]] W fun e w' => e = .returned (.int .i64 bc_) ∧ Below W.heap.size W w') := Lib.hid (fun W hW => (bound_any m1 wd1 ro1 qu1 st1 sl1 se1 wa1 (some ⟨g, 0, none⟩) (some ⟨g2, 0, none⟩) N N2 (la L') (ta T') tb N N2 W L1.out L2.out (by omega) (by omega) (Y1.out.below hW) (Y2.out.below hW)).mono fun e w' ⟨he, hb⟩ => ⟨he.trans (ret_i64 (EBC.out)), hb⟩)
    have Dd : Hid (∀ W : World, Below w7.heap.size w7 W → Calls Try.prog 17 #[.agg #[.int .i64 m1, .int .i64 wd1, .int .i64 ro1, .int .i64 qu1, .int .i64 st1, .int .i64 sl1, .int .i64 se1, .int .i64 2, .slice (some ⟨gg, 0, none⟩) N cap, .bool tb, .slice (some ⟨g2, 0, none⟩) N2 N2]] W fun e w' => e = .returned (.int .i64 dd) ∧ Below W.heap.size W w') := Lib.hid (fun W hW => (drain_any m1 wd1 ro1 qu1 st1 sl1 se1 2 (some ⟨gg, 0, none⟩) (some ⟨g2, 0, none⟩) cap N2 (la L') (ta T') tb (N) N2 W LM.out L2.out (by omega) (by omega) (SM.out.below hW) (Y2.out.below hW)).mono fun e w' ⟨he, hb⟩ => ⟨he.trans (ret_i64 (EDD.out)), hb⟩)
    have Dc : Hid (∀ W : World, Below w7.heap.size w7 W → Calls Try.prog 17 #[.agg #[.int .i64 m1, .int .i64 wd1, .int .i64 ro1, .int .i64 qu1, .int .i64 st1, .int .i64 sl1, .int .i64 se1, .int .i64 wa1, .slice (some ⟨g, 0, none⟩) N N, .bool tb, .slice (some ⟨g2, 0, none⟩) N2 N2]] W fun e w' => e = .returned (.int .i64 dc) ∧ Below W.heap.size W w') := Lib.hid (fun W hW => (drain_any m1 wd1 ro1 qu1 st1 sl1 se1 wa1 (some ⟨g, 0, none⟩) (some ⟨g2, 0, none⟩) N N2 (la L') (ta T') tb N N2 W L1.out L2.out (by omega) (by omega) (Y1.out.below hW) (Y2.out.below hW)).mono fun e w' ⟨he, hb⟩ => ⟨he.trans (ret_i64 (EDC.out)), hb⟩)
    have lb7 : w.heap.size < w7.heap.size := Box.lt BX7.out
    have ld7 : w3.heap.size < w7.heap.size := Box.lt BD7.out
    clear SM Y1 Y2 LM ALM L1 L2 EBD EBC EDD EDC
    refine wp_region_held_drew (S := fun w' => Box w' w.heap.size m1 wd1 ro1 qu1 st1 sl1 se1 wa1 (some ⟨g, 0, none⟩) N N tb (some ⟨g2, 0, none⟩) N2 N2 ∧ Box w' w3.heap.size m1 wd1 ro1 qu1 st1 sl1 se1 2 (some ⟨gg, 0, none⟩) N cap tb (some ⟨g2, 0, none⟩) N2 N2 ∧ w7.heap.size ≤ w'.heap.size ∧ Below w7.heap.size w7 w') (by kernel_rfl) ⟨BX7.out, BD7.out, Nat.le_refl _, (Below.refl _ _).drew⟩ (fun hHeld => ?_)
    refine wpAnyH_ready (rs := [0]) (by kernel_rfl) (by simp) ?_
    refine AllReadyH.cons (o := ⟨some 53, _, _, _, _, _⟩) rfl (fun K hK => ?_) AllReadyH.nil
    go_simp
    refine (alive_any _).mono ?_; rintro e w' ⟨rfl, hg⟩
    refine hK.out _ _ ⟨Box.below hHeld.1 hg (Nat.lt_of_lt_of_le lb7 hHeld.2.2.1), Box.below hHeld.2.1 hg (Nat.lt_of_lt_of_le ld7 hHeld.2.2.1), Nat.le_trans hHeld.2.2.1 hg.size, hHeld.2.2.2.trans (hg.mono hHeld.2.2.1)⟩ (fun hHeld' => ?_)
    clear hK K hHeld
    have hHeld := hHeld'
    clear hHeld'
    try simp only [Act.put, List.setIfInBounds_toArray, List.set_cons_zero, List.set_cons_succ]
    refine wpAnyH_take (i := 1) (oi := ⟨some 54, _, _, _, _, _⟩) (v := ?vwd1) rfl (by kernel_rfl) (by kernel_rfl) (by kernel_rfl) (fun _ _ _ h => h) (Or.inl ⟨by rfl, ?hywd1⟩) hHeld ?restwd1
    case hywd1 => (intro w hSw; go_simp; try (with_reducible rfl))
    try simp only [Act.put, List.setIfInBounds_toArray, List.set_cons_zero, List.set_cons_succ]
    refine tk_box (i := 2) (oi := ⟨some 55, _, _, _, _, _⟩) rfl (by kernel_rfl) (by kernel_rfl) (by kernel_rfl) (fun _ _ _ h => h) (by rfl) _ rfl _ rfl _ (fun _ h => h.2.1) rfl hHeld ?_
    try simp only [Act.put, List.setIfInBounds_toArray, List.set_cons_zero, List.set_cons_succ]
    refine wpAnyH_ready (rs := [3]) (by kernel_rfl) (by simp) ?_
    refine AllReadyH.cons (o := ⟨some 56, _, _, _, _, _⟩) rfl (fun K hK => ?_) AllReadyH.nil
    go_simp
    refine (Rd.out _ hHeld.2.2.2).mono ?_; rintro e w' ⟨rfl, hg⟩
    refine hK.out _ _ ⟨Box.below hHeld.1 hg (Nat.lt_of_lt_of_le lb7 hHeld.2.2.1), Box.below hHeld.2.1 hg (Nat.lt_of_lt_of_le ld7 hHeld.2.2.1), Nat.le_trans hHeld.2.2.1 hg.size, hHeld.2.2.2.trans (hg.mono hHeld.2.2.1)⟩ (fun hHeld' => ?_)
    clear hK K hHeld
    have hHeld := hHeld'
    clear hHeld'
    try simp only [Act.put, List.setIfInBounds_toArray, List.set_cons_zero, List.set_cons_succ]
    refine wpAnyH_take (i := 4) (oi := ⟨some 57, _, _, _, _, _⟩) (v := ?vwd4) rfl (by kernel_rfl) (by kernel_rfl) (by kernel_rfl) (fun _ _ _ h => h) (Or.inl ⟨by rfl, ?hywd4⟩) hHeld ?restwd4
    case hywd4 => (intro w hSw; go_simp; try (with_reducible rfl))
    try simp only [Act.put, List.setIfInBounds_toArray, List.set_cons_zero, List.set_cons_succ]
    refine wpAnyH_take (i := 5) (oi := ⟨some 58, _, _, _, _, _⟩) (v := ?vwd5) rfl (by kernel_rfl) (by kernel_rfl) (by kernel_rfl) (fun _ _ _ h => h) (Or.inl ⟨by rfl, ?hywd5⟩) hHeld ?restwd5
    case hywd5 => (intro w hSw; go_simp; try (with_reducible rfl))
    try simp only [Act.put, List.setIfInBounds_toArray, List.set_cons_zero, List.set_cons_succ]
    refine tk_box (i := 6) (oi := ⟨some 59, _, _, _, _, _⟩) rfl (by kernel_rfl) (by kernel_rfl) (by kernel_rfl) (fun _ _ _ h => h) (by rfl) _ rfl _ rfl _ (fun _ h => h.2.1) rfl hHeld ?_
    try simp only [Act.put, List.setIfInBounds_toArray, List.set_cons_zero, List.set_cons_succ]
    refine tk_box (i := 8) (oi := ⟨some 61, _, _, _, _, _⟩) rfl (by kernel_rfl) (by kernel_rfl) (by kernel_rfl) (fun _ _ _ h => h) (by rfl) _ rfl _ rfl _ (fun _ h => h.1) rfl hHeld ?_
    try simp only [Act.put, List.setIfInBounds_toArray, List.set_cons_zero, List.set_cons_succ]
    refine wpAnyH_ready (rs := [7]) (by kernel_rfl) (by simp) ?_
    refine AllReadyH.cons (o := ⟨some 60, _, _, _, _, _⟩) rfl (fun K hK => ?_) AllReadyH.nil
    go_simp
    refine (Bd.out _ hHeld.2.2.2).mono ?_; rintro e w' ⟨rfl, hg⟩
    refine hK.out _ _ ⟨Box.below hHeld.1 hg (Nat.lt_of_lt_of_le lb7 hHeld.2.2.1), Box.below hHeld.2.1 hg (Nat.lt_of_lt_of_le ld7 hHeld.2.2.1), Nat.le_trans hHeld.2.2.1 hg.size, hHeld.2.2.2.trans (hg.mono hHeld.2.2.1)⟩ (fun hHeld' => ?_)
    clear hK K hHeld
    have hHeld := hHeld'
    clear hHeld'
    try simp only [Act.put, List.setIfInBounds_toArray, List.set_cons_zero, List.set_cons_succ]
    refine wpAnyH_ready (rs := [9]) (by kernel_rfl) (by simp) ?_
    refine AllReadyH.cons (o := ⟨some 62, _, _, _, _, _⟩) rfl (fun K hK => ?_) AllReadyH.nil
    go_simp
    refine (Bc.out _ hHeld.2.2.2).mono ?_; rintro e w' ⟨rfl, hg⟩
    refine hK.out _ _ ⟨Box.below hHeld.1 hg (Nat.lt_of_lt_of_le lb7 hHeld.2.2.1), Box.below hHeld.2.1 hg (Nat.lt_of_lt_of_le ld7 hHeld.2.2.1), Nat.le_trans hHeld.2.2.1 hg.size, hHeld.2.2.2.trans (hg.mono hHeld.2.2.1)⟩ (fun hHeld' => ?_)
    clear hK K hHeld
    have hHeld := hHeld'
    clear hHeld'
    try simp only [Act.put, List.setIfInBounds_toArray, List.set_cons_zero, List.set_cons_succ]
    refine wpAnyH_take (i := 10) (oi := ⟨some 63, _, _, _, _, _⟩) (v := ?vwd10) rfl (by kernel_rfl) (by kernel_rfl) (by kernel_rfl) (fun _ _ _ h => h) (Or.inl ⟨by rfl, ?hywd10⟩) hHeld ?restwd10
    case hywd10 => (intro w hSw; go_simp; try (with_reducible rfl))
    try simp only [Act.put, List.setIfInBounds_toArray, List.set_cons_zero, List.set_cons_succ]
    refine wpAnyH_take (i := 11) (oi := ⟨some 64, _, _, _, _, _⟩) (v := ?vwd11) rfl (by kernel_rfl) (by kernel_rfl) (by kernel_rfl) (fun _ _ _ h => h) (Or.inl ⟨by rfl, ?hywd11⟩) hHeld ?restwd11
    case hywd11 => (intro w hSw; go_simp; try (with_reducible rfl))
    try simp only [Act.put, List.setIfInBounds_toArray, List.set_cons_zero, List.set_cons_succ]
    refine wpAnyH_take (i := 12) (oi := ⟨some 65, _, _, _, _, _⟩) (v := ?vwd12) rfl (by kernel_rfl) (by kernel_rfl) (by kernel_rfl) (fun _ _ _ h => h) (Or.inl ⟨by rfl, ?hywd12⟩) hHeld ?restwd12
    case hywd12 => (intro w hSw; go_simp; try (with_reducible rfl))
    try simp only [Act.put, List.setIfInBounds_toArray, List.set_cons_zero, List.set_cons_succ]
    refine tk_box (i := 13) (oi := ⟨some 66, _, _, _, _, _⟩) rfl (by kernel_rfl) (by kernel_rfl) (by kernel_rfl) (fun _ _ _ h => h) (by rfl) _ rfl _ rfl _ (fun _ h => h.2.1) rfl hHeld ?_
    try simp only [Act.put, List.setIfInBounds_toArray, List.set_cons_zero, List.set_cons_succ]
    refine tk_box (i := 15) (oi := ⟨some 68, _, _, _, _, _⟩) rfl (by kernel_rfl) (by kernel_rfl) (by kernel_rfl) (fun _ _ _ h => h) (by rfl) _ rfl _ rfl _ (fun _ h => h.1) rfl hHeld ?_
    try simp only [Act.put, List.setIfInBounds_toArray, List.set_cons_zero, List.set_cons_succ]
    refine wpAnyH_ready (rs := [14]) (by kernel_rfl) (by simp) ?_
    refine AllReadyH.cons (o := ⟨some 67, _, _, _, _, _⟩) rfl (fun K hK => ?_) AllReadyH.nil
    go_simp
    refine (Dd.out _ hHeld.2.2.2).mono ?_; rintro e w' ⟨rfl, hg⟩
    refine hK.out _ _ ⟨Box.below hHeld.1 hg (Nat.lt_of_lt_of_le lb7 hHeld.2.2.1), Box.below hHeld.2.1 hg (Nat.lt_of_lt_of_le ld7 hHeld.2.2.1), Nat.le_trans hHeld.2.2.1 hg.size, hHeld.2.2.2.trans (hg.mono hHeld.2.2.1)⟩ (fun hHeld' => ?_)
    clear hK K hHeld
    have hHeld := hHeld'
    clear hHeld'
    try simp only [Act.put, List.setIfInBounds_toArray, List.set_cons_zero, List.set_cons_succ]
    refine wpAnyH_ready (rs := [16]) (by kernel_rfl) (by simp) ?_
    refine AllReadyH.cons (o := ⟨some 69, _, _, _, _, _⟩) rfl (fun K hK => ?_) AllReadyH.nil
    go_simp
    refine (Dc.out _ hHeld.2.2.2).mono ?_; rintro e w' ⟨rfl, hg⟩
    refine hK.out _ _ ⟨Box.below hHeld.1 hg (Nat.lt_of_lt_of_le lb7 hHeld.2.2.1), Box.below hHeld.2.1 hg (Nat.lt_of_lt_of_le ld7 hHeld.2.2.1), Nat.le_trans hHeld.2.2.1 hg.size, hHeld.2.2.2.trans (hg.mono hHeld.2.2.1)⟩ (fun hHeld' => ?_)
    clear hK K hHeld
    have hHeld := hHeld'
    clear hHeld'
    try simp only [Act.put, List.setIfInBounds_toArray, List.set_cons_zero, List.set_cons_succ]
    refine wpAnyH_take (i := 17) (oi := ⟨some 70, _, _, _, _, _⟩) (v := ?vwd17) rfl (by kernel_rfl) (by kernel_rfl) (by kernel_rfl) (fun _ _ _ h => h) (Or.inl ⟨by rfl, ?hywd17⟩) hHeld ?restwd17
    case hywd17 => (intro w hSw; go_simp; try (with_reducible rfl))
    try simp only [Act.put, List.setIfInBounds_toArray, List.set_cons_zero, List.set_cons_succ]
    refine wpAnyH_take (i := 18) (oi := ⟨some 71, _, _, _, _, _⟩) (v := ?vwd18) rfl (by kernel_rfl) (by kernel_rfl) (by kernel_rfl) (fun _ _ _ h => h) (Or.inl ⟨by rfl, ?hywd18⟩) hHeld ?restwd18
    case hywd18 => (intro w hSw; go_simp; try (with_reducible rfl))
    try simp only [Act.put, List.setIfInBounds_toArray, List.set_cons_zero, List.set_cons_succ]
    refine wpAnyH_take (i := 19) (oi := ⟨some 4, _, _, _, _, _⟩) (v := ?vwd19) rfl (by kernel_rfl) (by kernel_rfl) (by kernel_rfl) (fun _ _ _ h => h) (Or.inl ⟨by rfl, ?hywd19⟩) hHeld ?restwd19
    case hywd19 => (intro w hSw; go_simp; try (with_reducible rfl))
    try simp only [Act.put, List.setIfInBounds_toArray, List.set_cons_zero, List.set_cons_succ]
    refine wpAnyH_done (by kernel_rfl) ?_ _
    have Z := Lib.hid hHeld.2.2.2
    clear hHeld
    go_wp2
    go_ret
    exact ⟨rfl, hb7.out.trans (Z.out.mono (Nat.le_of_lt lb7))⟩
  · subst e
    clear hr0 hr1
    obtain ⟨K, eK⟩ : ∃ x, min N 63 = x := ⟨_, rfl⟩
    have hK : K ≤ N ∧ K ≤ 63 := by omega
    have es : (if (63 : Int) < (N : Int) then (63 : Int) else (N : Int)) = (K : Int) := by split <;> omega
    have hK0 := hK.1
    have hK1 := hK.2
    clear hK eK
    have OK := Lib.hid (owns_take HOW.out hK0)
    go_wp2_with (at_builtin; refine wpList_append_lies _ rfl _ _ _ rfl (w3.heap.size + 1) 3 i8 _ 1 8 Try.underlying22 (HI8.out.1) (HI8.out.2.1) (HI8.out.2.2.1) (HI8.out.2.2.2) rfl (by omega) (.slice (some ⟨gg, 0, none⟩) K cap) K (((la L').map (Value.int .i64)).take K) rfl (OK.out.alloc _) ⟨w6.heap.size, 0, none⟩ 1 1 [.int .i64 8] rfl rfl ?hnews2 ?h12 (by omega) ?h632 ?hbytes2 ?hbase2 (w6.heap.size + 1) ?hH2 ?_)
    case hnews2 => exact World.news_of_block (cs := #[.int .i64 8]) (t := 3) (fr := (0, 0)) (heap_alloc_new w6 _)
    case h12 => simp [Value.oneCell']
    case h632 => unfold maxLen; omega
    case hbytes2 => omega
    case hbase2 => simp; omega
    case hH2 => simp
    intro g3 cap3 w8 hown hgrow hat hlt
    clear k0 k1 k2 k3 k4 k5 k6 k7 k8 k9 k10 d0 d1 d2 d3 d4 d5 d6 d7 d8 d9 d10 f4 f5 f6 f7 f8
    have b6 := ((Below.refl w3.heap.size w6).alloc (by omega) (.cells #[.int .i64 8] 3)).grown hgrow (by simp; omega) (fun k hk => by simp [Value.ownBlock] at hk; omega)
    have bx8 := BX6.out.below b6 lc3
    have bd8 : Box w8 w3.heap.size m1 wd1 ro1 qu1 st1 sl1 se1 wa1 (some ⟨gg, 0, none⟩) N cap tb (some ⟨g2, 0, none⟩) N2 N2 :=
      (hgrow.block _ (by simp; omega) (by simp [Value.ownBlock]; omega)).trans ((Below.heap_alloc _ _ _ (by omega)).trans BD6.out)
    have yy1 := Y1.out.below0 b6 (fun h => hg3.out h)
    have yy2 := Y2.out.below0 b6 (fun h => hg4.out h)
    have kc := (Box.cells bd8).2.2.2.2.2.2.2.2.1
    have kf := Box.frozen bd8 8
    have BX8 := Lib.hid bx8
    have BD8 := Lib.hid bd8
    have HO8 := Lib.hid hown
    have hb8 := Lib.hid (hb6.out.trans (b6.mono (Nat.le_of_lt lc3)))
    have Z1 := Lib.hid yy1
    have Z2 := Lib.hid yy2
    clear bx8 bd8 hown hgrow hat hlt b6 yy1 yy2 BX6 BD6 Y1 Y2 hb6 HOW OK
    go_wp2_with fail
    clear kc kf
    have BX7 := Lib.hid (BX8.out.far ⟨w3.heap.size, 8, none⟩ (.slice (some ⟨g3, 0, none⟩) (K + 1) cap3) hne)
    have BD7 := Lib.hid (BD8.out.set8 (some ⟨g3, 0, none⟩) (K + 1) cap3)
    have ho7 := owns_set HO8.out ⟨w3.heap.size, 8, none⟩ (Nat.lt_succ_self _) (.slice (some ⟨g3, 0, none⟩) (K + 1) cap3)
    rw [show (((la L').map (Value.int .i64)).take K) ++ [Value.int .i64 8] = ((la L').take K ++ [8]).map (Value.int .i64) by simp] at ho7
    have SM := Lib.hid (Sl.owned ho7)
    have y1 := Z1.out.far0 ⟨w3.heap.size, 8, none⟩ (.slice (some ⟨g3, 0, none⟩) (K + 1) cap3) (fun b off e h => by have := hg3.out h; simp at e; show b ≠ w3.heap.size; omega)
    have y2 := Z2.out.far0 ⟨w3.heap.size, 8, none⟩ (.slice (some ⟨g3, 0, none⟩) (K + 1) cap3) (fun b off e h => by have := hg4.out h; simp at e; show b ≠ w3.heap.size; omega)
    have hb7 := Lib.hid (hb8.out.setCell (p := ⟨w3.heap.size, 8, none⟩) (Nat.le_of_lt lc3) (.slice (some ⟨g3, 0, none⟩) (K + 1) cap3))
    have Y1 := Lib.hid y1
    have Y2 := Lib.hid y2
    have LM := Lib.hid (show ((la L').take K ++ [8]).length = K + 1 by have := L1.out; simp; omega)
    have ALM := Lib.hid (all_eight (la L') K (all_la L'))
    clear BX8 BD8 HO8 Z1 Z2 hb8 ho7 y1 y2 lz6
    generalize w8.setCell ⟨w3.heap.size, 8, none⟩ (.slice (some ⟨g3, 0, none⟩) (K + 1) cap3) = w7 at *
    obtain ⟨bd, ebd⟩ : ∃ x, bo (cl 1 4 st1) (cl 2 6 sl1) (cs se1) (cl 1 2 wa1) (mov (la ((la L').take K ++ [8]))) = x := ⟨_, rfl⟩
    obtain ⟨bc_, ebc⟩ : ∃ x, bo (cl 1 4 st1) (cl 2 6 sl1) (cs se1) (cl 1 2 wa1) (mov (la (la L'))) = x := ⟨_, rfl⟩
    obtain ⟨dd, edd⟩ : ∃ x, dr (cl 1 4 st1) (cl 2 6 sl1) (cs se1) (cl 1 2 wa1) (mov (la ((la L').take K ++ [8]))) = x := ⟨_, rfl⟩
    obtain ⟨dc, edc⟩ : ∃ x, dr (cl 1 4 st1) (cl 2 6 sl1) (cs se1) (cl 1 2 wa1) (mov (la (la L'))) = x := ⟨_, rfl⟩
    have hmo : mov (la L') ≤ mov ((la L').take K ++ [8]) := by rw [mov_eight _ K hK1]; exact (mov_bd _).2
    have t1 : decide (bc_ ≤ bd) = true := decide_eq_true (by rw [← ebd, ← ebc]; exact rise_bo _ _ _ _ _ _ _ _ _ _ (by omega) (by omega) (by omega) (by omega) (by omega) (by omega) (by omega) (by omega) (by omega) (by omega) hmo)
    have t2 : decide (dc ≤ dd) = true := decide_eq_true (by rw [← edd, ← edc]; exact rise_dr _ _ _ _ _ _ _ _ _ _ (by omega) (by omega) (by omega) (by omega) (by omega) (by omega) (by omega) (by omega) (by omega) (by omega) hmo)
    have EBD := Lib.hid ebd
    have EBC := Lib.hid ebc
    have EDD := Lib.hid edd
    have EDC := Lib.hid edc
    clear ebd ebc edd edc hmo
    have Rd : Hid (∀ W : World, Below w7.heap.size w7 W → Calls Try.prog 13 #[.agg #[.int .i64 m1, .int .i64 wd1, .int .i64 ro1, .int .i64 qu1, .int .i64 st1, .int .i64 sl1, .int .i64 se1, .int .i64 wa1, .slice (some ⟨g3, 0, none⟩) (K + 1) cap3, .bool tb, .slice (some ⟨g2, 0, none⟩) N2 N2]] W fun e w' => e = .returned (.bool true) ∧ Below W.heap.size W w') := Lib.hid (fun W hW => (right_any m1 wd1 ro1 qu1 st1 sl1 se1 wa1 (some ⟨g3, 0, none⟩) (some ⟨g2, 0, none⟩) cap3 N2 ((K + 1)) N2 tb ((la L').take K ++ [8]) W LM.out (by omega) (by omega) (SM.out.below hW)).mono fun e w' ⟨he, hb⟩ => ⟨he.trans (ret_bl (right_of _ _ _ _ _ _ _ _ _ _ _ ALM.out (by omega) (by omega) (by omega) (by omega) (by omega) (by omega) (by omega) (by omega) (by omega) (by omega) (by omega))), hb⟩)
    have Bd : Hid (∀ W : World, Below w7.heap.size w7 W → Calls Try.prog 16 #[.agg #[.int .i64 m1, .int .i64 wd1, .int .i64 ro1, .int .i64 qu1, .int .i64 st1, .int .i64 sl1, .int .i64 se1, .int .i64 wa1, .slice (some ⟨g3, 0, none⟩) (K + 1) cap3, .bool tb, .slice (some ⟨g2, 0, none⟩) N2 N2]] W fun e w' => e = .returned (.int .i64 bd) ∧ Below W.heap.size W w') := Lib.hid (fun W hW => (bound_any m1 wd1 ro1 qu1 st1 sl1 se1 wa1 (some ⟨g3, 0, none⟩) (some ⟨g2, 0, none⟩) cap3 N2 ((la L').take K ++ [8]) (ta T') tb ((K + 1)) N2 W LM.out L2.out (by omega) (by omega) (SM.out.below hW) (Y2.out.below hW)).mono fun e w' ⟨he, hb⟩ => ⟨he.trans (ret_i64 (EBD.out)), hb⟩)
    have Bc : Hid (∀ W : World, Below w7.heap.size w7 W → Calls Try.prog 16 #[.agg #[.int .i64 m1, .int .i64 wd1, .int .i64 ro1, .int .i64 qu1, .int .i64 st1, .int .i64 sl1, .int .i64 se1, .int .i64 wa1, .slice (some ⟨g, 0, none⟩) N N, .bool tb, .slice (some ⟨g2, 0, none⟩) N2 N2]] W fun e w' => e = .returned (.int .i64 bc_) ∧ Below W.heap.size W w') := Lib.hid (fun W hW => (bound_any m1 wd1 ro1 qu1 st1 sl1 se1 wa1 (some ⟨g, 0, none⟩) (some ⟨g2, 0, none⟩) N N2 (la L') (ta T') tb N N2 W L1.out L2.out (by omega) (by omega) (Y1.out.below hW) (Y2.out.below hW)).mono fun e w' ⟨he, hb⟩ => ⟨he.trans (ret_i64 (EBC.out)), hb⟩)
    have Dd : Hid (∀ W : World, Below w7.heap.size w7 W → Calls Try.prog 17 #[.agg #[.int .i64 m1, .int .i64 wd1, .int .i64 ro1, .int .i64 qu1, .int .i64 st1, .int .i64 sl1, .int .i64 se1, .int .i64 wa1, .slice (some ⟨g3, 0, none⟩) (K + 1) cap3, .bool tb, .slice (some ⟨g2, 0, none⟩) N2 N2]] W fun e w' => e = .returned (.int .i64 dd) ∧ Below W.heap.size W w') := Lib.hid (fun W hW => (drain_any m1 wd1 ro1 qu1 st1 sl1 se1 wa1 (some ⟨g3, 0, none⟩) (some ⟨g2, 0, none⟩) cap3 N2 ((la L').take K ++ [8]) (ta T') tb ((K + 1)) N2 W LM.out L2.out (by omega) (by omega) (SM.out.below hW) (Y2.out.below hW)).mono fun e w' ⟨he, hb⟩ => ⟨he.trans (ret_i64 (EDD.out)), hb⟩)
    have Dc : Hid (∀ W : World, Below w7.heap.size w7 W → Calls Try.prog 17 #[.agg #[.int .i64 m1, .int .i64 wd1, .int .i64 ro1, .int .i64 qu1, .int .i64 st1, .int .i64 sl1, .int .i64 se1, .int .i64 wa1, .slice (some ⟨g, 0, none⟩) N N, .bool tb, .slice (some ⟨g2, 0, none⟩) N2 N2]] W fun e w' => e = .returned (.int .i64 dc) ∧ Below W.heap.size W w') := Lib.hid (fun W hW => (drain_any m1 wd1 ro1 qu1 st1 sl1 se1 wa1 (some ⟨g, 0, none⟩) (some ⟨g2, 0, none⟩) N N2 (la L') (ta T') tb N N2 W L1.out L2.out (by omega) (by omega) (Y1.out.below hW) (Y2.out.below hW)).mono fun e w' ⟨he, hb⟩ => ⟨he.trans (ret_i64 (EDC.out)), hb⟩)
    have lb7 : w.heap.size < w7.heap.size := Box.lt BX7.out
    have ld7 : w3.heap.size < w7.heap.size := Box.lt BD7.out
    clear SM Y1 Y2 LM ALM L1 L2 EBD EBC EDD EDC
    refine wp_region_held_drew (S := fun w' => Box w' w.heap.size m1 wd1 ro1 qu1 st1 sl1 se1 wa1 (some ⟨g, 0, none⟩) N N tb (some ⟨g2, 0, none⟩) N2 N2 ∧ Box w' w3.heap.size m1 wd1 ro1 qu1 st1 sl1 se1 wa1 (some ⟨g3, 0, none⟩) (K + 1) cap3 tb (some ⟨g2, 0, none⟩) N2 N2 ∧ w7.heap.size ≤ w'.heap.size ∧ Below w7.heap.size w7 w') (by kernel_rfl) ⟨BX7.out, BD7.out, Nat.le_refl _, (Below.refl _ _).drew⟩ (fun hHeld => ?_)
    refine wpAnyH_ready (rs := [0]) (by kernel_rfl) (by simp) ?_
    refine AllReadyH.cons (o := ⟨some 53, _, _, _, _, _⟩) rfl (fun K hK => ?_) AllReadyH.nil
    go_simp
    refine (alive_any _).mono ?_; rintro e w' ⟨rfl, hg⟩
    refine hK.out _ _ ⟨Box.below hHeld.1 hg (Nat.lt_of_lt_of_le lb7 hHeld.2.2.1), Box.below hHeld.2.1 hg (Nat.lt_of_lt_of_le ld7 hHeld.2.2.1), Nat.le_trans hHeld.2.2.1 hg.size, hHeld.2.2.2.trans (hg.mono hHeld.2.2.1)⟩ (fun hHeld' => ?_)
    clear hK K hHeld
    have hHeld := hHeld'
    clear hHeld'
    try simp only [Act.put, List.setIfInBounds_toArray, List.set_cons_zero, List.set_cons_succ]
    refine wpAnyH_take (i := 1) (oi := ⟨some 54, _, _, _, _, _⟩) (v := ?vwe1) rfl (by kernel_rfl) (by kernel_rfl) (by kernel_rfl) (fun _ _ _ h => h) (Or.inl ⟨by rfl, ?hywe1⟩) hHeld ?restwe1
    case hywe1 => (intro w hSw; go_simp; try (with_reducible rfl))
    try simp only [Act.put, List.setIfInBounds_toArray, List.set_cons_zero, List.set_cons_succ]
    refine tk_box (i := 2) (oi := ⟨some 55, _, _, _, _, _⟩) rfl (by kernel_rfl) (by kernel_rfl) (by kernel_rfl) (fun _ _ _ h => h) (by rfl) _ rfl _ rfl _ (fun _ h => h.2.1) rfl hHeld ?_
    try simp only [Act.put, List.setIfInBounds_toArray, List.set_cons_zero, List.set_cons_succ]
    refine wpAnyH_ready (rs := [3]) (by kernel_rfl) (by simp) ?_
    refine AllReadyH.cons (o := ⟨some 56, _, _, _, _, _⟩) rfl (fun K hK => ?_) AllReadyH.nil
    go_simp
    refine (Rd.out _ hHeld.2.2.2).mono ?_; rintro e w' ⟨rfl, hg⟩
    refine hK.out _ _ ⟨Box.below hHeld.1 hg (Nat.lt_of_lt_of_le lb7 hHeld.2.2.1), Box.below hHeld.2.1 hg (Nat.lt_of_lt_of_le ld7 hHeld.2.2.1), Nat.le_trans hHeld.2.2.1 hg.size, hHeld.2.2.2.trans (hg.mono hHeld.2.2.1)⟩ (fun hHeld' => ?_)
    clear hK K hHeld
    have hHeld := hHeld'
    clear hHeld'
    try simp only [Act.put, List.setIfInBounds_toArray, List.set_cons_zero, List.set_cons_succ]
    refine wpAnyH_take (i := 4) (oi := ⟨some 57, _, _, _, _, _⟩) (v := ?vwe4) rfl (by kernel_rfl) (by kernel_rfl) (by kernel_rfl) (fun _ _ _ h => h) (Or.inl ⟨by rfl, ?hywe4⟩) hHeld ?restwe4
    case hywe4 => (intro w hSw; go_simp; try (with_reducible rfl))
    try simp only [Act.put, List.setIfInBounds_toArray, List.set_cons_zero, List.set_cons_succ]
    refine wpAnyH_take (i := 5) (oi := ⟨some 58, _, _, _, _, _⟩) (v := ?vwe5) rfl (by kernel_rfl) (by kernel_rfl) (by kernel_rfl) (fun _ _ _ h => h) (Or.inl ⟨by rfl, ?hywe5⟩) hHeld ?restwe5
    case hywe5 => (intro w hSw; go_simp; try (with_reducible rfl))
    try simp only [Act.put, List.setIfInBounds_toArray, List.set_cons_zero, List.set_cons_succ]
    refine tk_box (i := 6) (oi := ⟨some 59, _, _, _, _, _⟩) rfl (by kernel_rfl) (by kernel_rfl) (by kernel_rfl) (fun _ _ _ h => h) (by rfl) _ rfl _ rfl _ (fun _ h => h.2.1) rfl hHeld ?_
    try simp only [Act.put, List.setIfInBounds_toArray, List.set_cons_zero, List.set_cons_succ]
    refine tk_box (i := 8) (oi := ⟨some 61, _, _, _, _, _⟩) rfl (by kernel_rfl) (by kernel_rfl) (by kernel_rfl) (fun _ _ _ h => h) (by rfl) _ rfl _ rfl _ (fun _ h => h.1) rfl hHeld ?_
    try simp only [Act.put, List.setIfInBounds_toArray, List.set_cons_zero, List.set_cons_succ]
    refine wpAnyH_ready (rs := [7]) (by kernel_rfl) (by simp) ?_
    refine AllReadyH.cons (o := ⟨some 60, _, _, _, _, _⟩) rfl (fun K hK => ?_) AllReadyH.nil
    go_simp
    refine (Bd.out _ hHeld.2.2.2).mono ?_; rintro e w' ⟨rfl, hg⟩
    refine hK.out _ _ ⟨Box.below hHeld.1 hg (Nat.lt_of_lt_of_le lb7 hHeld.2.2.1), Box.below hHeld.2.1 hg (Nat.lt_of_lt_of_le ld7 hHeld.2.2.1), Nat.le_trans hHeld.2.2.1 hg.size, hHeld.2.2.2.trans (hg.mono hHeld.2.2.1)⟩ (fun hHeld' => ?_)
    clear hK K hHeld
    have hHeld := hHeld'
    clear hHeld'
    try simp only [Act.put, List.setIfInBounds_toArray, List.set_cons_zero, List.set_cons_succ]
    refine wpAnyH_ready (rs := [9]) (by kernel_rfl) (by simp) ?_
    refine AllReadyH.cons (o := ⟨some 62, _, _, _, _, _⟩) rfl (fun K hK => ?_) AllReadyH.nil
    go_simp
    refine (Bc.out _ hHeld.2.2.2).mono ?_; rintro e w' ⟨rfl, hg⟩
    refine hK.out _ _ ⟨Box.below hHeld.1 hg (Nat.lt_of_lt_of_le lb7 hHeld.2.2.1), Box.below hHeld.2.1 hg (Nat.lt_of_lt_of_le ld7 hHeld.2.2.1), Nat.le_trans hHeld.2.2.1 hg.size, hHeld.2.2.2.trans (hg.mono hHeld.2.2.1)⟩ (fun hHeld' => ?_)
    clear hK K hHeld
    have hHeld := hHeld'
    clear hHeld'
    try simp only [Act.put, List.setIfInBounds_toArray, List.set_cons_zero, List.set_cons_succ]
    refine wpAnyH_take (i := 10) (oi := ⟨some 63, _, _, _, _, _⟩) (v := ?vwe10) rfl (by kernel_rfl) (by kernel_rfl) (by kernel_rfl) (fun _ _ _ h => h) (Or.inl ⟨by rfl, ?hywe10⟩) hHeld ?restwe10
    case hywe10 => (intro w hSw; go_simp; try (with_reducible rfl))
    try simp only [Act.put, List.setIfInBounds_toArray, List.set_cons_zero, List.set_cons_succ]
    refine wpAnyH_take (i := 11) (oi := ⟨some 64, _, _, _, _, _⟩) (v := ?vwe11) rfl (by kernel_rfl) (by kernel_rfl) (by kernel_rfl) (fun _ _ _ h => h) (Or.inl ⟨by rfl, ?hywe11⟩) hHeld ?restwe11
    case hywe11 => (intro w hSw; go_simp; try (with_reducible rfl))
    try simp only [Act.put, List.setIfInBounds_toArray, List.set_cons_zero, List.set_cons_succ]
    refine wpAnyH_take (i := 12) (oi := ⟨some 65, _, _, _, _, _⟩) (v := ?vwe12) rfl (by kernel_rfl) (by kernel_rfl) (by kernel_rfl) (fun _ _ _ h => h) (Or.inl ⟨by rfl, ?hywe12⟩) hHeld ?restwe12
    case hywe12 => (intro w hSw; go_simp; try (with_reducible rfl))
    try simp only [Act.put, List.setIfInBounds_toArray, List.set_cons_zero, List.set_cons_succ]
    refine tk_box (i := 13) (oi := ⟨some 66, _, _, _, _, _⟩) rfl (by kernel_rfl) (by kernel_rfl) (by kernel_rfl) (fun _ _ _ h => h) (by rfl) _ rfl _ rfl _ (fun _ h => h.2.1) rfl hHeld ?_
    try simp only [Act.put, List.setIfInBounds_toArray, List.set_cons_zero, List.set_cons_succ]
    refine tk_box (i := 15) (oi := ⟨some 68, _, _, _, _, _⟩) rfl (by kernel_rfl) (by kernel_rfl) (by kernel_rfl) (fun _ _ _ h => h) (by rfl) _ rfl _ rfl _ (fun _ h => h.1) rfl hHeld ?_
    try simp only [Act.put, List.setIfInBounds_toArray, List.set_cons_zero, List.set_cons_succ]
    refine wpAnyH_ready (rs := [14]) (by kernel_rfl) (by simp) ?_
    refine AllReadyH.cons (o := ⟨some 67, _, _, _, _, _⟩) rfl (fun K hK => ?_) AllReadyH.nil
    go_simp
    refine (Dd.out _ hHeld.2.2.2).mono ?_; rintro e w' ⟨rfl, hg⟩
    refine hK.out _ _ ⟨Box.below hHeld.1 hg (Nat.lt_of_lt_of_le lb7 hHeld.2.2.1), Box.below hHeld.2.1 hg (Nat.lt_of_lt_of_le ld7 hHeld.2.2.1), Nat.le_trans hHeld.2.2.1 hg.size, hHeld.2.2.2.trans (hg.mono hHeld.2.2.1)⟩ (fun hHeld' => ?_)
    clear hK K hHeld
    have hHeld := hHeld'
    clear hHeld'
    try simp only [Act.put, List.setIfInBounds_toArray, List.set_cons_zero, List.set_cons_succ]
    refine wpAnyH_ready (rs := [16]) (by kernel_rfl) (by simp) ?_
    refine AllReadyH.cons (o := ⟨some 69, _, _, _, _, _⟩) rfl (fun K hK => ?_) AllReadyH.nil
    go_simp
    refine (Dc.out _ hHeld.2.2.2).mono ?_; rintro e w' ⟨rfl, hg⟩
    refine hK.out _ _ ⟨Box.below hHeld.1 hg (Nat.lt_of_lt_of_le lb7 hHeld.2.2.1), Box.below hHeld.2.1 hg (Nat.lt_of_lt_of_le ld7 hHeld.2.2.1), Nat.le_trans hHeld.2.2.1 hg.size, hHeld.2.2.2.trans (hg.mono hHeld.2.2.1)⟩ (fun hHeld' => ?_)
    clear hK K hHeld
    have hHeld := hHeld'
    clear hHeld'
    try simp only [Act.put, List.setIfInBounds_toArray, List.set_cons_zero, List.set_cons_succ]
    refine wpAnyH_take (i := 17) (oi := ⟨some 70, _, _, _, _, _⟩) (v := ?vwe17) rfl (by kernel_rfl) (by kernel_rfl) (by kernel_rfl) (fun _ _ _ h => h) (Or.inl ⟨by rfl, ?hywe17⟩) hHeld ?restwe17
    case hywe17 => (intro w hSw; go_simp; try (with_reducible rfl))
    try simp only [Act.put, List.setIfInBounds_toArray, List.set_cons_zero, List.set_cons_succ]
    refine wpAnyH_take (i := 18) (oi := ⟨some 71, _, _, _, _, _⟩) (v := ?vwe18) rfl (by kernel_rfl) (by kernel_rfl) (by kernel_rfl) (fun _ _ _ h => h) (Or.inl ⟨by rfl, ?hywe18⟩) hHeld ?restwe18
    case hywe18 => (intro w hSw; go_simp; try (with_reducible rfl))
    try simp only [Act.put, List.setIfInBounds_toArray, List.set_cons_zero, List.set_cons_succ]
    refine wpAnyH_take (i := 19) (oi := ⟨some 4, _, _, _, _, _⟩) (v := ?vwe19) rfl (by kernel_rfl) (by kernel_rfl) (by kernel_rfl) (fun _ _ _ h => h) (Or.inl ⟨by rfl, ?hywe19⟩) hHeld ?restwe19
    case hywe19 => (intro w hSw; go_simp; try (with_reducible rfl))
    try simp only [Act.put, List.setIfInBounds_toArray, List.set_cons_zero, List.set_cons_succ]
    refine wpAnyH_done (by kernel_rfl) ?_ _
    have Z := Lib.hid hHeld.2.2.2
    clear hHeld
    go_wp2
    go_ret
    exact ⟨rfl, hb7.out.trans (Z.out.mono (Nat.le_of_lt lb7))⟩
end Go.Proofs.Ytfphdchpfhedfaa
