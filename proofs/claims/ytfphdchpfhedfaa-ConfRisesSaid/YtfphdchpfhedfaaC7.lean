/- Contracts of Bound, Drain. Conditions: the slices read as lists. -/
import Derived.Test.YtfphdchpfhedfaaC5
import Derived.Test.YtfphdchpfhedfaaC6
import Derived.Deep.RegionHeld3
namespace Go.Proofs.Ytfphdchpfhedfaa
open Go.ChangeShapes Go.WideShapes Go.ChangeAt Go.RowKit
set_option linter.unusedVariables false
/-- the bound, of a cleaned shape's numbers -/
def bo (st sl se wa mo : Int) : Int := 60 + (sl + st + se * wa + 4) * (mo + 1) * (st + 3)
def dr (st sl se wa mo : Int) : Int := 60 + 2 * (sl + st + se * wa + 4) * (mo + 1) * (st + se * wa + 2)
theorem box_one {m wd ro qu st sl se wa : Int} {A A2 : Option Addr} {n C n2 C2 : Nat} {tb : Bool} : ∀ v ∈ (#[Value.int .i64 m, .int .i64 wd, .int .i64 ro, .int .i64 qu, .int .i64 st, .int .i64 sl, .int .i64 se, .int .i64 wa, .slice A n C, .bool tb, .slice A2 n2 C2] : Array Value).toList, v.oneCell' = true := by
  intro v hv
  simp at hv
  rcases hv with rfl | rfl | rfl | rfl | rfl | rfl | rfl | rfl | rfl | rfl | rfl <;> rfl
theorem cs_bd (se : Int) : 1 ≤ cs se ∧ cs se ≤ 4 := by
  have := cl_bd 1 4 se (by decide); unfold cs; split <;> omega
theorem mul_bd (p q a b : Int) (h0 : 0 ≤ p) (h1 : p ≤ a) (g0 : 0 ≤ q) (g1 : q ≤ b) : 0 ≤ p * q ∧ p * q ≤ a * b :=
  ⟨Int.mul_nonneg h0 g0, Int.mul_le_mul h1 g1 g0 (by omega)⟩
set_option maxHeartbeats 8000000 in
set_option maxRecDepth 100000 in
theorem bound_any (m wd ro qu st sl se wa : Int) (A A2 : Option Addr) (C C2 : Nat) (L T : List Int) (tb : Bool) (n n2 : Nat) (w : World) (hn : L.length = n) (h2 : T.length = n2) (bn : n ≤ 9223372036854775807) (b2 : n2 ≤ 9223372036854775807) (hL : Sl w .i64 A L) (hT : Sl w .u32 A2 T) :
    Calls Try.prog 16 #[.agg #[.int .i64 m, .int .i64 wd, .int .i64 ro, .int .i64 qu, .int .i64 st, .int .i64 sl, .int .i64 se, .int .i64 wa, .slice A n C, .bool tb, .slice A2 n2 C2]] w fun e w' => e = .returned (.int .i64 (bo (cl 1 4 st) (cl 2 6 sl) (cs se) (cl 1 2 wa) (mov (la L)))) ∧ Below w.heap.size w w' := by
  have HL := Lib.hid hL
  have HT := Lib.hid hT
  have Hn := Lib.hid hn
  have H2 := Lib.hid h2
  clear hL hT hn h2
  have x1 := cl_bd 1 4 st (by decide)
  have x2 := cl_bd 2 6 sl (by decide)
  have x3 := cs_bd se
  have x4 := cl_bd 1 2 wa (by decide)
  have x5 := mov_bd (la L)
  go_enter Try.func16, Try.ntmps16
  go_wp2_with fail
  refine (clean_all m wd ro qu st sl se wa A A2 C C2 L T tb n n2 _ Hn.out H2.out bn b2 (HL.out.alloc _) (HT.out.alloc _)).mono ?_
  rintro e w1 ⟨g, g2, N, N2, rfl, l1, l2, b3, b4, s1, s2, hb, hg, hg2⟩
  generalize cl 0 2 m = m1
  generalize cl 1 2 wd = wd1
  generalize cl 2 8 ro = ro1
  generalize cl 1 4 qu = qu1
  generalize e1 : cl 1 4 st = st1 at *
  generalize e2 : cl 2 6 sl = sl1 at *
  generalize e3 : cs se = se1 at *
  generalize e4 : cl 1 2 wa = wa1 at *
  have EE := Lib.hid (And.intro e1 (And.intro e2 (And.intro e3 e4)))
  clear e1 e2 e3 e4
  have hq1 : w.heap.size < (w.alloc (.cells #[.int .i64 m, .int .i64 wd, .int .i64 ro, .int .i64 qu, .int .i64 st, .int .i64 sl, .int .i64 se, .int .i64 wa, .slice A n C, .bool tb, .slice A2 n2 C2] 25)).heap.size := by simp
  have hold := (hb.block w.heap.size hq1).trans (heap_alloc_new w _)
  have hb0 := Lib.hid (((Below.refl w.heap.size w).alloc (Nat.le_refl _) _).trans (hb.mono (by simp)))
  have g1' : w.heap.size < g := by simp at hg; omega
  have g2' : w.heap.size < g2 := by simp at hg2; omega
  have S1 := Lib.hid s1
  have S2 := Lib.hid s2
  have HO := Lib.hid hold
  have L1 := Lib.hid l1
  have L2 := Lib.hid l2
  clear hb hg hg2 hq1 s1 s2 hold HL HT Hn H2 l1 l2
  go_wp2_with (refine store_box (o := ⟨none, Op.store 25 _ _, _, _, _, _⟩) rfl _ _ rfl w.heap.size _ rfl rfl _ HO.out rfl rfl box_one ?_)
  intro w2 hbx2 hoth hsz hbel
  have hbx : w.heap.size < w2.heap.size := Box.lt hbx2
  obtain ⟨k0, k1, k2, k3, k4, k5, k6, k7, k8, k9, k10⟩ := Box.cells hbx2
  have T1 := Lib.hid (S1.out.apart hoth hsz (fun b off h _ => by simp at h; omega))
  have T2 := Lib.hid (S2.out.apart hoth hsz (fun b off h _ => by simp at h; omega))
  have hb2 := Lib.hid (hbel _ _ hb0.out (Nat.le_refl _))
  clear hbx2 hoth hsz hbel S1 S2 HO hb0
  have y1 := mul_bd se1 wa1 4 2 (by omega) (by omega) (by omega) (by omega)
  have y2 := mul_bd (sl1 + st1 + se1 * wa1 + 4) (mov (la L) + 1) 22 9 (by omega) (by omega) (by omega) (by omega)
  have y3 := mul_bd ((sl1 + st1 + se1 * wa1 + 4) * (mov (la L) + 1)) (st1 + 3) 198 7 (by omega) (by omega) (by omega) (by omega)
  go_wp2_with fail
  go_region_held3 (fun w' => w'.cell? ⟨w.heap.size, 0, none⟩ = some (.int .i64 m1) ∧ w'.cell? ⟨w.heap.size, 1, none⟩ = some (.int .i64 wd1) ∧ w'.cell? ⟨w.heap.size, 2, none⟩ = some (.int .i64 ro1) ∧ w'.cell? ⟨w.heap.size, 3, none⟩ = some (.int .i64 qu1) ∧ w'.cell? ⟨w.heap.size, 4, none⟩ = some (.int .i64 st1) ∧ w'.cell? ⟨w.heap.size, 5, none⟩ = some (.int .i64 sl1) ∧ w'.cell? ⟨w.heap.size, 6, none⟩ = some (.int .i64 se1) ∧ w'.cell? ⟨w.heap.size, 7, none⟩ = some (.int .i64 wa1) ∧ w'.cell? ⟨w.heap.size, 8, none⟩ = some (.slice (some ⟨g, 0, none⟩) N N) ∧ w'.cell? ⟨w.heap.size, 9, none⟩ = some (.bool tb) ∧ w'.cell? ⟨w.heap.size, 10, none⟩ = some (.slice (some ⟨g2, 0, none⟩) N2 N2) ∧ w2.heap.size ≤ w'.heap.size ∧ Below w2.heap.size w2 w')
    (first | exact ⟨k0, k1, k2, k3, k4, k5, k6, k7, k8, k9, k10, Nat.le_refl _, (Below.refl _ _).drew⟩ | (go_split_ands; exact ⟨(hg.cell (p := ⟨_, _, none⟩) (Nat.lt_of_lt_of_le hbx (by assumption))).trans (by assumption), (hg.cell (p := ⟨_, _, none⟩) (Nat.lt_of_lt_of_le hbx (by assumption))).trans (by assumption), (hg.cell (p := ⟨_, _, none⟩) (Nat.lt_of_lt_of_le hbx (by assumption))).trans (by assumption), (hg.cell (p := ⟨_, _, none⟩) (Nat.lt_of_lt_of_le hbx (by assumption))).trans (by assumption), (hg.cell (p := ⟨_, _, none⟩) (Nat.lt_of_lt_of_le hbx (by assumption))).trans (by assumption), (hg.cell (p := ⟨_, _, none⟩) (Nat.lt_of_lt_of_le hbx (by assumption))).trans (by assumption), (hg.cell (p := ⟨_, _, none⟩) (Nat.lt_of_lt_of_le hbx (by assumption))).trans (by assumption), (hg.cell (p := ⟨_, _, none⟩) (Nat.lt_of_lt_of_le hbx (by assumption))).trans (by assumption), (hg.cell (p := ⟨_, _, none⟩) (Nat.lt_of_lt_of_le hbx (by assumption))).trans (by assumption), (hg.cell (p := ⟨_, _, none⟩) (Nat.lt_of_lt_of_le hbx (by assumption))).trans (by assumption), (hg.cell (p := ⟨_, _, none⟩) (Nat.lt_of_lt_of_le hbx (by assumption))).trans (by assumption), Nat.le_trans (by assumption) hg.size, Below.trans (by assumption) (hg.mono (by assumption))⟩))
    (first | (go_at_call 27; refine (things_any _ _ _ _ _ _ _ _ _ _ _ _ _ _ _ _ (by omega) (by omega) (by omega)).mono ?_; rintro e w' ⟨rfl, hg⟩) | (go_at_call 18; refine (most_any _ _ _ _ _ _ _ _ _ _ _ _ (la L) (ta T) _ _ _ _ L1.out L2.out (by omega) (by omega) (T1.out.below (by go_split_ands; assumption)) (T2.out.below (by go_split_ands; assumption))).mono ?_; rintro e w' ⟨rfl, hg⟩))
  go_split_ands
  have z : Below w2.heap.size w2 w' := by assumption
  have Z := Lib.hid z
  clear z
  go_wp2
  go_ret
  refine ⟨ret_i64 ?_, hb2.out.trans (Z.out.mono (by omega))⟩
  obtain ⟨e1, e2, e3, e4⟩ := EE.out
  rw [e1, e2, e3, e4]
  unfold bo
  simp (disch := omega) only [IntWalk.i64_in]
set_option maxHeartbeats 8000000 in
set_option maxRecDepth 100000 in
theorem drain_any (m wd ro qu st sl se wa : Int) (A A2 : Option Addr) (C C2 : Nat) (L T : List Int) (tb : Bool) (n n2 : Nat) (w : World) (hn : L.length = n) (h2 : T.length = n2) (bn : n ≤ 9223372036854775807) (b2 : n2 ≤ 9223372036854775807) (hL : Sl w .i64 A L) (hT : Sl w .u32 A2 T) :
    Calls Try.prog 17 #[.agg #[.int .i64 m, .int .i64 wd, .int .i64 ro, .int .i64 qu, .int .i64 st, .int .i64 sl, .int .i64 se, .int .i64 wa, .slice A n C, .bool tb, .slice A2 n2 C2]] w fun e w' => e = .returned (.int .i64 (dr (cl 1 4 st) (cl 2 6 sl) (cs se) (cl 1 2 wa) (mov (la L)))) ∧ Below w.heap.size w w' := by
  have HL := Lib.hid hL
  have HT := Lib.hid hT
  have Hn := Lib.hid hn
  have H2 := Lib.hid h2
  clear hL hT hn h2
  have x1 := cl_bd 1 4 st (by decide)
  have x2 := cl_bd 2 6 sl (by decide)
  have x3 := cs_bd se
  have x4 := cl_bd 1 2 wa (by decide)
  have x5 := mov_bd (la L)
  go_enter Try.func17, Try.ntmps17
  go_wp2_with fail
  refine (clean_all m wd ro qu st sl se wa A A2 C C2 L T tb n n2 _ Hn.out H2.out bn b2 (HL.out.alloc _) (HT.out.alloc _)).mono ?_
  rintro e w1 ⟨g, g2, N, N2, rfl, l1, l2, b3, b4, s1, s2, hb, hg, hg2⟩
  generalize cl 0 2 m = m1
  generalize cl 1 2 wd = wd1
  generalize cl 2 8 ro = ro1
  generalize cl 1 4 qu = qu1
  generalize e1 : cl 1 4 st = st1 at *
  generalize e2 : cl 2 6 sl = sl1 at *
  generalize e3 : cs se = se1 at *
  generalize e4 : cl 1 2 wa = wa1 at *
  have EE := Lib.hid (And.intro e1 (And.intro e2 (And.intro e3 e4)))
  clear e1 e2 e3 e4
  have hq1 : w.heap.size < (w.alloc (.cells #[.int .i64 m, .int .i64 wd, .int .i64 ro, .int .i64 qu, .int .i64 st, .int .i64 sl, .int .i64 se, .int .i64 wa, .slice A n C, .bool tb, .slice A2 n2 C2] 25)).heap.size := by simp
  have hold := (hb.block w.heap.size hq1).trans (heap_alloc_new w _)
  have hb0 := Lib.hid (((Below.refl w.heap.size w).alloc (Nat.le_refl _) _).trans (hb.mono (by simp)))
  have g1' : w.heap.size < g := by simp at hg; omega
  have g2' : w.heap.size < g2 := by simp at hg2; omega
  have S1 := Lib.hid s1
  have S2 := Lib.hid s2
  have HO := Lib.hid hold
  have L1 := Lib.hid l1
  have L2 := Lib.hid l2
  clear hb hg hg2 hq1 s1 s2 hold HL HT Hn H2 l1 l2
  go_wp2_with (refine store_box (o := ⟨none, Op.store 25 _ _, _, _, _, _⟩) rfl _ _ rfl w.heap.size _ rfl rfl _ HO.out rfl rfl box_one ?_)
  intro w2 hbx2 hoth hsz hbel
  have hbx : w.heap.size < w2.heap.size := Box.lt hbx2
  obtain ⟨k0, k1, k2, k3, k4, k5, k6, k7, k8, k9, k10⟩ := Box.cells hbx2
  have T1 := Lib.hid (S1.out.apart hoth hsz (fun b off h _ => by simp at h; omega))
  have T2 := Lib.hid (S2.out.apart hoth hsz (fun b off h _ => by simp at h; omega))
  have hb2 := Lib.hid (hbel _ _ hb0.out (Nat.le_refl _))
  clear hbx2 hoth hsz hbel S1 S2 HO hb0
  have y1 := mul_bd se1 wa1 4 2 (by omega) (by omega) (by omega) (by omega)
  have y2 := mul_bd (2 * (sl1 + st1 + se1 * wa1 + 4)) (mov (la L) + 1) 44 9 (by omega) (by omega) (by omega) (by omega)
  have y3 := mul_bd (2 * (sl1 + st1 + se1 * wa1 + 4) * (mov (la L) + 1)) (st1 + se1 * wa1 + 2) 396 14 (by omega) (by omega) (by omega) (by omega)
  go_wp2_with fail
  go_region_held3 (fun w' => w'.cell? ⟨w.heap.size, 0, none⟩ = some (.int .i64 m1) ∧ w'.cell? ⟨w.heap.size, 1, none⟩ = some (.int .i64 wd1) ∧ w'.cell? ⟨w.heap.size, 2, none⟩ = some (.int .i64 ro1) ∧ w'.cell? ⟨w.heap.size, 3, none⟩ = some (.int .i64 qu1) ∧ w'.cell? ⟨w.heap.size, 4, none⟩ = some (.int .i64 st1) ∧ w'.cell? ⟨w.heap.size, 5, none⟩ = some (.int .i64 sl1) ∧ w'.cell? ⟨w.heap.size, 6, none⟩ = some (.int .i64 se1) ∧ w'.cell? ⟨w.heap.size, 7, none⟩ = some (.int .i64 wa1) ∧ w'.cell? ⟨w.heap.size, 8, none⟩ = some (.slice (some ⟨g, 0, none⟩) N N) ∧ w'.cell? ⟨w.heap.size, 9, none⟩ = some (.bool tb) ∧ w'.cell? ⟨w.heap.size, 10, none⟩ = some (.slice (some ⟨g2, 0, none⟩) N2 N2) ∧ w2.heap.size ≤ w'.heap.size ∧ Below w2.heap.size w2 w')
    (first | exact ⟨k0, k1, k2, k3, k4, k5, k6, k7, k8, k9, k10, Nat.le_refl _, (Below.refl _ _).drew⟩ | (go_split_ands; exact ⟨(hg.cell (p := ⟨_, _, none⟩) (Nat.lt_of_lt_of_le hbx (by assumption))).trans (by assumption), (hg.cell (p := ⟨_, _, none⟩) (Nat.lt_of_lt_of_le hbx (by assumption))).trans (by assumption), (hg.cell (p := ⟨_, _, none⟩) (Nat.lt_of_lt_of_le hbx (by assumption))).trans (by assumption), (hg.cell (p := ⟨_, _, none⟩) (Nat.lt_of_lt_of_le hbx (by assumption))).trans (by assumption), (hg.cell (p := ⟨_, _, none⟩) (Nat.lt_of_lt_of_le hbx (by assumption))).trans (by assumption), (hg.cell (p := ⟨_, _, none⟩) (Nat.lt_of_lt_of_le hbx (by assumption))).trans (by assumption), (hg.cell (p := ⟨_, _, none⟩) (Nat.lt_of_lt_of_le hbx (by assumption))).trans (by assumption), (hg.cell (p := ⟨_, _, none⟩) (Nat.lt_of_lt_of_le hbx (by assumption))).trans (by assumption), (hg.cell (p := ⟨_, _, none⟩) (Nat.lt_of_lt_of_le hbx (by assumption))).trans (by assumption), (hg.cell (p := ⟨_, _, none⟩) (Nat.lt_of_lt_of_le hbx (by assumption))).trans (by assumption), (hg.cell (p := ⟨_, _, none⟩) (Nat.lt_of_lt_of_le hbx (by assumption))).trans (by assumption), Nat.le_trans (by assumption) hg.size, Below.trans (by assumption) (hg.mono (by assumption))⟩))
    (first | (go_at_call 27; refine (things_any _ _ _ _ _ _ _ _ _ _ _ _ _ _ _ _ (by omega) (by omega) (by omega)).mono ?_; rintro e w' ⟨rfl, hg⟩) | (go_at_call 18; refine (most_any _ _ _ _ _ _ _ _ _ _ _ _ (la L) (ta T) _ _ _ _ L1.out L2.out (by omega) (by omega) (T1.out.below (by go_split_ands; assumption)) (T2.out.below (by go_split_ands; assumption))).mono ?_; rintro e w' ⟨rfl, hg⟩))
  go_split_ands
  have z : Below w2.heap.size w2 w' := by assumption
  have Z := Lib.hid z
  clear z
  go_wp2
  go_ret
  refine ⟨ret_i64 ?_, hb2.out.trans (Z.out.mono (by omega))⟩
  obtain ⟨e1, e2, e3, e4⟩ := EE.out
  rw [e1, e2, e3, e4]
  unfold dr
  simp (disch := omega) only [IntWalk.i64_in]
end Go.Proofs.Ytfphdchpfhedfaa
