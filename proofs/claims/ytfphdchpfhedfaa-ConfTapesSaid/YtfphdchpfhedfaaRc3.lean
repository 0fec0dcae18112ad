/- Contracts of the reference's Lat, Tape, Most, Bound, Drain. Conditions: the slices read as lists. -/
import Derived.Test.YtfphdchpfhedfaaRc1
import Derived.Test.YtfphdchpfhedfaaRc2
import Derived.Test.YtfphdchpfhedfaaC7
namespace Go.Proofs.Ytfphdchpfhedfaa
open Go.ChangeShapes Go.WideShapes Go.ChangeAt Go.RowKit
set_option linter.unusedVariables false
theorem tk_skip {P : Program} {md : Region.Mode} {ops : Array Oper} {Q : Exit → Act → World → Prop} {S : World → Prop} {i : Nat} {oi : Oper} {fuel : Nat} {listed : Array Bool} {a : Act} {w : World} (hi : ops[i]? = some oi)
    (hs : Region.noSelect ops = true) (hf : Region.free md ops listed i = true) (hr : (Region.ready md ops listed).contains i = true)
    (hQ : ∀ c a w, Q (.panic c) (a.put oi.dst undef) w → Q (.panic c) a w) (hw : Region.wanted oi (yielded ops a.tmps) = false) (hS : S w)
    (h : wpAnyH P md ops Q S fuel (listed.setIfInBounds i true) (a.put oi.dst undef) w) : wpAnyH P md ops Q S (fuel + 1) listed a w :=
  wpAnyH_take hi hs hf hr hQ (Or.inr ⟨hw, rfl⟩) hS h
theorem tk_box {md : Region.Mode} {ops : Array Oper} {Q : Exit → Act → World → Prop} {S : World → Prop} {i : Nat} {oi : Oper} {fuel : Nat} {listed : Array Bool} {a : Act} {w : World} (hi : ops[i]? = some oi)
    (hs : Region.noSelect ops = true) (hf : Region.free md ops listed i = true) (hr : (Region.ready md ops listed).contains i = true)
    {cs : Array Value}
    (hQ : ∀ c a w, Q (.panic c) (a.put oi.dst (.agg cs)) w → Q (.panic c) a w) (hw : Region.wanted oi (yielded ops a.tmps) = true) (x : Operand) (ho : oi.op = .load 25 x) (g : Nat) (hx : a.eval x = .pointer (some ⟨g, 0, none⟩)) (fr : Nat × Nat) (hb : ∀ w, S w → w.heap[g]? = some (.cells cs 25 fr)) (hcs : cs.size = 11) (hS : S w)
    (h : wpAnyH Try.prog md ops Q S fuel (listed.setIfInBounds i true) (a.put oi.dst (.agg cs)) w) : wpAnyH Try.prog md ops Q S (fuel + 1) listed a w :=
  wpAnyH_take hi hs hf hr hQ (Or.inl ⟨hw, fun w hSw => by
    unfold execOp
    simp only [ho, hx, Instr.loadAt, Instr.sureAddr, Sem.run_bind, Sem.run_pure, Result.andThen_ok, run_loadVar_row w g 25 25 cs fr _ (hb w hSw) Try.underlying25 rfl (by rw [hcs]; kernel_rfl)]⟩) hS h
theorem rclean_any (m wd ro qu st sl se wa : Int) (A A2 : Option Addr) (C C2 : Nat) (L T : List Int) (tb : Bool) (n n2 : Nat) (w : World) (hn : L.length = n) (h2 : T.length = n2) (bn : n ≤ 9223372036854775807) (b2 : n2 ≤ 9223372036854775807) (hL : Sl w .i64 A L) (hT : Sl w .u32 A2 T) :
    Calls Try.prog 9 #[.agg #[.int .i64 m, .int .i64 wd, .int .i64 ro, .int .i64 qu, .int .i64 st, .int .i64 sl, .int .i64 se, .int .i64 wa, .slice A n C, .bool tb, .slice A2 n2 C2]] w (RCP m wd ro qu st sl se wa tb L T w) := by
  cases hz : (cl 1 4 se == 3) with
  | false => exact rclean_b m wd ro qu st sl se wa A A2 C C2 L T tb n n2 w hn h2 bn b2 hL hT hz
  | true => exact rclean_a m wd ro qu st sl se wa A A2 C C2 L T tb n n2 w hn h2 bn b2 hL hT hz
set_option maxHeartbeats 4000000 in
set_option maxRecDepth 100000 in
theorem rlat_any (k : Int) (m wd ro qu st sl se wa : Int) (A A2 : Option Addr) (C C2 : Nat) (L T : List Int) (tb : Bool) (n n2 : Nat) (w : World) (hn : L.length = n) (h2 : T.length = n2) (bn : n ≤ 9223372036854775807) (b2 : n2 ≤ 9223372036854775807) (hL : Sl w .i64 A L) (hT : Sl w .u32 A2 T) :
    Calls Try.prog 19 #[.agg #[.int .i64 m, .int .i64 wd, .int .i64 ro, .int .i64 qu, .int .i64 st, .int .i64 sl, .int .i64 se, .int .i64 wa, .slice A n C, .bool tb, .slice A2 n2 C2], .int .i64 k] w fun e w' => e = .returned (.int .i64 (lav L k)) ∧ Below w.heap.size w w' := by
  have HL := Lib.hid hL
  have HT := Lib.hid hT
  have Hn := Lib.hid hn
  have H2 := Lib.hid h2
  clear hL hT hn h2
  go_enter Try.func19, Try.ntmps19
  go_wp2_with fail
  refine (rclean_any m wd ro qu st sl se wa A A2 C C2 L T tb n n2 _ Hn.out H2.out bn b2 (HL.out.alloc _) (HT.out.alloc _)).mono ?_
  rintro e w1 ⟨A8, A10, N, C8, N2, C10, rfl, l1, l2, m1, m2, s1, s2, hb, hg, hg2⟩
  have hb' := Lib.hid (((Below.refl w.heap.size w).alloc (Nat.le_refl _) _).trans (hb.mono (by simp)))
  clear hb HL HT
  by_cases hz : N = 0
  · subst hz
    have hv := Lib.hid (show lav L k = 1 by unfold lav; rw [if_pos l1])
    clear l1 s1 l2 s2
    go_wp2
    go_ret
    exact ⟨ret_i64 hv.out.symm, (hb'.out.alloc (Nat.le_trans (by simp) hb'.out.size) _)⟩
  · have hz' : (N == 0) = false := by rw [beq_eq_false_iff_ne]; exact hz
    have hz2 : ((N : Int) == 0) = false := by rw [beq_eq_false_iff_ne]; omega
    have hp := pl_bd k N (by omega)
    have hv : lav L k = (la L).getD (pl k N).toNat 0 := by unfold lav; rw [if_neg (by omega), l1]
    obtain ⟨b, off, rfl, hblt, hc⟩ := s1 (by omega)
    have hcell := hc (pl k N).toNat (by omega)
    rw [← hv] at hcell
    obtain ⟨p, ep⟩ : ∃ x, pl k N = x := ⟨_, rfl⟩
    rw [ep] at hcell hp
    have ep := Lib.hid ep
    clear hc hv hz hz' l1 l2 s1 s2
    obtain ⟨v, ev⟩ : ∃ x, lav L k = x := ⟨_, rfl⟩
    rw [ev] at hcell
    have ev := Lib.hid ev
    have hp0 := hp.1
    have hp1 := hp.2
    clear hp
    go_wp2_with fail
    refine wp_region_held_drew (S := fun w' => Box w' w1.heap.size (cl 0 2 m) (cl 1 2 wd) (cl 2 8 ro) (cl 1 4 qu) (cl 1 4 st) (cl 2 6 sl) (cs se) (cl 1 2 wa) (some ⟨b, off, none⟩) N C8 tb A10 N2 C10 ∧ w'.cell? ⟨b, off + p.toNat, none⟩ = some (.int .i64 v)) (by kernel_rfl) ⟨heap_alloc_new w1 _, (World.cell?_alloc_lt _ _ _ hblt).trans hcell⟩ (fun hHeld => ?_)
    refine wpAnyH_take (i := 0) (oi := ⟨some 12, _, _, _, _, _⟩) (v := ?vl0) rfl (by kernel_rfl) (by kernel_rfl) (by kernel_rfl) (fun _ _ _ h => h) (Or.inl ⟨by rfl, ?hyl0⟩) hHeld ?restl0
    case hyl0 => (intro w hSw; go_simp; try (with_reducible rfl))
    try simp only [Act.put, List.setIfInBounds_toArray, List.set_cons_zero, List.set_cons_succ]
    refine wpAnyH_take (i := 1) (oi := ⟨some 13, _, _, _, _, _⟩) (v := ?vl1) rfl (by kernel_rfl) (by kernel_rfl) (by kernel_rfl) (fun _ _ _ h => h) (Or.inl ⟨by rfl, ?hyl1⟩) hHeld ?restl1
    case hyl1 => (intro w hSw; obtain ⟨hB, hC⟩ := hSw; obtain ⟨k0, k1, k2, k3, k4, k5, k6, k7, k8, k9, k10⟩ := Box.cells hB; go_simp; try (with_reducible rfl))
    try simp only [Act.put, List.setIfInBounds_toArray, List.set_cons_zero, List.set_cons_succ]
    refine wpAnyH_take (i := 2) (oi := ⟨some 14, _, _, _, _, _⟩) (v := ?vl2) rfl (by kernel_rfl) (by kernel_rfl) (by kernel_rfl) (fun _ _ _ h => h) (Or.inl ⟨by rfl, ?hyl2⟩) hHeld ?restl2
    case hyl2 => (intro w hSw; go_simp; try (with_reducible rfl))
    try simp only [Act.put, List.setIfInBounds_toArray, List.set_cons_zero, List.set_cons_succ]
    refine wpAnyH_take (i := 3) (oi := ⟨some 15, _, _, _, _, _⟩) (v := ?vl3) rfl (by kernel_rfl) (by kernel_rfl) (by kernel_rfl) (fun _ _ _ h => h) (Or.inl ⟨by rfl, ?hyl3⟩) hHeld ?restl3
    case hyl3 => (intro w hSw; go_simp; try (with_reducible rfl))
    try simp only [Act.put, List.setIfInBounds_toArray, List.set_cons_zero, List.set_cons_succ]
    refine wpAnyH_take (i := 4) (oi := ⟨some 16, _, _, _, _, _⟩) (v := ?vl4) rfl (by kernel_rfl) (by kernel_rfl) (by kernel_rfl) (fun _ _ _ h => h) (Or.inl ⟨by rfl, ?hyl4⟩) hHeld ?restl4
    case hyl4 => (intro w hSw; obtain ⟨hB, hC⟩ := hSw; obtain ⟨k0, k1, k2, k3, k4, k5, k6, k7, k8, k9, k10⟩ := Box.cells hB; go_simp; try (with_reducible rfl))
    try simp only [Act.put, List.setIfInBounds_toArray, List.set_cons_zero, List.set_cons_succ]
    refine wpAnyH_take (i := 5) (oi := ⟨some 17, _, _, _, _, _⟩) (v := ?vl5) rfl (by kernel_rfl) (by kernel_rfl) (by kernel_rfl) (fun _ _ _ h => h) (Or.inl ⟨by rfl, ?hyl5⟩) hHeld ?restl5
    case hyl5 => (intro w hSw; go_simp; try (with_reducible rfl))
    try simp only [Act.put, List.setIfInBounds_toArray, List.set_cons_zero, List.set_cons_succ]
    refine take_call (i := 6) (oi := ⟨some 18, _, _, _, _, _⟩) (v := .int .i64 p) rfl (by kernel_rfl) (by kernel_rfl) (by kernel_rfl) (fun _ _ _ h => h) (by rfl) 28 #[.int .i64 k, .int .i64 N] (fun w => by go_simp) (fun w hSw => by have h := (place_any k N w (by omega)); rw [ep.out] at h; exact h) hHeld ?_
    try simp only [Act.put, List.setIfInBounds_toArray, List.set_cons_zero, List.set_cons_succ]
    refine wpAnyH_take (i := 7) (oi := ⟨some 19, _, _, _, _, _⟩) (v := ?vl7) rfl (by kernel_rfl) (by kernel_rfl) (by kernel_rfl) (fun _ _ _ h => h) (Or.inl ⟨by rfl, ?hyl7⟩) hHeld ?restl7
    case hyl7 => (intro w hSw; go_simp; try (with_reducible rfl))
    try simp only [Act.put, List.setIfInBounds_toArray, List.set_cons_zero, List.set_cons_succ]
    refine wpAnyH_take (i := 8) (oi := ⟨some 20, _, _, _, _, _⟩) (v := ?vl8) rfl (by kernel_rfl) (by kernel_rfl) (by kernel_rfl) (fun _ _ _ h => h) (Or.inl ⟨by rfl, ?hyl8⟩) hHeld ?restl8
    case hyl8 => (intro w hSw; obtain ⟨hB, hC⟩ := hSw; clear hB; go_simp; try (with_reducible rfl))
    try simp only [Act.put, List.setIfInBounds_toArray, List.set_cons_zero, List.set_cons_succ]
    refine wpAnyH_take (i := 9) (oi := ⟨some 4, _, _, _, _, _⟩) (v := ?vl9) rfl (by kernel_rfl) (by kernel_rfl) (by kernel_rfl) (fun _ _ _ h => h) (Or.inl ⟨by rfl, ?hyl9⟩) hHeld ?restl9
    case hyl9 => (intro w hSw; go_simp; try (with_reducible rfl))
    try simp only [Act.put, List.setIfInBounds_toArray, List.set_cons_zero, List.set_cons_succ]
    refine wpAnyH_done (by kernel_rfl) ?_ _
    clear hHeld
    go_wp2
    go_ret
    exact ⟨ret_i64 ev.out.symm, (hb'.out.alloc (Nat.le_trans (by simp) hb'.out.size) _).drew⟩
set_option maxHeartbeats 4000000 in
set_option maxRecDepth 100000 in
theorem rtape_any (k pc : Int) (m wd ro qu st sl se wa : Int) (A A2 : Option Addr) (C C2 : Nat) (L T : List Int) (tb : Bool) (n n2 : Nat) (w : World) (hn : L.length = n) (h2 : T.length = n2) (bn : n ≤ 9223372036854775807) (b2 : n2 ≤ 9223372036854775807) (hL : Sl w .i64 A L) (hT : Sl w .u32 A2 T) (p0 : 0 ≤ pc) (p1 : pc ≤ 4294967295) :
    Calls Try.prog 20 #[.agg #[.int .i64 m, .int .i64 wd, .int .i64 ro, .int .i64 qu, .int .i64 st, .int .i64 sl, .int .i64 se, .int .i64 wa, .slice A n C, .bool tb, .slice A2 n2 C2], .int .i64 k, .int .u32 pc] w fun e w' => e = .returned (.int .u32 (tav T k pc)) ∧ Below w.heap.size w w' := by
  have HL := Lib.hid hL
  have HT := Lib.hid hT
  have Hn := Lib.hid hn
  have H2 := Lib.hid h2
  clear hL hT hn h2
  go_enter Try.func20, Try.ntmps20
  go_wp2_with fail
  refine (rclean_any m wd ro qu st sl se wa A A2 C C2 L T tb n n2 _ Hn.out H2.out bn b2 (HL.out.alloc _) (HT.out.alloc _)).mono ?_
  rintro e w1 ⟨A8, A10, N, C8, N2, C10, rfl, l1, l2, m1, m2, s1, s2, hb, hg, hg2⟩
  have hb' := Lib.hid (((Below.refl w.heap.size w).alloc (Nat.le_refl _) _).trans (hb.mono (by simp)))
  clear hb HL HT
  by_cases hz : N2 = 0
  · subst hz
    have hv := Lib.hid (show tav T k pc = (pc + 4) % 4294967296 by unfold tav; rw [if_pos l2])
    clear l1 s1 l2 s2
    go_wp2
    go_ret
    exact ⟨ret_u32 hv.out.symm, (hb'.out.alloc (Nat.le_trans (by simp) hb'.out.size) _)⟩
  · have hz' : (N2 == 0) = false := by rw [beq_eq_false_iff_ne]; exact hz
    have hz2 : ((N2 : Int) == 0) = false := by rw [beq_eq_false_iff_ne]; omega
    have hp := pl_bd k N2 (by omega)
    have hv : tav T k pc = (ta T).getD (pl k N2).toNat 0 := by unfold tav; rw [if_neg (by omega), l2]
    obtain ⟨b, off, rfl, hblt, hc⟩ := s2 (by omega)
    have hcell := hc (pl k N2).toNat (by omega)
    rw [← hv] at hcell
    obtain ⟨p, ep⟩ : ∃ x, pl k N2 = x := ⟨_, rfl⟩
    rw [ep] at hcell hp
    have ep := Lib.hid ep
    clear hc hv hz hz' l1 l2 s1 s2
    obtain ⟨v, ev⟩ : ∃ x, tav T k pc = x := ⟨_, rfl⟩
    rw [ev] at hcell
    have ev := Lib.hid ev
    have hp0 := hp.1
    have hp1 := hp.2
    clear hp
    go_wp2_with fail
    refine wp_region_held_drew (S := fun w' => Box w' w1.heap.size (cl 0 2 m) (cl 1 2 wd) (cl 2 8 ro) (cl 1 4 qu) (cl 1 4 st) (cl 2 6 sl) (cs se) (cl 1 2 wa) A8 N C8 tb (some ⟨b, off, none⟩) N2 C10 ∧ w'.cell? ⟨b, off + p.toNat, none⟩ = some (.int .u32 v)) (by kernel_rfl) ⟨heap_alloc_new w1 _, (World.cell?_alloc_lt _ _ _ hblt).trans hcell⟩ (fun hHeld => ?_)
    refine wpAnyH_take (i := 0) (oi := ⟨some 16, _, _, _, _, _⟩) (v := ?vt0) rfl (by kernel_rfl) (by kernel_rfl) (by kernel_rfl) (fun _ _ _ h => h) (Or.inl ⟨by rfl, ?hyt0⟩) hHeld ?restt0
    case hyt0 => (intro w hSw; go_simp; try (with_reducible rfl))
    try simp only [Act.put, List.setIfInBounds_toArray, List.set_cons_zero, List.set_cons_succ]
    refine wpAnyH_take (i := 1) (oi := ⟨some 17, _, _, _, _, _⟩) (v := ?vt1) rfl (by kernel_rfl) (by kernel_rfl) (by kernel_rfl) (fun _ _ _ h => h) (Or.inl ⟨by rfl, ?hyt1⟩) hHeld ?restt1
    case hyt1 => (intro w hSw; obtain ⟨hB, hC⟩ := hSw; obtain ⟨k0, k1, k2, k3, k4, k5, k6, k7, k8, k9, k10⟩ := Box.cells hB; go_simp; try (with_reducible rfl))
    try simp only [Act.put, List.setIfInBounds_toArray, List.set_cons_zero, List.set_cons_succ]
    refine wpAnyH_take (i := 2) (oi := ⟨some 18, _, _, _, _, _⟩) (v := ?vt2) rfl (by kernel_rfl) (by kernel_rfl) (by kernel_rfl) (fun _ _ _ h => h) (Or.inl ⟨by rfl, ?hyt2⟩) hHeld ?restt2
    case hyt2 => (intro w hSw; go_simp; try (with_reducible rfl))
    try simp only [Act.put, List.setIfInBounds_toArray, List.set_cons_zero, List.set_cons_succ]
    refine wpAnyH_take (i := 3) (oi := ⟨some 19, _, _, _, _, _⟩) (v := ?vt3) rfl (by kernel_rfl) (by kernel_rfl) (by kernel_rfl) (fun _ _ _ h => h) (Or.inl ⟨by rfl, ?hyt3⟩) hHeld ?restt3
    case hyt3 => (intro w hSw; go_simp; try (with_reducible rfl))
    try simp only [Act.put, List.setIfInBounds_toArray, List.set_cons_zero, List.set_cons_succ]
    refine wpAnyH_take (i := 4) (oi := ⟨some 20, _, _, _, _, _⟩) (v := ?vt4) rfl (by kernel_rfl) (by kernel_rfl) (by kernel_rfl) (fun _ _ _ h => h) (Or.inl ⟨by rfl, ?hyt4⟩) hHeld ?restt4
    case hyt4 => (intro w hSw; obtain ⟨hB, hC⟩ := hSw; obtain ⟨k0, k1, k2, k3, k4, k5, k6, k7, k8, k9, k10⟩ := Box.cells hB; go_simp; try (with_reducible rfl))
    try simp only [Act.put, List.setIfInBounds_toArray, List.set_cons_zero, List.set_cons_succ]
    refine wpAnyH_take (i := 5) (oi := ⟨some 21, _, _, _, _, _⟩) (v := ?vt5) rfl (by kernel_rfl) (by kernel_rfl) (by kernel_rfl) (fun _ _ _ h => h) (Or.inl ⟨by rfl, ?hyt5⟩) hHeld ?restt5
    case hyt5 => (intro w hSw; go_simp; try (with_reducible rfl))
    try simp only [Act.put, List.setIfInBounds_toArray, List.set_cons_zero, List.set_cons_succ]
    refine take_call (i := 6) (oi := ⟨some 22, _, _, _, _, _⟩) (v := .int .i64 p) rfl (by kernel_rfl) (by kernel_rfl) (by kernel_rfl) (fun _ _ _ h => h) (by rfl) 28 #[.int .i64 k, .int .i64 N2] (fun w => by go_simp) (fun w hSw => by have h := (place_any k N2 w (by omega)); rw [ep.out] at h; exact h) hHeld ?_
    try simp only [Act.put, List.setIfInBounds_toArray, List.set_cons_zero, List.set_cons_succ]
    refine wpAnyH_take (i := 7) (oi := ⟨some 23, _, _, _, _, _⟩) (v := ?vt7) rfl (by kernel_rfl) (by kernel_rfl) (by kernel_rfl) (fun _ _ _ h => h) (Or.inl ⟨by rfl, ?hyt7⟩) hHeld ?restt7
    case hyt7 => (intro w hSw; go_simp; try (with_reducible rfl))
    try simp only [Act.put, List.setIfInBounds_toArray, List.set_cons_zero, List.set_cons_succ]
    refine wpAnyH_take (i := 8) (oi := ⟨some 24, _, _, _, _, _⟩) (v := ?vt8) rfl (by kernel_rfl) (by kernel_rfl) (by kernel_rfl) (fun _ _ _ h => h) (Or.inl ⟨by rfl, ?hyt8⟩) hHeld ?restt8
    case hyt8 => (intro w hSw; obtain ⟨hB, hC⟩ := hSw; clear hB; go_simp; try (with_reducible rfl))
    try simp only [Act.put, List.setIfInBounds_toArray, List.set_cons_zero, List.set_cons_succ]
    refine wpAnyH_take (i := 9) (oi := ⟨some 6, _, _, _, _, _⟩) (v := ?vt9) rfl (by kernel_rfl) (by kernel_rfl) (by kernel_rfl) (fun _ _ _ h => h) (Or.inl ⟨by rfl, ?hyt9⟩) hHeld ?restt9
    case hyt9 => (intro w hSw; go_simp; try (with_reducible rfl))
    try simp only [Act.put, List.setIfInBounds_toArray, List.set_cons_zero, List.set_cons_succ]
    refine wpAnyH_done (by kernel_rfl) ?_ _
    clear hHeld
    go_wp2
    go_ret
    exact ⟨ret_u32 ev.out.symm, (hb'.out.alloc (Nat.le_trans (by simp) hb'.out.size) _).drew⟩
set_option maxHeartbeats 4000000 in
set_option maxRecDepth 100000 in
theorem rmost_any (m wd ro qu st sl se wa : Int) (A A2 : Option Addr) (C C2 : Nat) (L T : List Int) (tb : Bool) (n n2 : Nat) (w : World) (hn : L.length = n) (h2 : T.length = n2) (bn : n ≤ 9223372036854775807) (b2 : n2 ≤ 9223372036854775807) (hL : Sl w .i64 A L) (hT : Sl w .u32 A2 T) :
    Calls Try.prog 21 #[.agg #[.int .i64 m, .int .i64 wd, .int .i64 ro, .int .i64 qu, .int .i64 st, .int .i64 sl, .int .i64 se, .int .i64 wa, .slice A n C, .bool tb, .slice A2 n2 C2]] w fun e w' => e = .returned (.int .i64 (mov L)) ∧ Below w.heap.size w w' := by
  have HL := Lib.hid hL
  have HT := Lib.hid hT
  have Hn := Lib.hid hn
  have H2 := Lib.hid h2
  clear hL hT hn h2
  go_enter Try.func21, Try.ntmps21
  go_wp2_with fail
  refine (rclean_any m wd ro qu st sl se wa A A2 C C2 L T tb n n2 _ Hn.out H2.out bn b2 (HL.out.alloc _) (HT.out.alloc _)).mono ?_
  rintro e w1 ⟨A8, A10, N, C8, N2, C10, rfl, l1, l2, m1, m2, s1, s2, hb, hg, hg2⟩
  have hb' := Lib.hid (((Below.refl w.heap.size w).alloc (Nat.le_refl _) _).trans (hb.mono (by simp)))
  clear hb HL HT
  have f8 := @fld8
  have f10 := @fld10
  clear s2 l2
  have S1 := Lib.hid s1
  have L1 := Lib.hid l1
  clear s1 l1
  go_wp2
  go_loop [3, 10] (fun v c => ∃ k : Nat, k ≤ N ∧ v = .int .i64 (mok L k) ∧ c = .int .i64 k) (fun _ c => N - (intOf c).toNat)
  case atStart => exact ⟨0, by omega, rfl, rfl⟩
  case round =>
    obtain ⟨k, hk, rfl, rfl⟩ := hrel
    by_cases hlt : k < N
    · have hkl : k < (la L).length := by rw [L1.out]; exact hlt
      obtain ⟨b, off, rfl, hblt, hc⟩ := S1.out (by omega)
      have hcell := hc k hkl
      have hs := mok_succ L k hkl
      obtain ⟨z, ez⟩ : ∃ z, (la L).getD k 0 = z := ⟨_, rfl⟩
      rw [ez] at hcell hs
      have hs := Lib.hid hs
      clear ez hkl hc
      rcases Int.lt_or_le (mok L k) z with c | c
      · go_wp2
        go_round
        case rel => exact ⟨k + 1, by omega, by rw [hs.out, if_pos c], rfl⟩
        case measure => simp [intOf]; omega
      · go_wp2
        go_round
        case rel => exact ⟨k + 1, by omega, by rw [hs.out, if_neg (by omega)], rfl⟩
        case measure => simp [intOf]; omega
    · have hkN : k = N := by omega
      go_wp2
      go_ret
      exact ⟨ret_i64 (by rw [← L1.out]; exact mok_all L), hb'.out⟩
set_option maxHeartbeats 8000000 in
set_option maxRecDepth 100000 in
theorem rbound_any (m wd ro qu st sl se wa : Int) (A A2 : Option Addr) (C C2 : Nat) (L T : List Int) (tb : Bool) (n n2 : Nat) (w : World) (hn : L.length = n) (h2 : T.length = n2) (bn : n ≤ 9223372036854775807) (b2 : n2 ≤ 9223372036854775807) (hL : Sl w .i64 A L) (hT : Sl w .u32 A2 T) :
    Calls Try.prog 22 #[.agg #[.int .i64 m, .int .i64 wd, .int .i64 ro, .int .i64 qu, .int .i64 st, .int .i64 sl, .int .i64 se, .int .i64 wa, .slice A n C, .bool tb, .slice A2 n2 C2]] w fun e w' => e = .returned (.int .i64 (bo (cl 1 4 st) (cl 2 6 sl) (cs se) (cl 1 2 wa) (mov L))) ∧ Below w.heap.size w w' := by
  have x1 := cl_bd 1 4 st (by decide)
  have x2 := cl_bd 2 6 sl (by decide)
  have x3 := cs_bd se
  have x4 := cl_bd 1 2 wa (by decide)
  have x5 := mov_bd L
  have HL := Lib.hid hL
  have HT := Lib.hid hT
  have Hn := Lib.hid hn
  have H2 := Lib.hid h2
  clear hL hT hn h2
  go_enter Try.func22, Try.ntmps22
  go_wp2_with fail
  refine (rclean_any m wd ro qu st sl se wa A A2 C C2 L T tb n n2 _ Hn.out H2.out bn b2 (HL.out.alloc _) (HT.out.alloc _)).mono ?_
  rintro e w1 ⟨A8, A10, N, C8, N2, C10, rfl, l1, l2, m1, m2, s1, s2, hb, hg, hg2⟩
  have hb' := Lib.hid (((Below.refl w.heap.size w).alloc (Nat.le_refl _) _).trans (hb.mono (by simp)))
  generalize cl 0 2 m = m1
  generalize cl 1 2 wd = wd1
  generalize cl 2 8 ro = ro1
  generalize cl 1 4 qu = qu1
  generalize e1 : cl 1 4 st = st1 at *
  generalize e2 : cl 2 6 sl = sl1 at *
  generalize e3 : cs se = se1 at *
  generalize e4 : cl 1 2 wa = wa1 at *
  have EE := Lib.hid (And.intro e1 (And.intro e2 (And.intro e3 e4)))
  clear e1 e2 e3 e4 l1 l2 s1 s2 hg hg2
  have lw : w.heap.size < w1.heap.size := Nat.lt_of_lt_of_le (by simp) hb.size
  have bx := (hb.block w.heap.size (by simp)).trans (heap_alloc_new w _)
  have BW := Lib.hid (hb'.out.alloc (Nat.le_of_lt lw) (.cells #[.int .i64 m1, .int .i64 wd1, .int .i64 ro1, .int .i64 qu1, .int .i64 st1, .int .i64 sl1, .int .i64 se1, .int .i64 wa1, .slice A8 N C8, .bool tb, .slice A10 N2 C10] 25))
  have HL2 := Lib.hid (HL.out.below BW.out)
  have HT2 := Lib.hid (HT.out.below BW.out)
  have BXA := Lib.hid (show Box (w1.alloc (.cells #[.int .i64 m1, .int .i64 wd1, .int .i64 ro1, .int .i64 qu1, .int .i64 st1, .int .i64 sl1, .int .i64 se1, .int .i64 wa1, .slice A8 N C8, .bool tb, .slice A10 N2 C10] 25)) w.heap.size m wd ro qu st sl se wa A n C tb A2 n2 C2 from (Below.heap_alloc _ _ _ lw).trans bx)
  have BXB := Lib.hid (show Box (w1.alloc (.cells #[.int .i64 m1, .int .i64 wd1, .int .i64 ro1, .int .i64 qu1, .int .i64 st1, .int .i64 sl1, .int .i64 se1, .int .i64 wa1, .slice A8 N C8, .bool tb, .slice A10 N2 C10] 25)) w1.heap.size m1 wd1 ro1 qu1 st1 sl1 se1 wa1 A8 N C8 tb A10 N2 C10 from heap_alloc_new w1 _)
  clear hb hb' bx HL HT
  have y1 := mul_bd se1 wa1 4 2 (by omega) (by omega) (by omega) (by omega)
  have y2 := mul_bd (sl1 + st1 + se1 * wa1 + 4) (mov L + 1) 22 9 (by omega) (by omega) (by omega) (by omega)
  have y3 := mul_bd ((sl1 + st1 + se1 * wa1 + 4) * (mov L + 1)) (st1 + 3) 198 7 (by omega) (by omega) (by omega) (by omega)
  go_wp2_with fail
  generalize hG : w1.alloc (.cells #[.int .i64 m1, .int .i64 wd1, .int .i64 ro1, .int .i64 qu1, .int .i64 st1, .int .i64 sl1, .int .i64 se1, .int .i64 wa1, .slice A8 N C8, .bool tb, .slice A10 N2 C10] 25) = w2 at *
  have ld : w1.heap.size < w2.heap.size := Box.lt BXB.out
  have lb : w.heap.size < w2.heap.size := by omega
  clear hG
  refine wp_region_held_drew (S := fun w' => Box w' w.heap.size m wd ro qu st sl se wa A n C tb A2 n2 C2 ∧ Box w' w1.heap.size m1 wd1 ro1 qu1 st1 sl1 se1 wa1 A8 N C8 tb A10 N2 C10 ∧ w2.heap.size ≤ w'.heap.size ∧ Below w2.heap.size w2 w') (by kernel_rfl) ⟨BXA.out, BXB.out, Nat.le_refl _, (Below.refl _ _).drew⟩ (fun hHeld => ?_)
  refine wpAnyH_take (i := 0) (oi := ⟨some 19, _, _, _, _, _⟩) (v := ?vbo0) rfl (by kernel_rfl) (by kernel_rfl) (by kernel_rfl) (fun _ _ _ h => h) (Or.inl ⟨by rfl, ?hybo0⟩) hHeld ?restbo0
  case hybo0 => (intro w hSw; go_simp; try (with_reducible rfl))
  try simp only [Act.put, List.setIfInBounds_toArray, List.set_cons_zero, List.set_cons_succ]
  refine tk_box (i := 1) (oi := ⟨some 20, _, _, _, _, _⟩) rfl (by kernel_rfl) (by kernel_rfl) (by kernel_rfl) (fun _ _ _ h => h) (by rfl) _ rfl _ rfl _ (fun _ h => h.1) rfl hHeld ?_
  try simp only [Act.put, List.setIfInBounds_toArray, List.set_cons_zero, List.set_cons_succ]
  refine wpAnyH_take (i := 5) (oi := ⟨some 24, _, _, _, _, _⟩) (v := ?vbo5) rfl (by kernel_rfl) (by kernel_rfl) (by kernel_rfl) (fun _ _ _ h => h) (Or.inl ⟨by rfl, ?hybo5⟩) hHeld ?restbo5
  case hybo5 => (intro w hSw; go_simp; try (with_reducible rfl))
  try simp only [Act.put, List.setIfInBounds_toArray, List.set_cons_zero, List.set_cons_succ]
  refine wpAnyH_take (i := 6) (oi := ⟨some 25, _, _, _, _, _⟩) (v := ?vbo6) rfl (by kernel_rfl) (by kernel_rfl) (by kernel_rfl) (fun _ _ _ h => h) (Or.inl ⟨by rfl, ?hybo6⟩) hHeld ?restbo6
  case hybo6 => (intro w hSw; obtain ⟨hA, hB, hC⟩ := hSw; obtain ⟨k0, k1, k2, k3, k4, k5, k6, k7, k8, k9, k10⟩ := Box.cells hB; go_simp; try (with_reducible rfl))
  try simp only [Act.put, List.setIfInBounds_toArray, List.set_cons_zero, List.set_cons_succ]
  refine wpAnyH_take (i := 7) (oi := ⟨some 26, _, _, _, _, _⟩) (v := ?vbo7) rfl (by kernel_rfl) (by kernel_rfl) (by kernel_rfl) (fun _ _ _ h => h) (Or.inl ⟨by rfl, ?hybo7⟩) hHeld ?restbo7
  case hybo7 => (intro w hSw; go_simp; try (with_reducible rfl))
  try simp only [Act.put, List.setIfInBounds_toArray, List.set_cons_zero, List.set_cons_succ]
  refine wpAnyH_ready (rs := [2]) (by kernel_rfl) (by simp) ?_
  refine AllReadyH.cons (o := ⟨some 21, _, _, _, _, _⟩) rfl (fun K hK => ?_) AllReadyH.nil
  go_simp
  refine (rmost_any m wd ro qu st sl se wa A A2 C C2 L T tb n n2 _ Hn.out H2.out bn b2 (HL2.out.below hHeld.2.2.2) (HT2.out.below hHeld.2.2.2)).mono ?_; rintro e w' ⟨rfl, hg⟩
  refine hK.out _ _ ⟨Box.below hHeld.1 hg (Nat.lt_of_lt_of_le lb hHeld.2.2.1), Box.below hHeld.2.1 hg (Nat.lt_of_lt_of_le ld hHeld.2.2.1), Nat.le_trans hHeld.2.2.1 hg.size, hHeld.2.2.2.trans (hg.mono hHeld.2.2.1)⟩ (fun hHeld' => ?_)
  clear hK K hHeld
  have hHeld := hHeld'
  clear hHeld'
  try simp only [Act.put, List.setIfInBounds_toArray, List.set_cons_zero, List.set_cons_succ]
  refine wpAnyH_take (i := 3) (oi := ⟨some 22, _, _, _, _, _⟩) (v := ?vbo3) rfl (by kernel_rfl) (by kernel_rfl) (by kernel_rfl) (fun _ _ _ h => h) (Or.inl ⟨by rfl, ?hybo3⟩) hHeld ?restbo3
  case hybo3 => (intro w hSw; go_simp; try (with_reducible rfl))
  try simp only [Act.put, List.setIfInBounds_toArray, List.set_cons_zero, List.set_cons_succ]
  refine wpAnyH_take (i := 4) (oi := ⟨some 23, _, _, _, _, _⟩) (v := ?vbo4) rfl (by kernel_rfl) (by kernel_rfl) (by kernel_rfl) (fun _ _ _ h => h) (Or.inl ⟨by rfl, ?hybo4⟩) hHeld ?restbo4
  case hybo4 => (intro w hSw; go_simp; try (with_reducible rfl))
  try simp only [Act.put, List.setIfInBounds_toArray, List.set_cons_zero, List.set_cons_succ]
  refine wpAnyH_take (i := 8) (oi := ⟨some 27, _, _, _, _, _⟩) (v := ?vbo8) rfl (by kernel_rfl) (by kernel_rfl) (by kernel_rfl) (fun _ _ _ h => h) (Or.inl ⟨by rfl, ?hybo8⟩) hHeld ?restbo8
  case hybo8 => (intro w hSw; go_simp; try (with_reducible rfl))
  try simp only [Act.put, List.setIfInBounds_toArray, List.set_cons_zero, List.set_cons_succ]
  refine wpAnyH_take (i := 9) (oi := ⟨some 28, _, _, _, _, _⟩) (v := ?vbo9) rfl (by kernel_rfl) (by kernel_rfl) (by kernel_rfl) (fun _ _ _ h => h) (Or.inl ⟨by rfl, ?hybo9⟩) hHeld ?restbo9
  case hybo9 => (intro w hSw; go_simp; try (with_reducible rfl))
  try simp only [Act.put, List.setIfInBounds_toArray, List.set_cons_zero, List.set_cons_succ]
  refine wpAnyH_take (i := 10) (oi := ⟨some 2, _, _, _, _, _⟩) (v := ?vbo10) rfl (by kernel_rfl) (by kernel_rfl) (by kernel_rfl) (fun _ _ _ h => h) (Or.inl ⟨by rfl, ?hybo10⟩) hHeld ?restbo10
  case hybo10 => (intro w hSw; go_simp; try (with_reducible rfl))
  try simp only [Act.put, List.setIfInBounds_toArray, List.set_cons_zero, List.set_cons_succ]
  refine wpAnyH_done (by kernel_rfl) ?_ _
  have Z := Lib.hid (BW.out.trans (hHeld.2.2.2.mono (Nat.le_of_lt lb)))
  clear hHeld
  go_wp2
  go_ret
  refine ⟨ret_i64 ?_, Z.out⟩
  obtain ⟨e1, e2, e3, e4⟩ := EE.out
  rw [e1, e2, e3, e4]
  unfold bo
  simp (disch := omega) only [IntWalk.i64_in]
set_option maxHeartbeats 8000000 in
set_option maxRecDepth 100000 in
theorem rdrain_any (m wd ro qu st sl se wa : Int) (A A2 : Option Addr) (C C2 : Nat) (L T : List Int) (tb : Bool) (n n2 : Nat) (w : World) (hn : L.length = n) (h2 : T.length = n2) (bn : n ≤ 9223372036854775807) (b2 : n2 ≤ 9223372036854775807) (hL : Sl w .i64 A L) (hT : Sl w .u32 A2 T) :
    Calls Try.prog 23 #[.agg #[.int .i64 m, .int .i64 wd, .int .i64 ro, .int .i64 qu, .int .i64 st, .int .i64 sl, .int .i64 se, .int .i64 wa, .slice A n C, .bool tb, .slice A2 n2 C2]] w fun e w' => e = .returned (.int .i64 (dr (cl 1 4 st) (cl 2 6 sl) (cs se) (cl 1 2 wa) (mov L))) ∧ Below w.heap.size w w' := by
  have x1 := cl_bd 1 4 st (by decide)
  have x2 := cl_bd 2 6 sl (by decide)
  have x3 := cs_bd se
  have x4 := cl_bd 1 2 wa (by decide)
  have x5 := mov_bd L
  have HL := Lib.hid hL
  have HT := Lib.hid hT
  have Hn := Lib.hid hn
  have H2 := Lib.hid h2
  clear hL hT hn h2
  go_enter Try.func23, Try.ntmps23
  go_wp2_with fail
  refine (rclean_any m wd ro qu st sl se wa A A2 C C2 L T tb n n2 _ Hn.out H2.out bn b2 (HL.out.alloc _) (HT.out.alloc _)).mono ?_
  rintro e w1 ⟨A8, A10, N, C8, N2, C10, rfl, l1, l2, m1, m2, s1, s2, hb, hg, hg2⟩
  have hb' := Lib.hid (((Below.refl w.heap.size w).alloc (Nat.le_refl _) _).trans (hb.mono (by simp)))
  generalize cl 0 2 m = m1
  generalize cl 1 2 wd = wd1
  generalize cl 2 8 ro = ro1
  generalize cl 1 4 qu = qu1
  generalize e1 : cl 1 4 st = st1 at *
  generalize e2 : cl 2 6 sl = sl1 at *
  generalize e3 : cs se = se1 at *
  generalize e4 : cl 1 2 wa = wa1 at *
  have EE := Lib.hid (And.intro e1 (And.intro e2 (And.intro e3 e4)))
  clear e1 e2 e3 e4 l1 l2 s1 s2 hg hg2
  have lw : w.heap.size < w1.heap.size := Nat.lt_of_lt_of_le (by simp) hb.size
  have bx := (hb.block w.heap.size (by simp)).trans (heap_alloc_new w _)
  have BW := Lib.hid (hb'.out.alloc (Nat.le_of_lt lw) (.cells #[.int .i64 m1, .int .i64 wd1, .int .i64 ro1, .int .i64 qu1, .int .i64 st1, .int .i64 sl1, .int .i64 se1, .int .i64 wa1, .slice A8 N C8, .bool tb, .slice A10 N2 C10] 25))
  have HL2 := Lib.hid (HL.out.below BW.out)
  have HT2 := Lib.hid (HT.out.below BW.out)
  have BXA := Lib.hid (show Box (w1.alloc (.cells #[.int .i64 m1, .int .i64 wd1, .int .i64 ro1, .int .i64 qu1, .int .i64 st1, .int .i64 sl1, .int .i64 se1, .int .i64 wa1, .slice A8 N C8, .bool tb, .slice A10 N2 C10] 25)) w.heap.size m wd ro qu st sl se wa A n C tb A2 n2 C2 from (Below.heap_alloc _ _ _ lw).trans bx)
  have BXB := Lib.hid (show Box (w1.alloc (.cells #[.int .i64 m1, .int .i64 wd1, .int .i64 ro1, .int .i64 qu1, .int .i64 st1, .int .i64 sl1, .int .i64 se1, .int .i64 wa1, .slice A8 N C8, .bool tb, .slice A10 N2 C10] 25)) w1.heap.size m1 wd1 ro1 qu1 st1 sl1 se1 wa1 A8 N C8 tb A10 N2 C10 from heap_alloc_new w1 _)
  clear hb hb' bx HL HT
  have y1 := mul_bd se1 wa1 4 2 (by omega) (by omega) (by omega) (by omega)
  have y2 := mul_bd (2 * (sl1 + st1 + se1 * wa1 + 4)) (mov L + 1) 44 9 (by omega) (by omega) (by omega) (by omega)
  have y3 := mul_bd (2 * (sl1 + st1 + se1 * wa1 + 4) * (mov L + 1)) (st1 + se1 * wa1 + 2) 396 14 (by omega) (by omega) (by omega) (by omega)
  go_wp2_with fail
  generalize hG : w1.alloc (.cells #[.int .i64 m1, .int .i64 wd1, .int .i64 ro1, .int .i64 qu1, .int .i64 st1, .int .i64 sl1, .int .i64 se1, .int .i64 wa1, .slice A8 N C8, .bool tb, .slice A10 N2 C10] 25) = w2 at *
  have ld : w1.heap.size < w2.heap.size := Box.lt BXB.out
  have lb : w.heap.size < w2.heap.size := by omega
  clear hG
  refine wp_region_held_drew (S := fun w' => Box w' w.heap.size m wd ro qu st sl se wa A n C tb A2 n2 C2 ∧ Box w' w1.heap.size m1 wd1 ro1 qu1 st1 sl1 se1 wa1 A8 N C8 tb A10 N2 C10 ∧ w2.heap.size ≤ w'.heap.size ∧ Below w2.heap.size w2 w') (by kernel_rfl) ⟨BXA.out, BXB.out, Nat.le_refl _, (Below.refl _ _).drew⟩ (fun hHeld => ?_)
  refine wpAnyH_take (i := 0) (oi := ⟨some 19, _, _, _, _, _⟩) (v := ?vdr0) rfl (by kernel_rfl) (by kernel_rfl) (by kernel_rfl) (fun _ _ _ h => h) (Or.inl ⟨by rfl, ?hydr0⟩) hHeld ?restdr0
  case hydr0 => (intro w hSw; go_simp; try (with_reducible rfl))
  try simp only [Act.put, List.setIfInBounds_toArray, List.set_cons_zero, List.set_cons_succ]
  refine wpAnyH_take (i := 1) (oi := ⟨some 20, _, _, _, _, _⟩) (v := ?vdr1) rfl (by kernel_rfl) (by kernel_rfl) (by kernel_rfl) (fun _ _ _ h => h) (Or.inl ⟨by rfl, ?hydr1⟩) hHeld ?restdr1
  case hydr1 => (intro w hSw; go_simp; try (with_reducible rfl))
  try simp only [Act.put, List.setIfInBounds_toArray, List.set_cons_zero, List.set_cons_succ]
  refine tk_box (i := 2) (oi := ⟨some 21, _, _, _, _, _⟩) rfl (by kernel_rfl) (by kernel_rfl) (by kernel_rfl) (fun _ _ _ h => h) (by rfl) _ rfl _ rfl _ (fun _ h => h.1) rfl hHeld ?_
  try simp only [Act.put, List.setIfInBounds_toArray, List.set_cons_zero, List.set_cons_succ]
  refine wpAnyH_take (i := 6) (oi := ⟨some 25, _, _, _, _, _⟩) (v := ?vdr6) rfl (by kernel_rfl) (by kernel_rfl) (by kernel_rfl) (fun _ _ _ h => h) (Or.inl ⟨by rfl, ?hydr6⟩) hHeld ?restdr6
  case hydr6 => (intro w hSw; go_simp; try (with_reducible rfl))
  try simp only [Act.put, List.setIfInBounds_toArray, List.set_cons_zero, List.set_cons_succ]
  refine wpAnyH_take (i := 7) (oi := ⟨some 26, _, _, _, _, _⟩) (v := ?vdr7) rfl (by kernel_rfl) (by kernel_rfl) (by kernel_rfl) (fun _ _ _ h => h) (Or.inl ⟨by rfl, ?hydr7⟩) hHeld ?restdr7
  case hydr7 => (intro w hSw; obtain ⟨hA, hB, hC⟩ := hSw; obtain ⟨k0, k1, k2, k3, k4, k5, k6, k7, k8, k9, k10⟩ := Box.cells hB; go_simp; try (with_reducible rfl))
  try simp only [Act.put, List.setIfInBounds_toArray, List.set_cons_zero, List.set_cons_succ]
  refine wpAnyH_take (i := 8) (oi := ⟨some 27, _, _, _, _, _⟩) (v := ?vdr8) rfl (by kernel_rfl) (by kernel_rfl) (by kernel_rfl) (fun _ _ _ h => h) (Or.inl ⟨by rfl, ?hydr8⟩) hHeld ?restdr8
  case hydr8 => (intro w hSw; go_simp; try (with_reducible rfl))
  try simp only [Act.put, List.setIfInBounds_toArray, List.set_cons_zero, List.set_cons_succ]
  refine wpAnyH_take (i := 9) (oi := ⟨some 28, _, _, _, _, _⟩) (v := ?vdr9) rfl (by kernel_rfl) (by kernel_rfl) (by kernel_rfl) (fun _ _ _ h => h) (Or.inl ⟨by rfl, ?hydr9⟩) hHeld ?restdr9
  case hydr9 => (intro w hSw; obtain ⟨hA, hB, hC⟩ := hSw; obtain ⟨k0, k1, k2, k3, k4, k5, k6, k7, k8, k9, k10⟩ := Box.cells hB; go_simp; try (with_reducible rfl))
  try simp only [Act.put, List.setIfInBounds_toArray, List.set_cons_zero, List.set_cons_succ]
  refine wpAnyH_take (i := 10) (oi := ⟨some 29, _, _, _, _, _⟩) (v := ?vdr10) rfl (by kernel_rfl) (by kernel_rfl) (by kernel_rfl) (fun _ _ _ h => h) (Or.inl ⟨by rfl, ?hydr10⟩) hHeld ?restdr10
  case hydr10 => (intro w hSw; go_simp; try (with_reducible rfl))
  try simp only [Act.put, List.setIfInBounds_toArray, List.set_cons_zero, List.set_cons_succ]
  refine wpAnyH_take (i := 11) (oi := ⟨some 30, _, _, _, _, _⟩) (v := ?vdr11) rfl (by kernel_rfl) (by kernel_rfl) (by kernel_rfl) (fun _ _ _ h => h) (Or.inl ⟨by rfl, ?hydr11⟩) hHeld ?restdr11
  case hydr11 => (intro w hSw; obtain ⟨hA, hB, hC⟩ := hSw; obtain ⟨k0, k1, k2, k3, k4, k5, k6, k7, k8, k9, k10⟩ := Box.cells hB; go_simp; try (with_reducible rfl))
  try simp only [Act.put, List.setIfInBounds_toArray, List.set_cons_zero, List.set_cons_succ]
  refine wpAnyH_take (i := 12) (oi := ⟨some 31, _, _, _, _, _⟩) (v := ?vdr12) rfl (by kernel_rfl) (by kernel_rfl) (by kernel_rfl) (fun _ _ _ h => h) (Or.inl ⟨by rfl, ?hydr12⟩) hHeld ?restdr12
  case hydr12 => (intro w hSw; go_simp; try (with_reducible rfl))
  try simp only [Act.put, List.setIfInBounds_toArray, List.set_cons_zero, List.set_cons_succ]
  refine wpAnyH_take (i := 13) (oi := ⟨some 32, _, _, _, _, _⟩) (v := ?vdr13) rfl (by kernel_rfl) (by kernel_rfl) (by kernel_rfl) (fun _ _ _ h => h) (Or.inl ⟨by rfl, ?hydr13⟩) hHeld ?restdr13
  case hydr13 => (intro w hSw; go_simp; try (with_reducible rfl))
  try simp only [Act.put, List.setIfInBounds_toArray, List.set_cons_zero, List.set_cons_succ]
  refine wpAnyH_take (i := 14) (oi := ⟨some 33, _, _, _, _, _⟩) (v := ?vdr14) rfl (by kernel_rfl) (by kernel_rfl) (by kernel_rfl) (fun _ _ _ h => h) (Or.inl ⟨by rfl, ?hydr14⟩) hHeld ?restdr14
  case hydr14 => (intro w hSw; go_simp; try (with_reducible rfl))
  try simp only [Act.put, List.setIfInBounds_toArray, List.set_cons_zero, List.set_cons_succ]
  refine wpAnyH_ready (rs := [3]) (by kernel_rfl) (by simp) ?_
  refine AllReadyH.cons (o := ⟨some 22, _, _, _, _, _⟩) rfl (fun K hK => ?_) AllReadyH.nil
  go_simp
  refine (rmost_any m wd ro qu st sl se wa A A2 C C2 L T tb n n2 _ Hn.out H2.out bn b2 (HL2.out.below hHeld.2.2.2) (HT2.out.below hHeld.2.2.2)).mono ?_; rintro e w' ⟨rfl, hg⟩
  refine hK.out _ _ ⟨Box.below hHeld.1 hg (Nat.lt_of_lt_of_le lb hHeld.2.2.1), Box.below hHeld.2.1 hg (Nat.lt_of_lt_of_le ld hHeld.2.2.1), Nat.le_trans hHeld.2.2.1 hg.size, hHeld.2.2.2.trans (hg.mono hHeld.2.2.1)⟩ (fun hHeld' => ?_)
  clear hK K hHeld
  have hHeld := hHeld'
  clear hHeld'
  try simp only [Act.put, List.setIfInBounds_toArray, List.set_cons_zero, List.set_cons_succ]
  refine wpAnyH_take (i := 4) (oi := ⟨some 23, _, _, _, _, _⟩) (v := ?vdr4) rfl (by kernel_rfl) (by kernel_rfl) (by kernel_rfl) (fun _ _ _ h => h) (Or.inl ⟨by rfl, ?hydr4⟩) hHeld ?restdr4
  case hydr4 => (intro w hSw; go_simp; try (with_reducible rfl))
  try simp only [Act.put, List.setIfInBounds_toArray, List.set_cons_zero, List.set_cons_succ]
  refine wpAnyH_take (i := 5) (oi := ⟨some 24, _, _, _, _, _⟩) (v := ?vdr5) rfl (by kernel_rfl) (by kernel_rfl) (by kernel_rfl) (fun _ _ _ h => h) (Or.inl ⟨by rfl, ?hydr5⟩) hHeld ?restdr5
  case hydr5 => (intro w hSw; go_simp; try (with_reducible rfl))
  try simp only [Act.put, List.setIfInBounds_toArray, List.set_cons_zero, List.set_cons_succ]
  refine wpAnyH_take (i := 15) (oi := ⟨some 34, _, _, _, _, _⟩) (v := ?vdr15) rfl (by kernel_rfl) (by kernel_rfl) (by kernel_rfl) (fun _ _ _ h => h) (Or.inl ⟨by rfl, ?hydr15⟩) hHeld ?restdr15
  case hydr15 => (intro w hSw; go_simp; try (with_reducible rfl))
  try simp only [Act.put, List.setIfInBounds_toArray, List.set_cons_zero, List.set_cons_succ]
  refine wpAnyH_take (i := 16) (oi := ⟨some 35, _, _, _, _, _⟩) (v := ?vdr16) rfl (by kernel_rfl) (by kernel_rfl) (by kernel_rfl) (fun _ _ _ h => h) (Or.inl ⟨by rfl, ?hydr16⟩) hHeld ?restdr16
  case hydr16 => (intro w hSw; go_simp; try (with_reducible rfl))
  try simp only [Act.put, List.setIfInBounds_toArray, List.set_cons_zero, List.set_cons_succ]
  refine wpAnyH_take (i := 17) (oi := ⟨some 2, _, _, _, _, _⟩) (v := ?vdr17) rfl (by kernel_rfl) (by kernel_rfl) (by kernel_rfl) (fun _ _ _ h => h) (Or.inl ⟨by rfl, ?hydr17⟩) hHeld ?restdr17
  case hydr17 => (intro w hSw; go_simp; try (with_reducible rfl))
  try simp only [Act.put, List.setIfInBounds_toArray, List.set_cons_zero, List.set_cons_succ]
  refine wpAnyH_done (by kernel_rfl) ?_ _
  have Z := Lib.hid (BW.out.trans (hHeld.2.2.2.mono (Nat.le_of_lt lb)))
  clear hHeld
  go_wp2
  go_ret
  refine ⟨ret_i64 ?_, Z.out⟩
  obtain ⟨e1, e2, e3, e4⟩ := EE.out
  rw [e1, e2, e3, e4]
  unfold dr
  simp (disch := omega) only [IntWalk.i64_in]
end Go.Proofs.Ytfphdchpfhedfaa
