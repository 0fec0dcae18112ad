/- The walk of the statement GaugeMost. Conditions: the slice reads as a list of doubles; the table of the powers of ten reads as it is laid. -/
import Derived.Test.YtmahjlmblgboaaaDoorWholeW
import Derived.Deep.RegionHeld3
import Derived.Deep.AppendLies
namespace Go.Proofs.YtmahjlmblgboaaaDoor
open Go.ChangeShapes Go.WideShapes Go.ChangeAt Go.RowKit
set_option linter.unusedVariables false
set_option maxRecDepth 10000 in
theorem step_own {ops : Array Oper} {o : Oper} {a : Act} {w : World} {K : Act → World → Prop} {Q : Exit → Act → World → Prop} {E : Prop} (hgd : o.guard = none) (s x : Operand) (t : TypeId)
    (ho : o.op = .call { callee := .builtin .append, args := #[s, x], argTypes := #[t, t] })
    (base : Nat) (e : TypeId) (i : TypeInfo) (z : Value) (size bytes : Nat) (ht : Tryd.prog.underlying t = some (.slice e)) (hi : Tryd.prog.info? e = some i) (hz : i.zero = some z)
    (hsize : i.size = size) (hby : i.bytes = bytes) (hzs : z.cells.size = size) (hsz : 0 < size)
    (v : Value) (n : Nat) (xs : List Value) (hs : a.eval s = v) (hown : w.ownsRow base e size v n xs)
    (ad : Addr) (m c : Nat) (news : List Value) (hx : a.eval x = .slice (some ad) m c) (hl : news.length = m * size) (hnews : ∀ j u, news[j]? = some u → w.cell? (ad.add j) = some u) (h1 : ∀ u ∈ news, u.oneCell' = true)
    (h63 : n + m ≤ maxLen) (hbytes : (n + m) * bytes ≤ 140737488355328) (hbase : base ≤ w.heap.size)
    (h : ∀ v' w', w'.ownsRow base e size v' (n + m) (xs ++ news) → w.grownBy w' v.ownBlock → (v' = .slice none 0 0 ↔ v = .slice none 0 0 ∧ m = 0) → K (a.put o.dst v') w') :
    if Region.wanted o (yielded ops a.tmps) = true then Oper.wp Tryd.prog o a w K Q else E := by
  have hw : Region.wanted o (yielded ops a.tmps) = true := by simp [Region.wanted, hgd]
  rw [if_pos hw]
  exact wp_append_own w s x t ho base e i z size bytes ht hi hz hsize hby hzs hsz v n xs hs hown ad m c news hx hl hnews h1 h63 hbytes hbase h
/-- whether one of the first j is the same as r -/
def Hit (M : List Nat) (r j : Nat) (h : Bool) : Prop := h = true ↔ ∃ m, m < j ∧ sameB (M.getD m 0) r = true
theorem Hit.tt {M : List Nat} {r j : Nat} (h : Hit M r j true) : Hit M r (j + 1) true :=
  ⟨fun _ => by obtain ⟨m, h1, h2⟩ := h.1 rfl; exact ⟨m, by omega, h2⟩, fun _ => rfl⟩
theorem Hit.ff {M : List Nat} {r j : Nat} (h : Hit M r j false) : Hit M r (j + 1) (sameB (M.getD j 0) r) :=
  ⟨fun hs => ⟨j, by omega, hs⟩, fun ⟨m, h1, h2⟩ => by
    by_cases e : m = j
    · rw [← e]; exact h2
    · have := h.2 ⟨m, by omega, h2⟩; cases this⟩
theorem Hit.all {M : List Nat} {r : Nat} {h : Bool} (hh : Hit M r M.length h) (hr : r ∈ M) : h = true := by
  obtain ⟨i, hi, e⟩ := List.mem_iff_getElem.1 hr
  refine hh.2 ⟨i, hi, ?_⟩
  rw [List.getD_eq_getElem?_getD, List.getElem?_eq_getElem hi, Option.getD_some, e]
  exact decide_eq_true rfl
theorem own_fl' {w : World} {base k : Nat} {v : Value} {L : List Nat} (h : w.ownsRow base 43 1 v k (L.map (Value.float .f64))) : ∃ A C, v = .slice A k C ∧ L.length = k ∧ Fl w A L := by
  have hl : L.length = k := by have := h.1; rw [List.length_map, Nat.mul_one] at this; exact this
  rcases h.2 with ⟨rfl, rfl⟩ | ⟨g, cap, cur, rfl, _, hg, _⟩
  · exact ⟨none, 0, rfl, hl, fun h => absurd h (by omega)⟩
  · refine ⟨_, cap, rfl, hl, fun _ => ⟨g, 0, rfl, lt_of_block hg, fun j hj => ?_⟩⟩
    rw [Nat.zero_add, h.cellAt j (by omega)]
    simp [List.getD_eq_getElem?_getD, hj]
theorem flo (l : List Nat) : ∀ u ∈ l.map (Value.float .f64), u.oneCell' = true := by
  intro u hu
  obtain ⟨x, _, rfl⟩ := List.mem_map.1 hu
  rfl
/-- a place in a list of so many -/
theorem rot (t : Int) (N : Nat) (h : 0 < N) (hN : N ≤ 50) : ∃ R : Nat, (wrap64 (t.tmod (N : Int) + (N : Int))).tmod (N : Int) = (R : Int) ∧ R < N := by
  have h1 := Int.lt_tmod_of_pos t (show (0 : Int) < (N : Int) by omega)
  have h2 := Int.tmod_lt_of_pos t (show (0 : Int) < (N : Int) by omega)
  generalize t.tmod (N : Int) = q at *
  rw [show wrap64 (q + (N : Int)) = q + (N : Int) by unfold wrap64; omega]
  have h3 := Int.tmod_nonneg (N : Int) (show 0 ≤ q + (N : Int) by omega)
  have h4 := Int.tmod_lt_of_pos (q + (N : Int)) (show (0 : Int) < (N : Int) by omega)
  exact ⟨((q + (N : Int)).tmod (N : Int)).toNat, by omega, by omega⟩
/-- the cells of a part of a list that lies at an address -/
theorem part_cells {w : World} {b off : Nat} {M : List Nat} (hc : ∀ j, j < M.length → w.cell? ⟨b, off + j, none⟩ = some (.float .f64 (M.getD j 0))) (R : Nat) : ∀ j u, ((M.drop R).map (Value.float .f64))[j]? = some u → w.cell? ((⟨b, off + R, none⟩ : Addr).add j) = some u := by
  intro j u hu
  rw [Go.WideShapes.add_plain, List.getElem?_map, List.getElem?_drop] at *
  cases hm : M[R + j]? with
  | none => rw [hm] at hu; cases hu
  | some x =>
    rw [hm] at hu
    have hl : R + j < M.length := (List.getElem?_eq_some_iff.1 hm).1
    have := hc (R + j) hl
    rw [List.getD_eq_getElem?_getD, hm] at this
    rw [Nat.add_assoc, this]
    exact hu
theorem head_cells {w : World} {b off : Nat} {M : List Nat} (hc : ∀ j, j < M.length → w.cell? ⟨b, off + j, none⟩ = some (.float .f64 (M.getD j 0))) (R : Nat) : ∀ j u, ((M.take R).map (Value.float .f64))[j]? = some u → w.cell? ((⟨b, off, none⟩ : Addr).add j) = some u := by
  intro j u hu
  have h : (M.map (Value.float .f64))[j]? = some u := by
    rw [List.map_take, List.getElem?_take] at hu
    split at hu
    · exact hu
    · cases hu
  exact part_cells (R := 0) hc j u (by rw [List.drop_zero]; exact h)
set_option maxRecDepth 100000 in
set_option maxHeartbeats 8000000 in
theorem turned {w : World} (A : Option Addr) (n C : Nat) (L : List Nat) (t : Int) (e1 : L.length = n) (e2 : n ≤ C) (e3 : C ≤ 9223372036854775807) (e4 : Fl w A L) (e5 : ∀ x ∈ L, x < 18446744073709551616) (b0 : -9223372036854775808 ≤ t) (b1 : t ≤ 9223372036854775807) (ht : TabAt w) : Calls Tryd.prog 7 #[.slice A n C, .int .i64 t] w fun e w' => e = .returned (.bool true) ∧ Below w.heap.size w w' := by
  obtain ⟨i0, hi, hz0, hz1, hz2⟩ := info_parts Tryd.info43
  obtain ⟨N, hN⟩ : ∃ N, min n 50 = N := ⟨_, rfl⟩
  have d1 : min (n : Int) 50 = (N : Int) := by omega
  have d2 : (if (50 : Int) < (n : Int) then (50 : Int) else (n : Int)) = (N : Int) := by split <;> omega
  have hNn : N ≤ n := by omega
  have hN50 : N ≤ 50 := by omega
  have bN : N ≤ 9223372036854775807 := by omega
  obtain ⟨M, hM⟩ : ∃ M, L.take N = M := ⟨_, rfl⟩
  have m1 := Lib.hid (show M.length = N by rw [← hM, List.length_take]; omega)
  have m2 := Lib.hid (show Fl w A M by rw [← hM]; exact e4.take N)
  have m3 := Lib.hid (show ∀ x ∈ M, x < 18446744073709551616 by rw [← hM]; exact fun x hx => e5 x (List.mem_of_mem_take hx))
  have T := Lib.hid ht
  clear ht hN hM e4 e5 e1
  rcases Nat.eq_zero_or_pos N with c | c
  · subst c
    have M0 : M = [] := List.length_eq_zero_iff.1 m1.out
    go_enter Tryd.func7, Tryd.ntmps7
    go_wp2_with fail
    refine (Most_any A 0 _ M _ m1.out bN m2.out m3.out).mono ?_
    rintro e w1 ⟨r, rfl, _, g, _, hb1⟩
    have B1 := Lib.hid hb1
    have rn := g M0
    clear hb1 g
    go_wp2_with fail
    refine (alive_any _ (T.out.below B1.out)).mono ?_
    rintro e w2 ⟨rfl, hb2⟩
    have B2 := Lib.hid (B1.out.trans (hb2.mono B1.out.size))
    clear hb2 B1
    go_wp2_with fail
    refine (none_any r _).mono ?_
    rw [rn]
    rintro e w' ⟨rfl, rfl⟩
    go_wp2
    go_ret
    exact ⟨rfl, B2.out⟩
  · have z1 : ((N : Int) == 0) = false := by rw [beq_eq_false_iff_ne]; omega
    have z2 : (N == 0) = false := by rw [beq_eq_false_iff_ne]; omega
    have z3 : ¬ ((N : Int) = 0) := by omega
    obtain ⟨b, off, rfl, hblt, hc⟩ := m2.out (by rw [m1.out]; exact c)
    have HC := Lib.hid hc
    clear hc
    go_enter Tryd.func7, Tryd.ntmps7
    go_wp2_with fail
    refine (Most_any _ N _ M _ m1.out bN m2.out m3.out).mono ?_
    rintro e w1 ⟨r, rfl, rl, g1, g2, hb1⟩
    have B1 := Lib.hid hb1
    have G1 := Lib.hid g1
    have G2 := Lib.hid g2
    clear hb1 g1 g2
    obtain ⟨R, hR, hRN⟩ := rot t N c hN50
    have r1 : (R : Int) ≤ (N : Int) := by omega
    have r2 : (R : Int) ≤ (C : Int) := by omega
    have r3 : (0 : Int) ≤ (R : Int) := by omega
    have r5 : ¬ (C = R) := by omega
    have hcell1 : ∀ (W : World), Below w.heap.size w W → ∀ j, j < M.length → W.cell? ⟨b, off + j, none⟩ = some (.float .f64 (M.getD j 0)) := fun W hW j hj => (hW.cell (p := ⟨b, off + j, none⟩) hblt).trans (HC.out j hj)
    have S1 := Lib.hid (part_cells (hcell1 _ (B1.out.drew.alloc B1.out.drew.size (.cells #[] 43))) R)
    have S2 := Lib.hid (fun (W : World) (hW : Below w.heap.size w W) => head_cells (hcell1 W hW) R)
    clear hcell1
    go_wp2
    refine wp_region_held_drew (S := fun _ => True) (by kernel_rfl) trivial (fun hHeld => ?_)
    refine wpAnyH_take (i := 1) (oi := ⟨some 36, _, _, _, _, _⟩) (v := ?vt1) rfl (by kernel_rfl) (by kernel_rfl) (by kernel_rfl) (fun _ _ _ h => h) (Or.inl ⟨by rfl, ?hyt1⟩) hHeld ?restt1
    case hyt1 => (intro w hSw; go_simp; try (with_reducible rfl))
    try simp only [Act.put, List.setIfInBounds_toArray, List.set_cons_zero, List.set_cons_succ]
    refine wpAnyH_take (i := 2) (oi := ⟨some 37, _, _, _, _, _⟩) (v := ?vt2) rfl (by kernel_rfl) (by kernel_rfl) (by kernel_rfl) (fun _ _ _ h => h) (Or.inl ⟨by rfl, ?hyt2⟩) hHeld ?restt2
    case hyt2 => (intro w hSw; go_simp; try (with_reducible rfl))
    try simp only [Act.put, List.setIfInBounds_toArray, List.set_cons_zero, List.set_cons_succ]
    refine wpAnyH_take (i := 3) (oi := ⟨some 38, _, _, _, _, _⟩) (v := ?vt3) rfl (by kernel_rfl) (by kernel_rfl) (by kernel_rfl) (fun _ _ _ h => h) (Or.inl ⟨by rfl, ?hyt3⟩) hHeld ?restt3
    case hyt3 => (intro w hSw; go_simp; try (with_reducible rfl))
    try simp only [Act.put, List.setIfInBounds_toArray, List.set_cons_zero, List.set_cons_succ]
    refine wpAnyH_take (i := 5) (oi := ⟨some 40, _, _, _, _, _⟩) (v := ?vt5) rfl (by kernel_rfl) (by kernel_rfl) (by kernel_rfl) (fun _ _ _ h => h) (Or.inl ⟨by rfl, ?hyt5⟩) hHeld ?restt5
    case hyt5 => (intro w hSw; go_simp; try (with_reducible rfl))
    try simp only [Act.put, List.setIfInBounds_toArray, List.set_cons_zero, List.set_cons_succ]
    refine wpAnyH_take (i := 6) (oi := ⟨some 41, _, _, _, _, _⟩) (v := ?vt6) rfl (by kernel_rfl) (by kernel_rfl) (by kernel_rfl) (fun _ _ _ h => h) (Or.inl ⟨by rfl, ?hyt6⟩) hHeld ?restt6
    case hyt6 => (intro w hSw; go_simp; try (with_reducible rfl))
    try simp only [Act.put, List.setIfInBounds_toArray, List.set_cons_zero, List.set_cons_succ]
    refine wpAnyH_take (i := 7) (oi := ⟨some 42, _, _, _, _, _⟩) (v := ?vt7) rfl (by kernel_rfl) (by kernel_rfl) (by kernel_rfl) (fun _ _ _ h => h) (Or.inl ⟨by rfl, ?hyt7⟩) hHeld ?restt7
    case hyt7 => (intro w hSw; go_simp; try (with_reducible rfl))
    try simp only [Act.put, List.setIfInBounds_toArray, List.set_cons_zero, List.set_cons_succ]
    refine wpAnyH_ready (rs := [0]) (by kernel_rfl) (by simp) ?_
    refine AllReadyH.cons (o := ⟨some 35, _, _, _, _, _⟩) rfl (fun K hK => ?_) AllReadyH.nil
    go_simp
    have OW0 := Lib.hid (World.ownsRow_made (e := 43) (size := 1) w1.drew #[] 0 (B1.out.drew.size) (by decide) rfl)
    have BA := Lib.hid (B1.out.drew.alloc B1.out.drew.size (.cells #[] 43))
    refine hK.out _ _ trivial (fun hHeld' => ?_)
    clear hK K hHeld
    have hHeld := hHeld'
    clear hHeld'
    try simp only [Act.put, List.setIfInBounds_toArray, List.set_cons_zero, List.set_cons_succ]
    refine wpAnyH_ready (rs := [4]) (by kernel_rfl) (by simp) ?_
    refine AllReadyH.cons (o := ⟨some 39, _, _, _, _, _⟩) rfl (fun K hK => ?_) AllReadyH.nil
    refine step_own rfl _ _ _ rfl w.heap.size 43 i0 (.float .f64 0) 1 8 Tryd.underlying52 hi hz0 hz1 hz2 rfl (by decide) _ 0 [] (by rfl) OW0.out ⟨b, off + R, none⟩ (N - R) (C - R) ((M.drop R).map (Value.float .f64)) (by rfl) (by rw [List.length_map, List.length_drop, m1.out, Nat.mul_one]) S1.out (flo _) (by unfold maxLen; omega) (by omega) BA.out.size ?_
    intro v1 w2 hown1 hgrow1 _
    have B2 := Lib.hid (BA.out.grown hgrow1 BA.out.size (fun g hg => (OW0.out.lt g hg).1))
    have OW1 := Lib.hid hown1
    have S2' := Lib.hid (S2.out w2 B2.out)
    clear hown1 hgrow1
    refine hK.out _ _ trivial (fun hHeld' => ?_)
    clear hK K hHeld
    have hHeld := hHeld'
    clear hHeld'
    try simp only [Act.put, List.setIfInBounds_toArray, List.set_cons_zero, List.set_cons_succ]
    refine wpAnyH_ready (rs := [8]) (by kernel_rfl) (by simp) ?_
    refine AllReadyH.cons (o := ⟨some 43, _, _, _, _, _⟩) rfl (fun K hK => ?_) AllReadyH.nil
    refine step_own rfl _ _ _ rfl w.heap.size 43 i0 (.float .f64 0) 1 8 Tryd.underlying52 hi hz0 hz1 hz2 rfl (by decide) _ _ _ (by rfl) OW1.out ⟨b, off, none⟩ R C ((M.take R).map (Value.float .f64)) (by rfl) (by rw [List.length_map, List.length_take, m1.out, Nat.mul_one]; omega) S2'.out (flo _) (by unfold maxLen; omega) (by omega) B2.out.size ?_
    intro v2 w3 hown2 hgrow2 _
    have B3 := Lib.hid (B2.out.grown hgrow2 B2.out.size (fun g hg => (OW1.out.lt g hg).1))
    have OW2 := Lib.hid (show w3.ownsRow w.heap.size 43 1 v2 N ((M.drop R ++ M.take R).map (Value.float .f64)) by rw [List.map_append]; have := hown2; rw [show 0 + (N - R) + R = N by omega] at this; exact this)
    clear hown2 hgrow2
    refine hK.out _ _ trivial (fun hHeld' => ?_)
    clear hK K hHeld
    have hHeld := hHeld'
    clear hHeld'
    try simp only [Act.put, List.setIfInBounds_toArray, List.set_cons_zero, List.set_cons_succ]
    refine wpAnyH_take (i := 9) (oi := ⟨some 7, _, _, _, _, _⟩) (v := ?vt9) rfl (by kernel_rfl) (by kernel_rfl) (by kernel_rfl) (fun _ _ _ h => h) (Or.inl ⟨by rfl, ?hyt9⟩) hHeld ?restt9
    case hyt9 => (intro w hSw; go_simp; try (with_reducible rfl))
    try simp only [Act.put, List.setIfInBounds_toArray, List.set_cons_zero, List.set_cons_succ]
    refine wpAnyH_done (by kernel_rfl) ?_ _
    have Mne := Lib.hid (show M ≠ [] from fun h => by have := m1.out; rw [h] at this; simp at this; omega)
    have G := Lib.hid (G2.out Mne.out)
    clear hHeld S1 S2 S2' OW0 OW1 BA B2 B1
    go_wp2
    go_loopw [8, 46] (fun s i wr => ∃ (j : Nat) (h : Bool), j ≤ N ∧ i = .int .i64 j ∧ s = .bool h ∧ Hid (Hit M r j h) ∧ Hid (wr.ownsRow w.heap.size 43 1 v2 N ((M.drop R ++ M.take R).map (Value.float .f64))) ∧ Hid (Below w.heap.size w wr)) (fun _ i _ => N - (intOf i).toNat)
    case atStart => exact ⟨0, false, by omega, rfl, rfl, Lib.hid ⟨fun h => absurd h (by decide), fun ⟨m, h, _⟩ => absurd h (by omega)⟩, OW2, B3⟩
    case round =>
      obtain ⟨j, h, hj, rfl, rfl, hh, hown, hb⟩ := hrel
      by_cases hlt : j < N
      · have hkl : j < M.length := by rw [m1.out]; exact hlt
        have hcell := (hb.out.cell (p := ⟨b, off + j, none⟩) hblt).trans (HC.out j hkl)
        have lz := getD_lt m3.out j
        have lm : tk (M.getD j 0) ≤ tk r := G.out.2 _ (by rw [List.getD_eq_getElem?_getD, List.getElem?_eq_getElem hkl]; exact List.getElem_mem _)
        have q := cmpI_neg (show ¬ tk r < tk (M.getD j 0) by omega)
        cases h with
        | true =>
          have hs := Lib.hid hh.out.tt
          generalize M.getD j 0 = z at *
          go_wp2_with fail
          refine (Order_any r z rl lz _).mono ?_
          rintro e w' ⟨rfl, rfl⟩
          generalize cmpI (tk r) (tk z) = q0 at *
          go_wp2
          go_roundw
          case rel => exact ⟨j + 1, true, by omega, by go_num, rfl, hs, hown, hb⟩
          case measure => simp [intOf]; omega
        | false =>
          have hs := hh.out.ff
          generalize M.getD j 0 = z at *
          have hs := Lib.hid hs
          go_wp2_with fail
          refine (same_any z r _).mono ?_
          rintro e w' ⟨rfl, rfl⟩
          generalize sameB z r = t' at *
          go_wp2_with fail
          refine (Order_any r z rl lz _).mono ?_
          rintro e w' ⟨rfl, rfl⟩
          generalize cmpI (tk r) (tk z) = q0 at *
          go_wp2
          go_roundw
          case rel => exact ⟨j + 1, t', by omega, by go_num, rfl, hs, hown, hb⟩
          case measure => simp [intOf]; omega
      · have hjn : j = N := by omega
        subst hjn
        have ht : h = true := by have := hh.out; rw [← m1.out] at this; exact this.all G.out.1
        subst ht
        obtain ⟨A2, C2, rfl, l2, f2⟩ := own_fl' hown.out
        have F2 := Lib.hid f2
        have L2 := Lib.hid l2
        have mem2 := Lib.hid (show ∀ y, y ∈ M.drop R ++ M.take R ↔ y ∈ M from fun y => by
          have e : M = M.take R ++ M.drop R := (List.take_append_drop R M).symm
          constructor
          · intro hy
            rw [e]
            rcases List.mem_append.1 hy with a | a
            · exact List.mem_append.2 (.inr a)
            · exact List.mem_append.2 (.inl a)
          · intro hy
            rw [e] at hy
            rcases List.mem_append.1 hy with a | a
            · exact List.mem_append.2 (.inr a)
            · exact List.mem_append.2 (.inl a))
        clear hown f2 l2
        go_wp2_with fail
        refine (alive_any _ (T.out.below hb.out)).mono ?_
        rintro e w4 ⟨rfl, hb4⟩
        have B4 := Lib.hid (hb.out.trans (hb4.mono hb.out.size))
        have F4 := Lib.hid (F2.out.below hb4)
        clear hb4 F2
        go_wp2_with fail
        refine (Most_any A2 _ C2 _ _ L2.out (by omega) F4.out (fun y hy => m3.out y ((mem2.out y).1 hy))).mono ?_
        rintro e w5 ⟨r2, rfl, rl2, g3, g4, hb5⟩
        have B5 := Lib.hid (B4.out.trans (hb5.mono B4.out.size))
        have sm := mp_same mem2.out g3 g4 G1.out G2.out
        clear hb5 B4 g3 g4
        go_wp2_with fail
        refine (same_any r2 r _).mono ?_
        rw [sm]
        rintro e w' ⟨rfl, rfl⟩
        go_wp2
        go_ret
        exact ⟨rfl, B5.out⟩
end Go.Proofs.YtmahjlmblgboaaaDoor
