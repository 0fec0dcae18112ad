/- Contracts: latencies, guesses, the longest request. Conditions: the slices read as lists. -/
import Derived.Test.YtfphdchpfhedfaaC3
namespace Go.Proofs.Ytfphdchpfhedfaa
open Go.ChangeShapes Go.WideShapes Go.ChangeAt Go.RowKit
set_option linter.unusedVariables false
theorem fld8 (a0 a1 a2 a3 a4 a5 a6 a7 : Int) (A A2 : Option Addr) (n C n2 C2 : Nat) (tb : Bool) (w : World) : (Instr.field 25 (.agg #[.int .i64 a0, .int .i64 a1, .int .i64 a2, .int .i64 a3, .int .i64 a4, .int .i64 a5, .int .i64 a6, .int .i64 a7, .slice A n C, .bool tb, .slice A2 n2 C2]) 8).run Try.prog w = .ok (.slice A n C) w := by kernel_rfl
theorem fld10 (a0 a1 a2 a3 a4 a5 a6 a7 : Int) (A A2 : Option Addr) (n C n2 C2 : Nat) (tb : Bool) (w : World) : (Instr.field 25 (.agg #[.int .i64 a0, .int .i64 a1, .int .i64 a2, .int .i64 a3, .int .i64 a4, .int .i64 a5, .int .i64 a6, .int .i64 a7, .slice A n C, .bool tb, .slice A2 n2 C2]) 10).run Try.prog w = .ok (.slice A2 n2 C2) w := by kernel_rfl
theorem fld1 (a0 a1 a2 a3 a4 a5 a6 a7 : Int) (A A2 : Option Addr) (n C n2 C2 : Nat) (tb : Bool) (w : World) : (Instr.field 25 (.agg #[.int .i64 a0, .int .i64 a1, .int .i64 a2, .int .i64 a3, .int .i64 a4, .int .i64 a5, .int .i64 a6, .int .i64 a7, .slice A n C, .bool tb, .slice A2 n2 C2]) 1).run Try.prog w = .ok (.int .i64 a1) w := by kernel_rfl
/-- the latencies, cleaned -/
def la (L : List Int) : List Int := (L.take 64).map (cl 1 8)
/-- the guesses, cleaned -/
def ta (T : List Int) : List Int := T.take 64
theorem la_len (L : List Int) : (la L).length = Nat.min L.length 64 := by simp [la, Nat.min_comm]
theorem ta_len (T : List Int) : (ta T).length = Nat.min T.length 64 := by simp [ta, Nat.min_comm]
def CP (m wd ro qu st sl se wa : Int) (tb : Bool) (L T : List Int) (w : World) (e : Ending) (w' : World) : Prop :=
  ∃ (g g2 N N2 : Nat), e = .returned (.agg #[.int .i64 (cl 0 2 m), .int .i64 (cl 1 2 wd), .int .i64 (cl 2 8 ro), .int .i64 (cl 1 4 qu), .int .i64 (cl 1 4 st), .int .i64 (cl 2 6 sl), .int .i64 (cs se), .int .i64 (cl 1 2 wa), .slice (some ⟨g, 0, none⟩) N N, .bool tb, .slice (some ⟨g2, 0, none⟩) N2 N2]) ∧
    (la L).length = N ∧ (ta T).length = N2 ∧ N ≤ 64 ∧ N2 ≤ 64 ∧ Sl w' .i64 (some ⟨g, 0, none⟩) (la L) ∧ Sl w' .u32 (some ⟨g2, 0, none⟩) (ta T) ∧ Below w.heap.size w w' ∧ w.heap.size ≤ g ∧ w.heap.size ≤ g2
theorem clean_all (m wd ro qu st sl se wa : Int) (A A2 : Option Addr) (C C2 : Nat) (L T : List Int) (tb : Bool) (n n2 : Nat) (w : World) (hn : L.length = n) (h2 : T.length = n2) (bn : n ≤ 9223372036854775807) (b2 : n2 ≤ 9223372036854775807) (hL : Sl w .i64 A L) (hT : Sl w .u32 A2 T) :
    Calls Try.prog 12 #[.agg #[.int .i64 m, .int .i64 wd, .int .i64 ro, .int .i64 qu, .int .i64 st, .int .i64 sl, .int .i64 se, .int .i64 wa, .slice A n C, .bool tb, .slice A2 n2 C2]] w (CP m wd ro qu st sl se wa tb L T w) :=
  (clean_any m wd ro qu st sl se wa A A2 C C2 L T tb n n2 w hn h2 bn b2 hL hT).mono fun e w' ⟨g, g2, he, s1, s2, hb, hg, hg2⟩ => by
    have e1 : Nat.min L.length 64 = min L.length 64 := rfl
    have e2 : Nat.min T.length 64 = min T.length 64 := rfl
    exact ⟨g, g2, _, _, he, la_len L, ta_len T, by omega, by omega, s1, s2, hb, hg, hg2⟩
/-- how long a request takes -/
def lav (L : List Int) (k : Int) : Int := if (la L).length = 0 then 1 else (la L).getD (pl k (la L).length).toNat 0
def tav (T : List Int) (k pc : Int) : Int := if (ta T).length = 0 then (pc + 4) % 4294967296 else (ta T).getD (pl k (ta T).length).toNat 0
theorem sl_at {w : World} {k : IntKind} {g : Nat} {L : List Int} (h : Sl w k (some ⟨g, 0, none⟩) L) (j : Nat) (hj : j < L.length) : w.cell? ⟨g, j, none⟩ = some (.int k (L.getD j 0)) := by
  obtain ⟨b, off, he, _, hc⟩ := h (by omega)
  simp at he
  obtain ⟨rfl, rfl⟩ := he
  simpa using hc j hj
set_option maxHeartbeats 4000000 in
set_option maxRecDepth 100000 in
theorem lat_any (k : Int) (m wd ro qu st sl se wa : Int) (A A2 : Option Addr) (C C2 : Nat) (L T : List Int) (tb : Bool) (n n2 : Nat) (w : World) (hn : L.length = n) (h2 : T.length = n2) (bn : n ≤ 9223372036854775807) (b2 : n2 ≤ 9223372036854775807) (hL : Sl w .i64 A L) (hT : Sl w .u32 A2 T) :
    Calls Try.prog 14 #[.agg #[.int .i64 m, .int .i64 wd, .int .i64 ro, .int .i64 qu, .int .i64 st, .int .i64 sl, .int .i64 se, .int .i64 wa, .slice A n C, .bool tb, .slice A2 n2 C2], .int .i64 k] w fun e w' => e = .returned (.int .i64 (lav L k)) ∧ Below w.heap.size w w' := by
  have HL := Lib.hid hL
  have HT := Lib.hid hT
  have Hn := Lib.hid hn
  have H2 := Lib.hid h2
  clear hL hT hn h2
  go_enter Try.func14, Try.ntmps14
  go_wp2_with fail
  refine (clean_all m wd ro qu st sl se wa A A2 C C2 L T tb n n2 _ Hn.out H2.out bn b2 (HL.out.alloc _) (HT.out.alloc _)).mono ?_
  rintro e w1 ⟨g, g2, N, N2, rfl, l1, l2, m1, m2, s1, s2, hb, hg, hg2⟩
  have hb' := Lib.hid (((Below.refl w.heap.size w).alloc (Nat.le_refl _) _).trans (hb.mono (by simp)))
  clear hb HL HT
  have f8 := @fld8
  have f10 := @fld10
  clear s2 l2
  by_cases hz : N = 0
  · subst hz
    have hv := Lib.hid (show lav L k = 1 by unfold lav; rw [if_pos l1])
    clear l1 s1
    go_wp2
    go_ret
    exact ⟨ret_i64 hv.out.symm, hb'.out⟩
  · have hz' : (N == 0) = false := by rw [beq_eq_false_iff_ne]; exact hz
    have hz2 : ((N : Int) == 0) = false := by rw [beq_eq_false_iff_ne]; omega
    have hp := pl_bd k N (by omega)
    have hcell := sl_at s1 (pl k N).toNat (by omega)
    have hv : lav L k = (la L).getD (pl k N).toNat 0 := by unfold lav; rw [if_neg (by omega), l1]
    rw [← hv] at hcell
    clear hv l1 s1
    rcases Int.lt_or_le k 0 with c | c
    · have e : pl k N = 0 := pl_neg _ c
      rw [e] at hcell
      have hcell : w1.cell? ⟨g, 0, none⟩ = some (.int .i64 (lav L k)) := hcell
      clear hp e
      go_wp2
      go_ret
      exact ⟨rfl, hb'.out⟩
    · have e : pl k N = k % N := pl_pos _ c
      rw [e] at hcell hp
      clear e
      go_wp2
      go_ret
      exact ⟨rfl, hb'.out⟩
set_option maxHeartbeats 4000000 in
set_option maxRecDepth 100000 in
theorem tape_any (k pc : Int) (m wd ro qu st sl se wa : Int) (A A2 : Option Addr) (C C2 : Nat) (L T : List Int) (tb : Bool) (n n2 : Nat) (w : World) (hn : L.length = n) (h2 : T.length = n2) (bn : n ≤ 9223372036854775807) (b2 : n2 ≤ 9223372036854775807) (hL : Sl w .i64 A L) (hT : Sl w .u32 A2 T) (p0 : 0 ≤ pc) (p1 : pc ≤ 4294967295) :
    Calls Try.prog 15 #[.agg #[.int .i64 m, .int .i64 wd, .int .i64 ro, .int .i64 qu, .int .i64 st, .int .i64 sl, .int .i64 se, .int .i64 wa, .slice A n C, .bool tb, .slice A2 n2 C2], .int .i64 k, .int .u32 pc] w fun e w' => e = .returned (.int .u32 (tav T k pc)) ∧ Below w.heap.size w w' := by
  have HL := Lib.hid hL
  have HT := Lib.hid hT
  have Hn := Lib.hid hn
  have H2 := Lib.hid h2
  clear hL hT hn h2
  go_enter Try.func15, Try.ntmps15
  go_wp2_with fail
  refine (clean_all m wd ro qu st sl se wa A A2 C C2 L T tb n n2 _ Hn.out H2.out bn b2 (HL.out.alloc _) (HT.out.alloc _)).mono ?_
  rintro e w1 ⟨g, g2, N, N2, rfl, l1, l2, m1, m2, s1, s2, hb, hg, hg2⟩
  have hb' := Lib.hid (((Below.refl w.heap.size w).alloc (Nat.le_refl _) _).trans (hb.mono (by simp)))
  clear hb HL HT
  have f8 := @fld8
  have f10 := @fld10
  clear s1 l1
  by_cases hz : N2 = 0
  · subst hz
    have hv := Lib.hid (show tav T k pc = (pc + 4) % 4294967296 by unfold tav; rw [if_pos l2])
    clear l2 s2
    go_wp2
    go_ret
    exact ⟨ret_u32 hv.out.symm, hb'.out⟩
  · have hz' : (N2 == 0) = false := by rw [beq_eq_false_iff_ne]; exact hz
    have hz2 : ((N2 : Int) == 0) = false := by rw [beq_eq_false_iff_ne]; omega
    have hp := pl_bd k N2 (by omega)
    have hcell := sl_at s2 (pl k N2).toNat (by omega)
    have hv : tav T k pc = (ta T).getD (pl k N2).toNat 0 := by unfold tav; rw [if_neg (by omega), l2]
    rw [← hv] at hcell
    clear hv l2 s2
    rcases Int.lt_or_le k 0 with c | c
    · have e : pl k N2 = 0 := pl_neg _ c
      rw [e] at hcell
      have hcell : w1.cell? ⟨g2, 0, none⟩ = some (.int .u32 (tav T k pc)) := hcell
      clear hp e
      go_wp2
      go_ret
      exact ⟨rfl, hb'.out⟩
    · have e : pl k N2 = k % N2 := pl_pos _ c
      rw [e] at hcell hp
      clear e
      go_wp2
      go_ret
      exact ⟨rfl, hb'.out⟩
/-- the longest request -/
def mov (L : List Int) : Int := (la L).foldl (fun a b => if a < b then b else a) 1
def mok (L : List Int) (k : Nat) : Int := ((la L).take k).foldl (fun a b => if a < b then b else a) 1
theorem mok_succ (L : List Int) (k : Nat) (h : k < (la L).length) : mok L (k + 1) = if mok L k < (la L).getD k 0 then (la L).getD k 0 else mok L k := by
  unfold mok
  rw [List.take_succ_eq_append_getElem h, List.foldl_append]
  simp [List.getD_eq_getElem?_getD, h]
theorem mok_all (L : List Int) : mok L (la L).length = mov L := by unfold mok mov; rw [List.take_of_length_le (Nat.le_refl _)]
theorem la_bd (L : List Int) (k : Nat) (h : k < (la L).length) : 1 ≤ (la L).getD k 0 ∧ (la L).getD k 0 ≤ 8 := by
  have hx : (la L).getD k 0 = cl 1 8 ((L.take 64).getD k 0) := by
    have h' : k < (L.take 64).length := by simpa [la] using h
    unfold la
    rw [List.getD_eq_getElem?_getD, List.getD_eq_getElem?_getD, List.getElem?_map, List.getElem?_eq_getElem h']
    rfl
  rw [hx]; exact cl_bd 1 8 _ (by decide)
theorem mok_bd (L : List Int) : ∀ k : Nat, k ≤ (la L).length → 1 ≤ mok L k ∧ mok L k ≤ 8
  | 0, _ => by unfold mok; simp
  | k + 1, h => by
    have a := mok_bd L k (by omega)
    have b := la_bd L k (by omega)
    rw [mok_succ L k (by omega)]; split <;> omega
theorem mov_bd (L : List Int) : 1 ≤ mov L ∧ mov L ≤ 8 := by
  have := mok_bd L _ (Nat.le_refl _); rw [mok_all] at this; exact this
set_option maxHeartbeats 4000000 in
set_option maxRecDepth 100000 in
theorem most_any (m wd ro qu st sl se wa : Int) (A A2 : Option Addr) (C C2 : Nat) (L T : List Int) (tb : Bool) (n n2 : Nat) (w : World) (hn : L.length = n) (h2 : T.length = n2) (bn : n ≤ 9223372036854775807) (b2 : n2 ≤ 9223372036854775807) (hL : Sl w .i64 A L) (hT : Sl w .u32 A2 T) :
    Calls Try.prog 18 #[.agg #[.int .i64 m, .int .i64 wd, .int .i64 ro, .int .i64 qu, .int .i64 st, .int .i64 sl, .int .i64 se, .int .i64 wa, .slice A n C, .bool tb, .slice A2 n2 C2]] w fun e w' => e = .returned (.int .i64 (mov L)) ∧ Below w.heap.size w w' := by
  have HL := Lib.hid hL
  have HT := Lib.hid hT
  have Hn := Lib.hid hn
  have H2 := Lib.hid h2
  clear hL hT hn h2
  go_enter Try.func18, Try.ntmps18
  go_wp2_with fail
  refine (clean_all m wd ro qu st sl se wa A A2 C C2 L T tb n n2 _ Hn.out H2.out bn b2 (HL.out.alloc _) (HT.out.alloc _)).mono ?_
  rintro e w1 ⟨g, g2, N, N2, rfl, l1, l2, m1, m2, s1, s2, hb, hg, hg2⟩
  have hb' := Lib.hid (((Below.refl w.heap.size w).alloc (Nat.le_refl _) _).trans (hb.mono (by simp)))
  clear hb HL HT
  have f8 := @fld8
  have f10 := @fld10
  clear s2 l2
  have S1 := Lib.hid s1
  have L1 := Lib.hid l1
  clear s1 l1
  go_wp2
  go_loop [3, 10] (fun v c => ∃ k : Nat, k ≤ N ∧ v = .int .i64 (mok L k) ∧ c = .int .i64 k) (fun _ c => N - (intOf c).toNat)
  case atStart => exact ⟨0, by omega, rfl, rfl⟩
  case round =>
    obtain ⟨k, hk, rfl, rfl⟩ := hrel
    by_cases hlt : k < N
    · have hkl : k < (la L).length := by rw [L1.out]; exact hlt
      have hcell := sl_at S1.out k hkl
      have hs := mok_succ L k hkl
      obtain ⟨z, ez⟩ : ∃ z, (la L).getD k 0 = z := ⟨_, rfl⟩
      rw [ez] at hcell hs
      have hs := Lib.hid hs
      clear ez hkl
      rcases Int.lt_or_le (mok L k) z with c | c
      · go_wp2
        go_round
        case rel => exact ⟨k + 1, by omega, by rw [hs.out, if_pos c], rfl⟩
        case measure => simp [intOf]; omega
      · go_wp2
        go_round
        case rel => exact ⟨k + 1, by omega, by rw [hs.out, if_neg (by omega)], rfl⟩
        case measure => simp [intOf]; omega
    · have hkN : k = N := by omega
      go_wp2
      go_ret
      exact ⟨ret_i64 (by rw [← L1.out]; exact mok_all L), hb'.out⟩
set_option maxHeartbeats 4000000 in
set_option maxRecDepth 100000 in
theorem things_any (m wd ro qu st sl se wa : Int) (A A2 : Option Addr) (C C2 : Nat) (tb : Bool) (n n2 : Nat) (w : World) (h1 : 0 ≤ st ∧ st ≤ 10) (h2 : 0 ≤ sl ∧ sl ≤ 10) (h3 : 0 ≤ se * wa ∧ se * wa ≤ 100) :
    Calls Try.prog 27 #[.agg #[.int .i64 m, .int .i64 wd, .int .i64 ro, .int .i64 qu, .int .i64 st, .int .i64 sl, .int .i64 se, .int .i64 wa, .slice A n C, .bool tb, .slice A2 n2 C2]] w fun e w' => e = .returned (.int .i64 (sl + st + se * wa + 4)) ∧ Below w.heap.size w w' := by
  go_enter Try.func27, Try.ntmps27
  go_wp2
  go_ret
  exact ⟨rfl, by go_grown⟩
end Go.Proofs.Ytfphdchpfhedfaa
