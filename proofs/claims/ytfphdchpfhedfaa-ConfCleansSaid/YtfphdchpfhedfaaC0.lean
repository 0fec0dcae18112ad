/- Words for memory: a slice that reads as a list of numbers; a copy into a new row. No conditions. -/
import Derived.Test.YtfphdchpfhedfaaC1
import Derived.OwnWalk
import Derived.Laws.MakeOwn
import Derived.Laws.CopyOwn
import Derived.Laws.NewBlocks
import Derived.Laws.OwnMore
namespace Go.Proofs.Ytfphdchpfhedfaa
open Go.ChangeShapes Go.WideShapes Go.ChangeAt Go.RowKit
set_option linter.unusedVariables false

/-- a slice's address leads to these numbers -/
def Sl (w : World) (k : IntKind) (A : Option Addr) (L : List Int) : Prop :=
  0 < L.length → ∃ b off, A = some ⟨b, off, none⟩ ∧ b < w.heap.size ∧ ∀ j, j < L.length → w.cell? ⟨b, off + j, none⟩ = some (.int k (L.getD j 0))
theorem Sl.below {w w' : World} {k : IntKind} {A : Option Addr} {L : List Int} (h : Sl w k A L) (hb : Below w.heap.size w w') : Sl w' k A L := fun hn => by
  obtain ⟨b, off, rfl, hlt, hc⟩ := h hn
  exact ⟨b, off, rfl, Nat.lt_of_lt_of_le hlt hb.size, fun j hj => (hb.cell (p := ⟨b, off + j, none⟩) hlt).trans (hc j hj)⟩
theorem Sl.alloc {w : World} {k : IntKind} {A : Option Addr} {L : List Int} (h : Sl w k A L) (o : Obj) : Sl (w.alloc o) k A L :=
  h.below ((Below.refl _ _).alloc (Nat.le_refl _) o)
theorem Sl.take {w : World} {k : IntKind} {A : Option Addr} {L : List Int} (h : Sl w k A L) (n : Nat) : Sl w k A (L.take n) := fun hn => by
  have hl : (L.take n).length ≤ L.length := by simp; omega
  obtain ⟨b, off, rfl, hlt, hc⟩ := h (by omega)
  refine ⟨b, off, rfl, hlt, fun j hj => ?_⟩
  rw [hc j (by omega)]
  have : j < n := by simp at hj; omega
  simp [List.getD_eq_getElem?_getD, this]
theorem Sl.none_ (w : World) (k : IntKind) (A : Option Addr) : Sl w k A [] := fun h => absurd h (by decide)
/-- a row of numbers -/
def ar (k : IntKind) (L : List Int) : Array Value := (L.map (Value.int k)).toArray
/-- a new row -/
theorem Sl.fresh (w : World) (k : IntKind) (L : List Int) (t : TypeId) : Sl (w.alloc (.cells (ar k L) t)) k (some ⟨w.heap.size, 0, none⟩) L := fun hn =>
  ⟨w.heap.size, 0, rfl, by show _ < (Array.push _ _).size; simp, fun j hj => by
    rw [World.cell?_alloc_at _ _ _ _ rfl]
    simp [ar, List.getD_eq_getElem?_getD, hj]⟩
theorem Sl.fresh_at {w : World} {k : IntKind} {L : List Int} {t : TypeId} {g : Nat} (hg : g = w.heap.size) : Sl (w.alloc (.cells (ar k L) t)) k (some ⟨g, 0, none⟩) L := by
  subst hg; exact Sl.fresh w k L t
theorem take_min (L : List Int) (n k : Nat) (h : L.length = n) (hk : k = Nat.min n 64) : L.take 64 = L.take k := by
  have : Nat.min n 64 = min n 64 := rfl
  rcases Nat.lt_or_ge 64 n with c | c
  · rw [show k = 64 by omega]
  · rw [show k = n by omega, List.take_of_length_le (by omega), List.take_of_length_le (by omega)]
theorem setRow_new (w : World) (cur cs : Array Value) (t : TypeId) : (w.alloc (.cells cur t)).setRow w.heap.size cs = w.alloc (.cells cs t) := by
  unfold World.setRow World.alloc
  congr 1
  apply Array.ext_getElem?
  intro i
  rw [Array.getElem?_modify, Array.getElem?_push, Array.getElem?_push]
  by_cases h : i = w.heap.size
  · subst h; simp
  · rw [if_neg (fun e => h e.symm), if_neg h, if_neg h]
/-- copy of a list's first numbers into a new row of that length -/
theorem copy_made {P : Program} {W : World} {ops : Array Oper} {rest : List Oper} {o : Oper} {a : Act} {Q : Exit → Act → World → Prop} (hgd : o.guard = none) (d s : Operand) (dT sT : TypeId)
    (ho : o.op = .call { callee := .builtin .copy, args := #[d, s], argTypes := #[dT, sT] }) (elem : TypeId) (hu : P.underlying dT = some (.slice elem)) (hsz : (P.info? elem).map (·.size) = some 1)
    (k : IntKind) (A : Option Addr) (L : List Int) (n C N g : Nat) (hg : g = W.heap.size) (hN : N = Nat.min n N) (hl : L.length = n) (hd : a.eval d = .slice (some ⟨g, 0, none⟩) N N) (hs : a.eval s = .slice A n C) (hL : Sl W k A L)
    (h : wpList P ops Q rest (a.put o.dst (goInt N)) (W.alloc (.cells (ar k (L.take N)) elem))) :
    wpList P ops Q (o :: rest) a (W.alloc (.cells (madeCells #[Value.int k 0] N) elem)) := by
  subst hg
  have hNn : N ≤ n := by rw [hN]; exact Nat.min_le_left _ _
  by_cases h0 : N = 0
  · subst h0
    refine wpList_copy_nothing hgd d s dT sT ho elem hu hsz _ _ _ _ _ _ hd hs (by simp) ?_
    have : madeCells #[Value.int k 0] 0 = ar k (L.take 0) := by simp [madeCells, ar]
    rw [this]; exact h
  · obtain ⟨b, off, rfl, hlt, hc⟩ := hL (by omega)
    have hlen : ((L.take N).map (Value.int k)).length = N := by simp; omega
    refine wpList_copy_own hgd d s dT sT ho elem hu hsz W.heap.size 0 N N ⟨b, off, none⟩ n C hd hs (madeCells #[Value.int k 0] N) elem (heap_alloc_new W _) ((L.take N).map (Value.int k)) (by rw [hlen]; exact hN) ?_ (by rw [size_madeCells]; omega) ?_ ?_
    · intro j v hv
      have hj : j < N := by have := (List.getElem?_eq_some_iff.1 hv).1; omega
      have hadd : (⟨b, off, none⟩ : Addr).add j = ⟨b, off + j, none⟩ := by unfold Addr.add; split <;> simp_all
      rw [hadd, World.cell?_alloc_lt _ _ _ hlt, hc j (by omega), ← hv]
      have : j < L.length := by omega
      simp [hj, this]
    · intro v hv
      rw [List.mem_map] at hv
      obtain ⟨x, _, rfl⟩ := hv
      rfl
    · have e : ((madeCells #[Value.int k 0] N).toList.take 0 ++ ((L.take N).map (Value.int k) ++ (madeCells #[Value.int k 0] N).toList.drop (0 + ((L.take N).map (Value.int k)).length))).toArray = ((L.take N).map (Value.int k)).toArray := by
        rw [hlen, Nat.zero_add, List.drop_eq_nil_of_le (by simp [size_madeCells])]; simp
      rw [e, setRow_new, hlen]
      exact h
/-- the numbers brought into bounds as far as k -/
def mix (lo hi : Int) (M : List Int) (k : Nat) : List Int := (M.take k).map (cl lo hi) ++ M.drop k
theorem mix_zero (lo hi : Int) (M : List Int) : mix lo hi M 0 = M := by simp [mix]
theorem mix_all (lo hi : Int) (M : List Int) : mix lo hi M M.length = M.map (cl lo hi) := by simp [mix]
theorem mix_at (lo hi : Int) (M : List Int) (k : Nat) (h : k < M.length) : (ar .i64 (mix lo hi M k))[k]? = some (.int .i64 (M.getD k 0)) := by
  have hk : min k M.length = k := by omega
  simp [ar, mix, List.getElem?_append, hk, List.getD_eq_getElem?_getD, h]
theorem mix_set (lo hi : Int) (M : List Int) (k : Nat) (h : k < M.length) : (ar .i64 (mix lo hi M k)).setIfInBounds k (.int .i64 (cl lo hi (M.getD k 0))) = ar .i64 (mix lo hi M (k + 1)) := by
  have hk : min k M.length = k := by omega
  have e1 : M.take (k + 1) = M.take k ++ [M.getD k 0] := by
    rw [List.take_succ_eq_append_getElem h]; simp [List.getD_eq_getElem?_getD, h]
  have e2 : M.drop k = M.getD k 0 :: M.drop (k + 1) := by
    rw [List.drop_eq_getElem_cons h]; simp [List.getD_eq_getElem?_getD, h]
  unfold ar mix
  rw [e1, e2]
  simp [hk]
theorem mk22 (N : Nat) (h : N ≤ 100) (W : World) : (Instr.makeSlice 22 (.int .i64 (N : Int)) (.int .i64 (N : Int))).run Try.prog W = .ok (.slice (some ⟨W.heap.size, 0, none⟩) N N) (W.alloc (.cells (madeCells #[Value.int .i64 0] N) 3)) := by
  obtain ⟨i0, hi, hz0, hz1, hz2⟩ := info_parts (show (Try.prog.info? 3).map (fun i => (i.zero, i.size, i.bytes)) = some (some (.int .i64 0), 1, 8) by kernel_rfl)
  have := run_make (P := Try.prog) W 22 3 i0 (.int .i64 0) Try.underlying22 hi hz0 .i64 .i64 N N (by omega) (by omega) (by rw [hz2]; omega) (by omega)
  rw [this, hz1, Int.toNat_natCast, Nat.mul_one]
  rfl
theorem mk23 (N : Nat) (h : N ≤ 100) (W : World) : (Instr.makeSlice 23 (.int .i64 (N : Int)) (.int .i64 (N : Int))).run Try.prog W = .ok (.slice (some ⟨W.heap.size, 0, none⟩) N N) (W.alloc (.cells (madeCells #[Value.int .u32 0] N) 30)) := by
  obtain ⟨i0, hi, hz0, hz1, hz2⟩ := info_parts (show (Try.prog.info? 30).map (fun i => (i.zero, i.size, i.bytes)) = some (some (.int .u32 0), 1, 4) by kernel_rfl)
  have := run_make (P := Try.prog) W 23 30 i0 (.int .u32 0) Try.underlying23 hi hz0 .i64 .i64 N N (by omega) (by omega) (by rw [hz2]; omega) (by omega)
  rw [this, hz1, Int.toNat_natCast, Nat.mul_one]
  rfl
end Go.Proofs.Ytfphdchpfhedfaa
