/- A whole shape stored into its box. Condition: the box is a block known whole. -/
import Derived.Test.YtfphdchpfhedfaaC0
namespace Go.Proofs.Ytfphdchpfhedfaa
open Go.ChangeShapes Go.WideShapes Go.ChangeAt Go.RowKit
set_option linter.unusedVariables false
theorem store_box {w : World} {ops : Array Oper} {rest : List Oper} {o : Oper} {a : Act} {Q : Exit → Act → World → Prop} (hgd : o.guard = none) (x y : Operand) (ho : o.op = .store 25 x y)
    (g : Nat) (new : Array Value) (hx : a.eval x = .pointer (some ⟨g, 0, none⟩)) (hy : a.eval y = .agg new) (old : Array Value) (hg : w.heap[g]? = some (.cells old 25 (0, 0))) (h1 : old.size = 11) (h2 : new.size = 11) (hone : ∀ v ∈ new.toList, v.oneCell' = true)
    (h : ∀ w2, w2.heap[g]? = some (.cells new 25 (0, 0)) → (∀ b, b ≠ g → w2.heap[b]? = w.heap[b]?) → w2.heap.size = w.heap.size → (∀ (B : Nat) (w0 : World), Below B w0 w → B ≤ g → Below B w0 w2) → wpList Try.prog ops Q rest (a.put o.dst undef) w2) :
    wpList Try.prog ops Q (o :: rest) a w := by
  refine wpList_plain hgd fun K hK => ?_
  have hrun := run_storeVar_row (P := Try.prog) w g 25 25 old new hg (by rw [h2]; kernel_rfl) (by omega) (Array.all_eq_true_iff_forall_mem.2 (fun v hv => hone v (by simpa using hv)))
  unfold Oper.wp execOp
  simp only [ho, hx, hy, Instr.storeAt, Instr.sureAddr, Sem.run_bind, Sem.run_pure, Result.andThen_ok, hrun]
  exact hK _ _ (h _ (setRow_heap w g _ _ _ _ hg) (fun b hb => setRow_other w g b new hb) (by simp [World.setRow]) (fun B w0 hb hB => below_setRow hb hB _))
/-- a slice is not touched by a store into another block -/
theorem Sl.apart {w w2 : World} {k : IntKind} {A : Option Addr} {L : List Int} {g : Nat} (h : Sl w k A L) (hother : ∀ b, b ≠ g → w2.heap[b]? = w.heap[b]?) (hs : w2.heap.size = w.heap.size) (hA : ∀ b off, A = some ⟨b, off, none⟩ → 0 < L.length → b ≠ g) : Sl w2 k A L := fun hn => by
  obtain ⟨b, off, rfl, hlt, hc⟩ := h hn
  exact ⟨b, off, rfl, by omega, fun j hj => (World.cell?_of_block (hother b (hA b off rfl hn))).trans (hc j hj)⟩
/-- the eleven cells of a shape's box -/
def Box (w : World) (g : Nat) (m wd ro qu st sl se wa : Int) (A : Option Addr) (n C : Nat) (tb : Bool) (A2 : Option Addr) (n2 C2 : Nat) : Prop :=
  w.heap[g]? = some (.cells #[.int .i64 m, .int .i64 wd, .int .i64 ro, .int .i64 qu, .int .i64 st, .int .i64 sl, .int .i64 se, .int .i64 wa, .slice A n C, .bool tb, .slice A2 n2 C2] 25 (0, 0))
theorem Box.cells {w : World} {g : Nat} {m wd ro qu st sl se wa : Int} {A : Option Addr} {n C : Nat} {tb : Bool} {A2 : Option Addr} {n2 C2 : Nat} (h : Box w g m wd ro qu st sl se wa A n C tb A2 n2 C2) :
    w.cell? ⟨g, 0, none⟩ = some (.int .i64 m) ∧ w.cell? ⟨g, 1, none⟩ = some (.int .i64 wd) ∧ w.cell? ⟨g, 2, none⟩ = some (.int .i64 ro) ∧ w.cell? ⟨g, 3, none⟩ = some (.int .i64 qu) ∧ w.cell? ⟨g, 4, none⟩ = some (.int .i64 st) ∧ w.cell? ⟨g, 5, none⟩ = some (.int .i64 sl) ∧ w.cell? ⟨g, 6, none⟩ = some (.int .i64 se) ∧ w.cell? ⟨g, 7, none⟩ = some (.int .i64 wa) ∧ w.cell? ⟨g, 8, none⟩ = some (.slice A n C) ∧ w.cell? ⟨g, 9, none⟩ = some (.bool tb) ∧ w.cell? ⟨g, 10, none⟩ = some (.slice A2 n2 C2) := by
  unfold Box at h
  refine ⟨?_, ?_, ?_, ?_, ?_, ?_, ?_, ?_, ?_, ?_, ?_⟩ <;> (rw [cell_of_row w g _ _ _ _ h]; rfl)
theorem Box.below {w w' : World} {g B : Nat} {m wd ro qu st sl se wa : Int} {A : Option Addr} {n C : Nat} {tb : Bool} {A2 : Option Addr} {n2 C2 : Nat} (h : Box w g m wd ro qu st sl se wa A n C tb A2 n2 C2) (hb : Below B w w') (hg : g < B) : Box w' g m wd ro qu st sl se wa A n C tb A2 n2 C2 := (hb.block g hg).trans h
theorem Box.lt {w : World} {g : Nat} {m wd ro qu st sl se wa : Int} {A : Option Addr} {n C : Nat} {tb : Bool} {A2 : Option Addr} {n2 C2 : Nat} (h : Box w g m wd ro qu st sl se wa A n C tb A2 n2 C2) : g < w.heap.size := by
  rcases Nat.lt_or_ge g w.heap.size with c | c
  · exact c
  · unfold Box at h; rw [Array.getElem?_eq_none c] at h; cases h
end Go.Proofs.Ytfphdchpfhedfaa
