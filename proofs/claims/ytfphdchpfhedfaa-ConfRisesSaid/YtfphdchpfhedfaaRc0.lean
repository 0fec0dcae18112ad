/- What an append and a store into a shape's box keep; plain facts of memory. No conditions. -/
import Derived.Test.YtfphdchpfhedfaaC5
import Derived.Test.YtfphdchpfhedfaaC6
import Derived.Test.YtfphdchpfhedfaaTake
import Derived.Deep.AppendLies
namespace Go.Proofs.Ytfphdchpfhedfaa
open Go.ChangeShapes Go.WideShapes Go.ChangeAt Go.RowKit
set_option linter.unusedVariables false
/-- a row that is owned reads as a list -/
theorem Sl.owned {w : World} {base : Nat} {t : TypeId} {k : IntKind} {A : Option Addr} {n C : Nat} {L : List Int} (h : w.ownsRow base t 1 (.slice A n C) n (L.map (Value.int k))) : Sl w k A L := fun hn => by
  have hlen : L.length = n := by have := h.1; simpa using this
  obtain ⟨g, cap, hv, _, hlt⟩ := h.form (by omega)
  cases hv
  refine ⟨g, 0, rfl, hlt, fun j hj => ?_⟩
  rw [Nat.zero_add, h.cellAt j (by omega)]
  simp [List.getD_eq_getElem?_getD, hj]
theorem owned_at {w : World} {base : Nat} {t : TypeId} {A : Option Addr} {n C : Nat} {xs : List Value} (h : w.ownsRow base t 1 (.slice A n C) n xs) : ∀ b off, A = some ⟨b, off, none⟩ → base ≤ b ∧ b < w.heap.size := fun b off e => by
  subst e
  exact h.lt b rfl
theorem Box.frozen {w : World} {g : Nat} {m wd ro qu st sl se wa : Int} {A : Option Addr} {n C : Nat} {tb : Bool} {A2 : Option Addr} {n2 C2 : Nat} (h : Box w g m wd ro qu st sl se wa A n C tb A2 n2 C2) (i : Nat) : w.frozen? ⟨g, i, none⟩ = false := by
  unfold Box at h
  simp [World.frozen?, h]
theorem Box.set8 {w : World} {g : Nat} {m wd ro qu st sl se wa : Int} {A : Option Addr} {n C : Nat} {tb : Bool} {A2 : Option Addr} {n2 C2 : Nat} (h : Box w g m wd ro qu st sl se wa A n C tb A2 n2 C2) (A' : Option Addr) (n' C' : Nat) :
    Box (w.setCell ⟨g, 8, none⟩ (.slice A' n' C')) g m wd ro qu st sl se wa A' n' C' tb A2 n2 C2 := by
  unfold Box at *
  rw [heap_setCell_same w g 8 _ _ _ h]; rfl
theorem Box.set10 {w : World} {g : Nat} {m wd ro qu st sl se wa : Int} {A : Option Addr} {n C : Nat} {tb : Bool} {A2 : Option Addr} {n2 C2 : Nat} (h : Box w g m wd ro qu st sl se wa A n C tb A2 n2 C2) (A' : Option Addr) (n' C' : Nat) :
    Box (w.setCell ⟨g, 10, none⟩ (.slice A' n' C')) g m wd ro qu st sl se wa A n C tb A' n' C' := by
  unfold Box at *
  rw [heap_setCell_same w g 10 _ _ _ h]; rfl
theorem Box.far {w : World} {g : Nat} {m wd ro qu st sl se wa : Int} {A : Option Addr} {n C : Nat} {tb : Bool} {A2 : Option Addr} {n2 C2 : Nat} (h : Box w g m wd ro qu st sl se wa A n C tb A2 n2 C2) (a : Addr) (v : Value) (hg : g ≠ a.block) : Box (w.setCell a v) g m wd ro qu st sl se wa A n C tb A2 n2 C2 :=
  (heap_setCell_other w a g v hg).trans h
theorem Box.grown {w w' : World} {row : Option Nat} {g : Nat} {m wd ro qu st sl se wa : Int} {A : Option Addr} {n C : Nat} {tb : Bool} {A2 : Option Addr} {n2 C2 : Nat} (h : Box w g m wd ro qu st sl se wa A n C tb A2 n2 C2) (hg : w.grownBy w' row) (hr : some g ≠ row) : Box w' g m wd ro qu st sl se wa A n C tb A2 n2 C2 :=
  (hg.block g h.lt hr).trans h
theorem Sl.grown {w w' : World} {row : Option Nat} {k : IntKind} {A : Option Addr} {L : List Int} (h : Sl w k A L) (hg : w.grownBy w' row) (hr : ∀ b off, A = some ⟨b, off, none⟩ → some b ≠ row) : Sl w' k A L := fun hn => by
  obtain ⟨b, off, rfl, hlt, hc⟩ := h hn
  exact ⟨b, off, rfl, Nat.lt_of_lt_of_le hlt hg.size, fun j hj => (World.cell?_of_block (hg.block b hlt (hr b off rfl))).trans (hc j hj)⟩
theorem Sl.far {w : World} {k : IntKind} {A : Option Addr} {L : List Int} (h : Sl w k A L) (a : Addr) (v : Value) (hr : ∀ b off, A = some ⟨b, off, none⟩ → b ≠ a.block) : Sl (w.setCell a v) k A L := fun hn => by
  obtain ⟨b, off, rfl, hlt, hc⟩ := h hn
  exact ⟨b, off, rfl, by simp; exact hlt, fun j hj => (World.cell?_of_block (heap_setCell_other w a b v (hr b off rfl))).trans (hc j hj)⟩
theorem snoc_map (k : IntKind) (M : List Int) (x : Int) : M.map (Value.int k) ++ [Value.int k x] = (M ++ [x]).map (Value.int k) := by simp
theorem la_snoc (L : List Int) (k : Nat) (h : k < L.length) (h' : k < 64) : ((L.take k).take 64).map (cl 1 8) ++ [cl 1 8 (L.getD k 0)] = ((L.take (k + 1)).take 64).map (cl 1 8) := by
  have e1 : (L.take k).take 64 = L.take k := List.take_of_length_le (by simp; omega)
  have e2 : (L.take (k + 1)).take 64 = L.take (k + 1) := List.take_of_length_le (by simp; omega)
  rw [e1, e2, List.take_succ_eq_append_getElem h, List.map_append]
  simp only [List.map_cons, List.map_nil, List.getD_eq_getElem?_getD, List.getElem?_eq_getElem h, Option.getD_some]
theorem la_past (L : List Int) (k : Nat) (h' : 64 ≤ k) : ((L.take k).take 64).map (cl 1 8) = ((L.take (k + 1)).take 64).map (cl 1 8) := by
  rw [List.take_take, List.take_take, show min 64 k = min 64 (k + 1) by omega]
theorem ta_snoc (L : List Int) (k : Nat) (h : k < L.length) (h' : k < 64) : (L.take k).take 64 ++ [L.getD k 0] = (L.take (k + 1)).take 64 := by
  have e1 : (L.take k).take 64 = L.take k := List.take_of_length_le (by simp; omega)
  have e2 : (L.take (k + 1)).take 64 = L.take (k + 1) := List.take_of_length_le (by simp; omega)
  rw [e1, e2, List.take_succ_eq_append_getElem h]
  simp [List.getD_eq_getElem?_getD, h]
theorem ta_past (L : List Int) (k : Nat) (h' : 64 ≤ k) : (L.take k).take 64 = (L.take (k + 1)).take 64 := by
  rw [List.take_take, List.take_take, show min 64 k = min 64 (k + 1) by omega]
theorem getD_lt {L : List Int} {k : Nat} {z : Int} (e : L.getD k 0 = z) : z = L.getD k 0 := e.symm
/-- drawing turns nothing -/
theorem Sl.drew {w : World} {k : IntKind} {A : Option Addr} {L : List Int} (h : Sl w k A L) : Sl w.drew k A L := h
theorem owns_drew {w : World} {base : Nat} {t : TypeId} {s : Nat} {v : Value} {n : Nat} {xs : List Value} (h : w.ownsRow base t s v n xs) : w.drew.ownsRow base t s v n xs := h

/-- the state between the rounds: the shape that came in, the result's room, the shape in the making -/
def RI (w wr : World) (m wd ro qu st sl se wa : Int) (A : Option Addr) (n C : Nat) (tb : Bool) (A2 : Option Addr) (n2 C2 : Nat) (m' wd' ro' qu' st' sl' se' wa' : Int) (A8 : Option Addr) (n8 C8 : Nat) (A10 : Option Addr) (n10 C10 : Nat) : Prop :=
  Box wr w.heap.size m wd ro qu st sl se wa A n C tb A2 n2 C2 ∧ Box wr (w.heap.size + 1) 0 0 0 0 0 0 0 0 none 0 0 false none 0 0 ∧ Box wr (w.heap.size + 1 + 1) m' wd' ro' qu' st' sl' se' wa' A8 n8 C8 tb A10 n10 C10 ∧ Below w.heap.size w wr ∧ w.heap.size + 3 ≤ wr.heap.size
theorem RI.start (w : World) {m wd ro qu st sl se wa : Int} {A : Option Addr} {n C : Nat} {tb : Bool} {A2 : Option Addr} {n2 C2 : Nat} {m' wd' ro' qu' st' sl' se' wa' : Int} {A8 : Option Addr} {n8 C8 : Nat} {A10 : Option Addr} {n10 C10 : Nat} : RI w ((((w.alloc (.cells #[.int .i64 m, .int .i64 wd, .int .i64 ro, .int .i64 qu, .int .i64 st, .int .i64 sl, .int .i64 se, .int .i64 wa, .slice A n C, .bool tb, .slice A2 n2 C2] 25)).alloc (.cells #[.int .i64 0, .int .i64 0, .int .i64 0, .int .i64 0, .int .i64 0, .int .i64 0, .int .i64 0, .int .i64 0, .slice none 0 0, .bool false, .slice none 0 0] 25)).alloc (.cells #[.int .i64 m', .int .i64 wd', .int .i64 ro', .int .i64 qu', .int .i64 st', .int .i64 sl', .int .i64 se', .int .i64 wa', .slice A8 n8 C8, .bool tb, .slice A10 n10 C10] 25)).drew) m wd ro qu st sl se wa A n C tb A2 n2 C2 m' wd' ro' qu' st' sl' se' wa' A8 n8 C8 A10 n10 C10 := by
  refine ⟨?_, ?_, ?_, ?_, ?_⟩
  · exact ((Below.heap_alloc _ _ _ (by simp <;> omega)).trans (Below.heap_alloc _ _ _ (by simp))).trans (heap_alloc_new w _)
  · have := heap_alloc_new (w.alloc (.cells #[.int .i64 m, .int .i64 wd, .int .i64 ro, .int .i64 qu, .int .i64 st, .int .i64 sl, .int .i64 se, .int .i64 wa, .slice A n C, .bool tb, .slice A2 n2 C2] 25)) (.cells #[.int .i64 0, .int .i64 0, .int .i64 0, .int .i64 0, .int .i64 0, .int .i64 0, .int .i64 0, .int .i64 0, .slice none 0 0, .bool false, .slice none 0 0] 25)
    rw [World.size_alloc] at this
    exact (Below.heap_alloc _ _ _ (by simp)).trans this
  · have := heap_alloc_new ((w.alloc (.cells #[.int .i64 m, .int .i64 wd, .int .i64 ro, .int .i64 qu, .int .i64 st, .int .i64 sl, .int .i64 se, .int .i64 wa, .slice A n C, .bool tb, .slice A2 n2 C2] 25)).alloc (.cells #[.int .i64 0, .int .i64 0, .int .i64 0, .int .i64 0, .int .i64 0, .int .i64 0, .int .i64 0, .int .i64 0, .slice none 0 0, .bool false, .slice none 0 0] 25)) (.cells #[.int .i64 m', .int .i64 wd', .int .i64 ro', .int .i64 qu', .int .i64 st', .int .i64 sl', .int .i64 se', .int .i64 wa', .slice A8 n8 C8, .bool tb, .slice A10 n10 C10] 25)
    rw [World.size_alloc, World.size_alloc] at this
    exact this
  · exact ((((Below.refl _ _).alloc (Nat.le_refl _) _).alloc (by simp) _).alloc (by simp <;> omega) _).drew
  · show _ ≤ ((_ : World).alloc _).heap.size
    simp
/-- behind a new block, a draw and an append -/
theorem RI.app {w wr w1 : World} {m wd ro qu st sl se wa : Int} {A : Option Addr} {n C : Nat} {tb : Bool} {A2 : Option Addr} {n2 C2 : Nat} {m' wd' ro' qu' st' sl' se' wa' : Int} {A8 : Option Addr} {n8 C8 : Nat} {A10 : Option Addr} {n10 C10 : Nat} (h : RI w wr m wd ro qu st sl se wa A n C tb A2 n2 C2 m' wd' ro' qu' st' sl' se' wa' A8 n8 C8 A10 n10 C10) (o : Obj) {row : Option Nat} (hg : ((wr.alloc o).drew).grownBy w1 row) (hv : ∀ k, row = some k → w.heap.size + 3 ≤ k) : RI w w1 m wd ro qu st sl se wa A n C tb A2 n2 C2 m' wd' ro' qu' st' sl' se' wa' A8 n8 C8 A10 n10 C10 := by
  obtain ⟨h1, h2, h3, h4, h5⟩ := h
  have key : ∀ g, g < w.heap.size + 3 → w1.heap[g]? = wr.heap[g]? := fun g hg' =>
    (hg.block g (by show g < (wr.alloc o).heap.size; simp; omega) (fun e => by have := hv g e.symm; omega)).trans (Below.heap_alloc _ _ _ (by omega))
  refine ⟨(key _ (by omega)).trans h1, (key _ (by omega)).trans h2, (key _ (by omega)).trans h3, ?_, ?_⟩
  · exact ((h4.alloc (by omega) o).drew).grown hg (by show _ ≤ (wr.alloc o).heap.size; simp; omega) (fun k hk => by have := hv k hk; omega)
  · have := hg.size
    have e : ((wr.alloc o).drew).heap.size = wr.heap.size + 1 := by show (wr.alloc o).heap.size = _; simp
    omega
theorem RI.set8 {w wr : World} {m wd ro qu st sl se wa : Int} {A : Option Addr} {n C : Nat} {tb : Bool} {A2 : Option Addr} {n2 C2 : Nat} {m' wd' ro' qu' st' sl' se' wa' : Int} {A8 : Option Addr} {n8 C8 : Nat} {A10 : Option Addr} {n10 C10 : Nat} (h : RI w wr m wd ro qu st sl se wa A n C tb A2 n2 C2 m' wd' ro' qu' st' sl' se' wa' A8 n8 C8 A10 n10 C10) (A' : Option Addr) (n' C' : Nat) : RI w (wr.setCell ⟨w.heap.size + 1 + 1, 8, none⟩ (.slice A' n' C')) m wd ro qu st sl se wa A n C tb A2 n2 C2 m' wd' ro' qu' st' sl' se' wa' A' n' C' A10 n10 C10 := by
  obtain ⟨h1, h2, h3, h4, h5⟩ := h
  exact ⟨h1.far _ _ (by show w.heap.size ≠ w.heap.size + 1 + 1; omega), h2.far _ _ (by show w.heap.size + 1 ≠ w.heap.size + 1 + 1; omega), h3.set8 _ _ _, h4.setCell (by show w.heap.size ≤ w.heap.size + 1 + 1; omega) _, by simp; omega⟩
theorem RI.set10 {w wr : World} {m wd ro qu st sl se wa : Int} {A : Option Addr} {n C : Nat} {tb : Bool} {A2 : Option Addr} {n2 C2 : Nat} {m' wd' ro' qu' st' sl' se' wa' : Int} {A8 : Option Addr} {n8 C8 : Nat} {A10 : Option Addr} {n10 C10 : Nat} (h : RI w wr m wd ro qu st sl se wa A n C tb A2 n2 C2 m' wd' ro' qu' st' sl' se' wa' A8 n8 C8 A10 n10 C10) (A' : Option Addr) (n' C' : Nat) : RI w (wr.setCell ⟨w.heap.size + 1 + 1, 10, none⟩ (.slice A' n' C')) m wd ro qu st sl se wa A n C tb A2 n2 C2 m' wd' ro' qu' st' sl' se' wa' A8 n8 C8 A' n' C' := by
  obtain ⟨h1, h2, h3, h4, h5⟩ := h
  exact ⟨h1.far _ _ (by show w.heap.size ≠ w.heap.size + 1 + 1; omega), h2.far _ _ (by show w.heap.size + 1 ≠ w.heap.size + 1 + 1; omega), h3.set10 _ _ _, h4.setCell (by show w.heap.size ≤ w.heap.size + 1 + 1; omega) _, by simp; omega⟩
theorem owns_set {w1 : World} {base : Nat} {t : TypeId} {g n cap : Nat} {xs : List Value} (h : w1.ownsRow base t 1 (.slice (some ⟨g, 0, none⟩) n cap) n xs) (a : Addr) (ha : a.block < base) (u : Value) : (w1.setCell a u).ownsRow base t 1 (.slice (some ⟨g, 0, none⟩) n cap) n xs :=
  ownsRow_setCell_below h ha u
/-- the first list stands while the second is appended to -/
theorem Sl.app {wr w1 : World} {k : IntKind} {A : Option Addr} {L : List Int} (h : Sl wr k A L) (o : Obj) {row : Option Nat} (hg : ((wr.alloc o).drew).grownBy w1 row) (B2 : Nat) (hv : ∀ k, row = some k → B2 ≤ k) (hA : ∀ b off, A = some ⟨b, off, none⟩ → b < B2) : Sl w1 k A L :=
  Sl.grown (w := (wr.alloc o).drew) (Sl.drew (h.alloc o)) hg (fun b off e x => by
    have := hA b off e
    have := hv b x.symm
    omega)
theorem RI.appP {w wr w1 : World} {m wd ro qu st sl se wa : Int} {A : Option Addr} {n C : Nat} {tb : Bool} {A2 : Option Addr} {n2 C2 : Nat} {m' wd' ro' qu' st' sl' se' wa' : Int} {A8 : Option Addr} {n8 C8 : Nat} {A10 : Option Addr} {n10 C10 : Nat} (h : RI w wr m wd ro qu st sl se wa A n C tb A2 n2 C2 m' wd' ro' qu' st' sl' se' wa' A8 n8 C8 A10 n10 C10) (o : Obj) {row : Option Nat} (hg : (wr.alloc o).grownBy w1 row) (hv : ∀ k, row = some k → w.heap.size + 3 ≤ k) : RI w w1 m wd ro qu st sl se wa A n C tb A2 n2 C2 m' wd' ro' qu' st' sl' se' wa' A8 n8 C8 A10 n10 C10 :=
  h.app o (row := row) ⟨hg.os, hg.tape, hg.output, hg.size, hg.block⟩ hv
theorem Sl.appP {wr w1 : World} {k : IntKind} {A : Option Addr} {L : List Int} (h : Sl wr k A L) (o : Obj) {row : Option Nat} (hg : (wr.alloc o).grownBy w1 row) (B2 : Nat) (hv : ∀ k, row = some k → B2 ≤ k) (hA : ∀ b off, A = some ⟨b, off, none⟩ → b < B2) : Sl w1 k A L :=
  h.app o (row := row) ⟨hg.os, hg.tape, hg.output, hg.size, hg.block⟩ B2 hv hA
/-- what the reference's Clean leaves -/
def RCP (m wd ro qu st sl se wa : Int) (tb : Bool) (L T : List Int) (w : World) (e : Ending) (w' : World) : Prop :=
  ∃ (A8 A10 : Option Addr) (N C8 N2 C10 : Nat), e = .returned (.agg #[.int .i64 (cl 0 2 m), .int .i64 (cl 1 2 wd), .int .i64 (cl 2 8 ro), .int .i64 (cl 1 4 qu), .int .i64 (cl 1 4 st), .int .i64 (cl 2 6 sl), .int .i64 (cs se), .int .i64 (cl 1 2 wa), .slice A8 N C8, .bool tb, .slice A10 N2 C10]) ∧
    (la L).length = N ∧ (ta T).length = N2 ∧ N ≤ 64 ∧ N2 ≤ 64 ∧ Sl w' .i64 A8 (la L) ∧ Sl w' .u32 A10 (ta T) ∧ Below w.heap.size w w' ∧ (∀ b off, A8 = some ⟨b, off, none⟩ → w.heap.size ≤ b) ∧ (∀ b off, A10 = some ⟨b, off, none⟩ → w.heap.size ≤ b)
theorem box_one7 {m wd ro qu st sl se wa : Int} {A A2 : Option Addr} {n C n2 C2 : Nat} {tb : Bool} : ∀ v ∈ (#[Value.int .i64 m, .int .i64 wd, .int .i64 ro, .int .i64 qu, .int .i64 st, .int .i64 sl, .int .i64 se, .int .i64 wa, .slice A n C, .bool tb, .slice A2 n2 C2] : Array Value).toList, v.oneCell' = true := by
  intro v hv
  simp at hv
  rcases hv with rfl | rfl | rfl | rfl | rfl | rfl | rfl | rfl | rfl | rfl | rfl <;> rfl
end Go.Proofs.Ytfphdchpfhedfaa
