/- A slice of rates, a slice of steps that came in, opened. No conditions. -/
import Derived.Test.YtmahjlmblgboaaaDoorLay
import Derived.Deep.Fields
namespace Go.Proofs.YtmahjlmblgboaaaDoor
open Go.ChangeShapes Go.WideShapes Go.ChangeAt Go.RowKit
set_option linter.unusedVariables false
/-- a slice's address leads to these rates -/
def Fl (w : World) (A : Option Addr) (L : List Nat) : Prop :=
  0 < L.length → ∃ b off, A = some ⟨b, off, none⟩ ∧ b < w.heap.size ∧ ∀ j, j < L.length → w.cell? ⟨b, off + j, none⟩ = some (.float .f64 (L.getD j 0))
theorem Fl.below {w w' : World} {A : Option Addr} {L : List Nat} (h : Fl w A L) (hb : Below w.heap.size w w') : Fl w' A L := fun hn => by
  obtain ⟨b, off, rfl, hlt, hc⟩ := h hn
  exact ⟨b, off, rfl, Nat.lt_of_lt_of_le hlt hb.size, fun j hj => (hb.cell (p := ⟨b, off + j, none⟩) hlt).trans (hc j hj)⟩
theorem Fl.take {w : World} {A : Option Addr} {L : List Nat} (h : Fl w A L) (n : Nat) : Fl w A (L.take n) := fun hn => by
  have hl : (L.take n).length ≤ L.length := by rw [List.length_take]; omega
  obtain ⟨b, off, rfl, hlt, hc⟩ := h (by omega)
  refine ⟨b, off, rfl, hlt, fun j hj => ?_⟩
  rw [hc j (by omega)]
  have : j < n := by rw [List.length_take] at hj; omega
  simp [List.getD_eq_getElem?_getD, this]
theorem trod_float {H : Type} {enc : TypeId × Value → H} {P : Program} {w : World} {base : Nat} {spare : Nat → Bool} {held : Bool} {fuel : Nat} {t : TypeId} {k : FloatKind} {cs : List Value} {x : DataW H × List MemPlace} (ht : P.underlying t = some (.float k)) (h : DataW.trod enc P w base spare held fuel t cs = some x) : ∃ b, cs = [.float k b] ∧ (Lit.float k b).wf = true := by
  cases fuel with
  | zero => simp [DataW.trod] at h
  | succ n =>
    unfold DataW.trod at h
    rw [ht] at h
    split at h <;> simp_all
set_option maxRecDepth 100000 in
theorem open_rates {H : Type} {enc : TypeId × Value → H} {w : World} {base b0 : Nat} {spare : Nat → Bool} {held : Bool} {r : Reach} {v : Value} {d : DataW H} {p : List MemPlace}
    (hv : Value.okWide Tryd.prog w r b0 52 v) (h : DataW.Trod enc Tryd.prog w base spare held 52 v d p) :
    ∃ (A : Option Addr) (n C : Nat) (L : List Nat), v = .slice A n C ∧ L.length = n ∧ n ≤ C ∧ C ≤ 9223372036854775807 ∧ Fl w A L ∧ (∀ x ∈ L, x < 18446744073709551616) := by
  obtain ⟨a0, len, cap, rfl⟩ := okWide_slice Tryd.underlying52 hv
  obtain ⟨fuel, hf⟩ := h
  rcases DataW.trod_slice Tryd.underlying52 hf with ⟨h0, _⟩ | ⟨a, len', cap', elems, rest, n, _, hcs, _, hb, hl, hm, hlen, hel, _, _⟩
  · simp [Value.cells] at h0
    obtain ⟨rfl, rfl, rfl⟩ := h0
    exact ⟨none, 0, 0, [], rfl, rfl, by omega, by omega, fun h => absurd h (by decide), fun x hx => by cases hx⟩
  · simp [Value.cells] at hcs
    obtain ⟨rfl, rfl, rfl⟩ := hcs
    have hc1 : Tryd.prog.cellsOf 43 = 1 := by kernel_rfl
    have each : ∀ i, i < len → ∃ x, w.cell? (a.add i) = some (.float .f64 x) ∧ x < 18446744073709551616 := fun i hi => by
      have hi' := hel i hi
      rw [hc1, Nat.mul_one, List.getElem?_eq_getElem (by omega)] at hi'
      obtain ⟨cs', hcs', hy⟩ := Option.bind_eq_some_iff.1 hi'
      obtain ⟨x, rfl, hw⟩ := trod_float Tryd.underlying43 hy
      exact ⟨x, cell_of_cells?_one hcs', float_lt hw⟩
    obtain ⟨f, hfx⟩ : ∃ f : Nat → Nat, ∀ i, i < len → w.cell? (a.add i) = some (.float .f64 (f i)) ∧ f i < 18446744073709551616 :=
      ⟨fun i => if h : i < len then (each i h).choose else 0, fun i hi => by simp only [dif_pos hi]; exact (each i hi).choose_spec⟩
    refine ⟨some a, len, cap, (List.range len).map f, rfl, by simp, hl, by unfold maxLen at hm; omega, fun hn => ?_, fun x hx => ?_⟩
    · have hl0 : 0 < len := by simpa using hn
      have hc := fun i (hi : i < len) => (hfx i hi).1
      obtain ⟨b, off, spot⟩ := a
      have hspot : spot = none := by simpa [Addr.add] using World.cell?_spot (hc 0 hl0)
      subst hspot
      have ha : ∀ i, (⟨b, off, none⟩ : Addr).add i = ⟨b, off + i, none⟩ := fun i => Go.WideShapes.add_plain ..
      have h0 := hc 0 hl0
      rw [ha] at h0
      refine ⟨b, off, rfl, World.block_lt_of_cell? w _ h0, fun j hj => ?_⟩
      have hj' : j < len := by simpa using hj
      rw [← ha j, hc j hj']
      simp [List.getD_eq_getElem?_getD, hj']
    · simp at hx
      obtain ⟨i, hi, rfl⟩ := hx
      exact (hfx i hi).2
set_option maxRecDepth 100000 in
theorem open_steps {H : Type} {enc : TypeId × Value → H} {w : World} {base b0 : Nat} {spare : Nat → Bool} {held : Bool} {r : Reach} {v : Value} {d : DataW H} {p : List MemPlace}
    (hv : Value.okWide Tryd.prog w r b0 22 v) (h : DataW.Trod enc Tryd.prog w base spare held 22 v d p) :
    ∃ (A : Option Addr) (n C : Nat), v = .slice A n C ∧ n ≤ C ∧ C ≤ 9223372036854775807 := by
  obtain ⟨a0, len, cap, rfl⟩ := okWide_slice Tryd.underlying22 hv
  obtain ⟨fuel, hf⟩ := h
  rcases DataW.trod_slice Tryd.underlying22 hf with ⟨h0, _⟩ | ⟨a, len', cap', elems, rest, n, _, hcs, _, hb, hl, hm, hlen, hel, _, _⟩
  · simp [Value.cells] at h0
    obtain ⟨rfl, rfl, rfl⟩ := h0
    exact ⟨none, 0, 0, rfl, by omega, by omega⟩
  · simp [Value.cells] at hcs
    obtain ⟨rfl, rfl, rfl⟩ := hcs
    exact ⟨some a, len, cap, rfl, hl, by unfold maxLen at hm; omega⟩
end Go.Proofs.YtmahjlmblgboaaaDoor
