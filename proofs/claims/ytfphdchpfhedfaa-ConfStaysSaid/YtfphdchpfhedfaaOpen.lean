/- A shape that came in, opened: its numbers, and its slices that read as lists. No conditions. -/
import Derived.Test.YtfphdchpfhedfaaC0
import Derived.Deep.Fields
namespace Go.Proofs.Ytfphdchpfhedfaa
open Go.ChangeShapes Go.WideShapes Go.ChangeAt Go.RowKit Go.Deep
set_option linter.unusedVariables false
/-- a struct whose fields have one cell each, by value: its cells, each with its own reading -/
theorem open_cells {H : Type} {enc : TypeId × Value → H} {P : Program} {w : World} {base : Nat} {spare : Nat → Bool} {held : Bool} {r : Reach} {b0 : Nat} {t : TypeId} {fs : Array Field} {v : Value} {d : DataW H} {p : List MemPlace}
    (hs : P.underlying t = some (.struct fs)) (hone : oneCellFields P fs = true) (hC : P.cellsOf t = fs.size)
    (hv : Value.okWide P w r b0 t v) (h : DataW.Trod enc P w base spare held t v d p) :
    ∃ cs : Array Value, v = .agg cs ∧ cs.size = fs.size ∧ ∀ (j : Nat) (f : Field), fs[j]? = some f → ∃ c x n, cs[j]? = some c ∧ DataW.trod enc P w base spare held n f.type [c] = some x := by
  obtain ⟨cs, rfl, hsz⟩ := okWide_struct hs hv
  refine ⟨cs, rfl, hsz.trans hC, fun j f hj => ?_⟩
  obtain ⟨fuel, hf⟩ := h
  obtain ⟨xs, n, _, _, _, hlen, hg⟩ := DataW.trod_struct hs hf
  obtain ⟨ho, hk⟩ := hone_of hone j f hj
  have hjl : j < fs.size := (Array.getElem?_eq_some_iff.1 hj).1
  have hg := hg j f hj
  rw [ho, hk] at hg
  have hc : cs[j]? = some (cs[j]'(by omega)) := Array.getElem?_eq_getElem (by omega)
  have hx : xs[j]? = some (xs[j]'(by omega)) := List.getElem?_eq_getElem (by omega)
  have e : (((Value.agg cs).cells.toList).drop j).take 1 = [cs[j]'(by omega)] := by
    have : (Value.agg cs).cells = cs := by simp [Value.cells]
    rw [this, List.drop_eq_getElem_cons (by simp; omega)]
    simp
  rw [e, hx] at hg
  exact ⟨_, _, n, hc, hg⟩
/-- a slice of numbers that came in -/
theorem open_sl {H : Type} {enc : TypeId × Value → H} {w : World} {base : Nat} {spare : Nat → Bool} {held : Bool} {t e : TypeId} {k : IntKind} {c : Value} {x : DataW H × List MemPlace} {n : Nat}
    (h1 : Try.prog.underlying t = some (.slice e)) (h2 : Try.prog.underlying e = some (.int k)) (h3 : Try.prog.cellsOf e = 1) (hf : DataW.trod enc Try.prog w base spare held n t [c] = some x) :
    ∃ (A : Option Addr) (l C : Nat) (L : List Int), c = .slice A l C ∧ L.length = l ∧ l ≤ C ∧ C ≤ 9223372036854775807 ∧ Sl w k A L := by
  rcases open_ints h1 h2 h3 hf with ⟨hcs, _⟩ | ⟨a, l, C, zs, hcs, _, hl, hm, hz, _, hcell, hwz⟩
  · simp at hcs
    subst hcs
    exact ⟨none, 0, 0, [], rfl, rfl, by omega, by omega, Sl.none_ _ _ _⟩
  · simp at hcs
    subst hcs
    have hz' : l ≤ zs.length := by
      by_cases hs : spare a.block = true
      · simp [hs] at hz; omega
      · simp [hs] at hz; omega
    refine ⟨some a, l, C, zs.take l, rfl, by simp; omega, hl, by unfold maxLen at hm; omega, fun hn => ?_⟩
    have hl0 : 0 < l := by simp at hn; omega
    obtain ⟨b, off, rfl, hc⟩ := ints_at hcell (by omega)
    have h0 := hc 0 (by omega)
    refine ⟨b, off, rfl, World.block_lt_of_cell? w _ h0, fun j hj => ?_⟩
    have hjl : j < l := by simp at hj; omega
    rw [hc j (by omega)]
    simp [List.getD_eq_getElem?_getD, hjl]
theorem open_conf {H : Type} {enc : TypeId × Value → H} {w : World} {base b0 : Nat} {spare : Nat → Bool} {held : Bool} {r : Reach} {v : Value} {d : DataW H} {p : List MemPlace}
    (hv : Value.okWide Try.prog w r b0 25 v) (h : DataW.Trod enc Try.prog w base spare held 25 v d p) :
    ∃ (m wd ro qu st sl se wa : Int) (A A2 : Option Addr) (n C n2 C2 : Nat) (L T : List Int) (tb : Bool), v = .agg #[.int .i64 m, .int .i64 wd, .int .i64 ro, .int .i64 qu, .int .i64 st, .int .i64 sl, .int .i64 se, .int .i64 wa, .slice A n C, .bool tb, .slice A2 n2 C2] ∧
      L.length = n ∧ T.length = n2 ∧ n ≤ C ∧ n2 ≤ C2 ∧ C ≤ 9223372036854775807 ∧ C2 ≤ 9223372036854775807 ∧ Sl w .i64 A L ∧ Sl w .u32 A2 T := by
  obtain ⟨⟨l⟩, rfl, hsz, hf⟩ := open_cells Try.underlying25 (by kernel_rfl) (by kernel_rfl) hv h
  match l, hsz with
  | [c0, c1, c2, c3, c4, c5, c6, c7, c8, c9, c10], _ =>
    obtain ⟨_, _, _, e0, t0⟩ := hf 0 _ rfl
    obtain ⟨_, _, _, e1, t1⟩ := hf 1 _ rfl
    obtain ⟨_, _, _, e2, t2⟩ := hf 2 _ rfl
    obtain ⟨_, _, _, e3, t3⟩ := hf 3 _ rfl
    obtain ⟨_, _, _, e4, t4⟩ := hf 4 _ rfl
    obtain ⟨_, _, _, e5, t5⟩ := hf 5 _ rfl
    obtain ⟨_, _, _, e6, t6⟩ := hf 6 _ rfl
    obtain ⟨_, _, _, e7, t7⟩ := hf 7 _ rfl
    obtain ⟨_, _, _, e8, t8⟩ := hf 8 _ rfl
    obtain ⟨_, _, _, e9, t9⟩ := hf 9 _ rfl
    obtain ⟨_, _, _, e10, t10⟩ := hf 10 _ rfl
    simp at e0 e1 e2 e3 e4 e5 e6 e7 e8 e9 e10
    subst e0 e1 e2 e3 e4 e5 e6 e7 e8 e9 e10
    obtain ⟨m, g0, _, _⟩ := DataW.trod_int Try.underlying3 t0
    obtain ⟨wd, g1, _, _⟩ := DataW.trod_int Try.underlying3 t1
    obtain ⟨ro, g2, _, _⟩ := DataW.trod_int Try.underlying3 t2
    obtain ⟨qu, g3, _, _⟩ := DataW.trod_int Try.underlying3 t3
    obtain ⟨st, g4, _, _⟩ := DataW.trod_int Try.underlying3 t4
    obtain ⟨sl, g5, _, _⟩ := DataW.trod_int Try.underlying3 t5
    obtain ⟨se, g6, _, _⟩ := DataW.trod_int Try.underlying3 t6
    obtain ⟨wa, g7, _, _⟩ := DataW.trod_int Try.underlying3 t7
    obtain ⟨A, n, C, L, rfl, l1, l2, l3, l4⟩ := open_sl Try.underlying22 Try.underlying3 (by kernel_rfl) t8
    obtain ⟨tb, g9, _⟩ := DataW.trod_bool Try.underlying4 t9
    obtain ⟨A2, n2, C2, T, rfl, m1, m2, m3, m4⟩ := open_sl Try.underlying23 Try.underlying30 (by kernel_rfl) t10
    simp at g0 g1 g2 g3 g4 g5 g6 g7 g9
    subst g0 g1 g2 g3 g4 g5 g6 g7 g9
    exact ⟨m, wd, ro, qu, st, sl, se, wa, A, A2, n, C, n2, C2, L, T, tb, rfl, l1, m1, l2, m2, l3, m3, l4, m4⟩
end Go.Proofs.Ytfphdchpfhedfaa
