/- Of every instruction and every three words the statement AluJumps answers true. No conditions. -/
import Derived.Test.YtdenefeckdlmdaaRows
import Derived.WalkKit
import Derived.ProofKit
import Derived.OpenShut
import Derived.ChangeOld
import Derived.Below
import Derived.Deep.Fields
import Derived.Test.YtdenefeckdlmdaaJumpsW
namespace Go.Proofs.Ytdenefeckdlmdaa.aluJumps
open Go.ChangeShapes Go.WideShapes Go.ChangeAt Go.RowKit Go.Deep
set_option linter.unusedVariables false

theorem own : ownKnob Try.prog.godebug = none := by kernel_rfl
theorem laidOut : laidOutB Try.prog = true := by kernel_rfl

/-- a struct whose fields have one cell each, by value: its cells, each with its own reading -/
theorem open_cells {H : Type} {enc : TypeId × Value → H} {P : Program} {w : World} {base : Nat} {spare : Nat → Bool} {held : Bool} {r : Reach} {b0 : Nat} {t : TypeId} {fs : Array Field} {v : Value} {d : DataW H} {p : List MemPlace}
    (hs : P.underlying t = some (.struct fs)) (hone : oneCellFields P fs = true) (hC : P.cellsOf t = fs.size)
    (hv : Value.okWide P w r b0 t v) (h : DataW.Trod enc P w base spare held t v d p) :
    ∃ cs : Array Value, v = .agg cs ∧ cs.size = fs.size ∧ ∀ (j : Nat) (f : Field), fs[j]? = some f → ∃ c x n, cs[j]? = some c ∧ DataW.trod enc P w base spare held n f.type [c] = some x := by
  obtain ⟨cs, rfl, hsz⟩ := okWide_struct hs hv
  refine ⟨cs, rfl, hsz.trans hC, fun j f hj => ?_⟩
  obtain ⟨fuel, hf⟩ := h
  obtain ⟨xs, n, _, _, _, hlen, hg⟩ := DataW.trod_struct hs hf
  obtain ⟨ho, hk⟩ := hone_of hone j f hj
  have hjl : j < fs.size := (Array.getElem?_eq_some_iff.1 hj).1
  have hg := hg j f hj
  rw [ho, hk] at hg
  have hc : cs[j]? = some (cs[j]'(by omega)) := Array.getElem?_eq_getElem (by omega)
  have hx : xs[j]? = some (xs[j]'(by omega)) := List.getElem?_eq_getElem (by omega)
  have e : (((Value.agg cs).cells.toList).drop j).take 1 = [cs[j]'(by omega)] := by
    have : (Value.agg cs).cells = cs := by simp [Value.cells]
    rw [this, List.drop_eq_getElem_cons (by simp; omega)]
    simp
  rw [e, hx] at hg
  exact ⟨_, _, n, hc, hg⟩
theorem open_inst {H : Type} {enc : TypeId × Value → H} {w : World} {base b0 : Nat} {spare : Nat → Bool} {held : Bool} {r : Reach} {v : Value} {d : DataW H} {p : List MemPlace}
    (hv : Value.okWide Try.prog w r b0 32 v) (h : DataW.Trod enc Try.prog w base spare held 32 v d p) :
    ∃ op rd r1 r2 im : Int, v = .agg #[.int .i64 op, .int .i64 rd, .int .i64 r1, .int .i64 r2, .int .u32 im] ∧ (Lit.int .u32 im).wf = true := by
  obtain ⟨⟨l⟩, rfl, hsz, hf⟩ := open_cells Try.underlying32 (by kernel_rfl) (by kernel_rfl) hv h
  match l, hsz with
  | [c0, c1, c2, c3, c4], _ =>
    obtain ⟨_, _, _, e0, t0⟩ := hf 0 _ rfl
    obtain ⟨_, _, _, e1, t1⟩ := hf 1 _ rfl
    obtain ⟨_, _, _, e2, t2⟩ := hf 2 _ rfl
    obtain ⟨_, _, _, e3, t3⟩ := hf 3 _ rfl
    obtain ⟨_, _, _, e4, t4⟩ := hf 4 _ rfl
    simp at e0 e1 e2 e3 e4
    subst e0 e1 e2 e3 e4
    obtain ⟨op, g0, _, _⟩ := DataW.trod_int Try.underlying3 t0
    obtain ⟨rd, g1, _, _⟩ := DataW.trod_int Try.underlying3 t1
    obtain ⟨r1, g2, _, _⟩ := DataW.trod_int Try.underlying3 t2
    obtain ⟨r2, g3, _, _⟩ := DataW.trod_int Try.underlying3 t3
    obtain ⟨im, g4, _, wf⟩ := DataW.trod_int Try.underlying22 t4
    simp at g0 g1 g2 g3 g4
    subst g0 g1 g2 g3 g4
    exact ⟨op, rd, r1, r2, im, rfl, wf⟩

/-! ### THE ROW's STEP: WRITTEN OUT: LEAVE IT -/
set_option maxRecDepth 100000 in
theorem lifted (os : Os) (started : os.Started) (H : Type) (enc : TypeId × Value → H) :
    ReturnsInHanded {} Try.checked os 11 .any (Rows.aluJumpsSpec.pre6 enc Try.prog Try.f11 Rows.aluJumpsRow.domain false) (Rows.aluJumpsSpec.post enc Try.prog Try.f11 false true false false) := by
  refine returnsInHanded_of_change (C := Try.checked) own started (by kernel_rfl) Try.func11
    (ChangeSpec.witness6 (enc := enc) (C := Try.checked) false ⟨#[], #[.agg #[.int .i64 0, .int .i64 0, .int .i64 0, .int .i64 0, .int .u32 0], .int .u32 0, .int .u32 0, .int .u32 0], []⟩ 8 (by kernel_rfl) (by kernel_rfl) (by kernel_rfl) (by kernel_rfl)) ?_
  intro W base args ds gs before hval0 hW hcnd _
  have hval : ∀ (j : Nat) t v, Try.f11.params[j]? = some t → args[j]? = some v → Value.okWide Try.prog W .any base t v := hval0
  have hW' := hW
  obtain ⟨p, q, hA0, hV, rfl, hfz, hnd⟩ := hW
  have hA : DataW.TrodAll enc Try.prog W 0 (fun _ => true) true Try.f11.params.toList args.toList ds p := hA0
  rw [Try.params11] at hA hval
  obtain ⟨v0, vs0, d0, ds0, p0, q0, hargs, rfl, rfl, h0, r0⟩ := trodAll_cons hA
  obtain ⟨v1, vs1, d1, ds1, p1, q1, rfl, rfl, rfl, h1, r1⟩ := trodAll_cons r0
  obtain ⟨v2, vs2, d2, ds2, p2, q2, rfl, rfl, rfl, h2, r2⟩ := trodAll_cons r1
  obtain ⟨v3, vs3, d3, ds3, p3, q3, rfl, rfl, rfl, h3, r3⟩ := trodAll_cons r2
  obtain ⟨rfl, rfl, rfl⟩ := trodAll_nil r3
  obtain rfl : args = #[v0, v1, v2, v3] := by cases args; simp_all
  obtain ⟨rfl, rfl⟩ := trodVars_none hV
  have k0 := h0
  have lt0 : ∀ x ∈ p0, x.block < W.heap.size := by obtain ⟨m, hm⟩ := k0; exact DataW.trod_lt m _ _ _ hm
  obtain ⟨op, rd, rs, rt, im, rfl, wim⟩ := open_inst (hval 0 32 v0 rfl rfl) h0
  obtain ⟨a1, rfl, rfl, rfl, w1⟩ := open_int Try.underlying22 (hval 1 22 v1 rfl rfl) h1
  obtain ⟨a2, rfl, rfl, rfl, w2⟩ := open_int Try.underlying22 (hval 2 22 v2 rfl rfl) h2
  obtain ⟨a3, rfl, rfl, rfl, w3⟩ := open_int Try.underlying22 (hval 3 22 v3 rfl rfl) h3
  clear hA0 hval0
  have b := bounds_u32 wim
  have b1 := bounds_u32 w1
  have b2 := bounds_u32 w2
  have b3 := bounds_u32 w3
  refine (jumps op rd rs rt im a1 a2 a3 W b.1 b.2 b1.1 b1.2 b2.1 b2.2 b3.1 b3.2).mono fun e W' ⟨he, hg⟩ => ?_
  subst he
  exact ⟨_, rfl, _, _, _, [], _, [], hW', trodAll_mk1 (shut_bool Try.underlying4 _), (trodAll_cons_mk (Below.trod laidOut (by kernel_rfl) (of_decide_eq_true (by kernel_rfl)) k0 hg lt0) (trodAll_cons_mk (shut_int Try.underlying22 w1) (trodAll_cons_mk (shut_int Try.underlying22 w2) (trodAll_cons_mk (shut_int Try.underlying22 w3) trodAll_mk0)))), rfl, hg.frame _, fun h => by cases h⟩

theorem over : Rows.aluJumpsRow.holds Try.pinned (OpenSpec.ofChange Rows.aluJumpsSpec) :=
  OpenClaim.holds_of_wide 11 Try.f11 rfl rfl rfl rfl rfl rfl rfl ⟨rfl, rfl, rfl, rfl, rfl⟩ rfl rfl rfl rfl rfl (by kernel_rfl) Try.func11 (by kernel_rfl)
    (of_decide_eq_true (by kernel_rfl)) (by unfold Func.isWrapper; first | (rw [if_pos (by decide +kernel)]; kernel_rfl) | (rw [if_neg (by decide +kernel)]; exact ⟨rfl, rfl⟩))
    (fun os started H enc _ => lifted os started H enc)

/-- the statement -/
theorem proved : Rows.AluJumpsSaid :=
  over
#print axioms proved
end Go.Proofs.Ytdenefeckdlmdaa.aluJumps
