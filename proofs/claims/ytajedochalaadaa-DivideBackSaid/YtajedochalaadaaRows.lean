/-
  No cell of these rows narrows 'for every input' (looked for: loops, veiled, ifaces, maps, wideKeys, modest, calm, conditions, laid).
  DERIVED. THE GIVEN ROWS OF THIS SEAT. 6 by the template 'for every input the law returns true; each argument reads behind the call as it read before'; 0 by the template 'total and deterministic' (their statements: YtajedochalaadaaTotals.lean).
  GIVEN WITH THE SEED: the statements are not yours to turn. If you find one false, say at which input.
  Laid BY PROGRAM, IN A SANDBOX (cutbox-rows.mjs): the forced cells as the released guide's own fill.sh prints them over the translation 46daa962aa5ca7f2… (all of the seat's roots in one cut). By AI agents, Wed Nov 11 2026. No macro, syntax, notation, axiom, sorry.
-/
import Derived.Test.YtajedochalaadaaChecked
import GoSem.Claim
import GoSem.ClaimJoined
import GoSem.ClaimMapViews
import Derived.JoinedTies
import Derived.KernelRfl
namespace Go.Proofs.Ytajedochalaadaa
/- THE CELL 'sum', in the pinned program and in every row, IS THE sha256 OF THE DUMP (.gsa) THAT YtajedochalaadaaProg.lean LOADS. Nothing in Lean hashes anything: it is a label: what it is worth is what the hold of that sum in a sandbox is worth. -/
noncomputable def Try.pinned : Pinned := { name := "ytajedochalaadaa", sum := "46daa962aa5ca7f203c08c003cfd7a109a5336dc02cb9b085859a39f5c21a2ca", checked := Try.checked }
namespace Rows
def none {H : Type} : Left H := { results := [], args := [] }

/-- 'auspexlaw04.DivideBack': WHATEVER THE INPUT: true; the input reads as it did. -/
def divideBackSpec : ChangeSpec := { name := "divideBack", fn := fun _ => fun
  | [d1, d2] => { results := [.lit (.bool true)], args := [d1, d2] }
  | _ => none }
def divideBackRow : OpenClaim := { program := "ytajedochalaadaa", sum := "46daa962aa5ca7f203c08c003cfd7a109a5336dc02cb9b085859a39f5c21a2ca", func := "auspex/auspexlaw04.DivideBack", spec := "divideBack", unfollowed := true, recurses := true, apart := false }
def DivideBackSaid : Prop := divideBackRow.holds Try.pinned (OpenSpec.ofChange divideBackSpec)

/-- ITS FALSE NEIGHBOUR: 'it returns false'. Refute it at one input. -/
def divideBackWrong : ChangeSpec := { name := "divideBack", fn := fun _ => fun
  | [d1, d2] => { results := [.lit (.bool false)], args := [d1, d2] }
  | _ => none }
def DivideBackWrongFalsely : Prop := divideBackRow.holds Try.pinned (OpenSpec.ofChange divideBackWrong)

/-- 'auspexlaw04.DivideSigns': WHATEVER THE INPUT: true; the input reads as it did. -/
def divideSignsSpec : ChangeSpec := { name := "divideSigns", fn := fun _ => fun
  | [d1, d2] => { results := [.lit (.bool true)], args := [d1, d2] }
  | _ => none }
def divideSignsRow : OpenClaim := { program := "ytajedochalaadaa", sum := "46daa962aa5ca7f203c08c003cfd7a109a5336dc02cb9b085859a39f5c21a2ca", func := "auspex/auspexlaw04.DivideSigns", spec := "divideSigns", unfollowed := true, recurses := true, apart := false }
def DivideSignsSaid : Prop := divideSignsRow.holds Try.pinned (OpenSpec.ofChange divideSignsSpec)

/-- ITS FALSE NEIGHBOUR: 'it returns false'. Refute it at one input. -/
def divideSignsWrong : ChangeSpec := { name := "divideSigns", fn := fun _ => fun
  | [d1, d2] => { results := [.lit (.bool false)], args := [d1, d2] }
  | _ => none }
def DivideSignsWrongFalsely : Prop := divideSignsRow.holds Try.pinned (OpenSpec.ofChange divideSignsWrong)

/-- 'auspexlaw04.DivideBits': WHATEVER THE INPUT: true; the input reads as it did. -/
def divideBitsSpec : ChangeSpec := { name := "divideBits", fn := fun _ => fun
  | [d] => { results := [.lit (.bool true)], args := [d] }
  | _ => none }
def divideBitsRow : OpenClaim := { program := "ytajedochalaadaa", sum := "46daa962aa5ca7f203c08c003cfd7a109a5336dc02cb9b085859a39f5c21a2ca", func := "auspex/auspexlaw04.DivideBits", spec := "divideBits", unfollowed := true, recurses := true, apart := false }
def DivideBitsSaid : Prop := divideBitsRow.holds Try.pinned (OpenSpec.ofChange divideBitsSpec)

/-- ITS FALSE NEIGHBOUR: 'it returns false'. Refute it at one input. -/
def divideBitsWrong : ChangeSpec := { name := "divideBits", fn := fun _ => fun
  | [d] => { results := [.lit (.bool false)], args := [d] }
  | _ => none }
def DivideBitsWrongFalsely : Prop := divideBitsRow.holds Try.pinned (OpenSpec.ofChange divideBitsWrong)

/-- 'auspexlaw04.DivideDoes': WHATEVER THE INPUT: true; the input reads as it did. -/
def divideDoesSpec : ChangeSpec := { name := "divideDoes", fn := fun _ => fun
  | [d1, d2, d3] => { results := [.lit (.bool true)], args := [d1, d2, d3] }
  | _ => none }
def divideDoesRow : OpenClaim := { program := "ytajedochalaadaa", sum := "46daa962aa5ca7f203c08c003cfd7a109a5336dc02cb9b085859a39f5c21a2ca", func := "auspex/auspexlaw04.DivideDoes", spec := "divideDoes", unfollowed := true, recurses := true, apart := false }
def DivideDoesSaid : Prop := divideDoesRow.holds Try.pinned (OpenSpec.ofChange divideDoesSpec)

/-- ITS FALSE NEIGHBOUR: 'it returns false'. Refute it at one input. -/
def divideDoesWrong : ChangeSpec := { name := "divideDoes", fn := fun _ => fun
  | [d1, d2, d3] => { results := [.lit (.bool false)], args := [d1, d2, d3] }
  | _ => none }
def DivideDoesWrongFalsely : Prop := divideDoesRow.holds Try.pinned (OpenSpec.ofChange divideDoesWrong)

/-- 'auspexlaw04.DivideTook': WHATEVER THE INPUT: true; the input reads as it did. -/
def divideTookSpec : ChangeSpec := { name := "divideTook", fn := fun _ => fun
  | [d1, d2] => { results := [.lit (.bool true)], args := [d1, d2] }
  | _ => none }
def divideTookRow : OpenClaim := { program := "ytajedochalaadaa", sum := "46daa962aa5ca7f203c08c003cfd7a109a5336dc02cb9b085859a39f5c21a2ca", func := "auspex/auspexlaw04.DivideTook", spec := "divideTook", unfollowed := true, recurses := true, apart := false }
def DivideTookSaid : Prop := divideTookRow.holds Try.pinned (OpenSpec.ofChange divideTookSpec)

/-- ITS FALSE NEIGHBOUR: 'it returns false'. Refute it at one input. -/
def divideTookWrong : ChangeSpec := { name := "divideTook", fn := fun _ => fun
  | [d1, d2] => { results := [.lit (.bool false)], args := [d1, d2] }
  | _ => none }
def DivideTookWrongFalsely : Prop := divideTookRow.holds Try.pinned (OpenSpec.ofChange divideTookWrong)

/-- 'auspexlaw04.DivideSmall': WHATEVER THE INPUT: true; the input reads as it did. -/
def divideSmallSpec : ChangeSpec := { name := "divideSmall", fn := fun _ => fun
  | [d1, d2, d3] => { results := [.lit (.bool true)], args := [d1, d2, d3] }
  | _ => none }
def divideSmallRow : OpenClaim := { program := "ytajedochalaadaa", sum := "46daa962aa5ca7f203c08c003cfd7a109a5336dc02cb9b085859a39f5c21a2ca", func := "auspex/auspexlaw04.DivideSmall", spec := "divideSmall", unfollowed := true, recurses := true, apart := false }
def DivideSmallSaid : Prop := divideSmallRow.holds Try.pinned (OpenSpec.ofChange divideSmallSpec)

/-- ITS FALSE NEIGHBOUR: 'it returns false'. Refute it at one input. -/
def divideSmallWrong : ChangeSpec := { name := "divideSmall", fn := fun _ => fun
  | [d1, d2, d3] => { results := [.lit (.bool false)], args := [d1, d2, d3] }
  | _ => none }
def DivideSmallWrongFalsely : Prop := divideSmallRow.holds Try.pinned (OpenSpec.ofChange divideSmallWrong)

/- THE SECOND FORM. 'bulk': how many values and letters a reading holds, each counted each time it is reached (what is shared counts as often as it is met; a slice's spare places count too). A statement '..UptoSaid' is the law's where the arguments, and the package variables that the reading takes, are together of bulk at most 1048576: NARROWER than '..Said'. Prove '..Said' where nothing that the law and all that it calls make is longer than what came in: it says more and counts as full. Else prove '..UptoSaid'. A law counts once. -/
mutual
def uptoBulk {H : Type} : DataW H → Nat
  | .lit (.string bytes) => bytes.length + 1
  | .lit _ => 1
  | .nil => 1
  | .ptr d => uptoBulk d + 1
  | .slice elems spare => uptoBulkAll elems + uptoBulkAll spare + 1
  | .agg parts => uptoBulkAll parts + 1
  | .iface _ d => uptoBulk d + 1
  | .map entries => uptoBulkEntries entries + 1
  | .held _ => 1
def uptoBulkAll {H : Type} : List (DataW H) → Nat
  | [] => 0
  | d :: r => uptoBulk d + uptoBulkAll r
def uptoBulkEntries {H : Type} : List (Lit × DataW H) → Nat
  | [] => 0
  | x :: r => uptoBulkEntry x + uptoBulkEntries r
def uptoBulkEntry {H : Type} : Lit × DataW H → Nat
  | (.string bytes, d) => bytes.length + uptoBulk d + 1
  | (_, d) => uptoBulk d + 1
 end
def uptoSmall : (H : Type) → List (DataW H) → Bool := fun _ ds => decide (uptoBulkAll ds ≤ 1048576)
def OpenSpec.upto (s : _root_.Go.ChangeSpec) : _root_.Go.OpenSpec := { _root_.Go.OpenSpec.ofChange s with cond := some uptoSmall }

/-- 'auspexlaw04.DivideBack', WHERE WHAT IT READS IS OF BULK AT MOST 1048576: true; the input reads as it did. -/
def divideBackUptoRow : OpenClaim := { program := "ytajedochalaadaa", sum := "46daa962aa5ca7f203c08c003cfd7a109a5336dc02cb9b085859a39f5c21a2ca", func := "auspex/auspexlaw04.DivideBack", spec := "divideBack", unfollowed := true, recurses := true, apart := false, narrowed := true }
def DivideBackUptoSaid : Prop := divideBackUptoRow.holds Try.pinned (OpenSpec.upto divideBackSpec)

/-- 'auspexlaw04.DivideSigns', WHERE WHAT IT READS IS OF BULK AT MOST 1048576: true; the input reads as it did. -/
def divideSignsUptoRow : OpenClaim := { program := "ytajedochalaadaa", sum := "46daa962aa5ca7f203c08c003cfd7a109a5336dc02cb9b085859a39f5c21a2ca", func := "auspex/auspexlaw04.DivideSigns", spec := "divideSigns", unfollowed := true, recurses := true, apart := false, narrowed := true }
def DivideSignsUptoSaid : Prop := divideSignsUptoRow.holds Try.pinned (OpenSpec.upto divideSignsSpec)

/-- 'auspexlaw04.DivideBits', WHERE WHAT IT READS IS OF BULK AT MOST 1048576: true; the input reads as it did. -/
def divideBitsUptoRow : OpenClaim := { program := "ytajedochalaadaa", sum := "46daa962aa5ca7f203c08c003cfd7a109a5336dc02cb9b085859a39f5c21a2ca", func := "auspex/auspexlaw04.DivideBits", spec := "divideBits", unfollowed := true, recurses := true, apart := false, narrowed := true }
def DivideBitsUptoSaid : Prop := divideBitsUptoRow.holds Try.pinned (OpenSpec.upto divideBitsSpec)

/-- 'auspexlaw04.DivideDoes', WHERE WHAT IT READS IS OF BULK AT MOST 1048576: true; the input reads as it did. -/
def divideDoesUptoRow : OpenClaim := { program := "ytajedochalaadaa", sum := "46daa962aa5ca7f203c08c003cfd7a109a5336dc02cb9b085859a39f5c21a2ca", func := "auspex/auspexlaw04.DivideDoes", spec := "divideDoes", unfollowed := true, recurses := true, apart := false, narrowed := true }
def DivideDoesUptoSaid : Prop := divideDoesUptoRow.holds Try.pinned (OpenSpec.upto divideDoesSpec)

/-- 'auspexlaw04.DivideTook', WHERE WHAT IT READS IS OF BULK AT MOST 1048576: true; the input reads as it did. -/
def divideTookUptoRow : OpenClaim := { program := "ytajedochalaadaa", sum := "46daa962aa5ca7f203c08c003cfd7a109a5336dc02cb9b085859a39f5c21a2ca", func := "auspex/auspexlaw04.DivideTook", spec := "divideTook", unfollowed := true, recurses := true, apart := false, narrowed := true }
def DivideTookUptoSaid : Prop := divideTookUptoRow.holds Try.pinned (OpenSpec.upto divideTookSpec)

/-- 'auspexlaw04.DivideSmall', WHERE WHAT IT READS IS OF BULK AT MOST 1048576: true; the input reads as it did. -/
def divideSmallUptoRow : OpenClaim := { program := "ytajedochalaadaa", sum := "46daa962aa5ca7f203c08c003cfd7a109a5336dc02cb9b085859a39f5c21a2ca", func := "auspex/auspexlaw04.DivideSmall", spec := "divideSmall", unfollowed := true, recurses := true, apart := false, narrowed := true }
def DivideSmallUptoSaid : Prop := divideSmallUptoRow.holds Try.pinned (OpenSpec.upto divideSmallSpec)

end Rows
end Go.Proofs.Ytajedochalaadaa
