/-
  No cell of these rows narrows 'for every input' (looked for: loops, veiled, ifaces, maps, wideKeys, modest, calm, conditions, laid).
  DERIVED. THE GIVEN ROWS OF THIS SEAT. 5 by the template 'for every input the law returns true; each argument reads behind the call as it read before'; 0 by the template 'total and deterministic' (their statements: YtfphdchpfhedfaaTotals.lean).
  GIVEN WITH THE SEED: the statements are not yours to turn. If you find one false, say at which input.
  Laid BY PROGRAM, IN A SANDBOX (cutbox-rows.mjs): the forced cells as the released guide's own fill.sh prints them over the translation b22a10752819ec5f… (all of the seat's roots in one cut). By AI agents, Wed Nov 11 2026. No macro, syntax, notation, axiom, sorry.
-/
import Derived.Test.YtfphdchpfhedfaaChecked
import GoSem.Claim
import GoSem.ClaimJoined
import GoSem.ClaimMapViews
import Derived.JoinedTies
import Derived.KernelRfl
namespace Go.Proofs.Ytfphdchpfhedfaa
/- THE CELL 'sum', in the pinned program and in every row, IS THE sha256 OF THE DUMP (.gsa) THAT YtfphdchpfhedfaaProg.lean LOADS. Nothing in Lean hashes anything: it is a label: what it is worth is what the hold of that sum in a sandbox is worth. -/
noncomputable def Try.pinned : Pinned := { name := "ytfphdchpfhedfaa", sum := "b22a10752819ec5f9e0e7afc583035c4c0c3c852adaff571261293f9071af142", checked := Try.checked }
namespace Rows
def none {H : Type} : Left H := { results := [], args := [] }

/-- 'auspexlaw08.ConfCleans': WHATEVER THE INPUT: true; the input reads as it did. -/
def confCleansSpec : ChangeSpec := { name := "confCleans", fn := fun _ => fun
  | [d] => { results := [.lit (.bool true)], args := [d] }
  | _ => none }
def confCleansRow : OpenClaim := { program := "ytfphdchpfhedfaa", sum := "b22a10752819ec5f9e0e7afc583035c4c0c3c852adaff571261293f9071af142", func := "auspex/auspexlaw08.ConfCleans", spec := "confCleans", unfollowed := true, recurses := true, apart := false }
def ConfCleansSaid : Prop := confCleansRow.holds Try.pinned (OpenSpec.ofChange confCleansSpec)

/-- ITS FALSE NEIGHBOUR: 'it returns false'. Refute it at one input. -/
def confCleansWrong : ChangeSpec := { name := "confCleans", fn := fun _ => fun
  | [d] => { results := [.lit (.bool false)], args := [d] }
  | _ => none }
def ConfCleansWrongFalsely : Prop := confCleansRow.holds Try.pinned (OpenSpec.ofChange confCleansWrong)

/-- 'auspexlaw08.ConfTurns': WHATEVER THE INPUT: true; the input reads as it did. -/
def confTurnsSpec : ChangeSpec := { name := "confTurns", fn := fun _ => fun
  | [d1, d2, d3] => { results := [.lit (.bool true)], args := [d1, d2, d3] }
  | _ => none }
def confTurnsRow : OpenClaim := { program := "ytfphdchpfhedfaa", sum := "b22a10752819ec5f9e0e7afc583035c4c0c3c852adaff571261293f9071af142", func := "auspex/auspexlaw08.ConfTurns", spec := "confTurns", unfollowed := true, recurses := true, apart := false }
def ConfTurnsSaid : Prop := confTurnsRow.holds Try.pinned (OpenSpec.ofChange confTurnsSpec)

/-- ITS FALSE NEIGHBOUR: 'it returns false'. Refute it at one input. -/
def confTurnsWrong : ChangeSpec := { name := "confTurns", fn := fun _ => fun
  | [d1, d2, d3] => { results := [.lit (.bool false)], args := [d1, d2, d3] }
  | _ => none }
def ConfTurnsWrongFalsely : Prop := confTurnsRow.holds Try.pinned (OpenSpec.ofChange confTurnsWrong)

/-- 'auspexlaw08.ConfRises': WHATEVER THE INPUT: true; the input reads as it did. -/
def confRisesSpec : ChangeSpec := { name := "confRises", fn := fun _ => fun
  | [d1, d2] => { results := [.lit (.bool true)], args := [d1, d2] }
  | _ => none }
def confRisesRow : OpenClaim := { program := "ytfphdchpfhedfaa", sum := "b22a10752819ec5f9e0e7afc583035c4c0c3c852adaff571261293f9071af142", func := "auspex/auspexlaw08.ConfRises", spec := "confRises", unfollowed := true, recurses := true, apart := false }
def ConfRisesSaid : Prop := confRisesRow.holds Try.pinned (OpenSpec.ofChange confRisesSpec)

/-- ITS FALSE NEIGHBOUR: 'it returns false'. Refute it at one input. -/
def confRisesWrong : ChangeSpec := { name := "confRises", fn := fun _ => fun
  | [d1, d2] => { results := [.lit (.bool false)], args := [d1, d2] }
  | _ => none }
def ConfRisesWrongFalsely : Prop := confRisesRow.holds Try.pinned (OpenSpec.ofChange confRisesWrong)

/-- 'auspexlaw08.ConfStays': WHATEVER THE INPUT: true; the input reads as it did. -/
def confStaysSpec : ChangeSpec := { name := "confStays", fn := fun _ => fun
  | [d1, d2] => { results := [.lit (.bool true)], args := [d1, d2] }
  | _ => none }
def confStaysRow : OpenClaim := { program := "ytfphdchpfhedfaa", sum := "b22a10752819ec5f9e0e7afc583035c4c0c3c852adaff571261293f9071af142", func := "auspex/auspexlaw08.ConfStays", spec := "confStays", unfollowed := true, recurses := true, apart := false }
def ConfStaysSaid : Prop := confStaysRow.holds Try.pinned (OpenSpec.ofChange confStaysSpec)

/-- ITS FALSE NEIGHBOUR: 'it returns false'. Refute it at one input. -/
def confStaysWrong : ChangeSpec := { name := "confStays", fn := fun _ => fun
  | [d1, d2] => { results := [.lit (.bool false)], args := [d1, d2] }
  | _ => none }
def ConfStaysWrongFalsely : Prop := confStaysRow.holds Try.pinned (OpenSpec.ofChange confStaysWrong)

/-- 'auspexlaw08.ConfTapes': WHATEVER THE INPUT: true; the input reads as it did. -/
def confTapesSpec : ChangeSpec := { name := "confTapes", fn := fun _ => fun
  | [d1, d2, d3] => { results := [.lit (.bool true)], args := [d1, d2, d3] }
  | _ => none }
def confTapesRow : OpenClaim := { program := "ytfphdchpfhedfaa", sum := "b22a10752819ec5f9e0e7afc583035c4c0c3c852adaff571261293f9071af142", func := "auspex/auspexlaw08.ConfTapes", spec := "confTapes", unfollowed := true, recurses := true, apart := false }
def ConfTapesSaid : Prop := confTapesRow.holds Try.pinned (OpenSpec.ofChange confTapesSpec)

/-- ITS FALSE NEIGHBOUR: 'it returns false'. Refute it at one input. -/
def confTapesWrong : ChangeSpec := { name := "confTapes", fn := fun _ => fun
  | [d1, d2, d3] => { results := [.lit (.bool false)], args := [d1, d2, d3] }
  | _ => none }
def ConfTapesWrongFalsely : Prop := confTapesRow.holds Try.pinned (OpenSpec.ofChange confTapesWrong)

/- THE SECOND FORM. 'bulk': how many values and letters a reading holds, each counted each time it is reached (what is shared counts as often as it is met; a slice's spare places count too). A statement '..UptoSaid' is the law's where the arguments, and the package variables that the reading takes, are together of bulk at most 1048576: NARROWER than '..Said'. Prove '..Said' where nothing that the law and all that it calls make is longer than what came in: it says more and counts as full. Else prove '..UptoSaid'. A law counts once. -/
mutual
def uptoBulk {H : Type} : DataW H → Nat
  | .lit (.string bytes) => bytes.length + 1
  | .lit _ => 1
  | .nil => 1
  | .ptr d => uptoBulk d + 1
  | .slice elems spare => uptoBulkAll elems + uptoBulkAll spare + 1
  | .agg parts => uptoBulkAll parts + 1
  | .iface _ d => uptoBulk d + 1
  | .map entries => uptoBulkEntries entries + 1
  | .held _ => 1
def uptoBulkAll {H : Type} : List (DataW H) → Nat
  | [] => 0
  | d :: r => uptoBulk d + uptoBulkAll r
def uptoBulkEntries {H : Type} : List (Lit × DataW H) → Nat
  | [] => 0
  | x :: r => uptoBulkEntry x + uptoBulkEntries r
def uptoBulkEntry {H : Type} : Lit × DataW H → Nat
  | (.string bytes, d) => bytes.length + uptoBulk d + 1
  | (_, d) => uptoBulk d + 1
 end
def uptoSmall : (H : Type) → List (DataW H) → Bool := fun _ ds => decide (uptoBulkAll ds ≤ 1048576)
def OpenSpec.upto (s : _root_.Go.ChangeSpec) : _root_.Go.OpenSpec := { _root_.Go.OpenSpec.ofChange s with cond := some uptoSmall }

/-- 'auspexlaw08.ConfCleans', WHERE WHAT IT READS IS OF BULK AT MOST 1048576: true; the input reads as it did. -/
def confCleansUptoRow : OpenClaim := { program := "ytfphdchpfhedfaa", sum := "b22a10752819ec5f9e0e7afc583035c4c0c3c852adaff571261293f9071af142", func := "auspex/auspexlaw08.ConfCleans", spec := "confCleans", unfollowed := true, recurses := true, apart := false, narrowed := true }
def ConfCleansUptoSaid : Prop := confCleansUptoRow.holds Try.pinned (OpenSpec.upto confCleansSpec)

/-- 'auspexlaw08.ConfTurns', WHERE WHAT IT READS IS OF BULK AT MOST 1048576: true; the input reads as it did. -/
def confTurnsUptoRow : OpenClaim := { program := "ytfphdchpfhedfaa", sum := "b22a10752819ec5f9e0e7afc583035c4c0c3c852adaff571261293f9071af142", func := "auspex/auspexlaw08.ConfTurns", spec := "confTurns", unfollowed := true, recurses := true, apart := false, narrowed := true }
def ConfTurnsUptoSaid : Prop := confTurnsUptoRow.holds Try.pinned (OpenSpec.upto confTurnsSpec)

/-- 'auspexlaw08.ConfRises', WHERE WHAT IT READS IS OF BULK AT MOST 1048576: true; the input reads as it did. -/
def confRisesUptoRow : OpenClaim := { program := "ytfphdchpfhedfaa", sum := "b22a10752819ec5f9e0e7afc583035c4c0c3c852adaff571261293f9071af142", func := "auspex/auspexlaw08.ConfRises", spec := "confRises", unfollowed := true, recurses := true, apart := false, narrowed := true }
def ConfRisesUptoSaid : Prop := confRisesUptoRow.holds Try.pinned (OpenSpec.upto confRisesSpec)

/-- 'auspexlaw08.ConfStays', WHERE WHAT IT READS IS OF BULK AT MOST 1048576: true; the input reads as it did. -/
def confStaysUptoRow : OpenClaim := { program := "ytfphdchpfhedfaa", sum := "b22a10752819ec5f9e0e7afc583035c4c0c3c852adaff571261293f9071af142", func := "auspex/auspexlaw08.ConfStays", spec := "confStays", unfollowed := true, recurses := true, apart := false, narrowed := true }
def ConfStaysUptoSaid : Prop := confStaysUptoRow.holds Try.pinned (OpenSpec.upto confStaysSpec)

/-- 'auspexlaw08.ConfTapes', WHERE WHAT IT READS IS OF BULK AT MOST 1048576: true; the input reads as it did. -/
def confTapesUptoRow : OpenClaim := { program := "ytfphdchpfhedfaa", sum := "b22a10752819ec5f9e0e7afc583035c4c0c3c852adaff571261293f9071af142", func := "auspex/auspexlaw08.ConfTapes", spec := "confTapes", unfollowed := true, recurses := true, apart := false, narrowed := true }
def ConfTapesUptoSaid : Prop := confTapesUptoRow.holds Try.pinned (OpenSpec.upto confTapesSpec)

end Rows
end Go.Proofs.Ytfphdchpfhedfaa
