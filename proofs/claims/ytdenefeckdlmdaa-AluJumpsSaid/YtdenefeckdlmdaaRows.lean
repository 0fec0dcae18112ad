/-
  No cell of these rows narrows 'for every input' (looked for: loops, veiled, ifaces, maps, wideKeys, modest, calm, conditions, laid).
  DERIVED. THE GIVEN ROWS OF THIS SEAT. 9 by the template 'for every input the law returns true; each argument reads behind the call as it read before'; 0 by the template 'total and deterministic' (their statements: YtdenefeckdlmdaaTotals.lean).
  GIVEN WITH THE SEED: the statements are not yours to turn. If you find one false, say at which input.
  Laid BY PROGRAM, IN A SANDBOX (cutbox-rows.mjs): the forced cells as the released guide's own fill.sh prints them over the translation 20f81b50fe867f91… (all of the seat's roots in one cut). By AI agents, Wed Nov 11 2026. No macro, syntax, notation, axiom, sorry.
-/
import Derived.Test.YtdenefeckdlmdaaChecked
import GoSem.Claim
import GoSem.ClaimJoined
import GoSem.ClaimMapViews
import Derived.JoinedTies
import Derived.KernelRfl
namespace Go.Proofs.Ytdenefeckdlmdaa
/- THE CELL 'sum', in the pinned program and in every row, IS THE sha256 OF THE DUMP (.gsa) THAT YtdenefeckdlmdaaProg.lean LOADS. Nothing in Lean hashes anything: it is a label: what it is worth is what the hold of that sum in a sandbox is worth. -/
noncomputable def Try.pinned : Pinned := { name := "ytdenefeckdlmdaa", sum := "20f81b50fe867f9100fe393ae82c8d358294f95e8d63994e57334de7216fc43a", checked := Try.checked }
namespace Rows
def none {H : Type} : Left H := { results := [], args := [] }

/-- 'auspexlaw03.AluDoes': WHATEVER THE INPUT: true; the input reads as it did. -/
def aluDoesSpec : ChangeSpec := { name := "aluDoes", fn := fun _ => fun
  | [d1, d2, d3] => { results := [.lit (.bool true)], args := [d1, d2, d3] }
  | _ => none }
def aluDoesRow : OpenClaim := { program := "ytdenefeckdlmdaa", sum := "20f81b50fe867f9100fe393ae82c8d358294f95e8d63994e57334de7216fc43a", func := "auspex/auspexlaw03.AluDoes", spec := "aluDoes", unfollowed := true, recurses := true, apart := false }
def AluDoesSaid : Prop := aluDoesRow.holds Try.pinned (OpenSpec.ofChange aluDoesSpec)

/-- ITS FALSE NEIGHBOUR: 'it returns false'. Refute it at one input. -/
def aluDoesWrong : ChangeSpec := { name := "aluDoes", fn := fun _ => fun
  | [d1, d2, d3] => { results := [.lit (.bool false)], args := [d1, d2, d3] }
  | _ => none }
def AluDoesWrongFalsely : Prop := aluDoesRow.holds Try.pinned (OpenSpec.ofChange aluDoesWrong)

/-- 'auspexlaw03.AluShifts': WHATEVER THE INPUT: true; the input reads as it did. -/
def aluShiftsSpec : ChangeSpec := { name := "aluShifts", fn := fun _ => fun
  | [d1, d2, d3] => { results := [.lit (.bool true)], args := [d1, d2, d3] }
  | _ => none }
def aluShiftsRow : OpenClaim := { program := "ytdenefeckdlmdaa", sum := "20f81b50fe867f9100fe393ae82c8d358294f95e8d63994e57334de7216fc43a", func := "auspex/auspexlaw03.AluShifts", spec := "aluShifts", unfollowed := true, recurses := true, apart := false }
def AluShiftsSaid : Prop := aluShiftsRow.holds Try.pinned (OpenSpec.ofChange aluShiftsSpec)

/-- ITS FALSE NEIGHBOUR: 'it returns false'. Refute it at one input. -/
def aluShiftsWrong : ChangeSpec := { name := "aluShifts", fn := fun _ => fun
  | [d1, d2, d3] => { results := [.lit (.bool false)], args := [d1, d2, d3] }
  | _ => none }
def AluShiftsWrongFalsely : Prop := aluShiftsRow.holds Try.pinned (OpenSpec.ofChange aluShiftsWrong)

/-- 'auspexlaw03.AluSums': WHATEVER THE INPUT: true; the input reads as it did. -/
def aluSumsSpec : ChangeSpec := { name := "aluSums", fn := fun _ => fun
  | [d1, d2, d3] => { results := [.lit (.bool true)], args := [d1, d2, d3] }
  | _ => none }
def aluSumsRow : OpenClaim := { program := "ytdenefeckdlmdaa", sum := "20f81b50fe867f9100fe393ae82c8d358294f95e8d63994e57334de7216fc43a", func := "auspex/auspexlaw03.AluSums", spec := "aluSums", unfollowed := true, recurses := true, apart := false }
def AluSumsSaid : Prop := aluSumsRow.holds Try.pinned (OpenSpec.ofChange aluSumsSpec)

/-- ITS FALSE NEIGHBOUR: 'it returns false'. Refute it at one input. -/
def aluSumsWrong : ChangeSpec := { name := "aluSums", fn := fun _ => fun
  | [d1, d2, d3] => { results := [.lit (.bool false)], args := [d1, d2, d3] }
  | _ => none }
def AluSumsWrongFalsely : Prop := aluSumsRow.holds Try.pinned (OpenSpec.ofChange aluSumsWrong)

/-- 'auspexlaw03.AluMuls': WHATEVER THE INPUT: true; the input reads as it did. -/
def aluMulsSpec : ChangeSpec := { name := "aluMuls", fn := fun _ => fun
  | [d1, d2, d3] => { results := [.lit (.bool true)], args := [d1, d2, d3] }
  | _ => none }
def aluMulsRow : OpenClaim := { program := "ytdenefeckdlmdaa", sum := "20f81b50fe867f9100fe393ae82c8d358294f95e8d63994e57334de7216fc43a", func := "auspex/auspexlaw03.AluMuls", spec := "aluMuls", unfollowed := true, recurses := true, apart := false }
def AluMulsSaid : Prop := aluMulsRow.holds Try.pinned (OpenSpec.ofChange aluMulsSpec)

/-- ITS FALSE NEIGHBOUR: 'it returns false'. Refute it at one input. -/
def aluMulsWrong : ChangeSpec := { name := "aluMuls", fn := fun _ => fun
  | [d1, d2, d3] => { results := [.lit (.bool false)], args := [d1, d2, d3] }
  | _ => none }
def AluMulsWrongFalsely : Prop := aluMulsRow.holds Try.pinned (OpenSpec.ofChange aluMulsWrong)

/-- 'auspexlaw03.AluHalves': WHATEVER THE INPUT: true; the input reads as it did. -/
def aluHalvesSpec : ChangeSpec := { name := "aluHalves", fn := fun _ => fun
  | [d1, d2] => { results := [.lit (.bool true)], args := [d1, d2] }
  | _ => none }
def aluHalvesRow : OpenClaim := { program := "ytdenefeckdlmdaa", sum := "20f81b50fe867f9100fe393ae82c8d358294f95e8d63994e57334de7216fc43a", func := "auspex/auspexlaw03.AluHalves", spec := "aluHalves", unfollowed := true, recurses := true, apart := false }
def AluHalvesSaid : Prop := aluHalvesRow.holds Try.pinned (OpenSpec.ofChange aluHalvesSpec)

/-- ITS FALSE NEIGHBOUR: 'it returns false'. Refute it at one input. -/
def aluHalvesWrong : ChangeSpec := { name := "aluHalves", fn := fun _ => fun
  | [d1, d2] => { results := [.lit (.bool false)], args := [d1, d2] }
  | _ => none }
def AluHalvesWrongFalsely : Prop := aluHalvesRow.holds Try.pinned (OpenSpec.ofChange aluHalvesWrong)

/-- 'auspexlaw03.AluHigh': WHATEVER THE INPUT: true; the input reads as it did. -/
def aluHighSpec : ChangeSpec := { name := "aluHigh", fn := fun _ => fun
  | [d1, d2] => { results := [.lit (.bool true)], args := [d1, d2] }
  | _ => none }
def aluHighRow : OpenClaim := { program := "ytdenefeckdlmdaa", sum := "20f81b50fe867f9100fe393ae82c8d358294f95e8d63994e57334de7216fc43a", func := "auspex/auspexlaw03.AluHigh", spec := "aluHigh", unfollowed := true, recurses := true, apart := false }
def AluHighSaid : Prop := aluHighRow.holds Try.pinned (OpenSpec.ofChange aluHighSpec)

/-- ITS FALSE NEIGHBOUR: 'it returns false'. Refute it at one input. -/
def aluHighWrong : ChangeSpec := { name := "aluHigh", fn := fun _ => fun
  | [d1, d2] => { results := [.lit (.bool false)], args := [d1, d2] }
  | _ => none }
def AluHighWrongFalsely : Prop := aluHighRow.holds Try.pinned (OpenSpec.ofChange aluHighWrong)

/-- 'auspexlaw03.AluRules': WHATEVER THE INPUT: true; the input reads as it did. -/
def aluRulesSpec : ChangeSpec := { name := "aluRules", fn := fun _ => fun
  | [d1, d2] => { results := [.lit (.bool true)], args := [d1, d2] }
  | _ => none }
def aluRulesRow : OpenClaim := { program := "ytdenefeckdlmdaa", sum := "20f81b50fe867f9100fe393ae82c8d358294f95e8d63994e57334de7216fc43a", func := "auspex/auspexlaw03.AluRules", spec := "aluRules", unfollowed := true, recurses := true, apart := false }
def AluRulesSaid : Prop := aluRulesRow.holds Try.pinned (OpenSpec.ofChange aluRulesSpec)

/-- ITS FALSE NEIGHBOUR: 'it returns false'. Refute it at one input. -/
def aluRulesWrong : ChangeSpec := { name := "aluRules", fn := fun _ => fun
  | [d1, d2] => { results := [.lit (.bool false)], args := [d1, d2] }
  | _ => none }
def AluRulesWrongFalsely : Prop := aluRulesRow.holds Try.pinned (OpenSpec.ofChange aluRulesWrong)

/-- 'auspexlaw03.AluBranches': WHATEVER THE INPUT: true; the input reads as it did. -/
def aluBranchesSpec : ChangeSpec := { name := "aluBranches", fn := fun _ => fun
  | [d1, d2] => { results := [.lit (.bool true)], args := [d1, d2] }
  | _ => none }
def aluBranchesRow : OpenClaim := { program := "ytdenefeckdlmdaa", sum := "20f81b50fe867f9100fe393ae82c8d358294f95e8d63994e57334de7216fc43a", func := "auspex/auspexlaw03.AluBranches", spec := "aluBranches", unfollowed := true, recurses := true, apart := false }
def AluBranchesSaid : Prop := aluBranchesRow.holds Try.pinned (OpenSpec.ofChange aluBranchesSpec)

/-- ITS FALSE NEIGHBOUR: 'it returns false'. Refute it at one input. -/
def aluBranchesWrong : ChangeSpec := { name := "aluBranches", fn := fun _ => fun
  | [d1, d2] => { results := [.lit (.bool false)], args := [d1, d2] }
  | _ => none }
def AluBranchesWrongFalsely : Prop := aluBranchesRow.holds Try.pinned (OpenSpec.ofChange aluBranchesWrong)

/-- 'auspexlaw03.AluJumps': WHATEVER THE INPUT: true; the input reads as it did. -/
def aluJumpsSpec : ChangeSpec := { name := "aluJumps", fn := fun _ => fun
  | [d1, d2, d3, d4] => { results := [.lit (.bool true)], args := [d1, d2, d3, d4] }
  | _ => none }
def aluJumpsRow : OpenClaim := { program := "ytdenefeckdlmdaa", sum := "20f81b50fe867f9100fe393ae82c8d358294f95e8d63994e57334de7216fc43a", func := "auspex/auspexlaw03.AluJumps", spec := "aluJumps", unfollowed := true, recurses := true, apart := false }
def AluJumpsSaid : Prop := aluJumpsRow.holds Try.pinned (OpenSpec.ofChange aluJumpsSpec)

/-- ITS FALSE NEIGHBOUR: 'it returns false'. Refute it at one input. -/
def aluJumpsWrong : ChangeSpec := { name := "aluJumps", fn := fun _ => fun
  | [d1, d2, d3, d4] => { results := [.lit (.bool false)], args := [d1, d2, d3, d4] }
  | _ => none }
def AluJumpsWrongFalsely : Prop := aluJumpsRow.holds Try.pinned (OpenSpec.ofChange aluJumpsWrong)

/- THE SECOND FORM. 'bulk': how many values and letters a reading holds, each counted each time it is reached (what is shared counts as often as it is met; a slice's spare places count too). A statement '..UptoSaid' is the law's where the arguments, and the package variables that the reading takes, are together of bulk at most 1048576: NARROWER than '..Said'. Prove '..Said' where nothing that the law and all that it calls make is longer than what came in: it says more and counts as full. Else prove '..UptoSaid'. A law counts once. -/
mutual
def uptoBulk {H : Type} : DataW H → Nat
  | .lit (.string bytes) => bytes.length + 1
  | .lit _ => 1
  | .nil => 1
  | .ptr d => uptoBulk d + 1
  | .slice elems spare => uptoBulkAll elems + uptoBulkAll spare + 1
  | .agg parts => uptoBulkAll parts + 1
  | .iface _ d => uptoBulk d + 1
  | .map entries => uptoBulkEntries entries + 1
  | .held _ => 1
def uptoBulkAll {H : Type} : List (DataW H) → Nat
  | [] => 0
  | d :: r => uptoBulk d + uptoBulkAll r
def uptoBulkEntries {H : Type} : List (Lit × DataW H) → Nat
  | [] => 0
  | x :: r => uptoBulkEntry x + uptoBulkEntries r
def uptoBulkEntry {H : Type} : Lit × DataW H → Nat
  | (.string bytes, d) => bytes.length + uptoBulk d + 1
  | (_, d) => uptoBulk d + 1
 end
def uptoSmall : (H : Type) → List (DataW H) → Bool := fun _ ds => decide (uptoBulkAll ds ≤ 1048576)
def OpenSpec.upto (s : _root_.Go.ChangeSpec) : _root_.Go.OpenSpec := { _root_.Go.OpenSpec.ofChange s with cond := some uptoSmall }

/-- 'auspexlaw03.AluDoes', WHERE WHAT IT READS IS OF BULK AT MOST 1048576: true; the input reads as it did. -/
def aluDoesUptoRow : OpenClaim := { program := "ytdenefeckdlmdaa", sum := "20f81b50fe867f9100fe393ae82c8d358294f95e8d63994e57334de7216fc43a", func := "auspex/auspexlaw03.AluDoes", spec := "aluDoes", unfollowed := true, recurses := true, apart := false, narrowed := true }
def AluDoesUptoSaid : Prop := aluDoesUptoRow.holds Try.pinned (OpenSpec.upto aluDoesSpec)

/-- 'auspexlaw03.AluShifts', WHERE WHAT IT READS IS OF BULK AT MOST 1048576: true; the input reads as it did. -/
def aluShiftsUptoRow : OpenClaim := { program := "ytdenefeckdlmdaa", sum := "20f81b50fe867f9100fe393ae82c8d358294f95e8d63994e57334de7216fc43a", func := "auspex/auspexlaw03.AluShifts", spec := "aluShifts", unfollowed := true, recurses := true, apart := false, narrowed := true }
def AluShiftsUptoSaid : Prop := aluShiftsUptoRow.holds Try.pinned (OpenSpec.upto aluShiftsSpec)

/-- 'auspexlaw03.AluSums', WHERE WHAT IT READS IS OF BULK AT MOST 1048576: true; the input reads as it did. -/
def aluSumsUptoRow : OpenClaim := { program := "ytdenefeckdlmdaa", sum := "20f81b50fe867f9100fe393ae82c8d358294f95e8d63994e57334de7216fc43a", func := "auspex/auspexlaw03.AluSums", spec := "aluSums", unfollowed := true, recurses := true, apart := false, narrowed := true }
def AluSumsUptoSaid : Prop := aluSumsUptoRow.holds Try.pinned (OpenSpec.upto aluSumsSpec)

/-- 'auspexlaw03.AluMuls', WHERE WHAT IT READS IS OF BULK AT MOST 1048576: true; the input reads as it did. -/
def aluMulsUptoRow : OpenClaim := { program := "ytdenefeckdlmdaa", sum := "20f81b50fe867f9100fe393ae82c8d358294f95e8d63994e57334de7216fc43a", func := "auspex/auspexlaw03.AluMuls", spec := "aluMuls", unfollowed := true, recurses := true, apart := false, narrowed := true }
def AluMulsUptoSaid : Prop := aluMulsUptoRow.holds Try.pinned (OpenSpec.upto aluMulsSpec)

/-- 'auspexlaw03.AluHalves', WHERE WHAT IT READS IS OF BULK AT MOST 1048576: true; the input reads as it did. -/
def aluHalvesUptoRow : OpenClaim := { program := "ytdenefeckdlmdaa", sum := "20f81b50fe867f9100fe393ae82c8d358294f95e8d63994e57334de7216fc43a", func := "auspex/auspexlaw03.AluHalves", spec := "aluHalves", unfollowed := true, recurses := true, apart := false, narrowed := true }
def AluHalvesUptoSaid : Prop := aluHalvesUptoRow.holds Try.pinned (OpenSpec.upto aluHalvesSpec)

/-- 'auspexlaw03.AluHigh', WHERE WHAT IT READS IS OF BULK AT MOST 1048576: true; the input reads as it did. -/
def aluHighUptoRow : OpenClaim := { program := "ytdenefeckdlmdaa", sum := "20f81b50fe867f9100fe393ae82c8d358294f95e8d63994e57334de7216fc43a", func := "auspex/auspexlaw03.AluHigh", spec := "aluHigh", unfollowed := true, recurses := true, apart := false, narrowed := true }
def AluHighUptoSaid : Prop := aluHighUptoRow.holds Try.pinned (OpenSpec.upto aluHighSpec)

/-- 'auspexlaw03.AluRules', WHERE WHAT IT READS IS OF BULK AT MOST 1048576: true; the input reads as it did. -/
def aluRulesUptoRow : OpenClaim := { program := "ytdenefeckdlmdaa", sum := "20f81b50fe867f9100fe393ae82c8d358294f95e8d63994e57334de7216fc43a", func := "auspex/auspexlaw03.AluRules", spec := "aluRules", unfollowed := true, recurses := true, apart := false, narrowed := true }
def AluRulesUptoSaid : Prop := aluRulesUptoRow.holds Try.pinned (OpenSpec.upto aluRulesSpec)

/-- 'auspexlaw03.AluBranches', WHERE WHAT IT READS IS OF BULK AT MOST 1048576: true; the input reads as it did. -/
def aluBranchesUptoRow : OpenClaim := { program := "ytdenefeckdlmdaa", sum := "20f81b50fe867f9100fe393ae82c8d358294f95e8d63994e57334de7216fc43a", func := "auspex/auspexlaw03.AluBranches", spec := "aluBranches", unfollowed := true, recurses := true, apart := false, narrowed := true }
def AluBranchesUptoSaid : Prop := aluBranchesUptoRow.holds Try.pinned (OpenSpec.upto aluBranchesSpec)

/-- 'auspexlaw03.AluJumps', WHERE WHAT IT READS IS OF BULK AT MOST 1048576: true; the input reads as it did. -/
def aluJumpsUptoRow : OpenClaim := { program := "ytdenefeckdlmdaa", sum := "20f81b50fe867f9100fe393ae82c8d358294f95e8d63994e57334de7216fc43a", func := "auspex/auspexlaw03.AluJumps", spec := "aluJumps", unfollowed := true, recurses := true, apart := false, narrowed := true }
def AluJumpsUptoSaid : Prop := aluJumpsUptoRow.holds Try.pinned (OpenSpec.upto aluJumpsSpec)

end Rows
end Go.Proofs.Ytdenefeckdlmdaa
