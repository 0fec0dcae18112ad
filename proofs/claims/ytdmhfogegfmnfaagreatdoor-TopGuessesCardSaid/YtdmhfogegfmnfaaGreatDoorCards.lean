/-
  DERIVED. GIVEN WITH THE SEED: THE CARDS: each row of YtdmhfogegfmnfaaGreatDoorRows.lean that lists a variable, with what it lists TIED to the program's text (the seventh form; the later family's looks); each row that meets fmt, with fmt's text TOLD by the authors' own Lean function (tested against real Go, not proved from fmt's source: count such statements apart). THE CARD IS WHAT COUNTS. Prove the row's statement (the work); the ties are given (YtdmhfogegfmnfaaGreatDoorTie.lean); close each card by the builder's one call (the guide's Derived/Test/ToyasCard.lean, 'card_holds'). Laid BY PROGRAM, IN A SANDBOX (cutbox-door.mjs). By AI agents, Wed Nov 11 2026. No macro, syntax, notation, axiom, sorry.
-/
import Derived.Test.YtdmhfogegfmnfaaGreatDoorRows
import GoSem.ClaimSeven
namespace Go.Proofs.YtdmhfogegfmnfaaGreatDoor
namespace Rows

/-- THE TIED CARD OF 'auspextop.TopLines'. -/
def topLinesCard : Claim7 := { stood := { row := topLinesRow, standIns := [], harness := (true, "03a5b15fc9bd954c9253a5304d43d6e4789f93acf5b22ebd10a1ae7d6e2de59b"), looks := false }, kinds := [], alts := [], laidByText := true, laidKinds := [.data], laidTests := true, laidLooks := .later }
def TopLinesCardSaid : Prop := Claim7.holds Tryz.pinned (.plain (OpenSpec.ofChange topLinesSpec)) topLinesCard

/-- THE TIED CARD OF 'auspextop.TopGuesses'. -/
def topGuessesCard : Claim7 := { stood := { row := topGuessesRow, standIns := [], harness := (true, "03a5b15fc9bd954c9253a5304d43d6e4789f93acf5b22ebd10a1ae7d6e2de59b"), looks := false }, kinds := [], alts := [], laidByText := true, laidKinds := [.data], laidTests := true, laidLooks := .later }
def TopGuessesCardSaid : Prop := Claim7.holds Tryz.pinned (.plain (OpenSpec.ofChange topGuessesSpec)) topGuessesCard

/-- THE SECOND FORM's CARD OF 'auspextop.TopLines'. -/
def topLinesUptoCard : Claim7 := { stood := { row := topLinesUptoRow, standIns := [], harness := (true, "03a5b15fc9bd954c9253a5304d43d6e4789f93acf5b22ebd10a1ae7d6e2de59b"), looks := false }, kinds := [], alts := [], laidByText := true, laidKinds := [.data], laidTests := true, laidLooks := .later }
def TopLinesUptoCardSaid : Prop := Claim7.holds Tryz.pinned (.plain (OpenSpec.upto topLinesSpec)) topLinesUptoCard

/-- THE SECOND FORM's CARD OF 'auspextop.TopGuesses'. -/
def topGuessesUptoCard : Claim7 := { stood := { row := topGuessesUptoRow, standIns := [], harness := (true, "03a5b15fc9bd954c9253a5304d43d6e4789f93acf5b22ebd10a1ae7d6e2de59b"), looks := false }, kinds := [], alts := [], laidByText := true, laidKinds := [.data], laidTests := true, laidLooks := .later }
def TopGuessesUptoCardSaid : Prop := Claim7.holds Tryz.pinned (.plain (OpenSpec.upto topGuessesSpec)) topGuessesUptoCard
end Rows
end Go.Proofs.YtdmhfogegfmnfaaGreatDoor
