/-
  DERIVED. GIVEN WITH THE SEED: THE CARDS: each row of YtmgddgcniacnbaaGreatDoorRows.lean that lists a variable, with what it lists TIED to the program's text (the seventh form; the later family's looks); each row that meets fmt, with fmt's text TOLD by the authors' own Lean function (tested against real Go, not proved from fmt's source: count such statements apart). THE CARD IS WHAT COUNTS. Prove the row's statement (the work); the ties are given (YtmgddgcniacnbaaGreatDoorTie.lean); close each card by the builder's one call (the guide's Derived/Test/ToyasCard.lean, 'card_holds'). Laid BY PROGRAM, IN A SANDBOX (cutbox-door.mjs). By AI agents, Wed Nov 11 2026. No macro, syntax, notation, axiom, sorry.
-/
import Derived.Test.YtmgddgcniacnbaaGreatDoorRows
import GoSem.ClaimSeven
namespace Go.Proofs.YtmgddgcniacnbaaGreatDoor
namespace Rows

/-- THE TIED CARD OF 'stemlaw3.CardinalityMatchesReference'. -/
def cardinalityMatchesReferenceCard : Claim7 := { stood := { row := cardinalityMatchesReferenceRow, standIns := [], harness := (true, "bba4ccb4ff2ba49d9bb28e6253623cece90ba52fec0cc24ba772e21ad6cf3dd7"), looks := true }, kinds := [], alts := [], laidByText := true, laidKinds := [.data, .data, .data, .sentinel, .sentinel], laidTests := true, laidLooks := .later }
def CardinalityMatchesReferenceCardSaid : Prop := Claim7.holds Tryz.pinned (.plain (OpenSpec.ofChange cardinalityMatchesReferenceSpec)) cardinalityMatchesReferenceCard

/-- THE SECOND FORM's CARD OF 'stemlaw3.CardinalityMatchesReference'. -/
def cardinalityMatchesReferenceUptoCard : Claim7 := { stood := { row := cardinalityMatchesReferenceUptoRow, standIns := [], harness := (true, "bba4ccb4ff2ba49d9bb28e6253623cece90ba52fec0cc24ba772e21ad6cf3dd7"), looks := true }, kinds := [], alts := [], laidByText := true, laidKinds := [.data, .data, .data, .sentinel, .sentinel], laidTests := true, laidLooks := .later }
def CardinalityMatchesReferenceUptoCardSaid : Prop := Claim7.holds Tryz.pinned (.plain (OpenSpec.upto cardinalityMatchesReferenceSpec)) cardinalityMatchesReferenceUptoCard
end Rows
end Go.Proofs.YtmgddgcniacnbaaGreatDoor
