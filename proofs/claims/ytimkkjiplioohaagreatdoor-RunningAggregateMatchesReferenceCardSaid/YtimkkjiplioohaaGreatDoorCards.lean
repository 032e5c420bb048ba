/-
  DERIVED. GIVEN WITH THE SEED: THE CARDS: each row of YtimkkjiplioohaaGreatDoorRows.lean that lists a variable, with what it lists TIED to the program's text (the seventh form; the later family's looks); each row that meets fmt, with fmt's text TOLD by the authors' own Lean function (tested against real Go, not proved from fmt's source: count such statements apart). THE CARD IS WHAT COUNTS. Prove the row's statement (the work); the ties are given (YtimkkjiplioohaaGreatDoorTie.lean); close each card by the builder's one call (the guide's Derived/Test/ToyasCard.lean, 'card_holds'). Laid BY PROGRAM, IN A SANDBOX (cutbox-door.mjs). By AI agents, Wed Nov 11 2026. No macro, syntax, notation, axiom, sorry.
-/
import Derived.Test.YtimkkjiplioohaaGreatDoorRows
import GoSem.ClaimSeven
namespace Go.Proofs.YtimkkjiplioohaaGreatDoor
namespace Rows

/-- THE TIED CARD OF 'stemlaw3.JoinOrderCostMatchesReference'. -/
def joinOrderCostMatchesReferenceCard : Claim7 := { stood := { row := joinOrderCostMatchesReferenceRow, standIns := [], harness := (true, "f26cd95aade22ecff280a615a716af14c486920fdb4227299497156766b695a8"), looks := true }, kinds := [], alts := [], laidByText := true, laidKinds := [.data, .data, .data, .sentinel, .sentinel], laidTests := true, laidLooks := .later }
def JoinOrderCostMatchesReferenceCardSaid : Prop := Claim7.holds Tryz.pinned (.plain (OpenSpec.ofChange joinOrderCostMatchesReferenceSpec)) joinOrderCostMatchesReferenceCard

/-- THE TIED CARD OF 'stemlaw3.JoinOrderCheapestIsOptimal'. -/
def joinOrderCheapestIsOptimalCard : Claim7 := { stood := { row := joinOrderCheapestIsOptimalRow, standIns := [], harness := (true, "f26cd95aade22ecff280a615a716af14c486920fdb4227299497156766b695a8"), looks := true }, kinds := [], alts := [], laidByText := true, laidKinds := [.data, .data, .data, .sentinel, .sentinel], laidTests := true, laidLooks := .later }
def JoinOrderCheapestIsOptimalCardSaid : Prop := Claim7.holds Tryz.pinned (.plain (OpenSpec.ofChange joinOrderCheapestIsOptimalSpec)) joinOrderCheapestIsOptimalCard

/-- THE TIED CARD OF 'stemlaw3.JoinMatchesReference'. -/
def joinMatchesReferenceCard : Claim7 := { stood := { row := joinMatchesReferenceRow, standIns := [], harness := (true, "f26cd95aade22ecff280a615a716af14c486920fdb4227299497156766b695a8"), looks := true }, kinds := [], alts := [], laidByText := true, laidKinds := [.data, .data, .data, .sentinel, .sentinel], laidTests := true, laidLooks := .later }
def JoinMatchesReferenceCardSaid : Prop := Claim7.holds Tryz.pinned (.plain (OpenSpec.ofChange joinMatchesReferenceSpec)) joinMatchesReferenceCard

/-- THE TIED CARD OF 'stemlaw3.GroupAggregateMatchesReference'. -/
def groupAggregateMatchesReferenceCard : Claim7 := { stood := { row := groupAggregateMatchesReferenceRow, standIns := [], harness := (true, "f26cd95aade22ecff280a615a716af14c486920fdb4227299497156766b695a8"), looks := true }, kinds := [], alts := [], laidByText := true, laidKinds := [.data, .data, .data, .sentinel, .sentinel], laidTests := true, laidLooks := .later }
def GroupAggregateMatchesReferenceCardSaid : Prop := Claim7.holds Tryz.pinned (.plain (OpenSpec.ofChange groupAggregateMatchesReferenceSpec)) groupAggregateMatchesReferenceCard

/-- THE TIED CARD OF 'stemlaw3.RunningAggregateMatchesReference'. -/
def runningAggregateMatchesReferenceCard : Claim7 := { stood := { row := runningAggregateMatchesReferenceRow, standIns := [], harness := (true, "f26cd95aade22ecff280a615a716af14c486920fdb4227299497156766b695a8"), looks := true }, kinds := [], alts := [], laidByText := true, laidKinds := [.data, .data, .data, .sentinel, .sentinel], laidTests := true, laidLooks := .later }
def RunningAggregateMatchesReferenceCardSaid : Prop := Claim7.holds Tryz.pinned (.plain (OpenSpec.ofChange runningAggregateMatchesReferenceSpec)) runningAggregateMatchesReferenceCard

/-- THE TIED CARD OF 'stemlaw3.SortMatchesReference'. -/
def sortMatchesReferenceCard : Claim7 := { stood := { row := sortMatchesReferenceRow, standIns := [], harness := (true, "f26cd95aade22ecff280a615a716af14c486920fdb4227299497156766b695a8"), looks := true }, kinds := [], alts := [], laidByText := true, laidKinds := [.data, .data, .data, .sentinel, .sentinel], laidTests := true, laidLooks := .later }
def SortMatchesReferenceCardSaid : Prop := Claim7.holds Tryz.pinned (.plain (OpenSpec.ofChange sortMatchesReferenceSpec)) sortMatchesReferenceCard

/-- THE SECOND FORM's CARD OF 'stemlaw3.JoinOrderCostMatchesReference'. -/
def joinOrderCostMatchesReferenceUptoCard : Claim7 := { stood := { row := joinOrderCostMatchesReferenceUptoRow, standIns := [], harness := (true, "f26cd95aade22ecff280a615a716af14c486920fdb4227299497156766b695a8"), looks := true }, kinds := [], alts := [], laidByText := true, laidKinds := [.data, .data, .data, .sentinel, .sentinel], laidTests := true, laidLooks := .later }
def JoinOrderCostMatchesReferenceUptoCardSaid : Prop := Claim7.holds Tryz.pinned (.plain (OpenSpec.upto joinOrderCostMatchesReferenceSpec)) joinOrderCostMatchesReferenceUptoCard

/-- THE SECOND FORM's CARD OF 'stemlaw3.JoinOrderCheapestIsOptimal'. -/
def joinOrderCheapestIsOptimalUptoCard : Claim7 := { stood := { row := joinOrderCheapestIsOptimalUptoRow, standIns := [], harness := (true, "f26cd95aade22ecff280a615a716af14c486920fdb4227299497156766b695a8"), looks := true }, kinds := [], alts := [], laidByText := true, laidKinds := [.data, .data, .data, .sentinel, .sentinel], laidTests := true, laidLooks := .later }
def JoinOrderCheapestIsOptimalUptoCardSaid : Prop := Claim7.holds Tryz.pinned (.plain (OpenSpec.upto joinOrderCheapestIsOptimalSpec)) joinOrderCheapestIsOptimalUptoCard

/-- THE SECOND FORM's CARD OF 'stemlaw3.JoinMatchesReference'. -/
def joinMatchesReferenceUptoCard : Claim7 := { stood := { row := joinMatchesReferenceUptoRow, standIns := [], harness := (true, "f26cd95aade22ecff280a615a716af14c486920fdb4227299497156766b695a8"), looks := true }, kinds := [], alts := [], laidByText := true, laidKinds := [.data, .data, .data, .sentinel, .sentinel], laidTests := true, laidLooks := .later }
def JoinMatchesReferenceUptoCardSaid : Prop := Claim7.holds Tryz.pinned (.plain (OpenSpec.upto joinMatchesReferenceSpec)) joinMatchesReferenceUptoCard

/-- THE SECOND FORM's CARD OF 'stemlaw3.GroupAggregateMatchesReference'. -/
def groupAggregateMatchesReferenceUptoCard : Claim7 := { stood := { row := groupAggregateMatchesReferenceUptoRow, standIns := [], harness := (true, "f26cd95aade22ecff280a615a716af14c486920fdb4227299497156766b695a8"), looks := true }, kinds := [], alts := [], laidByText := true, laidKinds := [.data, .data, .data, .sentinel, .sentinel], laidTests := true, laidLooks := .later }
def GroupAggregateMatchesReferenceUptoCardSaid : Prop := Claim7.holds Tryz.pinned (.plain (OpenSpec.upto groupAggregateMatchesReferenceSpec)) groupAggregateMatchesReferenceUptoCard

/-- THE SECOND FORM's CARD OF 'stemlaw3.RunningAggregateMatchesReference'. -/
def runningAggregateMatchesReferenceUptoCard : Claim7 := { stood := { row := runningAggregateMatchesReferenceUptoRow, standIns := [], harness := (true, "f26cd95aade22ecff280a615a716af14c486920fdb4227299497156766b695a8"), looks := true }, kinds := [], alts := [], laidByText := true, laidKinds := [.data, .data, .data, .sentinel, .sentinel], laidTests := true, laidLooks := .later }
def RunningAggregateMatchesReferenceUptoCardSaid : Prop := Claim7.holds Tryz.pinned (.plain (OpenSpec.upto runningAggregateMatchesReferenceSpec)) runningAggregateMatchesReferenceUptoCard

/-- THE SECOND FORM's CARD OF 'stemlaw3.SortMatchesReference'. -/
def sortMatchesReferenceUptoCard : Claim7 := { stood := { row := sortMatchesReferenceUptoRow, standIns := [], harness := (true, "f26cd95aade22ecff280a615a716af14c486920fdb4227299497156766b695a8"), looks := true }, kinds := [], alts := [], laidByText := true, laidKinds := [.data, .data, .data, .sentinel, .sentinel], laidTests := true, laidLooks := .later }
def SortMatchesReferenceUptoCardSaid : Prop := Claim7.holds Tryz.pinned (.plain (OpenSpec.upto sortMatchesReferenceSpec)) sortMatchesReferenceUptoCard
end Rows
end Go.Proofs.YtimkkjiplioohaaGreatDoor
