/-
  No cell of these rows narrows 'for every input' (looked for: loops, veiled, ifaces, maps, wideKeys, modest, calm, conditions, laid).
  DERIVED. THE GIVEN ROWS OF THIS SEAT. 7 by the template 'for every input the law returns true; each argument reads behind the call as it read before'; 0 by the template 'total and deterministic' (their statements: YtabjbkdlacibjaaTotals.lean).
  GIVEN WITH THE SEED: the statements are not yours to turn. If you find one false, say at which input.
  Laid BY PROGRAM, IN A SANDBOX (cutbox-rows.mjs): the forced cells as the released guide's own fill.sh prints them over the translation 704b93f13b4a2f73… (all of the seat's roots in one cut). By AI agents, Wed Nov 11 2026. No macro, syntax, notation, axiom, sorry.
-/
import Derived.Test.YtabjbkdlacibjaaChecked
import GoSem.Claim
import GoSem.ClaimJoined
import GoSem.ClaimMapViews
import Derived.JoinedTies
import Derived.KernelRfl
namespace Go.Proofs.Ytabjbkdlacibjaa
/- THE CELL 'sum', in the pinned program and in every row, IS THE sha256 OF THE DUMP (.gsa) THAT YtabjbkdlacibjaaProg.lean LOADS. Nothing in Lean hashes anything: it is a label: what it is worth is what the hold of that sum in a sandbox is worth. -/
noncomputable def Try.pinned : Pinned := { name := "ytabjbkdlacibjaa", sum := "704b93f13b4a2f7378e1440805bebb7533debe5ec60924fa07891e37e150fe10", checked := Try.checked }
namespace Rows
def none {H : Type} : Left H := { results := [], args := [] }

/-- 'stemlaw5.EquivalentMatchesReference': WHATEVER THE INPUT: true; the input reads as it did. -/
def equivalentMatchesReferenceSpec : ChangeSpec := { name := "equivalentMatchesReference", fn := fun _ => fun
  | [d1, d2] => { results := [.lit (.bool true)], args := [d1, d2] }
  | _ => none }
def equivalentMatchesReferenceRow : OpenClaim := { program := "ytabjbkdlacibjaa", sum := "704b93f13b4a2f7378e1440805bebb7533debe5ec60924fa07891e37e150fe10", func := "stemma/stemlaw5.EquivalentMatchesReference", spec := "equivalentMatchesReference", unfollowed := true, recurses := true, apart := false }
def EquivalentMatchesReferenceSaid : Prop := equivalentMatchesReferenceRow.holds Try.pinned (OpenSpec.ofChange equivalentMatchesReferenceSpec)

/-- ITS FALSE NEIGHBOUR: 'it returns false'. Refute it at one input. -/
def equivalentMatchesReferenceWrong : ChangeSpec := { name := "equivalentMatchesReference", fn := fun _ => fun
  | [d1, d2] => { results := [.lit (.bool false)], args := [d1, d2] }
  | _ => none }
def EquivalentMatchesReferenceWrongFalsely : Prop := equivalentMatchesReferenceRow.holds Try.pinned (OpenSpec.ofChange equivalentMatchesReferenceWrong)

/-- 'stemlaw5.ConflictGraphMatchesReference': WHATEVER THE INPUT: true; the input reads as it did. -/
def conflictGraphMatchesReferenceSpec : ChangeSpec := { name := "conflictGraphMatchesReference", fn := fun _ => fun
  | [d] => { results := [.lit (.bool true)], args := [d] }
  | _ => none }
def conflictGraphMatchesReferenceRow : OpenClaim := { program := "ytabjbkdlacibjaa", sum := "704b93f13b4a2f7378e1440805bebb7533debe5ec60924fa07891e37e150fe10", func := "stemma/stemlaw5.ConflictGraphMatchesReference", spec := "conflictGraphMatchesReference", unfollowed := true, recurses := true, apart := false }
def ConflictGraphMatchesReferenceSaid : Prop := conflictGraphMatchesReferenceRow.holds Try.pinned (OpenSpec.ofChange conflictGraphMatchesReferenceSpec)

/-- ITS FALSE NEIGHBOUR: 'it returns false'. Refute it at one input. -/
def conflictGraphMatchesReferenceWrong : ChangeSpec := { name := "conflictGraphMatchesReference", fn := fun _ => fun
  | [d] => { results := [.lit (.bool false)], args := [d] }
  | _ => none }
def ConflictGraphMatchesReferenceWrongFalsely : Prop := conflictGraphMatchesReferenceRow.holds Try.pinned (OpenSpec.ofChange conflictGraphMatchesReferenceWrong)

/-- 'stemlaw5.ReadsFromMatchesReference': WHATEVER THE INPUT: true; the input reads as it did. -/
def readsFromMatchesReferenceSpec : ChangeSpec := { name := "readsFromMatchesReference", fn := fun _ => fun
  | [d1, d2] => { results := [.lit (.bool true)], args := [d1, d2] }
  | _ => none }
def readsFromMatchesReferenceRow : OpenClaim := { program := "ytabjbkdlacibjaa", sum := "704b93f13b4a2f7378e1440805bebb7533debe5ec60924fa07891e37e150fe10", func := "stemma/stemlaw5.ReadsFromMatchesReference", spec := "readsFromMatchesReference", apart := false }
def ReadsFromMatchesReferenceSaid : Prop := readsFromMatchesReferenceRow.holds Try.pinned (OpenSpec.ofChange readsFromMatchesReferenceSpec)

/-- ITS FALSE NEIGHBOUR: 'it returns false'. Refute it at one input. -/
def readsFromMatchesReferenceWrong : ChangeSpec := { name := "readsFromMatchesReference", fn := fun _ => fun
  | [d1, d2] => { results := [.lit (.bool false)], args := [d1, d2] }
  | _ => none }
def ReadsFromMatchesReferenceWrongFalsely : Prop := readsFromMatchesReferenceRow.holds Try.pinned (OpenSpec.ofChange readsFromMatchesReferenceWrong)

/-- 'stemlaw5.SerialOrderMatchesReference': WHATEVER THE INPUT: true; the input reads as it did. -/
def serialOrderMatchesReferenceSpec : ChangeSpec := { name := "serialOrderMatchesReference", fn := fun _ => fun
  | [d] => { results := [.lit (.bool true)], args := [d] }
  | _ => none }
def serialOrderMatchesReferenceRow : OpenClaim := { program := "ytabjbkdlacibjaa", sum := "704b93f13b4a2f7378e1440805bebb7533debe5ec60924fa07891e37e150fe10", func := "stemma/stemlaw5.SerialOrderMatchesReference", spec := "serialOrderMatchesReference", unfollowed := true, recurses := true, apart := false }
def SerialOrderMatchesReferenceSaid : Prop := serialOrderMatchesReferenceRow.holds Try.pinned (OpenSpec.ofChange serialOrderMatchesReferenceSpec)

/-- ITS FALSE NEIGHBOUR: 'it returns false'. Refute it at one input. -/
def serialOrderMatchesReferenceWrong : ChangeSpec := { name := "serialOrderMatchesReference", fn := fun _ => fun
  | [d] => { results := [.lit (.bool false)], args := [d] }
  | _ => none }
def SerialOrderMatchesReferenceWrongFalsely : Prop := serialOrderMatchesReferenceRow.holds Try.pinned (OpenSpec.ofChange serialOrderMatchesReferenceWrong)

/-- 'stemlaw5.SSIAdmitMatchesReference': WHATEVER THE INPUT: true; the input reads as it did. -/
def sSIAdmitMatchesReferenceSpec : ChangeSpec := { name := "sSIAdmitMatchesReference", fn := fun _ => fun
  | [d1, d2, d3] => { results := [.lit (.bool true)], args := [d1, d2, d3] }
  | _ => none }
def sSIAdmitMatchesReferenceRow : OpenClaim := { program := "ytabjbkdlacibjaa", sum := "704b93f13b4a2f7378e1440805bebb7533debe5ec60924fa07891e37e150fe10", func := "stemma/stemlaw5.SSIAdmitMatchesReference", spec := "sSIAdmitMatchesReference", unfollowed := true, recurses := true, apart := false }
def SSIAdmitMatchesReferenceSaid : Prop := sSIAdmitMatchesReferenceRow.holds Try.pinned (OpenSpec.ofChange sSIAdmitMatchesReferenceSpec)

/-- ITS FALSE NEIGHBOUR: 'it returns false'. Refute it at one input. -/
def sSIAdmitMatchesReferenceWrong : ChangeSpec := { name := "sSIAdmitMatchesReference", fn := fun _ => fun
  | [d1, d2, d3] => { results := [.lit (.bool false)], args := [d1, d2, d3] }
  | _ => none }
def SSIAdmitMatchesReferenceWrongFalsely : Prop := sSIAdmitMatchesReferenceRow.holds Try.pinned (OpenSpec.ofChange sSIAdmitMatchesReferenceWrong)

/-- 'stemlaw5.SSIGraphMatchesReference': WHATEVER THE INPUT: true; the input reads as it did. -/
def sSIGraphMatchesReferenceSpec : ChangeSpec := { name := "sSIGraphMatchesReference", fn := fun _ => fun
  | [d1, d2] => { results := [.lit (.bool true)], args := [d1, d2] }
  | _ => none }
def sSIGraphMatchesReferenceRow : OpenClaim := { program := "ytabjbkdlacibjaa", sum := "704b93f13b4a2f7378e1440805bebb7533debe5ec60924fa07891e37e150fe10", func := "stemma/stemlaw5.SSIGraphMatchesReference", spec := "sSIGraphMatchesReference", unfollowed := true, recurses := true, apart := false }
def SSIGraphMatchesReferenceSaid : Prop := sSIGraphMatchesReferenceRow.holds Try.pinned (OpenSpec.ofChange sSIGraphMatchesReferenceSpec)

/-- ITS FALSE NEIGHBOUR: 'it returns false'. Refute it at one input. -/
def sSIGraphMatchesReferenceWrong : ChangeSpec := { name := "sSIGraphMatchesReference", fn := fun _ => fun
  | [d1, d2] => { results := [.lit (.bool false)], args := [d1, d2] }
  | _ => none }
def SSIGraphMatchesReferenceWrongFalsely : Prop := sSIGraphMatchesReferenceRow.holds Try.pinned (OpenSpec.ofChange sSIGraphMatchesReferenceWrong)

/-- 'stemlaw5.SchedulesMatchReference': WHATEVER THE INPUT: true; the input reads as it did. -/
def schedulesMatchReferenceSpec : ChangeSpec := { name := "schedulesMatchReference", fn := fun _ => fun
  | [d] => { results := [.lit (.bool true)], args := [d] }
  | _ => none }
def schedulesMatchReferenceRow : OpenClaim := { program := "ytabjbkdlacibjaa", sum := "704b93f13b4a2f7378e1440805bebb7533debe5ec60924fa07891e37e150fe10", func := "stemma/stemlaw5.SchedulesMatchReference", spec := "schedulesMatchReference", unfollowed := true, recurses := true, apart := false }
def SchedulesMatchReferenceSaid : Prop := schedulesMatchReferenceRow.holds Try.pinned (OpenSpec.ofChange schedulesMatchReferenceSpec)

/-- ITS FALSE NEIGHBOUR: 'it returns false'. Refute it at one input. -/
def schedulesMatchReferenceWrong : ChangeSpec := { name := "schedulesMatchReference", fn := fun _ => fun
  | [d] => { results := [.lit (.bool false)], args := [d] }
  | _ => none }
def SchedulesMatchReferenceWrongFalsely : Prop := schedulesMatchReferenceRow.holds Try.pinned (OpenSpec.ofChange schedulesMatchReferenceWrong)

/- THE SECOND FORM. 'bulk': how many values and letters a reading holds, each counted each time it is reached (what is shared counts as often as it is met; a slice's spare places count too). A statement '..UptoSaid' is the law's where the arguments, and the package variables that the reading takes, are together of bulk at most 1048576: NARROWER than '..Said'. Prove '..Said' where nothing that the law and all that it calls make is longer than what came in: it says more and counts as full. Else prove '..UptoSaid'. A law counts once. -/
mutual
def uptoBulk {H : Type} : DataW H → Nat
  | .lit (.string bytes) => bytes.length + 1
  | .lit _ => 1
  | .nil => 1
  | .ptr d => uptoBulk d + 1
  | .slice elems spare => uptoBulkAll elems + uptoBulkAll spare + 1
  | .agg parts => uptoBulkAll parts + 1
  | .iface _ d => uptoBulk d + 1
  | .map entries => uptoBulkEntries entries + 1
  | .held _ => 1
def uptoBulkAll {H : Type} : List (DataW H) → Nat
  | [] => 0
  | d :: r => uptoBulk d + uptoBulkAll r
def uptoBulkEntries {H : Type} : List (Lit × DataW H) → Nat
  | [] => 0
  | x :: r => uptoBulkEntry x + uptoBulkEntries r
def uptoBulkEntry {H : Type} : Lit × DataW H → Nat
  | (.string bytes, d) => bytes.length + uptoBulk d + 1
  | (_, d) => uptoBulk d + 1
 end
def uptoSmall : (H : Type) → List (DataW H) → Bool := fun _ ds => decide (uptoBulkAll ds ≤ 1048576)
def OpenSpec.upto (s : _root_.Go.ChangeSpec) : _root_.Go.OpenSpec := { _root_.Go.OpenSpec.ofChange s with cond := some uptoSmall }

/-- 'stemlaw5.EquivalentMatchesReference', WHERE WHAT IT READS IS OF BULK AT MOST 1048576: true; the input reads as it did. -/
def equivalentMatchesReferenceUptoRow : OpenClaim := { program := "ytabjbkdlacibjaa", sum := "704b93f13b4a2f7378e1440805bebb7533debe5ec60924fa07891e37e150fe10", func := "stemma/stemlaw5.EquivalentMatchesReference", spec := "equivalentMatchesReference", unfollowed := true, recurses := true, apart := false, narrowed := true }
def EquivalentMatchesReferenceUptoSaid : Prop := equivalentMatchesReferenceUptoRow.holds Try.pinned (OpenSpec.upto equivalentMatchesReferenceSpec)

/-- 'stemlaw5.ConflictGraphMatchesReference', WHERE WHAT IT READS IS OF BULK AT MOST 1048576: true; the input reads as it did. -/
def conflictGraphMatchesReferenceUptoRow : OpenClaim := { program := "ytabjbkdlacibjaa", sum := "704b93f13b4a2f7378e1440805bebb7533debe5ec60924fa07891e37e150fe10", func := "stemma/stemlaw5.ConflictGraphMatchesReference", spec := "conflictGraphMatchesReference", unfollowed := true, recurses := true, apart := false, narrowed := true }
def ConflictGraphMatchesReferenceUptoSaid : Prop := conflictGraphMatchesReferenceUptoRow.holds Try.pinned (OpenSpec.upto conflictGraphMatchesReferenceSpec)

/-- 'stemlaw5.ReadsFromMatchesReference', WHERE WHAT IT READS IS OF BULK AT MOST 1048576: true; the input reads as it did. -/
def readsFromMatchesReferenceUptoRow : OpenClaim := { program := "ytabjbkdlacibjaa", sum := "704b93f13b4a2f7378e1440805bebb7533debe5ec60924fa07891e37e150fe10", func := "stemma/stemlaw5.ReadsFromMatchesReference", spec := "readsFromMatchesReference", apart := false, narrowed := true }
def ReadsFromMatchesReferenceUptoSaid : Prop := readsFromMatchesReferenceUptoRow.holds Try.pinned (OpenSpec.upto readsFromMatchesReferenceSpec)

/-- 'stemlaw5.SerialOrderMatchesReference', WHERE WHAT IT READS IS OF BULK AT MOST 1048576: true; the input reads as it did. -/
def serialOrderMatchesReferenceUptoRow : OpenClaim := { program := "ytabjbkdlacibjaa", sum := "704b93f13b4a2f7378e1440805bebb7533debe5ec60924fa07891e37e150fe10", func := "stemma/stemlaw5.SerialOrderMatchesReference", spec := "serialOrderMatchesReference", unfollowed := true, recurses := true, apart := false, narrowed := true }
def SerialOrderMatchesReferenceUptoSaid : Prop := serialOrderMatchesReferenceUptoRow.holds Try.pinned (OpenSpec.upto serialOrderMatchesReferenceSpec)

/-- 'stemlaw5.SSIAdmitMatchesReference', WHERE WHAT IT READS IS OF BULK AT MOST 1048576: true; the input reads as it did. -/
def sSIAdmitMatchesReferenceUptoRow : OpenClaim := { program := "ytabjbkdlacibjaa", sum := "704b93f13b4a2f7378e1440805bebb7533debe5ec60924fa07891e37e150fe10", func := "stemma/stemlaw5.SSIAdmitMatchesReference", spec := "sSIAdmitMatchesReference", unfollowed := true, recurses := true, apart := false, narrowed := true }
def SSIAdmitMatchesReferenceUptoSaid : Prop := sSIAdmitMatchesReferenceUptoRow.holds Try.pinned (OpenSpec.upto sSIAdmitMatchesReferenceSpec)

/-- 'stemlaw5.SSIGraphMatchesReference', WHERE WHAT IT READS IS OF BULK AT MOST 1048576: true; the input reads as it did. -/
def sSIGraphMatchesReferenceUptoRow : OpenClaim := { program := "ytabjbkdlacibjaa", sum := "704b93f13b4a2f7378e1440805bebb7533debe5ec60924fa07891e37e150fe10", func := "stemma/stemlaw5.SSIGraphMatchesReference", spec := "sSIGraphMatchesReference", unfollowed := true, recurses := true, apart := false, narrowed := true }
def SSIGraphMatchesReferenceUptoSaid : Prop := sSIGraphMatchesReferenceUptoRow.holds Try.pinned (OpenSpec.upto sSIGraphMatchesReferenceSpec)

/-- 'stemlaw5.SchedulesMatchReference', WHERE WHAT IT READS IS OF BULK AT MOST 1048576: true; the input reads as it did. -/
def schedulesMatchReferenceUptoRow : OpenClaim := { program := "ytabjbkdlacibjaa", sum := "704b93f13b4a2f7378e1440805bebb7533debe5ec60924fa07891e37e150fe10", func := "stemma/stemlaw5.SchedulesMatchReference", spec := "schedulesMatchReference", unfollowed := true, recurses := true, apart := false, narrowed := true }
def SchedulesMatchReferenceUptoSaid : Prop := schedulesMatchReferenceUptoRow.holds Try.pinned (OpenSpec.upto schedulesMatchReferenceSpec)

end Rows
end Go.Proofs.Ytabjbkdlacibjaa
