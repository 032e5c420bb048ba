/-
  No cell of these rows narrows 'for every input' (looked for: loops, veiled, ifaces, maps, wideKeys, modest, calm, conditions, laid).
  DERIVED. THE GIVEN ROWS OF THIS SEAT. 2 by the template 'for every input the law returns true; each argument reads behind the call as it read before'; 0 by the template 'total and deterministic' (their statements: YtiikoldaocnilaaTotals.lean).
  GIVEN WITH THE SEED: the statements are not yours to turn. If you find one false, say at which input.
  Laid BY PROGRAM, IN A SANDBOX (cutbox-rows.mjs): the forced cells as the released guide's own fill.sh prints them over the translation 714995e52d22f4d7… (all of the seat's roots in one cut). By AI agents, Wed Nov 11 2026. No macro, syntax, notation, axiom, sorry.
-/
import Derived.Test.YtiikoldaocnilaaChecked
import GoSem.Claim
import GoSem.ClaimJoined
import GoSem.ClaimMapViews
import Derived.JoinedTies
import Derived.KernelRfl
namespace Go.Proofs.Ytiikoldaocnilaa
/- THE CELL 'sum', in the pinned program and in every row, IS THE sha256 OF THE DUMP (.gsa) THAT YtiikoldaocnilaaProg.lean LOADS. Nothing in Lean hashes anything: it is a label: what it is worth is what the hold of that sum in a sandbox is worth. -/
noncomputable def Try.pinned : Pinned := { name := "ytiikoldaocnilaa", sum := "714995e52d22f4d7c0181f106027a77928f540e405a7eb85a369f31d50879eab", checked := Try.checked }
namespace Rows
def none {H : Type} : Left H := { results := [], args := [] }

/-- 'stemlaw5.DiskMatchesReference': WHATEVER THE INPUT: true; the input reads as it did. -/
def diskMatchesReferenceSpec : ChangeSpec := { name := "diskMatchesReference", fn := fun _ => fun
  | [d1, d2, d3, d4] => { results := [.lit (.bool true)], args := [d1, d2, d3, d4] }
  | _ => none }
def diskMatchesReferenceRow : OpenClaim := { program := "ytiikoldaocnilaa", sum := "714995e52d22f4d7c0181f106027a77928f540e405a7eb85a369f31d50879eab", func := "stemma/stemlaw5.DiskMatchesReference", spec := "diskMatchesReference", unfollowed := true, recurses := true, apart := false }
def DiskMatchesReferenceSaid : Prop := diskMatchesReferenceRow.holds Try.pinned (OpenSpec.ofChange diskMatchesReferenceSpec)

/-- ITS FALSE NEIGHBOUR: 'it returns false'. Refute it at one input. -/
def diskMatchesReferenceWrong : ChangeSpec := { name := "diskMatchesReference", fn := fun _ => fun
  | [d1, d2, d3, d4] => { results := [.lit (.bool false)], args := [d1, d2, d3, d4] }
  | _ => none }
def DiskMatchesReferenceWrongFalsely : Prop := diskMatchesReferenceRow.holds Try.pinned (OpenSpec.ofChange diskMatchesReferenceWrong)

/-- 'stemlaw5.RecoveryMatchesReference': WHATEVER THE INPUT: true; the input reads as it did. -/
def recoveryMatchesReferenceSpec : ChangeSpec := { name := "recoveryMatchesReference", fn := fun _ => fun
  | [d1, d2] => { results := [.lit (.bool true)], args := [d1, d2] }
  | _ => none }
def recoveryMatchesReferenceRow : OpenClaim := { program := "ytiikoldaocnilaa", sum := "714995e52d22f4d7c0181f106027a77928f540e405a7eb85a369f31d50879eab", func := "stemma/stemlaw5.RecoveryMatchesReference", spec := "recoveryMatchesReference", unfollowed := true, recurses := true, apart := false }
def RecoveryMatchesReferenceSaid : Prop := recoveryMatchesReferenceRow.holds Try.pinned (OpenSpec.ofChange recoveryMatchesReferenceSpec)

/-- ITS FALSE NEIGHBOUR: 'it returns false'. Refute it at one input. -/
def recoveryMatchesReferenceWrong : ChangeSpec := { name := "recoveryMatchesReference", fn := fun _ => fun
  | [d1, d2] => { results := [.lit (.bool false)], args := [d1, d2] }
  | _ => none }
def RecoveryMatchesReferenceWrongFalsely : Prop := recoveryMatchesReferenceRow.holds Try.pinned (OpenSpec.ofChange recoveryMatchesReferenceWrong)

/- THE SECOND FORM. 'bulk': how many values and letters a reading holds, each counted each time it is reached (what is shared counts as often as it is met; a slice's spare places count too). A statement '..UptoSaid' is the law's where the arguments, and the package variables that the reading takes, are together of bulk at most 1048576: NARROWER than '..Said'. Prove '..Said' where nothing that the law and all that it calls make is longer than what came in: it says more and counts as full. Else prove '..UptoSaid'. A law counts once. -/
mutual
def uptoBulk {H : Type} : DataW H → Nat
  | .lit (.string bytes) => bytes.length + 1
  | .lit _ => 1
  | .nil => 1
  | .ptr d => uptoBulk d + 1
  | .slice elems spare => uptoBulkAll elems + uptoBulkAll spare + 1
  | .agg parts => uptoBulkAll parts + 1
  | .iface _ d => uptoBulk d + 1
  | .map entries => uptoBulkEntries entries + 1
  | .held _ => 1
def uptoBulkAll {H : Type} : List (DataW H) → Nat
  | [] => 0
  | d :: r => uptoBulk d + uptoBulkAll r
def uptoBulkEntries {H : Type} : List (Lit × DataW H) → Nat
  | [] => 0
  | x :: r => uptoBulkEntry x + uptoBulkEntries r
def uptoBulkEntry {H : Type} : Lit × DataW H → Nat
  | (.string bytes, d) => bytes.length + uptoBulk d + 1
  | (_, d) => uptoBulk d + 1
 end
def uptoSmall : (H : Type) → List (DataW H) → Bool := fun _ ds => decide (uptoBulkAll ds ≤ 1048576)
def OpenSpec.upto (s : _root_.Go.ChangeSpec) : _root_.Go.OpenSpec := { _root_.Go.OpenSpec.ofChange s with cond := some uptoSmall }

/-- 'stemlaw5.DiskMatchesReference', WHERE WHAT IT READS IS OF BULK AT MOST 1048576: true; the input reads as it did. -/
def diskMatchesReferenceUptoRow : OpenClaim := { program := "ytiikoldaocnilaa", sum := "714995e52d22f4d7c0181f106027a77928f540e405a7eb85a369f31d50879eab", func := "stemma/stemlaw5.DiskMatchesReference", spec := "diskMatchesReference", unfollowed := true, recurses := true, apart := false, narrowed := true }
def DiskMatchesReferenceUptoSaid : Prop := diskMatchesReferenceUptoRow.holds Try.pinned (OpenSpec.upto diskMatchesReferenceSpec)

/-- 'stemlaw5.RecoveryMatchesReference', WHERE WHAT IT READS IS OF BULK AT MOST 1048576: true; the input reads as it did. -/
def recoveryMatchesReferenceUptoRow : OpenClaim := { program := "ytiikoldaocnilaa", sum := "714995e52d22f4d7c0181f106027a77928f540e405a7eb85a369f31d50879eab", func := "stemma/stemlaw5.RecoveryMatchesReference", spec := "recoveryMatchesReference", unfollowed := true, recurses := true, apart := false, narrowed := true }
def RecoveryMatchesReferenceUptoSaid : Prop := recoveryMatchesReferenceUptoRow.holds Try.pinned (OpenSpec.upto recoveryMatchesReferenceSpec)

end Rows
end Go.Proofs.Ytiikoldaocnilaa
