/-
  NARROWER THAN 'FOR EVERY INPUT', by the rows' own cells (each row's printed sentence says how): ExprTypeMatchesReference: loops · ExprEvalMatchesReference: loops.
  DERIVED. THE GIVEN ROWS OF THIS SEAT. 2 by the template 'for every input the law returns true; each argument reads behind the call as it read before'; 0 by the template 'total and deterministic' (their statements: YtacafkegbgmnoaaTotals.lean).
  GIVEN WITH THE SEED: the statements are not yours to turn. If you find one false, say at which input.
  Laid BY PROGRAM, IN A SANDBOX (cutbox-rows.mjs): the forced cells as the released guide's own fill.sh prints them over the translation fd4f89fd5c85d21d… (all of the seat's roots in one cut). By AI agents, Wed Nov 11 2026. No macro, syntax, notation, axiom, sorry.
-/
import Derived.Test.YtacafkegbgmnoaaChecked
import GoSem.Claim
import GoSem.ClaimJoined
import GoSem.ClaimMapViews
import Derived.JoinedTies
import Derived.KernelRfl
namespace Go.Proofs.Ytacafkegbgmnoaa
/- THE CELL 'sum', in the pinned program and in every row, IS THE sha256 OF THE DUMP (.gsa) THAT YtacafkegbgmnoaaProg.lean LOADS. Nothing in Lean hashes anything: it is a label: what it is worth is what the hold of that sum in a sandbox is worth. -/
noncomputable def Try.pinned : Pinned := { name := "ytacafkegbgmnoaa", sum := "fd4f89fd5c85d21daf936062bc945fbe5deaae918582f445c14c92e99ce9147c", checked := Try.checked }
namespace Rows
def none {H : Type} : Left H := { results := [], args := [] }

/-- 'stemlaw3.ExprTypeMatchesReference': WHATEVER THE INPUT: true; the input reads as it did. -/
def exprTypeMatchesReferenceSpec : ChangeSpec := { name := "exprTypeMatchesReference", fn := fun _ => fun
  | [d1, d2, d3] => { results := [.lit (.bool true)], args := [d1, d2, d3] }
  | _ => none }
def exprTypeMatchesReferenceRow : OpenClaim := { program := "ytacafkegbgmnoaa", sum := "fd4f89fd5c85d21daf936062bc945fbe5deaae918582f445c14c92e99ce9147c", func := "stemma/stemlaw3.ExprTypeMatchesReference", spec := "exprTypeMatchesReference", unfollowed := true, recurses := true, loops := true, apart := false }
def ExprTypeMatchesReferenceSaid : Prop := exprTypeMatchesReferenceRow.holds Try.pinned (OpenSpec.ofChange exprTypeMatchesReferenceSpec)

/-- ITS FALSE NEIGHBOUR: 'it returns false'. Refute it at one input. -/
def exprTypeMatchesReferenceWrong : ChangeSpec := { name := "exprTypeMatchesReference", fn := fun _ => fun
  | [d1, d2, d3] => { results := [.lit (.bool false)], args := [d1, d2, d3] }
  | _ => none }
def ExprTypeMatchesReferenceWrongFalsely : Prop := exprTypeMatchesReferenceRow.holds Try.pinned (OpenSpec.ofChange exprTypeMatchesReferenceWrong)

/-- 'stemlaw3.ExprEvalMatchesReference': WHATEVER THE INPUT: true; the input reads as it did. -/
def exprEvalMatchesReferenceSpec : ChangeSpec := { name := "exprEvalMatchesReference", fn := fun _ => fun
  | [d1, d2, d3, d4] => { results := [.lit (.bool true)], args := [d1, d2, d3, d4] }
  | _ => none }
def exprEvalMatchesReferenceRow : OpenClaim := { program := "ytacafkegbgmnoaa", sum := "fd4f89fd5c85d21daf936062bc945fbe5deaae918582f445c14c92e99ce9147c", func := "stemma/stemlaw3.ExprEvalMatchesReference", spec := "exprEvalMatchesReference", unfollowed := true, recurses := true, loops := true, apart := false }
def ExprEvalMatchesReferenceSaid : Prop := exprEvalMatchesReferenceRow.holds Try.pinned (OpenSpec.ofChange exprEvalMatchesReferenceSpec)

/-- ITS FALSE NEIGHBOUR: 'it returns false'. Refute it at one input. -/
def exprEvalMatchesReferenceWrong : ChangeSpec := { name := "exprEvalMatchesReference", fn := fun _ => fun
  | [d1, d2, d3, d4] => { results := [.lit (.bool false)], args := [d1, d2, d3, d4] }
  | _ => none }
def ExprEvalMatchesReferenceWrongFalsely : Prop := exprEvalMatchesReferenceRow.holds Try.pinned (OpenSpec.ofChange exprEvalMatchesReferenceWrong)

/- THE SECOND FORM. 'bulk': how many values and letters a reading holds, each counted each time it is reached (what is shared counts as often as it is met; a slice's spare places count too). A statement '..UptoSaid' is the law's where the arguments, and the package variables that the reading takes, are together of bulk at most 1048576: NARROWER than '..Said'. Prove '..Said' where nothing that the law and all that it calls make is longer than what came in: it says more and counts as full. Else prove '..UptoSaid'. A law counts once. -/
mutual
def uptoBulk {H : Type} : DataW H → Nat
  | .lit (.string bytes) => bytes.length + 1
  | .lit _ => 1
  | .nil => 1
  | .ptr d => uptoBulk d + 1
  | .slice elems spare => uptoBulkAll elems + uptoBulkAll spare + 1
  | .agg parts => uptoBulkAll parts + 1
  | .iface _ d => uptoBulk d + 1
  | .map entries => uptoBulkEntries entries + 1
  | .held _ => 1
def uptoBulkAll {H : Type} : List (DataW H) → Nat
  | [] => 0
  | d :: r => uptoBulk d + uptoBulkAll r
def uptoBulkEntries {H : Type} : List (Lit × DataW H) → Nat
  | [] => 0
  | x :: r => uptoBulkEntry x + uptoBulkEntries r
def uptoBulkEntry {H : Type} : Lit × DataW H → Nat
  | (.string bytes, d) => bytes.length + uptoBulk d + 1
  | (_, d) => uptoBulk d + 1
 end
def uptoSmall : (H : Type) → List (DataW H) → Bool := fun _ ds => decide (uptoBulkAll ds ≤ 1048576)
def OpenSpec.upto (s : _root_.Go.ChangeSpec) : _root_.Go.OpenSpec := { _root_.Go.OpenSpec.ofChange s with cond := some uptoSmall }

/-- 'stemlaw3.ExprTypeMatchesReference', WHERE WHAT IT READS IS OF BULK AT MOST 1048576: true; the input reads as it did. -/
def exprTypeMatchesReferenceUptoRow : OpenClaim := { program := "ytacafkegbgmnoaa", sum := "fd4f89fd5c85d21daf936062bc945fbe5deaae918582f445c14c92e99ce9147c", func := "stemma/stemlaw3.ExprTypeMatchesReference", spec := "exprTypeMatchesReference", unfollowed := true, recurses := true, loops := true, apart := false, narrowed := true }
def ExprTypeMatchesReferenceUptoSaid : Prop := exprTypeMatchesReferenceUptoRow.holds Try.pinned (OpenSpec.upto exprTypeMatchesReferenceSpec)

/-- 'stemlaw3.ExprEvalMatchesReference', WHERE WHAT IT READS IS OF BULK AT MOST 1048576: true; the input reads as it did. -/
def exprEvalMatchesReferenceUptoRow : OpenClaim := { program := "ytacafkegbgmnoaa", sum := "fd4f89fd5c85d21daf936062bc945fbe5deaae918582f445c14c92e99ce9147c", func := "stemma/stemlaw3.ExprEvalMatchesReference", spec := "exprEvalMatchesReference", unfollowed := true, recurses := true, loops := true, apart := false, narrowed := true }
def ExprEvalMatchesReferenceUptoSaid : Prop := exprEvalMatchesReferenceUptoRow.holds Try.pinned (OpenSpec.upto exprEvalMatchesReferenceSpec)

end Rows
end Go.Proofs.Ytacafkegbgmnoaa
