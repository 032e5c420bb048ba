/- The row's closed facts, the heavy ones each by itself. -/
import Derived.Test.YtmgddgcniacnbaaGreatDoorRows
import Derived.JoinedOf
import Derived.KernelRfl
namespace Go.Proofs.YtmgddgcniacnbaaGreatDoor
theorem gf_inPlace : (Rows.cardinalityMatchesReferenceUptoRow.inPlace == Tryz.prog.inPlace 3) = true := by kernel_rfl
theorem gf_unfollowed : (Rows.cardinalityMatchesReferenceUptoRow.unfollowed == Tryz.prog.unfollowed 3) = true := by kernel_rfl
theorem gf_recurses : (Rows.cardinalityMatchesReferenceUptoRow.recurses == Tryz.prog.recurses 3) = true := by kernel_rfl
theorem gf_varsNamed : (Rows.cardinalityMatchesReferenceUptoRow.named == Tryz.prog.varsNamed 3) = true := by kernel_rfl
end Go.Proofs.YtmgddgcniacnbaaGreatDoor
