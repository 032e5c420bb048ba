/- The row's closed facts, the heavy ones each by itself. -/
import Derived.Test.YtimkkjiplioohaaGreatDoorRows
import Derived.JoinedOf
import Derived.KernelRfl
namespace Go.Proofs.YtimkkjiplioohaaGreatDoor
theorem jf_inPlace : (Rows.joinOrderCostMatchesReferenceRow.inPlace == Tryz.prog.inPlace 3) = true := by kernel_rfl
theorem jf_unfollowed : (Rows.joinOrderCostMatchesReferenceRow.unfollowed == Tryz.prog.unfollowed 3) = true := by kernel_rfl
theorem jf_recurses : (Rows.joinOrderCostMatchesReferenceRow.recurses == Tryz.prog.recurses 3) = true := by kernel_rfl
theorem jf_varsNamed : (Rows.joinOrderCostMatchesReferenceRow.named == Tryz.prog.varsNamed 3) = true := by kernel_rfl
end Go.Proofs.YtimkkjiplioohaaGreatDoor
