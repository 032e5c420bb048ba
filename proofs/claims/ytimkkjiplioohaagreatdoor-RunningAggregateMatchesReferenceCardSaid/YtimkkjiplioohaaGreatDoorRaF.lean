/- The row's closed facts, the heavy ones each by itself. -/
import Derived.Test.YtimkkjiplioohaaGreatDoorRows
import Derived.JoinedOf
import Derived.KernelRfl
namespace Go.Proofs.YtimkkjiplioohaaGreatDoor
theorem rf_inPlace : (Rows.runningAggregateMatchesReferenceRow.inPlace == Tryz.prog.inPlace 7) = true := by kernel_rfl
theorem rf_unfollowed : (Rows.runningAggregateMatchesReferenceRow.unfollowed == Tryz.prog.unfollowed 7) = true := by kernel_rfl
theorem rf_recurses : (Rows.runningAggregateMatchesReferenceRow.recurses == Tryz.prog.recurses 7) = true := by kernel_rfl
theorem rf_varsNamed : (Rows.runningAggregateMatchesReferenceRow.named == Tryz.prog.varsNamed 7) = true := by kernel_rfl
end Go.Proofs.YtimkkjiplioohaaGreatDoor
