/- The row's closed facts, the heavy ones each by itself. -/
import Derived.Test.YtimkkjiplioohaaGreatDoorRows
import Derived.JoinedOf
import Derived.KernelRfl
namespace Go.Proofs.YtimkkjiplioohaaGreatDoor
theorem gf_inPlace : (Rows.groupAggregateMatchesReferenceRow.inPlace == Tryz.prog.inPlace 6) = true := by kernel_rfl
theorem gf_unfollowed : (Rows.groupAggregateMatchesReferenceRow.unfollowed == Tryz.prog.unfollowed 6) = true := by kernel_rfl
theorem gf_recurses : (Rows.groupAggregateMatchesReferenceRow.recurses == Tryz.prog.recurses 6) = true := by kernel_rfl
theorem gf_varsNamed : (Rows.groupAggregateMatchesReferenceRow.named == Tryz.prog.varsNamed 6) = true := by kernel_rfl
end Go.Proofs.YtimkkjiplioohaaGreatDoor
