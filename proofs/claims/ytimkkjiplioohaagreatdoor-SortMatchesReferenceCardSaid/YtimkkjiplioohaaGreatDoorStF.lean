/- The row's closed facts, the heavy ones each by itself. -/
import Derived.Test.YtimkkjiplioohaaGreatDoorRows
import Derived.JoinedOf
import Derived.KernelRfl
namespace Go.Proofs.YtimkkjiplioohaaGreatDoor
theorem sf_inPlace : (Rows.sortMatchesReferenceRow.inPlace == Tryz.prog.inPlace 8) = true := by kernel_rfl
theorem sf_unfollowed : (Rows.sortMatchesReferenceRow.unfollowed == Tryz.prog.unfollowed 8) = true := by kernel_rfl
theorem sf_recurses : (Rows.sortMatchesReferenceRow.recurses == Tryz.prog.recurses 8) = true := by kernel_rfl
theorem sf_varsNamed : (Rows.sortMatchesReferenceRow.named == Tryz.prog.varsNamed 8) = true := by kernel_rfl
end Go.Proofs.YtimkkjiplioohaaGreatDoor
