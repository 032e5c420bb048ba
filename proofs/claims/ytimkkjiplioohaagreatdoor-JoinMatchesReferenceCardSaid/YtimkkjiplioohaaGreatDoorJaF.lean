/- The row's closed facts, the heavy ones each by itself. -/
import Derived.Test.YtimkkjiplioohaaGreatDoorRows
import Derived.JoinedOf
import Derived.KernelRfl
namespace Go.Proofs.YtimkkjiplioohaaGreatDoor
theorem jf_inPlace : (Rows.joinMatchesReferenceRow.inPlace == Tryz.prog.inPlace 5) = true := by kernel_rfl
theorem jf_unfollowed : (Rows.joinMatchesReferenceRow.unfollowed == Tryz.prog.unfollowed 5) = true := by kernel_rfl
theorem jf_recurses : (Rows.joinMatchesReferenceRow.recurses == Tryz.prog.recurses 5) = true := by kernel_rfl
theorem jf_varsNamed : (Rows.joinMatchesReferenceRow.named == Tryz.prog.varsNamed 5) = true := by kernel_rfl
end Go.Proofs.YtimkkjiplioohaaGreatDoor
