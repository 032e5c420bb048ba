/- The row's closed facts, the heavy ones each by itself. -/
import Derived.Test.YtimkkjiplioohaaGreatDoorRows
import Derived.JoinedOf
import Derived.KernelRfl
namespace Go.Proofs.YtimkkjiplioohaaGreatDoor
theorem jf_inPlace : (Rows.joinOrderCheapestIsOptimalRow.inPlace == Tryz.prog.inPlace 4) = true := by kernel_rfl
theorem jf_unfollowed : (Rows.joinOrderCheapestIsOptimalRow.unfollowed == Tryz.prog.unfollowed 4) = true := by kernel_rfl
theorem jf_recurses : (Rows.joinOrderCheapestIsOptimalRow.recurses == Tryz.prog.recurses 4) = true := by kernel_rfl
theorem jf_varsNamed : (Rows.joinOrderCheapestIsOptimalRow.named == Tryz.prog.varsNamed 4) = true := by kernel_rfl
end Go.Proofs.YtimkkjiplioohaaGreatDoor
