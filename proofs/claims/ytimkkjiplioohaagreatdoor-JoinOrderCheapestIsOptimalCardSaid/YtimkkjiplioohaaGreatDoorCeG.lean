/- The row's closed facts together. -/
import Derived.Test.YtimkkjiplioohaaGreatDoorCeF
namespace Go.Proofs.YtimkkjiplioohaaGreatDoor
theorem ce_closed : joinedFacts Tryz.prog 4 Tryz.f4 Rows.joinOrderCheapestIsOptimalSpec Rows.joinOrderCheapestIsOptimalRow = true := by
  unfold joinedFacts
  rw [jf_inPlace, jf_unfollowed, jf_recurses, jf_varsNamed]
  kernel_rfl
end Go.Proofs.YtimkkjiplioohaaGreatDoor
