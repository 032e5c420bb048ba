/- The row's closed facts together. -/
import Derived.Test.YtimkkjiplioohaaGreatDoorJoF
namespace Go.Proofs.YtimkkjiplioohaaGreatDoor
theorem jo_closed : joinedFacts Tryz.prog 3 Tryz.f3 Rows.joinOrderCostMatchesReferenceSpec Rows.joinOrderCostMatchesReferenceRow = true := by
  unfold joinedFacts
  rw [jf_inPlace, jf_unfollowed, jf_recurses, jf_varsNamed]
  kernel_rfl
end Go.Proofs.YtimkkjiplioohaaGreatDoor
