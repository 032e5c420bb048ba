/- The row's closed facts together. -/
import Derived.Test.YtimkkjiplioohaaGreatDoorRaF
namespace Go.Proofs.YtimkkjiplioohaaGreatDoor
theorem ra_closed : joinedFacts Tryz.prog 7 Tryz.f7 Rows.runningAggregateMatchesReferenceSpec Rows.runningAggregateMatchesReferenceRow = true := by
  unfold joinedFacts
  rw [rf_inPlace, rf_unfollowed, rf_recurses, rf_varsNamed]
  kernel_rfl
end Go.Proofs.YtimkkjiplioohaaGreatDoor
