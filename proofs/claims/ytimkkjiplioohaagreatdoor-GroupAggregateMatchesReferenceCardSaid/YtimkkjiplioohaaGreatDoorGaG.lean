/- The row's closed facts together. -/
import Derived.Test.YtimkkjiplioohaaGreatDoorGaF
namespace Go.Proofs.YtimkkjiplioohaaGreatDoor
theorem ga_closed : joinedFacts Tryz.prog 6 Tryz.f6 Rows.groupAggregateMatchesReferenceSpec Rows.groupAggregateMatchesReferenceRow = true := by
  unfold joinedFacts
  rw [gf_inPlace, gf_unfollowed, gf_recurses, gf_varsNamed]
  kernel_rfl
end Go.Proofs.YtimkkjiplioohaaGreatDoor
