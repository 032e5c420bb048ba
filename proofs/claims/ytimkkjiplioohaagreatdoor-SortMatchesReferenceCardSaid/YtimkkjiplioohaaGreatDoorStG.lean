/- The row's closed facts together. -/
import Derived.Test.YtimkkjiplioohaaGreatDoorStF
namespace Go.Proofs.YtimkkjiplioohaaGreatDoor
theorem st_closed : joinedFacts Tryz.prog 8 Tryz.f8 Rows.sortMatchesReferenceSpec Rows.sortMatchesReferenceRow = true := by
  unfold joinedFacts
  rw [sf_inPlace, sf_unfollowed, sf_recurses, sf_varsNamed]
  kernel_rfl
end Go.Proofs.YtimkkjiplioohaaGreatDoor
