/- The row's closed facts together. -/
import Derived.Test.YtimkkjiplioohaaGreatDoorJaF
namespace Go.Proofs.YtimkkjiplioohaaGreatDoor
theorem ja_closed : joinedFacts Tryz.prog 5 Tryz.f5 Rows.joinMatchesReferenceSpec Rows.joinMatchesReferenceRow = true := by
  unfold joinedFacts
  rw [jf_inPlace, jf_unfollowed, jf_recurses, jf_varsNamed]
  kernel_rfl
end Go.Proofs.YtimkkjiplioohaaGreatDoor
