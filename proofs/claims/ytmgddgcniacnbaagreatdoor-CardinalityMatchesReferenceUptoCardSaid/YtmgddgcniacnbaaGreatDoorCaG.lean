/- The row's closed facts together. -/
import Derived.Test.YtmgddgcniacnbaaGreatDoorCaF
namespace Go.Proofs.YtmgddgcniacnbaaGreatDoor
theorem ca_closed : joinedFacts Tryz.prog 3 Tryz.f3 (Rows.OpenSpec.upto Rows.cardinalityMatchesReferenceSpec).bare Rows.cardinalityMatchesReferenceUptoRow = true := by
  unfold joinedFacts
  rw [gf_inPlace, gf_unfollowed, gf_recurses, gf_varsNamed]
  kernel_rfl
end Go.Proofs.YtmgddgcniacnbaaGreatDoor
