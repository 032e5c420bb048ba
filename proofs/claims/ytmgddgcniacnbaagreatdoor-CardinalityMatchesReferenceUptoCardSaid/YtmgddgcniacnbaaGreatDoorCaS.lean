/- The closed example as a functional program. -/
import Derived.Test.YtmgddgcniacnbaaGreatDoorCa0
import Derived.Test.YtmgddgcniacnbaaGreatDoorSm9
namespace Go.Proofs.YtmgddgcniacnbaaGreatDoor
open Go.Ab Go.Rp


def d4 (_N : Nat) : Option Bool := some true
theorem p4 (N : Nat) (r : Bool) (h : d4 N = some r) : FunC Tryz.prog 4 [] (.d (.lit (.bool r))) := by
  injection h with h; subst h; exact Tryz.sample_fun

end Go.Proofs.YtmgddgcniacnbaaGreatDoor
