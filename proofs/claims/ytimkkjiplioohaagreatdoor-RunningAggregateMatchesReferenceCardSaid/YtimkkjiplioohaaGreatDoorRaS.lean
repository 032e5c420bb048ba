/- Functions of the program as functional programs; the code computes them. -/
import Derived.Test.YtimkkjiplioohaaGreatDoorRa0
import Derived.Test.YtimkkjiplioohaaGreatDoorSm9
namespace Go.Proofs.YtimkkjiplioohaaGreatDoor
open Go.Ab Go.Rp
attribute [-simp] List.all_eq_true Array.all_toList Array.all_eq_true


def d9 (_N : Nat) : Option Bool := some true
theorem p9 (N : Nat) (r : Bool) (h : d9 N = some r) : FunC Tryz.prog 9 [] (.d (.lit (.bool r))) := by
  injection h with h;subst h;exact Tryz.sample_fun

end Go.Proofs.YtimkkjiplioohaaGreatDoor
