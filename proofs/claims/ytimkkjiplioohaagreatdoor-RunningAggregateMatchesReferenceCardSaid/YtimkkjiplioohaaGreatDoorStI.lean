/- Methods by an interface value; comparison of an own row with nil. -/
import Derived.Test.YtimkkjiplioohaaGreatDoorA4
import Derived.Test.YtimkkjiplioohaaGreatDoorA3
import Derived.Test.YtimkkjiplioohaaGreatDoorProg
import Derived.Sort.QuietIn
import Derived.KernelRfl
namespace Go.Ab
open Go.RowKit
/-! ### a drawn region that only looks: everything is seen as data -/
@[simp] theorem rnmL_map_d (ρ : List (Nat × Nat)) : ∀ cs : List D, rnmL ρ (cs.map V.d) = some (cs.map V.d)
  | [] => rfl
  | c :: cs => by simp [rnmL, V.rnm, rnmL_map_d ρ cs]
end Go.Ab
namespace Go.Proofs.YtimkkjiplioohaaGreatDoor
open Go.Ab Go.Rp
theorem meth114 : MethAt Tryz.prog 184 "Len" 114 := fun _ _ => by kernel_rfl
theorem meth285 : MethAt Tryz.prog 184 "Less" 285 := fun _ _ => by kernel_rfl
theorem meth286 : MethAt Tryz.prog 184 "Pop" 286 := fun _ _ => by kernel_rfl
theorem meth287 : MethAt Tryz.prog 184 "Push" 287 := fun _ _ => by kernel_rfl
theorem meth288 : MethAt Tryz.prog 184 "Swap" 288 := fun _ _ => by kernel_rfl
end Go.Proofs.YtimkkjiplioohaaGreatDoor
