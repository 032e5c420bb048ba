/- SchedulesMatchReference, second form: for every list of transactions of bulk at most 1048576 the law returns true. The condition is the given row's own. -/
import Derived.Test.YtifcmomjjkbboaaScQ
import Derived.Test.YtifcmomjjkbboaaUpto
namespace Go.Proofs.Ytifcmomjjkbboaa
open Go.RowKit Go.Ab Go.Rp Go.ChangeShapes Go.WideShapes

theorem bulk_lists : ∀ (a : List (List ROp)), ((a.map (Bulk.sz (α := List ROp))).sum) = (a.map List.length).sum + a.length
 | [] => rfl
 | t :: r => by
  have h : Bulk.sz t = t.length + 1 := by
   show (t.map fun _ => 1).sum + 1 = _
   have : ∀ t : List ROp, (t.map fun _ => 1).sum = t.length := fun t => by
    induction t with
    | nil => rfl
    | cons x t ih => simp only [List.map_cons, List.sum_cons, List.length_cons, ih]; omega
   rw [this]
  simp only [List.map_cons, List.sum_cons, List.length_cons, bulk_lists r, h]
  omega

theorem ownschedules_holds : ownKnob Try.prog.godebug = none := by kernel_rfl
theorem laidOutschedules_holds : laidOutB Try.prog = true := by kernel_rfl
theorem tyschedules_holds_0 : Rep.Ty (List (List ROp)) Try.prog 22 := ⟨30, by kernel_rfl, by kernel_rfl, by kernel_rfl, ⟨34, by kernel_rfl, by kernel_rfl, by kernel_rfl, ⟨_, Try.underlying34, by kernel_rfl, of_decide_eq_true (by kernel_rfl), _, _, rfl, rfl, ⟨by kernel_rfl, by kernel_rfl, by kernel_rfl⟩, _, _, rfl, rfl, ⟨by kernel_rfl, by kernel_rfl, by kernel_rfl⟩, _, _, rfl, rfl, ⟨by kernel_rfl, by kernel_rfl, by kernel_rfl⟩, rfl⟩, by decide⟩, by decide⟩

set_option maxRecDepth 100000 in
theorem liftedschedules_holds (os : Os) (started : os.Started) (H : Type) (enc : TypeId × Value → H) (F : Stop.Interp) :
  ReturnsInHanded {} Try.checked os 3 .any ((Rows.OpenSpec.upto Rows.schedulesMatchReferenceSpec).pre6 enc Try.prog Try.f3 Rows.schedulesMatchReferenceUptoRow.domain false) (((Rows.OpenSpec.upto Rows.schedulesMatchReferenceSpec).at F).post enc Try.prog Try.f3 false true false false) := by
 refine liftedB (C := Try.checked) (tb := 4) (αs := [⟨List (List ROp), inferInstance, inferInstance⟩]) ownschedules_holds laidOutschedules_holds started (by kernel_rfl) Try.func3 ?_ ?_ rfl (by kernel_rfl) rfl ?_
  (OpenSpec.witness (enc := enc) (C := Try.checked) (s := Rows.OpenSpec.upto Rows.schedulesMatchReferenceSpec) (k := Rows.uptoSmall) rfl false ⟨#[], #[.slice none 0 0], []⟩ 8 (by kernel_rfl) (by kernel_rfl) (by kernel_rfl)
   (x := ([.nil], [], [])) (by kernel_rfl) rfl (by kernel_rfl)) ?_
 ·have : Try.f3.params.toList.all (fun t => Try.prog.readableRec t && decide (t < Try.prog.types.size)) = true := by kernel_rfl
  intro t ht
  have := List.all_eq_true.1 this t ht
  rw [Bool.and_eq_true] at this
  exact ⟨this.1, of_decide_eq_true this.2⟩
 ·exact ⟨22, _, rfl, tyschedules_holds_0, rfl⟩
 ·intro ds hd
  match ds, hd with
  | [d0], _ => rfl
 ·rintro W args ⟨a, csa, _, hargs, ha, hm, rfl⟩
  have hm : ((a.map (Bulk.sz (α := List ROp))).sum) + 1 ≤ 1048576 := hm
  rw [bulk_lists] at hm
  refine calls_true ⟨trivial, Nat.zero_le _⟩ (schedules_fun a (by omega) (by omega)) ?_
  rw [hargs]
  exact ⟨_, _, rfl, Enc.soundV (E := oneE default (· < W.heap.size)) (fun _ hb => hb) ha, rfl⟩

theorem schedules_holds : Rows.SchedulesMatchReferenceUptoSaid :=
 OpenClaim.holds_of_cond 3 Try.f3 rfl rfl rfl rfl rfl rfl rfl ⟨rfl, rfl, rfl, rfl, rfl⟩ rfl rfl rfl rfl rfl (by kernel_rfl) Try.func3 (by kernel_rfl)
  (of_decide_eq_true (by kernel_rfl)) (by unfold Func.isWrapper; rw [if_neg (of_decide_eq_false (by kernel_rfl))]; exact ⟨rfl, rfl⟩)
  (fun os started H enc _ F => liftedschedules_holds os started H enc F)
end Go.Proofs.Ytifcmomjjkbboaa
