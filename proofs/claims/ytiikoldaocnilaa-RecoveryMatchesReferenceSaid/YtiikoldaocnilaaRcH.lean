/- RecoveryMatchesReference holds: for every number of pages and every list of operations the law returns true. No condition. -/
import Derived.Test.YtiikoldaocnilaaRcQ
import Derived.Test.YtiikoldaocnilaaRows
namespace Go.Proofs.Ytiikoldaocnilaa
open Go.RowKit Go.Ab Go.Rp

theorem ownrecovery_holds : ownKnob Try.prog.godebug = none := by kernel_rfl
theorem laidOutrecovery_holds : laidOutB Try.prog = true := by kernel_rfl
theorem tyrecovery_holds_0 : Rep.Ty Int Try.prog 3 := ⟨by kernel_rfl, by kernel_rfl, by kernel_rfl⟩
theorem tyrecovery_holds_1 : Rep.Ty (List (List Int)) Try.prog 22 := ⟨34, by kernel_rfl, by kernel_rfl, by kernel_rfl, ⟨3, by kernel_rfl, by kernel_rfl, by kernel_rfl, ⟨by kernel_rfl, by kernel_rfl, by kernel_rfl⟩, by decide⟩, by decide⟩

set_option maxRecDepth 100000 in
theorem liftedrecovery_holds (os : Os) (started : os.Started) (H : Type) (enc : TypeId × Value → H) :
  ReturnsInHanded {} Try.checked os 4 .any (Rows.recoveryMatchesReferenceSpec.pre6 enc Try.prog Try.f4 [] false) (Rows.recoveryMatchesReferenceSpec.post enc Try.prog Try.f4 false true false false) := by
 refine lifted (C := Try.checked) (tb := 4) (αs := [⟨Int, inferInstance⟩, ⟨List (List Int), inferInstance⟩]) ownrecovery_holds laidOutrecovery_holds started (by kernel_rfl) Try.func4 ?_ ?_ rfl (by kernel_rfl) rfl ?_
  (ChangeSpec.witness6 (enc := enc) (C := Try.checked) false ⟨#[], #[.int .i64 0, .slice none 0 0], []⟩ 8 (by kernel_rfl) (by kernel_rfl) (by kernel_rfl) (by kernel_rfl)) ?_
 ·have : Try.f4.params.toList.all (fun t => Try.prog.readableRec t && decide (t < Try.prog.types.size)) = true := by kernel_rfl
  intro t ht
  have := List.all_eq_true.1 this t ht
  rw [Bool.and_eq_true] at this
  exact ⟨this.1, of_decide_eq_true this.2⟩
 ·exact ⟨3, _, rfl, tyrecovery_holds_0, 22, _, rfl, tyrecovery_holds_1, rfl⟩
 ·intro ds hd
  match ds, hd with
  | [d0, d1], _ => rfl
 ·rintro W args ⟨a, csa, _, hargs, ha, b, csb, _, rfl, hb, rfl⟩
  have hz1 : b.length * 24 ≤ reach := by
   obtain ⟨_, _, _, _, _, h, _⟩ := hb
   exact h
  refine calls_true (recovery_fun a b hz1) ?_
  rw [hargs]
  exact ⟨_, _, rfl, Enc.soundV (E := oneE default (· < W.heap.size)) (fun _ hb => hb) ha, _, _, rfl, Enc.soundV (E := oneE default (· < W.heap.size)) (fun _ hb => hb) hb, rfl⟩

theorem recovery_holds : Rows.RecoveryMatchesReferenceSaid :=
 OpenClaim.holds_of_wide 4 Try.f4 rfl rfl rfl rfl rfl rfl rfl ⟨rfl, rfl, rfl, rfl, rfl⟩ rfl rfl rfl rfl rfl (by kernel_rfl) Try.func4 (by kernel_rfl)
  (of_decide_eq_true (by kernel_rfl)) (by unfold Func.isWrapper; rw [if_neg (of_decide_eq_false (by kernel_rfl))]; exact ⟨rfl, rfl⟩)
  (fun os started H enc _ => liftedrecovery_holds os started H enc)
end Go.Proofs.Ytiikoldaocnilaa
