/- BackupMatchesReference holds: for every list of operations, of keys and of rows the law returns true. No condition. -/
import Derived.Test.YtfdhaigfonolpaaBkQ
import Derived.Test.YtfdhaigfonolpaaRows
namespace Go.Proofs.Ytfdhaigfonolpaa
open Go.RowKit Go.Ab Go.Rp

theorem ownbackup_holds : ownKnob Try.prog.godebug = none := by kernel_rfl
theorem laidOutbackup_holds : laidOutB Try.prog = true := by kernel_rfl
theorem tybackup_holds_0 : Rep.Ty (List (List Int)) Try.prog 22 := ⟨40, by kernel_rfl, by kernel_rfl, by kernel_rfl, ⟨3, by kernel_rfl, by kernel_rfl, by kernel_rfl, ⟨by kernel_rfl, by kernel_rfl, by kernel_rfl⟩, by decide⟩, by decide⟩
theorem tybackup_holds_1 : Rep.Ty (List ByteArray) Try.prog 23 := ⟨9, by kernel_rfl, by kernel_rfl, by kernel_rfl, ⟨by kernel_rfl, by kernel_rfl, by kernel_rfl⟩, by decide⟩
theorem tybackup_holds_2 : Rep.Ty (List (List RValue)) Try.prog 24 := ⟨30, by kernel_rfl, by kernel_rfl, by kernel_rfl, ⟨71, by kernel_rfl, by kernel_rfl, by kernel_rfl, ⟨_, Try.underlying71, by kernel_rfl, of_decide_eq_true (by kernel_rfl), _, _, rfl, rfl, ⟨by kernel_rfl, by kernel_rfl, by kernel_rfl⟩, _, _, rfl, rfl, ⟨by kernel_rfl, by kernel_rfl, by kernel_rfl⟩, _, _, rfl, rfl, ⟨by kernel_rfl, by kernel_rfl, by kernel_rfl⟩, rfl⟩, by decide⟩, by decide⟩

set_option maxRecDepth 100000 in
theorem liftedbackup_holds (os : Os) (started : os.Started) (H : Type) (enc : TypeId × Value → H) :
  ReturnsInHanded {} Try.checked os 3 .any (Rows.backupMatchesReferenceSpec.pre6 enc Try.prog Try.f3 [] false) (Rows.backupMatchesReferenceSpec.post enc Try.prog Try.f3 false true false false) := by
 refine lifted (C := Try.checked) (tb := 4) (αs := [⟨List (List Int), inferInstance⟩, ⟨List ByteArray, inferInstance⟩, ⟨List (List RValue), inferInstance⟩]) ownbackup_holds laidOutbackup_holds started (by kernel_rfl) Try.func3 ?_ ?_ rfl (by kernel_rfl) rfl ?_
  (ChangeSpec.witness6 (enc := enc) (C := Try.checked) false ⟨#[], #[.slice none 0 0, .slice none 0 0, .slice none 0 0], []⟩ 8 (by kernel_rfl) (by kernel_rfl) (by kernel_rfl) (by kernel_rfl)) ?_
 ·have : Try.f3.params.toList.all (fun t => Try.prog.readableRec t && decide (t < Try.prog.types.size)) = true := by kernel_rfl
  intro t ht
  have := List.all_eq_true.1 this t ht
  rw [Bool.and_eq_true] at this
  exact ⟨this.1, of_decide_eq_true this.2⟩
 ·exact ⟨22, _, rfl, tybackup_holds_0, 23, _, rfl, tybackup_holds_1, 24, _, rfl, tybackup_holds_2, rfl⟩
 ·intro ds hd
  match ds, hd with
  | [d0, d1, d2], _ => rfl
 ·rintro W args ⟨a, csa, _, hargs, ha, b, csb, _, rfl, hb, c, csc, _, rfl, hc, rfl⟩
  have hz0 : a.length * 24 ≤ reach := by
   obtain ⟨_, _, _, _, _, h, _⟩ := ha
   exact h
  have hz1 : b.length * 16 ≤ reach := by
   obtain ⟨_, _, _, _, _, h, _⟩ := hb
   exact h
  have hz2 : c.length * 24 ≤ reach := by
   obtain ⟨_, _, _, _, _, h, _⟩ := hc
   exact h
  refine calls_true ⟨trivial, Nat.zero_le _⟩ (backup_fun a b c hz0 hz1 hz2) ?_
  rw [hargs]
  exact ⟨_, _, rfl, Enc.soundV (E := oneE default (· < W.heap.size)) (fun _ hb => hb) ha, _, _, rfl, Enc.soundV (E := oneE default (· < W.heap.size)) (fun _ hb => hb) hb, _, _, rfl, Enc.soundV (E := oneE default (· < W.heap.size)) (fun _ hb => hb) hc, rfl⟩

theorem backup_holds : Rows.BackupMatchesReferenceSaid :=
 OpenClaim.holds_of_wide 3 Try.f3 rfl rfl rfl rfl rfl rfl rfl ⟨rfl, rfl, rfl, rfl, rfl⟩ rfl rfl rfl rfl rfl (by kernel_rfl) Try.func3 (by kernel_rfl)
  (of_decide_eq_true (by kernel_rfl)) (by unfold Func.isWrapper; rw [if_neg (of_decide_eq_false (by kernel_rfl))]; exact ⟨rfl, rfl⟩)
  (fun os started H enc _ => liftedbackup_holds os started H enc)
end Go.Proofs.Ytfdhaigfonolpaa
