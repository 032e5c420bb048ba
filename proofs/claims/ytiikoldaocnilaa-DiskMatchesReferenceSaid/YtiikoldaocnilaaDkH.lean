/- DiskMatchesReference holds: for every number of sectors, operations, blocks and survivors the law returns true. No condition. -/
import Derived.Test.YtiikoldaocnilaaDkQ
import Derived.Test.YtiikoldaocnilaaRows
namespace Go.Proofs.Ytiikoldaocnilaa
open Go.RowKit Go.Ab Go.Rp

theorem owndisk_holds : ownKnob Try.prog.godebug = none := by kernel_rfl
theorem laidOutdisk_holds : laidOutB Try.prog = true := by kernel_rfl
theorem tydisk_holds_0 : Rep.Ty Int Try.prog 3 := ⟨by kernel_rfl, by kernel_rfl, by kernel_rfl⟩
theorem tydisk_holds_1 : Rep.Ty (List (List Int)) Try.prog 22 := ⟨34, by kernel_rfl, by kernel_rfl, by kernel_rfl, ⟨3, by kernel_rfl, by kernel_rfl, by kernel_rfl, ⟨by kernel_rfl, by kernel_rfl, by kernel_rfl⟩, by decide⟩, by decide⟩
theorem tydisk_holds_2 : Rep.Ty (List (List UInt8)) Try.prog 23 := ⟨30, by kernel_rfl, by kernel_rfl, by kernel_rfl, ⟨5, by kernel_rfl, by kernel_rfl, by kernel_rfl, ⟨by kernel_rfl, by kernel_rfl, by kernel_rfl⟩, by decide⟩, by decide⟩
theorem tydisk_holds_3 : Rep.Ty (List (List Bool)) Try.prog 24 := ⟨39, by kernel_rfl, by kernel_rfl, by kernel_rfl, ⟨4, by kernel_rfl, by kernel_rfl, by kernel_rfl, ⟨by kernel_rfl, by kernel_rfl, by kernel_rfl⟩, by decide⟩, by decide⟩

set_option maxRecDepth 100000 in
theorem lifteddisk_holds (os : Os) (started : os.Started) (H : Type) (enc : TypeId × Value → H) :
  ReturnsInHanded {} Try.checked os 3 .any (Rows.diskMatchesReferenceSpec.pre6 enc Try.prog Try.f3 [] false) (Rows.diskMatchesReferenceSpec.post enc Try.prog Try.f3 false true false false) := by
 refine lifted (C := Try.checked) (tb := 4) (αs := [⟨Int, inferInstance⟩, ⟨List (List Int), inferInstance⟩, ⟨List (List UInt8), inferInstance⟩, ⟨List (List Bool), inferInstance⟩]) owndisk_holds laidOutdisk_holds started (by kernel_rfl) Try.func3 ?_ ?_ rfl (by kernel_rfl) rfl ?_
  (ChangeSpec.witness6 (enc := enc) (C := Try.checked) false ⟨#[], #[.int .i64 0, .slice none 0 0, .slice none 0 0, .slice none 0 0], []⟩ 8 (by kernel_rfl) (by kernel_rfl) (by kernel_rfl) (by kernel_rfl)) ?_
 ·have : Try.f3.params.toList.all (fun t => Try.prog.readableRec t && decide (t < Try.prog.types.size)) = true := by kernel_rfl
  intro t ht
  have := List.all_eq_true.1 this t ht
  rw [Bool.and_eq_true] at this
  exact ⟨this.1, of_decide_eq_true this.2⟩
 ·exact ⟨3, _, rfl, tydisk_holds_0, 22, _, rfl, tydisk_holds_1, 23, _, rfl, tydisk_holds_2, 24, _, rfl, tydisk_holds_3, rfl⟩
 ·intro ds hd
  match ds, hd with
  | [d0, d1, d2, d3], _ => rfl
 ·rintro W args ⟨a, csa, _, hargs, ha, b, csb, _, rfl, hb, c, csc, _, rfl, hc, d, csd, _, rfl, hd, rfl⟩
  have hz1 : b.length * 24 ≤ reach := by
   obtain ⟨_, _, _, _, _, h, _⟩ := hb
   exact h
  have hz2 : c.length * 24 ≤ reach := by
   obtain ⟨_, _, _, _, _, h, _⟩ := hc
   exact h
  have hz3 : d.length * 24 ≤ reach := by
   obtain ⟨_, _, _, _, _, h, _⟩ := hd
   exact h
  refine calls_true (disk_fun a b c d hz1 hz2 hz3) ?_
  rw [hargs]
  exact ⟨_, _, rfl, Enc.soundV (E := oneE default (· < W.heap.size)) (fun _ hb => hb) ha, _, _, rfl, Enc.soundV (E := oneE default (· < W.heap.size)) (fun _ hb => hb) hb, _, _, rfl, Enc.soundV (E := oneE default (· < W.heap.size)) (fun _ hb => hb) hc, _, _, rfl, Enc.soundV (E := oneE default (· < W.heap.size)) (fun _ hb => hb) hd, rfl⟩

theorem disk_holds : Rows.DiskMatchesReferenceSaid :=
 OpenClaim.holds_of_wide 3 Try.f3 rfl rfl rfl rfl rfl rfl rfl ⟨rfl, rfl, rfl, rfl, rfl⟩ rfl rfl rfl rfl rfl (by kernel_rfl) Try.func3 (by kernel_rfl)
  (of_decide_eq_true (by kernel_rfl)) (by unfold Func.isWrapper; rw [if_neg (of_decide_eq_false (by kernel_rfl))]; exact ⟨rfl, rfl⟩)
  (fun os started H enc _ => lifteddisk_holds os started H enc)
end Go.Proofs.Ytiikoldaocnilaa
