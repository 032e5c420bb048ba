/- ConflictGraphMatchesReference holds: for every history the law returns true. No condition. -/
import Derived.Test.YtabjbkdlacibjaaCgP4
import Derived.Test.YtabjbkdlacibjaaRows
namespace Go.Proofs.Ytabjbkdlacibjaa
open Go.RowKit Go.Ab Go.Rp

theorem ownconflictgraph_holds : ownKnob Try.prog.godebug = none := by kernel_rfl
theorem laidOutconflictgraph_holds : laidOutB Try.prog = true := by kernel_rfl
theorem tyconflictgraph_holds_0 : Rep.Ty (List ROp) Try.prog 22 := ⟨32, by kernel_rfl, by kernel_rfl, by kernel_rfl, ⟨_, Try.underlying32, by kernel_rfl, of_decide_eq_true (by kernel_rfl), _, _, rfl, rfl, ⟨by kernel_rfl, by kernel_rfl, by kernel_rfl⟩, _, _, rfl, rfl, ⟨by kernel_rfl, by kernel_rfl, by kernel_rfl⟩, _, _, rfl, rfl, ⟨by kernel_rfl, by kernel_rfl, by kernel_rfl⟩, rfl⟩, by decide⟩

set_option maxRecDepth 100000 in
theorem liftedconflictgraph_holds (os : Os) (started : os.Started) (H : Type) (enc : TypeId × Value → H) :
    ReturnsInHanded {} Try.checked os 4 .any (Rows.conflictGraphMatchesReferenceSpec.pre6 enc Try.prog Try.f4 [] false) (Rows.conflictGraphMatchesReferenceSpec.post enc Try.prog Try.f4 false true false false) := by
  refine lifted (C := Try.checked) (tb := 4) (αs := [⟨List ROp, inferInstance⟩]) ownconflictgraph_holds laidOutconflictgraph_holds started (by kernel_rfl) Try.func4 ?_ ?_ rfl (by kernel_rfl) rfl ?_
    (ChangeSpec.witness6 (enc := enc) (C := Try.checked) false ⟨#[], #[.slice none 0 0], []⟩ 8 (by kernel_rfl) (by kernel_rfl) (by kernel_rfl) (by kernel_rfl)) ?_
  · have : Try.f4.params.toList.all (fun t => Try.prog.readableRec t && decide (t < Try.prog.types.size)) = true := by kernel_rfl
    intro t ht
    have := List.all_eq_true.1 this t ht
    rw [Bool.and_eq_true] at this
    exact ⟨this.1, of_decide_eq_true this.2⟩
  · exact ⟨22, _, rfl, tyconflictgraph_holds_0, rfl⟩
  · intro ds hd
    match ds, hd with
    | [d0], _ => rfl
  · rintro W args ⟨a, csa, _, hargs, ha, rfl⟩
    have hz : a.length * 32 ≤ reach := by
      obtain ⟨_, _, _, _, _, h, _⟩ := ha
      exact h
    refine calls_true (conflictgraph_fun a hz) ?_
    rw [hargs]
    exact ⟨_, _, rfl, Enc.soundV (E := oneE default (· < W.heap.size)) (fun _ hb => hb) ha, rfl⟩

theorem conflictgraph_holds : Rows.ConflictGraphMatchesReferenceSaid :=
  OpenClaim.holds_of_wide 4 Try.f4 rfl rfl rfl rfl rfl rfl rfl ⟨rfl, rfl, rfl, rfl, rfl⟩ rfl rfl rfl rfl rfl (by kernel_rfl) Try.func4 (by kernel_rfl)
    (of_decide_eq_true (by kernel_rfl)) (by unfold Func.isWrapper; rw [if_neg (of_decide_eq_false (by kernel_rfl))]; exact ⟨rfl, rfl⟩)
    (fun os started H enc _ => liftedconflictgraph_holds os started H enc)
end Go.Proofs.Ytabjbkdlacibjaa
