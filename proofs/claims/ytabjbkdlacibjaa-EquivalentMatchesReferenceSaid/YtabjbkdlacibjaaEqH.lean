/- EquivalentMatchesReference holds: for every two histories the law returns true. No condition. -/
import Derived.Test.YtabjbkdlacibjaaEq6
namespace Go.Proofs.Ytabjbkdlacibjaa
open Go.RowKit Go.Rp

theorem ownequivalent_holds : ownKnob Try.prog.godebug = none := by kernel_rfl
theorem laidOutequivalent_holds : laidOutB Try.prog = true := by kernel_rfl
theorem tyequivalent_holds_0 : Rep.Ty (List Op) Try.prog 22 := ⟨32, by kernel_rfl, by kernel_rfl, by kernel_rfl, ⟨_, Try.underlying32, by kernel_rfl, of_decide_eq_true (by kernel_rfl), _, _, rfl, rfl, ⟨by kernel_rfl, by kernel_rfl, by kernel_rfl⟩, _, _, rfl, rfl, ⟨by kernel_rfl, by kernel_rfl, by kernel_rfl⟩, _, _, rfl, rfl, ⟨by kernel_rfl, by kernel_rfl, by kernel_rfl⟩, rfl⟩, by decide⟩
theorem tyequivalent_holds_1 : Rep.Ty (List Op) Try.prog 22 := ⟨32, by kernel_rfl, by kernel_rfl, by kernel_rfl, ⟨_, Try.underlying32, by kernel_rfl, of_decide_eq_true (by kernel_rfl), _, _, rfl, rfl, ⟨by kernel_rfl, by kernel_rfl, by kernel_rfl⟩, _, _, rfl, rfl, ⟨by kernel_rfl, by kernel_rfl, by kernel_rfl⟩, _, _, rfl, rfl, ⟨by kernel_rfl, by kernel_rfl, by kernel_rfl⟩, rfl⟩, by decide⟩

set_option maxRecDepth 100000 in
theorem liftedequivalent_holds (os : Os) (started : os.Started) (H : Type) (enc : TypeId × Value → H) :
    ReturnsInHanded {} Try.checked os 3 .any (Rows.equivalentMatchesReferenceSpec.pre6 enc Try.prog Try.f3 [] false) (Rows.equivalentMatchesReferenceSpec.post enc Try.prog Try.f3 false true false false) := by
  refine lifted (C := Try.checked) (tb := 4) (αs := [⟨List Op, inferInstance⟩, ⟨List Op, inferInstance⟩]) ownequivalent_holds laidOutequivalent_holds started (by kernel_rfl) Try.func3 ?_ ?_ rfl (by kernel_rfl) rfl ?_
    (ChangeSpec.witness6 (enc := enc) (C := Try.checked) false ⟨#[], #[.slice none 0 0, .slice none 0 0], []⟩ 8 (by kernel_rfl) (by kernel_rfl) (by kernel_rfl) (by kernel_rfl)) ?_
  · have : Try.f3.params.toList.all (fun t => Try.prog.readableRec t && decide (t < Try.prog.types.size)) = true := by kernel_rfl
    intro t ht
    have := List.all_eq_true.1 this t ht
    rw [Bool.and_eq_true] at this
    exact ⟨this.1, of_decide_eq_true this.2⟩
  · exact ⟨22, _, rfl, tyequivalent_holds_0, 22, _, rfl, tyequivalent_holds_1, rfl⟩
  · intro ds hd
    match ds, hd with
    | [d0, d1], _ => rfl
  · rintro W args ⟨a, csa, _, hargs, ha, b, csb, _, rfl, hb, rfl⟩
    obtain ⟨va, rfl⟩ : ∃ v, csa = [v] := by
      match csa, Rep.len ha with
      | [v], _ => exact ⟨v, rfl⟩
    obtain ⟨vb, rfl⟩ : ∃ v, csb = [v] := by
      match csb, Rep.len hb with
      | [v], _ => exact ⟨v, rfl⟩
    have e : args = #[va, vb] := by
      apply Array.ext'
      simpa [Rep.box] using hargs
    rw [e]
    exact law3 a b va vb W ha hb

theorem equivalent_holds : Rows.EquivalentMatchesReferenceSaid :=
  OpenClaim.holds_of_wide 3 Try.f3 rfl rfl rfl rfl rfl rfl rfl ⟨rfl, rfl, rfl, rfl, rfl⟩ rfl rfl rfl rfl rfl (by kernel_rfl) Try.func3 (by kernel_rfl)
    (of_decide_eq_true (by kernel_rfl)) (by unfold Func.isWrapper; rw [if_neg (of_decide_eq_false (by kernel_rfl))]; exact ⟨rfl, rfl⟩)
    (fun os started H enc _ => liftedequivalent_holds os started H enc)
end Go.Proofs.Ytabjbkdlacibjaa
