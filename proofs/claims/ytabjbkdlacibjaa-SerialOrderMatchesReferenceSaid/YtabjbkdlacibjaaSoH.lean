/- SerialOrderMatchesReference holds: for every history the law returns true. No condition. -/
import Derived.Test.YtabjbkdlacibjaaSoQ3
import Derived.Test.YtabjbkdlacibjaaRows
namespace Go.Proofs.Ytabjbkdlacibjaa
open Go.RowKit Go.Ab Go.Rp

theorem ownserialorder_holds : ownKnob Try.prog.godebug = none := by kernel_rfl
theorem laidOutserialorder_holds : laidOutB Try.prog = true := by kernel_rfl
theorem tyserialorder_holds_0 : Rep.Ty (List ROp) Try.prog 22 := ⟨32, by kernel_rfl, by kernel_rfl, by kernel_rfl, ⟨_, Try.underlying32, by kernel_rfl, of_decide_eq_true (by kernel_rfl), _, _, rfl, rfl, ⟨by kernel_rfl, by kernel_rfl, by kernel_rfl⟩, _, _, rfl, rfl, ⟨by kernel_rfl, by kernel_rfl, by kernel_rfl⟩, _, _, rfl, rfl, ⟨by kernel_rfl, by kernel_rfl, by kernel_rfl⟩, rfl⟩, by decide⟩

set_option maxRecDepth 100000 in
theorem liftedserialorder_holds (os : Os) (started : os.Started) (H : Type) (enc : TypeId × Value → H) :
    ReturnsInHanded {} Try.checked os 6 .any (Rows.serialOrderMatchesReferenceSpec.pre6 enc Try.prog Try.f6 [] false) (Rows.serialOrderMatchesReferenceSpec.post enc Try.prog Try.f6 false true false false) := by
  refine lifted (C := Try.checked) (tb := 4) (αs := [⟨List ROp, inferInstance⟩]) ownserialorder_holds laidOutserialorder_holds started (by kernel_rfl) Try.func6 ?_ ?_ rfl (by kernel_rfl) rfl ?_
    (ChangeSpec.witness6 (enc := enc) (C := Try.checked) false ⟨#[], #[.slice none 0 0], []⟩ 8 (by kernel_rfl) (by kernel_rfl) (by kernel_rfl) (by kernel_rfl)) ?_
  · have : Try.f6.params.toList.all (fun t => Try.prog.readableRec t && decide (t < Try.prog.types.size)) = true := by kernel_rfl
    intro t ht
    have := List.all_eq_true.1 this t ht
    rw [Bool.and_eq_true] at this
    exact ⟨this.1, of_decide_eq_true this.2⟩
  · exact ⟨22, _, rfl, tyserialorder_holds_0, rfl⟩
  · intro ds hd
    match ds, hd with
    | [d0], _ => rfl
  · rintro W args ⟨a, csa, _, hargs, ha, rfl⟩
    have hz : a.length * 32 ≤ reach := by
      obtain ⟨_, _, _, _, _, h, _⟩ := ha
      exact h
    refine calls_true (serialorder_fun a hz) ?_
    rw [hargs]
    exact ⟨_, _, rfl, Enc.soundV (E := oneE default (· < W.heap.size)) (fun _ hb => hb) ha, rfl⟩

theorem serialorder_holds : Rows.SerialOrderMatchesReferenceSaid :=
  OpenClaim.holds_of_wide 6 Try.f6 rfl rfl rfl rfl rfl rfl rfl ⟨rfl, rfl, rfl, rfl, rfl⟩ rfl rfl rfl rfl rfl (by kernel_rfl) Try.func6 (by kernel_rfl)
    (of_decide_eq_true (by kernel_rfl)) (by unfold Func.isWrapper; rw [if_neg (of_decide_eq_false (by kernel_rfl))]; exact ⟨rfl, rfl⟩)
    (fun os started H enc _ => liftedserialorder_holds os started H enc)
end Go.Proofs.Ytabjbkdlacibjaa
