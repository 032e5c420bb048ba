/- ReadsFromMatchesReference holds: for every history and every order of transactions the law returns true. No condition. -/
import Derived.Test.YtabjbkdlacibjaaRfP4
import Derived.Test.YtabjbkdlacibjaaRows
namespace Go.Proofs.Ytabjbkdlacibjaa
open Go.RowKit Go.Ab Go.Rp

theorem ownreadsfrom_holds : ownKnob Try.prog.godebug = none := by kernel_rfl
theorem laidOutreadsfrom_holds : laidOutB Try.prog = true := by kernel_rfl
theorem tyreadsfrom_holds_0 : Rep.Ty (List ROp) Try.prog 22 := ⟨32, by kernel_rfl, by kernel_rfl, by kernel_rfl, ⟨_, Try.underlying32, by kernel_rfl, of_decide_eq_true (by kernel_rfl), _, _, rfl, rfl, ⟨by kernel_rfl, by kernel_rfl, by kernel_rfl⟩, _, _, rfl, rfl, ⟨by kernel_rfl, by kernel_rfl, by kernel_rfl⟩, _, _, rfl, rfl, ⟨by kernel_rfl, by kernel_rfl, by kernel_rfl⟩, rfl⟩, by decide⟩
theorem tyreadsfrom_holds_1 : Rep.Ty (List Int) Try.prog 35 := ⟨3, by kernel_rfl, by kernel_rfl, by kernel_rfl, ⟨by kernel_rfl, by kernel_rfl, by kernel_rfl⟩, by decide⟩

set_option maxRecDepth 100000 in
theorem liftedreadsfrom_holds (os : Os) (started : os.Started) (H : Type) (enc : TypeId × Value → H) :
    ReturnsInHanded {} Try.checked os 5 .any (Rows.readsFromMatchesReferenceSpec.pre6 enc Try.prog Try.f5 [] false) (Rows.readsFromMatchesReferenceSpec.post enc Try.prog Try.f5 false true false false) := by
  refine lifted (C := Try.checked) (tb := 4) (αs := [⟨List ROp, inferInstance⟩, ⟨List Int, inferInstance⟩]) ownreadsfrom_holds laidOutreadsfrom_holds started (by kernel_rfl) Try.func5 ?_ ?_ rfl (by kernel_rfl) rfl ?_
    (ChangeSpec.witness6 (enc := enc) (C := Try.checked) false ⟨#[], #[.slice none 0 0, .slice none 0 0], []⟩ 8 (by kernel_rfl) (by kernel_rfl) (by kernel_rfl) (by kernel_rfl)) ?_
  · have : Try.f5.params.toList.all (fun t => Try.prog.readableRec t && decide (t < Try.prog.types.size)) = true := by kernel_rfl
    intro t ht
    have := List.all_eq_true.1 this t ht
    rw [Bool.and_eq_true] at this
    exact ⟨this.1, of_decide_eq_true this.2⟩
  · exact ⟨22, _, rfl, tyreadsfrom_holds_0, 35, _, rfl, tyreadsfrom_holds_1, rfl⟩
  · intro ds hd
    match ds, hd with
    | [d0, d1], _ => rfl
  · rintro W args ⟨a, csa, _, hargs, ha, o, cso, _, rfl, ho, rfl⟩
    have hz : a.length * 32 ≤ reach := by
      obtain ⟨_, _, _, _, _, h, _⟩ := ha
      exact h
    have hw : o.length * 8 ≤ reach := by
      obtain ⟨_, _, _, _, _, h, _⟩ := ho
      exact h
    refine calls_true (readsfrom_fun a o hz hw) ?_
    rw [hargs]
    exact ⟨_, _, rfl, Enc.soundV (E := oneE default (· < W.heap.size)) (fun _ hb => hb) ha, _, _, rfl, Enc.soundV (E := oneE default (· < W.heap.size)) (fun _ hb => hb) ho, rfl⟩

theorem readsfrom_holds : Rows.ReadsFromMatchesReferenceSaid :=
  OpenClaim.holds_of_wide 5 Try.f5 rfl rfl rfl rfl rfl rfl rfl ⟨rfl, rfl, rfl, rfl, rfl⟩ rfl rfl rfl rfl rfl (by kernel_rfl) Try.func5 (by kernel_rfl)
    (of_decide_eq_true (by kernel_rfl)) (by unfold Func.isWrapper; rw [if_neg (of_decide_eq_false (by kernel_rfl))]; exact ⟨rfl, rfl⟩)
    (fun os started H enc _ => liftedreadsfrom_holds os started H enc)
end Go.Proofs.Ytabjbkdlacibjaa
