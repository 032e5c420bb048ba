/- SSIGraphMatchesReference holds: for every list of transactions and every list of marks the law returns true. No condition. -/
import Derived.Test.YtabjbkdlacibjaaSgP7
import Derived.Test.YtabjbkdlacibjaaRows
namespace Go.Proofs.Ytabjbkdlacibjaa
open Go.RowKit Go.Ab Go.Rp

theorem ownssigraph_holds : ownKnob Try.prog.godebug = none := by kernel_rfl
theorem laidOutssigraph_holds : laidOutB Try.prog = true := by kernel_rfl
theorem tyssigraph_holds_0 : Rep.Ty (List RTx) Try.prog 61 := ⟨73, by kernel_rfl, by kernel_rfl, by kernel_rfl, ⟨_, Try.underlying73, by kernel_rfl, of_decide_eq_true (by kernel_rfl), _, _, rfl, rfl, ⟨by kernel_rfl, by kernel_rfl, by kernel_rfl⟩, _, _, rfl, rfl, ⟨by kernel_rfl, by kernel_rfl, by kernel_rfl⟩, _, _, rfl, rfl, ⟨9, by kernel_rfl, by kernel_rfl, by kernel_rfl, ⟨by kernel_rfl, by kernel_rfl, by kernel_rfl⟩, by decide⟩, _, _, rfl, rfl, ⟨9, by kernel_rfl, by kernel_rfl, by kernel_rfl, ⟨by kernel_rfl, by kernel_rfl, by kernel_rfl⟩, by decide⟩, rfl⟩, by decide⟩
theorem tyssigraph_holds_1 : Rep.Ty (List Bool) Try.prog 65 := ⟨4, by kernel_rfl, by kernel_rfl, by kernel_rfl, ⟨by kernel_rfl, by kernel_rfl, by kernel_rfl⟩, by decide⟩

set_option maxRecDepth 100000 in
theorem liftedssigraph_holds (os : Os) (started : os.Started) (H : Type) (enc : TypeId × Value → H) :
    ReturnsInHanded {} Try.checked os 8 .any (Rows.sSIGraphMatchesReferenceSpec.pre6 enc Try.prog Try.f8 [] false) (Rows.sSIGraphMatchesReferenceSpec.post enc Try.prog Try.f8 false true false false) := by
  refine lifted (C := Try.checked) (tb := 4) (αs := [⟨List RTx, inferInstance⟩, ⟨List Bool, inferInstance⟩]) ownssigraph_holds laidOutssigraph_holds started (by kernel_rfl) Try.func8 ?_ ?_ rfl (by kernel_rfl) rfl ?_
    (ChangeSpec.witness6 (enc := enc) (C := Try.checked) false ⟨#[], #[.slice none 0 0, .slice none 0 0], []⟩ 8 (by kernel_rfl) (by kernel_rfl) (by kernel_rfl) (by kernel_rfl)) ?_
  · have : Try.f8.params.toList.all (fun t => Try.prog.readableRec t && decide (t < Try.prog.types.size)) = true := by kernel_rfl
    intro t ht
    have := List.all_eq_true.1 this t ht
    rw [Bool.and_eq_true] at this
    exact ⟨this.1, of_decide_eq_true this.2⟩
  · exact ⟨61, _, rfl, tyssigraph_holds_0, 65, _, rfl, tyssigraph_holds_1, rfl⟩
  · intro ds hd
    match ds, hd with
    | [d0, d1], _ => rfl
  · rintro W args ⟨a, csa, _, hargs, ha, i, csi, _, rfl, hi, rfl⟩
    have hz : a.length * 64 ≤ reach := by
      obtain ⟨_, _, _, _, _, h, _⟩ := ha
      exact h
    refine calls_true (ssigraph_fun a i hz) ?_
    rw [hargs]
    exact ⟨_, _, rfl, Enc.soundV (E := oneE default (· < W.heap.size)) (fun _ hb => hb) ha, _, _, rfl, Enc.soundV (E := oneE default (· < W.heap.size)) (fun _ hb => hb) hi, rfl⟩

theorem ssigraph_holds : Rows.SSIGraphMatchesReferenceSaid :=
  OpenClaim.holds_of_wide 8 Try.f8 rfl rfl rfl rfl rfl rfl rfl ⟨rfl, rfl, rfl, rfl, rfl⟩ rfl rfl rfl rfl rfl (by kernel_rfl) Try.func8 (by kernel_rfl)
    (of_decide_eq_true (by kernel_rfl)) (by unfold Func.isWrapper; rw [if_neg (of_decide_eq_false (by kernel_rfl))]; exact ⟨rfl, rfl⟩)
    (fun os started H enc _ => liftedssigraph_holds os started H enc)
end Go.Proofs.Ytabjbkdlacibjaa
