/- SSIAdmitMatchesReference holds: for every list of transactions the law returns true. No condition. -/
import Derived.Test.YtabjbkdlacibjaaSeB7
import Derived.Test.YtabjbkdlacibjaaRows
namespace Go.Proofs.Ytabjbkdlacibjaa
open Go.RowKit Go.Ab Go.Rp

theorem ownssiadmit_holds : ownKnob Try.prog.godebug = none := by kernel_rfl
theorem laidOutssiadmit_holds : laidOutB Try.prog = true := by kernel_rfl
theorem tyssiadmit_holds_0 : Rep.Ty (List Tx) Try.prog 61 := ⟨73, by kernel_rfl, by kernel_rfl, by kernel_rfl, ⟨_, Try.underlying73, by kernel_rfl, of_decide_eq_true (by kernel_rfl), _, _, rfl, rfl, ⟨by kernel_rfl, by kernel_rfl, by kernel_rfl⟩, _, _, rfl, rfl, ⟨by kernel_rfl, by kernel_rfl, by kernel_rfl⟩, _, _, rfl, rfl, ⟨9, by kernel_rfl, by kernel_rfl, by kernel_rfl, ⟨by kernel_rfl, by kernel_rfl, by kernel_rfl⟩, by decide⟩, _, _, rfl, rfl, ⟨9, by kernel_rfl, by kernel_rfl, by kernel_rfl, ⟨by kernel_rfl, by kernel_rfl, by kernel_rfl⟩, by decide⟩, rfl⟩, by decide⟩
theorem tyssiadmit_holds_1 : Rep.Ty (Int) Try.prog 3 := ⟨by kernel_rfl, by kernel_rfl, by kernel_rfl⟩
theorem tyssiadmit_holds_2 : Rep.Ty (Int) Try.prog 3 := ⟨by kernel_rfl, by kernel_rfl, by kernel_rfl⟩

set_option maxRecDepth 100000 in
theorem liftedssiadmit_holds (os : Os) (started : os.Started) (H : Type) (enc : TypeId × Value → H) :
    ReturnsInHanded {} Try.checked os 7 .any (Rows.sSIAdmitMatchesReferenceSpec.pre6 enc Try.prog Try.f7 [] false) (Rows.sSIAdmitMatchesReferenceSpec.post enc Try.prog Try.f7 false true false false) := by
  refine lifted (C := Try.checked) (tb := 4) (αs := [⟨List Tx, inferInstance⟩, ⟨Int, inferInstance⟩, ⟨Int, inferInstance⟩]) ownssiadmit_holds laidOutssiadmit_holds started (by kernel_rfl) Try.func7 ?_ ?_ rfl (by kernel_rfl) rfl ?_
    (ChangeSpec.witness6 (enc := enc) (C := Try.checked) false ⟨#[], #[.slice none 0 0, .int .i64 0, .int .i64 0], []⟩ 8 (by kernel_rfl) (by kernel_rfl) (by kernel_rfl) (by kernel_rfl)) ?_
  · have : Try.f7.params.toList.all (fun t => Try.prog.readableRec t && decide (t < Try.prog.types.size)) = true := by kernel_rfl
    intro t ht
    have := List.all_eq_true.1 this t ht
    rw [Bool.and_eq_true] at this
    exact ⟨this.1, of_decide_eq_true this.2⟩
  · exact ⟨61, _, rfl, tyssiadmit_holds_0, 3, _, rfl, tyssiadmit_holds_1, 3, _, rfl, tyssiadmit_holds_2, rfl⟩
  · intro ds hd
    match ds, hd with
    | [d0, d1, d2], _ => rfl
  · rintro W args ⟨a, csa, _, hargs, ha, i, csi, _, rfl, hi, k, csk, _, rfl, hk, rfl⟩
    have hz : a.length * 64 ≤ reach := by
      obtain ⟨_, _, _, _, _, h, _⟩ := ha
      exact h
    refine calls_true (f7 a i k hz) ?_
    rw [hargs]
    exact ⟨_, _, rfl, Enc.soundV (E := oneE default (· < W.heap.size)) (fun _ hb => hb) ha, _, _, rfl, Enc.soundV (E := oneE default (· < W.heap.size)) (fun _ hb => hb) hi, _, _, rfl, Enc.soundV (E := oneE default (· < W.heap.size)) (fun _ hb => hb) hk, rfl⟩

theorem ssiadmit_holds : Rows.SSIAdmitMatchesReferenceSaid :=
  OpenClaim.holds_of_wide 7 Try.f7 rfl rfl rfl rfl rfl rfl rfl ⟨rfl, rfl, rfl, rfl, rfl⟩ rfl rfl rfl rfl rfl (by kernel_rfl) Try.func7 (by kernel_rfl)
    (of_decide_eq_true (by kernel_rfl)) (by unfold Func.isWrapper; rw [if_neg (of_decide_eq_false (by kernel_rfl))]; exact ⟨rfl, rfl⟩)
    (fun os started H enc _ => liftedssiadmit_holds os started H enc)
end Go.Proofs.Ytabjbkdlacibjaa
