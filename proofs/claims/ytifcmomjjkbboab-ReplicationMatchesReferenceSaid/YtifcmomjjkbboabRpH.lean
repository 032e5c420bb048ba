/- ReplicationMatchesReference holds: for every number of servers, every list of operations, of payloads and of voters the law returns true. No condition. -/
import Derived.Test.YtifcmomjjkbboabRpQ
import Derived.Test.YtifcmomjjkbboabRows
namespace Go.Proofs.Ytifcmomjjkbboab
open Go.RowKit Go.Ab Go.Rp

theorem ownreplication_holds : ownKnob Try.prog.godebug = none := by kernel_rfl
theorem laidOutreplication_holds : laidOutB Try.prog = true := by kernel_rfl
theorem tyreplication_holds_0 : Rep.Ty (Int) Try.prog 3 := ⟨by kernel_rfl, by kernel_rfl, by kernel_rfl⟩
theorem tyreplication_holds_1 : Rep.Ty (List (List Int)) Try.prog 22 := ⟨34, by kernel_rfl, by kernel_rfl, by kernel_rfl, ⟨3, by kernel_rfl, by kernel_rfl, by kernel_rfl, ⟨by kernel_rfl, by kernel_rfl, by kernel_rfl⟩, by decide⟩, by decide⟩
theorem tyreplication_holds_2 : Rep.Ty (List ByteArray) Try.prog 23 := ⟨9, by kernel_rfl, by kernel_rfl, by kernel_rfl, ⟨by kernel_rfl, by kernel_rfl, by kernel_rfl⟩, by decide⟩
theorem tyreplication_holds_3 : Rep.Ty (List (List Int)) Try.prog 22 := ⟨34, by kernel_rfl, by kernel_rfl, by kernel_rfl, ⟨3, by kernel_rfl, by kernel_rfl, by kernel_rfl, ⟨by kernel_rfl, by kernel_rfl, by kernel_rfl⟩, by decide⟩, by decide⟩

set_option maxRecDepth 100000 in
theorem liftedreplication_holds (os : Os) (started : os.Started) (H : Type) (enc : TypeId × Value → H) :
  ReturnsInHanded {} Try.checked os 3 .any (Rows.replicationMatchesReferenceSpec.pre6 enc Try.prog Try.f3 [] false) (Rows.replicationMatchesReferenceSpec.post enc Try.prog Try.f3 false true false false) := by
 refine lifted (C := Try.checked) (tb := 4) (αs := [⟨Int, inferInstance⟩, ⟨List (List Int), inferInstance⟩, ⟨List ByteArray, inferInstance⟩, ⟨List (List Int), inferInstance⟩]) ownreplication_holds laidOutreplication_holds started (by kernel_rfl) Try.func3 ?_ ?_ rfl (by kernel_rfl) rfl ?_
  (ChangeSpec.witness6 (enc := enc) (C := Try.checked) false ⟨#[], #[.int .i64 0, .slice none 0 0, .slice none 0 0, .slice none 0 0], []⟩ 8 (by kernel_rfl) (by kernel_rfl) (by kernel_rfl) (by kernel_rfl)) ?_
 ·have : Try.f3.params.toList.all (fun t => Try.prog.readableRec t && decide (t < Try.prog.types.size)) = true := by kernel_rfl
  intro t ht
  have := List.all_eq_true.1 this t ht
  rw [Bool.and_eq_true] at this
  exact ⟨this.1, of_decide_eq_true this.2⟩
 ·exact ⟨3, _, rfl, tyreplication_holds_0, 22, _, rfl, tyreplication_holds_1, 23, _, rfl, tyreplication_holds_2, 22, _, rfl, tyreplication_holds_3, rfl⟩
 ·intro ds hd
  match ds, hd with
  | [d0, d1, d2, d3], _ => rfl
 ·rintro W args ⟨a, csa, _, hargs, ha, b, csb, _, rfl, hb, c, csc, _, rfl, hc, d, csd, _, rfl, hd, rfl⟩
  have hz1 : b.length * 24 ≤ reach := by
   obtain ⟨_, _, _, _, _, h, _⟩ := hb
   exact h
  have hz2 : c.length * 16 ≤ reach := by
   obtain ⟨_, _, _, _, _, h, _⟩ := hc
   exact h
  have hz3 : d.length * 24 ≤ reach := by
   obtain ⟨_, _, _, _, _, h, _⟩ := hd
   exact h
  have hz4 : ∀ r ∈ d, r.length * 8 ≤ reach := by
   obtain ⟨_, _, _, _, _, _, _, h⟩ := hd
   intro r hr
   obtain ⟨i, hi, rfl⟩ := List.getElem_of_mem hr
   obtain ⟨_, _, _, _, _, hes, _⟩ := h i hi
   obtain ⟨_, _, _, _, _, h2, _⟩ := hes
   exact h2
  refine calls_true ⟨trivial, Nat.zero_le _⟩ (replication_fun a b c d hz1 hz2 hz3 hz4) ?_
  rw [hargs]
  exact ⟨_, _, rfl, Enc.soundV (E := oneE default (· < W.heap.size)) (fun _ hb => hb) ha, _, _, rfl, Enc.soundV (E := oneE default (· < W.heap.size)) (fun _ hb => hb) hb, _, _, rfl, Enc.soundV (E := oneE default (· < W.heap.size)) (fun _ hb => hb) hc, _, _, rfl, Enc.soundV (E := oneE default (· < W.heap.size)) (fun _ hb => hb) hd, rfl⟩

theorem replication_holds : Rows.ReplicationMatchesReferenceSaid :=
 OpenClaim.holds_of_wide 3 Try.f3 rfl rfl rfl rfl rfl rfl rfl ⟨rfl, rfl, rfl, rfl, rfl⟩ rfl rfl rfl rfl rfl (by kernel_rfl) Try.func3 (by kernel_rfl)
  (of_decide_eq_true (by kernel_rfl)) (by unfold Func.isWrapper; rw [if_neg (of_decide_eq_false (by kernel_rfl))]; exact ⟨rfl, rfl⟩)
  (fun os started H enc _ => liftedreplication_holds os started H enc)
end Go.Proofs.Ytifcmomjjkbboab
