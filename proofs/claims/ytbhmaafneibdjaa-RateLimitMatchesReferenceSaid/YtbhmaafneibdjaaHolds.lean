/- RateLimitMatchesReference holds: for every input the law returns true. No condition. -/
import Derived.Test.YtbhmaafneibdjaaLaw
namespace Go.Proofs.Ytbhmaafneibdjaa
open Go.RowKit Go.Rp
theorem Try.own : ownKnob Try.prog.godebug = none := by kernel_rfl
theorem Try.laidOut : laidOutB Try.prog = true := by kernel_rfl
theorem Try.tyInt : Rep.Ty Int Try.prog 3 := ⟨by kernel_rfl, by kernel_rfl, by kernel_rfl⟩
theorem Try.tyInts : Rep.Ty (List Int) Try.prog 29 := ⟨3, by kernel_rfl, by kernel_rfl, by kernel_rfl, Try.tyInt, by decide⟩
theorem Try.tyOps : Rep.Ty (List (List Int)) Try.prog 22 := ⟨29, by kernel_rfl, by kernel_rfl, by kernel_rfl, Try.tyInts, by decide⟩

set_option maxRecDepth 100000 in
theorem law_lifted (os : Os) (started : os.Started) (H : Type) (enc : TypeId × Value → H) :
    ReturnsInHanded {} Try.checked os 3 .any (Rows.rateLimitMatchesReferenceSpec.pre6 enc Try.prog Try.f3 [] false) (Rows.rateLimitMatchesReferenceSpec.post enc Try.prog Try.f3 false true false false) := by
  refine lifted (C := Try.checked) (tb := 4) (αs := [⟨Int, inferInstance⟩, ⟨Int, inferInstance⟩, ⟨List (List Int), inferInstance⟩]) Try.own Try.laidOut started (by kernel_rfl) Try.func3 ?_ ?_ rfl (by kernel_rfl) rfl ?_
    (ChangeSpec.witness6 (enc := enc) (C := Try.checked) false ⟨#[], #[.int .i64 0, .int .i64 0, .slice none 0 0], []⟩ 8 (by kernel_rfl) (by kernel_rfl) (by kernel_rfl) (by kernel_rfl)) ?_
  · have : Try.f3.params.toList.all (fun t => Try.prog.readableRec t && decide (t < Try.prog.types.size)) = true := by kernel_rfl
    intro t ht
    have := List.all_eq_true.1 this t ht
    rw [Bool.and_eq_true] at this
    exact ⟨this.1, of_decide_eq_true this.2⟩
  · exact ⟨3, _, rfl, Try.tyInt, 3, _, rfl, Try.tyInt, 22, _, rfl, Try.tyOps, rfl⟩
  · intro ds hd
    match ds, hd with
    | [d1, d2, d3], _ => rfl
  · rintro W args ⟨a, cs, _, hargs, ha, b, cs2, _, rfl, hb, c, cs3, _, rfl, hc, rfl⟩
    obtain ⟨rfl, ha⟩ := ha
    obtain ⟨rfl, hb⟩ := hb
    match cs3, Rep.len hc, hc with
    | [v], _, hc =>
      have e : args = #[.int .i64 a, .int .i64 b, v] := by
        apply Array.ext'
        simpa [Rep.box] using hargs
      rw [e]
      exact law_any a b c v W ha hb hc

theorem holds : Rows.RateLimitMatchesReferenceSaid :=
  OpenClaim.holds_of_wide 3 Try.f3 rfl rfl rfl rfl rfl rfl rfl ⟨rfl, rfl, rfl, rfl, rfl⟩ rfl rfl rfl rfl rfl (by kernel_rfl) Try.func3 (by kernel_rfl)
    (of_decide_eq_true (by kernel_rfl)) (by unfold Func.isWrapper; rw [if_neg (of_decide_eq_false (by kernel_rfl))]; exact ⟨rfl, rfl⟩)
    (fun os started H enc _ => law_lifted os started H enc)
end Go.Proofs.Ytbhmaafneibdjaa
