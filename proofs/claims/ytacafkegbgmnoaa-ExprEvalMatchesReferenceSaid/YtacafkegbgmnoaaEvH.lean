/- ExprEvalMatchesReference holds: for every expression, row, variables and parameters the law returns true. No condition. -/
import Derived.Test.YtacafkegbgmnoaaEvQ
import Derived.Test.YtacafkegbgmnoaaRows
namespace Go.Proofs.Ytacafkegbgmnoaa
open Go.RowKit Go.Ab Go.Rp

theorem ownexpreval_holds : ownKnob Try.prog.godebug = none := by kernel_rfl
theorem laidOutexpreval_holds : laidOutB Try.prog = true := by kernel_rfl
theorem ty24expreval : Rep.Ty RVal Try.prog 24 := ⟨_, Try.underlying24, by kernel_rfl, of_decide_eq_true (by kernel_rfl), _, _, rfl, rfl, ⟨by kernel_rfl, by kernel_rfl, by kernel_rfl⟩, _, _, rfl, rfl, ⟨by kernel_rfl, by kernel_rfl, by kernel_rfl⟩, _, _, rfl, rfl, ⟨by kernel_rfl, by kernel_rfl, by kernel_rfl⟩, rfl⟩
theorem tyexpreval_holds_0 : Rep.Ty RExp Try.prog 27 :=
 ⟨#[Field.mk "Kind" 3 0 false "" "" 0, Field.mk "Name" 9 1 false "" "" 8, Field.mk "Index" 3 2 false "" "" 24, Field.mk "Value" 24 3 false "" "" 32, Field.mk "Args" 25 6 false "" "" 64],
  [Field.mk "Kind" 3 0 false "" "" 0, Field.mk "Name" 9 1 false "" "" 8, Field.mk "Index" 3 2 false "" "" 24, Field.mk "Value" 24 3 false "" "" 32], [], Field.mk "Args" 25 6 false "" "" 64,
  by kernel_rfl, by kernel_rfl, of_decide_eq_true (by kernel_rfl), rfl,
  ⟨_, _, rfl, rfl, ⟨by kernel_rfl, by kernel_rfl, by kernel_rfl⟩, _, _, rfl, rfl, ⟨by kernel_rfl, by kernel_rfl, by kernel_rfl⟩, _, _, rfl, rfl, ⟨by kernel_rfl, by kernel_rfl, by kernel_rfl⟩, _, _, rfl, rfl, ty24expreval, rfl⟩, rfl, by kernel_rfl, by kernel_rfl, rfl⟩
theorem tyexpreval_holds_1 : Rep.Ty (List RVal) Try.prog 35 := ⟨24, by kernel_rfl, by kernel_rfl, by kernel_rfl, ty24expreval, by decide⟩
theorem tyexpreval_holds_3 : Rep.Ty (List RVal) Try.prog 34 := ⟨24, by kernel_rfl, by kernel_rfl, by kernel_rfl, ty24expreval, by decide⟩

set_option maxRecDepth 100000 in
theorem liftedexpreval_holds (os : Os) (started : os.Started) (H : Type) (enc : TypeId × Value → H) :
  ReturnsInHanded {} Try.checked os 4 .any (Rows.exprEvalMatchesReferenceSpec.pre6 enc Try.prog Try.f4 [] false) (Rows.exprEvalMatchesReferenceSpec.post enc Try.prog Try.f4 false true false false) := by
 refine lifted (C := Try.checked) (tb := 4) (αs := [⟨RExp, inferInstance⟩, ⟨List RVal, inferInstance⟩, ⟨List RVal, inferInstance⟩, ⟨List RVal, inferInstance⟩]) ownexpreval_holds laidOutexpreval_holds started (by kernel_rfl) Try.func4 ?_ ?_ rfl (by kernel_rfl) rfl ?_
  (ChangeSpec.witness6 (enc := enc) (C := Try.checked) false ⟨#[], #[.agg #[.int .i64 0, .string ⟨#[]⟩, .int .i64 0, .int .i64 0, .int .i64 0, .string ⟨#[]⟩, .slice none 0 0], .slice none 0 0, .slice none 0 0, .slice none 0 0], []⟩ 8 (by kernel_rfl) (by kernel_rfl) (by kernel_rfl) (by kernel_rfl)) ?_
 ·have : Try.f4.params.toList.all (fun t => Try.prog.readableRec t && decide (t < Try.prog.types.size)) = true := by kernel_rfl
  intro t ht
  have := List.all_eq_true.1 this t ht
  rw [Bool.and_eq_true] at this
  exact ⟨this.1, of_decide_eq_true this.2⟩
 ·exact ⟨27, _, rfl, tyexpreval_holds_0, 35, _, rfl, tyexpreval_holds_1, 35, _, rfl, tyexpreval_holds_1, 34, _, rfl, tyexpreval_holds_3, rfl⟩
 ·intro ds hd
  match ds, hd with
  | [d0, d1, d2, d3], _ => rfl
 ·rintro W args ⟨a, csa, _, hargs, ha, b, csb, _, rfl, hb, c, csc, _, rfl, hc, d, csd, _, rfl, hd, rfl⟩
  refine calls_true (expreval_fun a b c d) ?_
  rw [hargs]
  exact ⟨_, _, rfl, Enc.soundV (E := oneE default (· < W.heap.size)) (fun _ hb => hb) ha, _, _, rfl, Enc.soundV (E := oneE default (· < W.heap.size)) (fun _ hb => hb) hb, _, _, rfl, Enc.soundV (E := oneE default (· < W.heap.size)) (fun _ hb => hb) hc, _, _, rfl, Enc.soundV (E := oneE default (· < W.heap.size)) (fun _ hb => hb) hd, rfl⟩

theorem expreval_holds : Rows.ExprEvalMatchesReferenceSaid :=
 OpenClaim.holds_of_wide 4 Try.f4 rfl rfl rfl rfl rfl rfl rfl ⟨rfl, rfl, rfl, rfl, rfl⟩ rfl rfl rfl rfl rfl (by kernel_rfl) Try.func4 (by kernel_rfl)
  (of_decide_eq_true (by kernel_rfl)) (by unfold Func.isWrapper; rw [if_neg (of_decide_eq_false (by kernel_rfl))]; exact ⟨rfl, rfl⟩)
  (fun os started H enc _ => liftedexpreval_holds os started H enc)
end Go.Proofs.Ytacafkegbgmnoaa
