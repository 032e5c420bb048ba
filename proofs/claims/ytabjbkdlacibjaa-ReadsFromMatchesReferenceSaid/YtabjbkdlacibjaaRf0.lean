/- The types of the program's data, in Lean. -/
import Derived.Test.YtabjbkdlacibjaaTy
namespace Go.Proofs.Ytabjbkdlacibjaa
open Go.Ab Go.Rp
attribute [-simp] List.all_eq_true Array.all_toList Array.all_eq_true

structure S27 where
  Tx : Int
  Kind : Int
  Key : ByteArray
def cS27 (x : S27) : List D := [.lit (.int .i64 x.Tx), .lit (.int .i64 x.Kind), .lit (.string x.Key)]
@[simp] theorem all_cS27 (xs : List S27) : xs.all ((fun e => decide (e.length = 3)) ∘ cS27) = true := all_len (c := cS27) (fun _ => rfl) xs
@[simp] theorem cS27_def (x : S27) : cS27 x = [.lit (.int .i64 x.Tx), .lit (.int .i64 x.Kind), .lit (.string x.Key)] := rfl
def beqS27 (x y : S27) : Bool := (x.Tx == y.Tx) && ((x.Kind == y.Kind) && ((x.Key.toList == y.Key.toList) && (true)))
theorem beqS27_iff (x y : S27) : beqS27 x y = true ↔ x = y := by
  cases x; cases y; simp [beqS27]
theorem eqv27 (x y : S27) : ∀ (w : World), (Op.equalIn 10000 27 (.agg [.int .i64 x.Tx, .int .i64 x.Kind, .string x.Key].toArray) (.agg [.int .i64 y.Tx, .int .i64 y.Kind, .string y.Key].toArray)).run Try.prog w = .ok (beqS27 x y) w :=
  eqS_of (fs := [(Field.mk "Tx" 3 0 false "" "" 0), (Field.mk "Kind" 3 1 false "" "" 8), (Field.mk "Key" 9 2 false "" "" 16)]) (by kernel_rfl) (by kernel_rfl) (by kernel_rfl) (eqF_cons (by decide) (part_lit ty3 rfl rfl) (part_lit ty3 rfl rfl) (fun w => run_equalIn_int w _ _ _ .i64 _ _ (by kernel_rfl)) (eqF_cons (by decide) (part_lit ty3 rfl rfl) (part_lit ty3 rfl rfl) (fun w => run_equalIn_int w _ _ _ .i64 _ _ (by kernel_rfl)) (eqF_cons (by decide) (part_lit ty9 rfl rfl) (part_lit ty9 rfl rfl) (fun w => run_equalIn_string w _ _ _ _ (by kernel_rfl)) (eqF_nil))))
end Go.Proofs.Ytabjbkdlacibjaa
