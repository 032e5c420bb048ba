/- The types of the program's data, in Lean. -/
import Derived.Test.YtifcmomjjkbboaaTy
import Derived.Test.YtifcmomjjkbboaaA3
namespace Go.Proofs.Ytifcmomjjkbboaa
open Go.Ab Go.Rp
attribute [-simp] List.all_eq_true Array.all_toList Array.all_eq_true

structure S27 where
 Tx : Int
 Kind : Int
 Key : ByteArray
def cS27 (x : S27) : List D := [.lit (.int .i64 x.Tx), .lit (.int .i64 x.Kind), .lit (.string x.Key)]
@[simp] theorem all_cS27 (xs : List S27) : xs.all ((fun e => decide (e.length = 3)) ∘ cS27) = true := all_len (c := cS27) (fun _ => rfl) xs
@[simp] theorem cS27_def (x : S27) : cS27 x = [.lit (.int .i64 x.Tx), .lit (.int .i64 x.Kind), .lit (.string x.Key)] := rfl
structure S49 where
 txs : (List (List S27))
 schedules : (List (List S27))
def cS49 (x : S49) : List D := [.sl (x.txs.map (cL cS27)), .sl (x.schedules.map (cL cS27))]
@[simp] theorem all_cS49 (xs : List S49) : xs.all ((fun e => decide (e.length = 2)) ∘ cS49) = true := all_len (c := cS49) (fun _ => rfl) xs
@[simp] theorem cS49_def (x : S49) : cS49 x = [.sl (x.txs.map (cL cS27)), .sl (x.schedules.map (cL cS27))] := rfl
def beqS27 (x y : S27) : Bool := (x.Tx == y.Tx) && ((x.Kind == y.Kind) && ((x.Key.toList == y.Key.toList) && (true)))
theorem beqS27_iff (x y : S27) : beqS27 x y = true ↔ x = y := by
 cases x; cases y; simp [beqS27]
theorem eqv34 (x y : S27) : ∀ (w : World), (Op.equalIn 10000 34 (.agg [.int .i64 x.Tx, .int .i64 x.Kind, .string x.Key].toArray) (.agg [.int .i64 y.Tx, .int .i64 y.Kind, .string y.Key].toArray)).run Try.prog w = .ok (beqS27 x y) w :=
 eqS_of (fs := [(Field.mk "Tx" 3 0 false "" "" 0), (Field.mk "Kind" 3 1 false "" "" 8), (Field.mk "Key" 9 2 false "" "" 16)]) (by kernel_rfl) (by kernel_rfl) (by kernel_rfl) (eqF_cons (by decide) (part_lit ty3 rfl rfl) (part_lit ty3 rfl rfl) (fun w => run_equalIn_int w _ _ _ .i64 _ _ (by kernel_rfl)) (eqF_cons (by decide) (part_lit ty3 rfl rfl) (part_lit ty3 rfl rfl) (fun w => run_equalIn_int w _ _ _ .i64 _ _ (by kernel_rfl)) (eqF_cons (by decide) (part_lit ty9 rfl rfl) (part_lit ty9 rfl rfl) (fun w => run_equalIn_string w _ _ _ _ (by kernel_rfl)) (eqF_nil))))
/-- short names of the commonest terms -/
abbrev _root_.Go.Ab.V.i (n : Int) : V := .d (.lit (.int .i64 n))
abbrev _root_.Go.Ab.V.b (x : Bool) : V := .d (.lit (.bool x))
attribute [simp] V.i V.b
abbrev R27 (xs : List S27) : Option Blk := some (.arr 27 3 (xs.map cS27))
abbrev R4 (xs : List Bool) : Option Blk := some (.arr 4 1 (xs.map cB))
abbrev R3 (xs : List Int) : Option Blk := some (.arr 3 1 (xs.map (cI .i64)))
abbrev R28 (xs : List (List S27)) : Option Blk := some (.arr 28 1 (xs.map (cL cS27)))
abbrev R34 (xs : List S27) : Option Blk := some (.arr 34 3 (xs.map cS27))
attribute [simp] R27 R4 R3 R28 R34
end Go.Proofs.Ytifcmomjjkbboaa
