/- The types of the program's data, in Lean. -/
import Derived.Test.YtdiekinmoklonacTy
import Derived.Test.YtdiekinmoklonacA3
import Derived.Test.YtdiekinmoklonacShelf
import Derived.Test.YtdiekinmoklonacSvIns2
import Derived.Test.YtdiekinmoklonacSvMaps
namespace Go.Proofs.Ytdiekinmoklonac
open Go.Ab Go.Rp
attribute [-simp] List.all_eq_true Array.all_toList Array.all_eq_true

structure S30 where
 Key : ByteArray
 Value : Int
def cS30 (x : S30) : List D := [.lit (.string x.Key), .lit (.int .i64 x.Value)]
@[simp] theorem all_cS30 (xs : List S30) : xs.all ((fun e => decide (e.length = 2)) ∘ cS30) = true := all_len (c := cS30) (fun _ => rfl) xs
@[simp] theorem cS30_def (x : S30) : cS30 x = [.lit (.string x.Key), .lit (.int .i64 x.Value)] := rfl
structure S47 where
 entries : (List S30)
 savepoints : (List (List S30))
def cS47 (x : S47) : List D := [.sl (x.entries.map cS30), .sl (x.savepoints.map (cL cS30))]
@[simp] theorem all_cS47 (xs : List S47) : xs.all ((fun e => decide (e.length = 2)) ∘ cS47) = true := all_len (c := cS47) (fun _ => rfl) xs
@[simp] theorem cS47_def (x : S47) : cS47 x = [.sl (x.entries.map cS30), .sl (x.savepoints.map (cL cS30))] := rfl
def beqS30 (x y : S30) : Bool := (x.Key.toList == y.Key.toList) && ((x.Value == y.Value) && (true))
theorem beqS30_iff (x y : S30) : beqS30 x y = true ↔ x = y := by
 cases x; cases y; simp [beqS30]
theorem eqv30 (x y : S30) : ∀ (w : World), (Op.equalIn 10000 30 (.agg [.string x.Key, .int .i64 x.Value].toArray) (.agg [.string y.Key, .int .i64 y.Value].toArray)).run Try.prog w = .ok (beqS30 x y) w :=
 eqS_of (fs := [(Field.mk "Key" 9 0 false "" "" 0), (Field.mk "Value" 3 1 false "" "" 16)]) (by kernel_rfl) (by kernel_rfl) (by kernel_rfl) (eqF_cons (by decide) (part_lit ty9 rfl rfl) (part_lit ty9 rfl rfl) (fun w => run_equalIn_string w _ _ _ _ (by kernel_rfl)) (eqF_cons (by decide) (part_lit ty3 rfl rfl) (part_lit ty3 rfl rfl) (fun w => run_equalIn_int w _ _ _ .i64 _ _ (by kernel_rfl)) (eqF_nil)))
end Go.Proofs.Ytdiekinmoklonac
