/- The types of the program's data, in Lean. -/
import Derived.Test.YtdiekinmoklonabDoorTy
import Derived.Test.YtdiekinmoklonabDoorA3
import Derived.Test.YtdiekinmoklonabDoorShelf
namespace Go.Proofs.YtdiekinmoklonabDoor
open Go.Ab Go.Rp
attribute [-simp] List.all_eq_true Array.all_toList Array.all_eq_true

structure S29 where
 Kind : Int
 Text : ByteArray
 Number : Int
 Offset : Int
def cS29 (x : S29) : List D := [.lit (.int .i64 x.Kind), .lit (.string x.Text), .lit (.int .i64 x.Number), .lit (.int .i64 x.Offset)]
@[simp] theorem all_cS29 (xs : List S29) : xs.all ((fun e => decide (e.length = 4)) ∘ cS29) = true := all_len (c := cS29) (fun _ => rfl) xs
@[simp] theorem cS29_def (x : S29) : cS29 x = [.lit (.int .i64 x.Kind), .lit (.string x.Text), .lit (.int .i64 x.Number), .lit (.int .i64 x.Offset)] := rfl
def beqS29 (x y : S29) : Bool := (x.Kind == y.Kind) && ((x.Text.toList == y.Text.toList) && ((x.Number == y.Number) && ((x.Offset == y.Offset) && (true))))
theorem beqS29_iff (x y : S29) : beqS29 x y = true ↔ x = y := by
 cases x; cases y; simp [beqS29]
theorem eqv29 (x y : S29) : ∀ (w : World), (Op.equalIn 10000 29 (.agg [.int .i64 x.Kind, .string x.Text, .int .i64 x.Number, .int .i64 x.Offset].toArray) (.agg [.int .i64 y.Kind, .string y.Text, .int .i64 y.Number, .int .i64 y.Offset].toArray)).run Tryd.prog w = .ok (beqS29 x y) w :=
 eqS_of (fs := [(Field.mk "Kind" 3 0 false "" "" 0), (Field.mk "Text" 9 1 false "" "" 8), (Field.mk "Number" 3 2 false "" "" 24), (Field.mk "Offset" 3 3 false "" "" 32)]) (by kernel_rfl) (by kernel_rfl) (by kernel_rfl) (eqF_cons (by decide) (part_lit ty3 rfl rfl) (part_lit ty3 rfl rfl) (fun w => run_equalIn_int w _ _ _ .i64 _ _ (by kernel_rfl)) (eqF_cons (by decide) (part_lit ty9 rfl rfl) (part_lit ty9 rfl rfl) (fun w => run_equalIn_string w _ _ _ _ (by kernel_rfl)) (eqF_cons (by decide) (part_lit ty3 rfl rfl) (part_lit ty3 rfl rfl) (fun w => run_equalIn_int w _ _ _ .i64 _ _ (by kernel_rfl)) (eqF_cons (by decide) (part_lit ty3 rfl rfl) (part_lit ty3 rfl rfl) (fun w => run_equalIn_int w _ _ _ .i64 _ _ (by kernel_rfl)) (eqF_nil)))))
/-- short names of the commonest terms -/
abbrev _root_.Go.Ab.V.i (n : Int) : V := .d (.lit (.int .i64 n))
abbrev _root_.Go.Ab.V.b (x : Bool) : V := .d (.lit (.bool x))
attribute [simp] V.i V.b
abbrev R9 (xs : List ByteArray) : Option Blk := some (.arr 9 1 (xs.map cS))
abbrev R29 (xs : List S29) : Option Blk := some (.arr 29 4 (xs.map cS29))
abbrev R5 (xs : List Int) : Option Blk := some (.arr 5 1 (xs.map (cI .u8)))
attribute [simp] R9 R29 R5
end Go.Proofs.YtdiekinmoklonabDoor
