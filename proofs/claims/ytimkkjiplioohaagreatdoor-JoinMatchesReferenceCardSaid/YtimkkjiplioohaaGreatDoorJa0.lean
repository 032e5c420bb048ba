/- The types of the program's data, in Lean. -/
import Derived.Test.YtimkkjiplioohaaGreatDoorTy
namespace Go.Proofs.YtimkkjiplioohaaGreatDoor
open Go.Ab Go.Rp
attribute [-simp] List.all_eq_true Array.all_toList Array.all_eq_true

structure S61 where
 Kind : Int
 Int : Int
 Text : ByteArray
def cS61 (x : S61) : List D := [.lit (.int .i64 x.Kind), .lit (.int .i64 x.Int), .lit (.string x.Text)]
@[simp] theorem all_cS61 (xs : List S61) : xs.all ((fun e => decide (e.length = 3)) ∘ cS61) = true := all_len (c := cS61) (fun _ => rfl) xs
@[simp] theorem cS61_def (x : S61) : cS61 x = [.lit (.int .i64 x.Kind), .lit (.int .i64 x.Int), .lit (.string x.Text)] := rfl
structure S50 where
 Left : (List Int)
 Right : (List Int)
 Outer : Bool
 RightWidth : Int
def cS50 (x : S50) : List D := [.sl (x.Left.map (cI .i64)), .sl (x.Right.map (cI .i64)), .lit (.bool x.Outer), .lit (.int .i64 x.RightWidth)]
@[simp] theorem all_cS50 (xs : List S50) : xs.all ((fun e => decide (e.length = 4)) ∘ cS50) = true := all_len (c := cS50) (fun _ => rfl) xs
@[simp] theorem cS50_def (x : S50) : cS50 x = [.sl (x.Left.map (cI .i64)), .sl (x.Right.map (cI .i64)), .lit (.bool x.Outer), .lit (.int .i64 x.RightWidth)] := rfl
structure S136 where
 rows : (List (List S61))
 at_ : (List Int)
def cS136 (x : S136) : List D := [.sl (x.rows.map (cL cS61)), .sl (x.at_.map (cI .i64))]
@[simp] theorem all_cS136 (xs : List S136) : xs.all ((fun e => decide (e.length = 2)) ∘ cS136) = true := all_len (c := cS136) (fun _ => rfl) xs
@[simp] theorem cS136_def (x : S136) : cS136 x = [.sl (x.rows.map (cL cS61)), .sl (x.at_.map (cI .i64))] := rfl
def beqS61 (x y : S61) : Bool := (x.Kind == y.Kind) && ((x.Int == y.Int) && ((x.Text.toList == y.Text.toList) && (true)))
theorem beqS61_iff (x y : S61) : beqS61 x y = true ↔ x = y := by
 cases x; cases y; simp [beqS61]
theorem eqv61 (x y : S61) : ∀ (w : World), (Op.equalIn 10000 61 (.agg [.int .i64 x.Kind, .int .i64 x.Int, .string x.Text].toArray) (.agg [.int .i64 y.Kind, .int .i64 y.Int, .string y.Text].toArray)).run Tryz.prog w = .ok (beqS61 x y) w :=
 eqS_of (fs := [(Field.mk "Kind" 3 0 false "" "" 0), (Field.mk "Int" 3 1 false "" "" 8), (Field.mk "Text" 9 2 false "" "" 16)]) (by kernel_rfl) (by kernel_rfl) (by kernel_rfl) (eqF_cons (by decide) (part_lit ty3 rfl rfl) (part_lit ty3 rfl rfl) (fun w => run_equalIn_int w _ _ _ .i64 _ _ (by kernel_rfl)) (eqF_cons (by decide) (part_lit ty3 rfl rfl) (part_lit ty3 rfl rfl) (fun w => run_equalIn_int w _ _ _ .i64 _ _ (by kernel_rfl)) (eqF_cons (by decide) (part_lit ty9 rfl rfl) (part_lit ty9 rfl rfl) (fun w => run_equalIn_string w _ _ _ _ (by kernel_rfl)) (eqF_nil))))
/-- short names of the commonest terms -/
abbrev _root_.Go.Ab.V.i (n : Int) : V := .d (.lit (.int .i64 n))
abbrev _root_.Go.Ab.V.b (x : Bool) : V := .d (.lit (.bool x))
attribute [simp] V.i V.b
abbrev R136 (xs : List S136) : Option Blk := some (.arr 136 2 (xs.map cS136))
abbrev R61 (xs : List S61) : Option Blk := some (.arr 61 3 (xs.map cS61))
abbrev R57 (xs : List (List S61)) : Option Blk := some (.arr 57 1 (xs.map (cL cS61)))
abbrev R48 (xs : List (List (List S61))) : Option Blk := some (.arr 48 1 (xs.map (cL (cL cS61))))
attribute [simp] R136 R61 R57 R48
abbrev BX (a : S50) : Option Blk := some (.box [.d (.sl (a.Left.map (cI .i64))), .d (.sl (a.Right.map (cI .i64))), .b a.Outer, .i a.RightWidth])
attribute [simp] BX
end Go.Proofs.YtimkkjiplioohaaGreatDoor
