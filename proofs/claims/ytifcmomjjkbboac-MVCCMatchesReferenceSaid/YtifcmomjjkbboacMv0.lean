/- The types of the program's data, in Lean. -/
import Derived.Test.YtifcmomjjkbboacTy
import Derived.Test.YtifcmomjjkbboacA4
import Derived.Test.YtifcmomjjkbboacShelf
import Derived.Test.YtifcmomjjkbboacMvIns2
namespace Go.Proofs.Ytifcmomjjkbboac
open Go.Ab Go.Rp
attribute [-simp] List.all_eq_true Array.all_toList Array.all_eq_true

structure S53 where
 Kind : Int
 Int : Int
 Text : ByteArray
def cS53 (x : S53) : List D := [.lit (.int .i64 x.Kind), .lit (.int .i64 x.Int), .lit (.string x.Text)]
@[simp] theorem all_cS53 (xs : List S53) : xs.all ((fun e => decide (e.length = 3)) ∘ cS53) = true := all_len (c := cS53) (fun _ => rfl) xs
@[simp] theorem cS53_def (x : S53) : cS53 x = [.lit (.int .i64 x.Kind), .lit (.int .i64 x.Int), .lit (.string x.Text)] := rfl
structure S67 where
 timestamp : Int
 tombstone : Bool
 row : (List S53)
def cS67 (x : S67) : List D := [.lit (.int .i64 x.timestamp), .lit (.bool x.tombstone), .sl (x.row.map cS53)]
@[simp] theorem all_cS67 (xs : List S67) : xs.all ((fun e => decide (e.length = 3)) ∘ cS67) = true := all_len (c := cS67) (fun _ => rfl) xs
@[simp] theorem cS67_def (x : S67) : cS67 x = [.lit (.int .i64 x.timestamp), .lit (.bool x.tombstone), .sl (x.row.map cS53)] := rfl
structure S72 where
 key : ByteArray
 versions : (List S67)
def cS72 (x : S72) : List D := [.lit (.string x.key), .sl (x.versions.map cS67)]
@[simp] theorem all_cS72 (xs : List S72) : xs.all ((fun e => decide (e.length = 2)) ∘ cS72) = true := all_len (c := cS72) (fun _ => rfl) xs
@[simp] theorem cS72_def (x : S72) : cS72 x = [.lit (.string x.key), .sl (x.versions.map cS67)] := rfl
structure S63 where
 chains : (List S72)
 horizon : Int
def cS63 (x : S63) : List D := [.sl (x.chains.map cS72), .lit (.int .i64 x.horizon)]
@[simp] theorem all_cS63 (xs : List S63) : xs.all ((fun e => decide (e.length = 2)) ∘ cS63) = true := all_len (c := cS63) (fun _ => rfl) xs
@[simp] theorem cS63_def (x : S63) : cS63 x = [.sl (x.chains.map cS72), .lit (.int .i64 x.horizon)] := rfl
structure S43 where
 Key : ByteArray
 Timestamp : Int
 Tombstone : Bool
 Row : (List S53)
def cS43 (x : S43) : List D := [.lit (.string x.Key), .lit (.int .i64 x.Timestamp), .lit (.bool x.Tombstone), .sl (x.Row.map cS53)]
@[simp] theorem all_cS43 (xs : List S43) : xs.all ((fun e => decide (e.length = 4)) ∘ cS43) = true := all_len (c := cS43) (fun _ => rfl) xs
@[simp] theorem cS43_def (x : S43) : cS43 x = [.lit (.string x.Key), .lit (.int .i64 x.Timestamp), .lit (.bool x.Tombstone), .sl (x.Row.map cS53)] := rfl
structure S36 where
 Versions : (List S43)
 Horizon : Int
def cS36 (x : S36) : List D := [.sl (x.Versions.map cS43), .lit (.int .i64 x.Horizon)]
@[simp] theorem all_cS36 (xs : List S36) : xs.all ((fun e => decide (e.length = 2)) ∘ cS36) = true := all_len (c := cS36) (fun _ => rfl) xs
@[simp] theorem cS36_def (x : S36) : cS36 x = [.sl (x.Versions.map cS43), .lit (.int .i64 x.Horizon)] := rfl
structure S79 where
 Key : ByteArray
 Row : (List S53)
def cS79 (x : S79) : List D := [.lit (.string x.Key), .sl (x.Row.map cS53)]
@[simp] theorem all_cS79 (xs : List S79) : xs.all ((fun e => decide (e.length = 2)) ∘ cS79) = true := all_len (c := cS79) (fun _ => rfl) xs
@[simp] theorem cS79_def (x : S79) : cS79 x = [.lit (.string x.Key), .sl (x.Row.map cS53)] := rfl
def beqS53 (x y : S53) : Bool := (x.Kind == y.Kind) && ((x.Int == y.Int) && ((x.Text.toList == y.Text.toList) && (true)))
theorem beqS53_iff (x y : S53) : beqS53 x y = true ↔ x = y := by
 cases x; cases y; simp [beqS53]
theorem eqv53 (x y : S53) : ∀ (w : World), (Op.equalIn 10000 53 (.agg [.int .i64 x.Kind, .int .i64 x.Int, .string x.Text].toArray) (.agg [.int .i64 y.Kind, .int .i64 y.Int, .string y.Text].toArray)).run Try.prog w = .ok (beqS53 x y) w :=
 eqS_of (fs := [(Field.mk "Kind" 3 0 false "" "" 0), (Field.mk "Int" 3 1 false "" "" 8), (Field.mk "Text" 9 2 false "" "" 16)]) (by kernel_rfl) (by kernel_rfl) (by kernel_rfl) (eqF_cons (by decide) (part_lit ty3 rfl rfl) (part_lit ty3 rfl rfl) (fun w => run_equalIn_int w _ _ _ .i64 _ _ (by kernel_rfl)) (eqF_cons (by decide) (part_lit ty3 rfl rfl) (part_lit ty3 rfl rfl) (fun w => run_equalIn_int w _ _ _ .i64 _ _ (by kernel_rfl)) (eqF_cons (by decide) (part_lit ty9 rfl rfl) (part_lit ty9 rfl rfl) (fun w => run_equalIn_string w _ _ _ _ (by kernel_rfl)) (eqF_nil))))
/-- short names of the commonest terms -/
abbrev _root_.Go.Ab.V.i (n : Int) : V := .d (.lit (.int .i64 n))
abbrev _root_.Go.Ab.V.b (x : Bool) : V := .d (.lit (.bool x))
attribute [simp] V.i V.b
abbrev R53 (xs : List S53) : Option Blk := some (.arr 53 3 (xs.map cS53))
abbrev R67 (xs : List S67) : Option Blk := some (.arr 67 3 (xs.map cS67))
abbrev R43 (xs : List S43) : Option Blk := some (.arr 43 4 (xs.map cS43))
abbrev R9 (xs : List ByteArray) : Option Blk := some (.arr 9 1 (xs.map cS))
abbrev R79 (xs : List S79) : Option Blk := some (.arr 79 2 (xs.map cS79))
attribute [simp] R53 R67 R43 R9 R79
end Go.Proofs.Ytifcmomjjkbboac
