/- The types of the program's data, in Lean. -/
import Derived.Test.YtmgddgcniacnbaaGreatDoorTy
namespace Go.Proofs.YtmgddgcniacnbaaGreatDoor
open Go.Ab Go.Rp
attribute [-simp] List.all_eq_true Array.all_toList Array.all_eq_true

structure S58 where
 Kind : Int
 Int : Int
 Text : ByteArray
def cS58 (x : S58) : List D := [.lit (.int .i64 x.Kind), .lit (.int .i64 x.Int), .lit (.string x.Text)]
@[simp] theorem all_cS58 (xs : List S58) : xs.all ((fun e => decide (e.length = 3)) ∘ cS58) = true := all_len (c := cS58) (fun _ => rfl) xs
@[simp] theorem cS58_def (x : S58) : cS58 x = [.lit (.int .i64 x.Kind), .lit (.int .i64 x.Int), .lit (.string x.Text)] := rfl
structure S76 where
 Kind : Int
 Name : ByteArray
 Index : Int
 Value : S58
 Args : (List S76)
mutual
def cS76 : S76 → List D
 | ⟨f0, f1, f2, f3, f4⟩ => [.lit (.int .i64 f0), .lit (.string f1), .lit (.int .i64 f2), .lit (.int .i64 f3.Kind), .lit (.int .i64 f3.Int), .lit (.string f3.Text), .sl (cS76L f4)]
def cS76L : List S76 → List (List D)
 | [] => []
 | x :: xs => cS76 x :: cS76L xs
end
theorem cS76L_eq (xs : List S76) : cS76L xs = xs.map cS76 := by
 induction xs with
 | nil => simp [cS76L]
 | cons x xs ih => simp [cS76L, ih]
@[simp] theorem cS76_def (x : S76) : cS76 x = [.lit (.int .i64 x.Kind), .lit (.string x.Name), .lit (.int .i64 x.Index), .lit (.int .i64 x.Value.Kind), .lit (.int .i64 x.Value.Int), .lit (.string x.Value.Text), .sl (x.Args.map cS76)] := by
 cases x; simp [cS76, cS76L_eq]
@[simp] theorem all_cS76 (xs : List S76) : xs.all ((fun e => decide (e.length = 7)) ∘ cS76) = true := all_len (c := cS76) (fun x => by rw [cS76_def]; rfl) xs
structure S79 where
 Name : ByteArray
 Function : ByteArray
 Args : (List S76)
def cS79 (x : S79) : List D := [.lit (.string x.Name), .lit (.string x.Function), .sl (x.Args.map cS76)]
@[simp] theorem all_cS79 (xs : List S79) : xs.all ((fun e => decide (e.length = 3)) ∘ cS79) = true := all_len (c := cS79) (fun _ => rfl) xs
@[simp] theorem cS79_def (x : S79) : cS79 x = [.lit (.string x.Name), .lit (.string x.Function), .sl (x.Args.map cS76)] := rfl
structure S34 where
 Kind : Int
 Table : ByteArray
 Names : (List ByteArray)
 Exprs : (List S76)
 Aggregates : (List S79)
 Descending : (List Bool)
 Count : Int
 Offset : Int
 Inputs : (List S34)
mutual
def cS34 : S34 → List D
 | ⟨f0, f1, f2, f3, f4, f5, f6, f7, f8⟩ => [.lit (.int .i64 f0), .lit (.string f1), .sl (f2.map cS), .sl (f3.map cS76), .sl (f4.map cS79), .sl (f5.map cB), .lit (.int .i64 f6), .lit (.int .i64 f7), .sl (cS34L f8)]
def cS34L : List S34 → List (List D)
 | [] => []
 | x :: xs => cS34 x :: cS34L xs
end
theorem cS34L_eq (xs : List S34) : cS34L xs = xs.map cS34 := by
 induction xs with
 | nil => simp [cS34L]
 | cons x xs ih => simp [cS34L, ih]
@[simp] theorem cS34_def (x : S34) : cS34 x = [.lit (.int .i64 x.Kind), .lit (.string x.Table), .sl (x.Names.map cS), .sl (x.Exprs.map cS76), .sl (x.Aggregates.map cS79), .sl (x.Descending.map cB), .lit (.int .i64 x.Count), .lit (.int .i64 x.Offset), .sl (x.Inputs.map cS34)] := by
 cases x; simp [cS34, cS34L_eq]
@[simp] theorem all_cS34 (xs : List S34) : xs.all ((fun e => decide (e.length = 9)) ∘ cS34) = true := all_len (c := cS34) (fun x => by rw [cS34_def]; rfl) xs
structure S53 where
 Name : ByteArray
 Kind : Int
 Nullable : Bool
def cS53 (x : S53) : List D := [.lit (.string x.Name), .lit (.int .i64 x.Kind), .lit (.bool x.Nullable)]
@[simp] theorem all_cS53 (xs : List S53) : xs.all ((fun e => decide (e.length = 3)) ∘ cS53) = true := all_len (c := cS53) (fun _ => rfl) xs
@[simp] theorem cS53_def (x : S53) : cS53 x = [.lit (.string x.Name), .lit (.int .i64 x.Kind), .lit (.bool x.Nullable)] := rfl
structure S56 where
 Name : ByteArray
 Columns : (List S53)
 PrimaryKey : (List Int)
def cS56 (x : S56) : List D := [.lit (.string x.Name), .sl (x.Columns.map cS53), .sl (x.PrimaryKey.map (cI .i64))]
@[simp] theorem all_cS56 (xs : List S56) : xs.all ((fun e => decide (e.length = 3)) ∘ cS56) = true := all_len (c := cS56) (fun _ => rfl) xs
@[simp] theorem cS56_def (x : S56) : cS56 x = [.lit (.string x.Name), .sl (x.Columns.map cS53), .sl (x.PrimaryKey.map (cI .i64))] := rfl
structure S82 where
 Table : ByteArray
 Columns : (List Int)
 RefTable : ByteArray
def cS82 (x : S82) : List D := [.lit (.string x.Table), .sl (x.Columns.map (cI .i64)), .lit (.string x.RefTable)]
@[simp] theorem all_cS82 (xs : List S82) : xs.all ((fun e => decide (e.length = 3)) ∘ cS82) = true := all_len (c := cS82) (fun _ => rfl) xs
@[simp] theorem cS82_def (x : S82) : cS82 x = [.lit (.string x.Table), .sl (x.Columns.map (cI .i64)), .lit (.string x.RefTable)] := rfl
structure S88 where
 Table : ByteArray
 Left : Int
 Op : ByteArray
 Right : Int
 Value : S58
def cS88 (x : S88) : List D := [.lit (.string x.Table), .lit (.int .i64 x.Left), .lit (.string x.Op), .lit (.int .i64 x.Right), .lit (.int .i64 x.Value.Kind), .lit (.int .i64 x.Value.Int), .lit (.string x.Value.Text)]
@[simp] theorem all_cS88 (xs : List S88) : xs.all ((fun e => decide (e.length = 7)) ∘ cS88) = true := all_len (c := cS88) (fun _ => rfl) xs
@[simp] theorem cS88_def (x : S88) : cS88 x = [.lit (.string x.Table), .lit (.int .i64 x.Left), .lit (.string x.Op), .lit (.int .i64 x.Right), .lit (.int .i64 x.Value.Kind), .lit (.int .i64 x.Value.Int), .lit (.string x.Value.Text)] := rfl
structure S26 where
 Tables : (List S56)
 ForeignKeys : (List S82)
 Constraints : (List S88)
def cS26 (x : S26) : List D := [.sl (x.Tables.map cS56), .sl (x.ForeignKeys.map cS82), .sl (x.Constraints.map cS88)]
@[simp] theorem all_cS26 (xs : List S26) : xs.all ((fun e => decide (e.length = 3)) ∘ cS26) = true := all_len (c := cS26) (fun _ => rfl) xs
@[simp] theorem cS26_def (x : S26) : cS26 x = [.sl (x.Tables.map cS56), .sl (x.ForeignKeys.map cS82), .sl (x.Constraints.map cS88)] := rfl
structure S41 where
 Table : ByteArray
 Rows : Int
def cS41 (x : S41) : List D := [.lit (.string x.Table), .lit (.int .i64 x.Rows)]
@[simp] theorem all_cS41 (xs : List S41) : xs.all ((fun e => decide (e.length = 2)) ∘ cS41) = true := all_len (c := cS41) (fun _ => rfl) xs
@[simp] theorem cS41_def (x : S41) : cS41 x = [.lit (.string x.Table), .lit (.int .i64 x.Rows)] := rfl
structure S122 where
 s : S26
 vars : (List S53)
def cS122 (x : S122) : List D := [.sl (x.s.Tables.map cS56), .sl (x.s.ForeignKeys.map cS82), .sl (x.s.Constraints.map cS88), .sl (x.vars.map cS53)]
@[simp] theorem all_cS122 (xs : List S122) : xs.all ((fun e => decide (e.length = 4)) ∘ cS122) = true := all_len (c := cS122) (fun _ => rfl) xs
@[simp] theorem cS122_def (x : S122) : cS122 x = [.sl (x.s.Tables.map cS56), .sl (x.s.ForeignKeys.map cS82), .sl (x.s.Constraints.map cS88), .sl (x.vars.map cS53)] := rfl
structure S49 where
 Low : Int
 High : Int
def cS49 (x : S49) : List D := [.lit (.int .i64 x.Low), .lit (.int .i64 x.High)]
@[simp] theorem all_cS49 (xs : List S49) : xs.all ((fun e => decide (e.length = 2)) ∘ cS49) = true := all_len (c := cS49) (fun _ => rfl) xs
@[simp] theorem cS49_def (x : S49) : cS49 x = [.lit (.int .i64 x.Low), .lit (.int .i64 x.High)] := rfl
def beqS58 (x y : S58) : Bool := (x.Kind == y.Kind) && ((x.Int == y.Int) && ((x.Text.toList == y.Text.toList) && (true)))
theorem beqS58_iff (x y : S58) : beqS58 x y = true ↔ x = y := by
 cases x; cases y; simp [beqS58]
theorem eqn58 (d : Nat) (x y : S58) : ∀ (w : World), (Op.equalIn (d + 2) 58 (.agg [.int .i64 x.Kind, .int .i64 x.Int, .string x.Text].toArray) (.agg [.int .i64 y.Kind, .int .i64 y.Int, .string y.Text].toArray)).run Tryz.prog w = .ok (beqS58 x y) w :=
 eqS_of (fs := [(Field.mk "Kind" 3 0 false "" "" 0), (Field.mk "Int" 3 1 false "" "" 8), (Field.mk "Text" 9 2 false "" "" 16)]) (by kernel_rfl) (by kernel_rfl) (by kernel_rfl) (eqF_cons (by decide) (part_lit ty3 rfl rfl) (part_lit ty3 rfl rfl) (fun w => run_equalIn_int w _ _ _ .i64 _ _ (by kernel_rfl)) (eqF_cons (by decide) (part_lit ty3 rfl rfl) (part_lit ty3 rfl rfl) (fun w => run_equalIn_int w _ _ _ .i64 _ _ (by kernel_rfl)) (eqF_cons (by decide) (part_lit ty9 rfl rfl) (part_lit ty9 rfl rfl) (fun w => run_equalIn_string w _ _ _ _ (by kernel_rfl)) (eqF_nil))))
theorem eqv58 (x y : S58) : ∀ (w : World), (Op.equalIn 10000 58 (.agg [.int .i64 x.Kind, .int .i64 x.Int, .string x.Text].toArray) (.agg [.int .i64 y.Kind, .int .i64 y.Int, .string y.Text].toArray)).run Tryz.prog w = .ok (beqS58 x y) w := eqn58 _ x y
def beqS88 (x y : S88) : Bool := (x.Table.toList == y.Table.toList) && ((x.Left == y.Left) && ((x.Op.toList == y.Op.toList) && ((x.Right == y.Right) && (beqS58 x.Value y.Value && (true)))))
theorem beqS88_iff (x y : S88) : beqS88 x y = true ↔ x = y := by
 cases x; cases y; simp [beqS88, beqS58_iff]
theorem eqn88 (d : Nat) (x y : S88) : ∀ (w : World), (Op.equalIn (d + 3) 88 (.agg [.string x.Table, .int .i64 x.Left, .string x.Op, .int .i64 x.Right, .int .i64 x.Value.Kind, .int .i64 x.Value.Int, .string x.Value.Text].toArray) (.agg [.string y.Table, .int .i64 y.Left, .string y.Op, .int .i64 y.Right, .int .i64 y.Value.Kind, .int .i64 y.Value.Int, .string y.Value.Text].toArray)).run Tryz.prog w = .ok (beqS88 x y) w :=
 eqS_of (fs := [(Field.mk "Table" 9 0 false "" "" 0), (Field.mk "Left" 3 1 false "" "" 16), (Field.mk "Op" 9 2 false "" "" 24), (Field.mk "Right" 3 3 false "" "" 40), (Field.mk "Value" 58 4 false "" "" 48)]) (by kernel_rfl) (by kernel_rfl) (by kernel_rfl) (eqF_cons (by decide) (part_lit ty9 rfl rfl) (part_lit ty9 rfl rfl) (fun w => run_equalIn_string w _ _ _ _ (by kernel_rfl)) (eqF_cons (by decide) (part_lit ty3 rfl rfl) (part_lit ty3 rfl rfl) (fun w => run_equalIn_int w _ _ _ .i64 _ _ (by kernel_rfl)) (eqF_cons (by decide) (part_lit ty9 rfl rfl) (part_lit ty9 rfl rfl) (fun w => run_equalIn_string w _ _ _ _ (by kernel_rfl)) (eqF_cons (by decide) (part_lit ty3 rfl rfl) (part_lit ty3 rfl rfl) (fun w => run_equalIn_int w _ _ _ .i64 _ _ (by kernel_rfl)) (eqF_cons (by decide) (part_agg ty58 rfl rfl) (part_agg ty58 rfl rfl) (fun w => eqn58 _ x.Value y.Value w) (eqF_nil))))))
theorem eqv88 (x y : S88) : ∀ (w : World), (Op.equalIn 10000 88 (.agg [.string x.Table, .int .i64 x.Left, .string x.Op, .int .i64 x.Right, .int .i64 x.Value.Kind, .int .i64 x.Value.Int, .string x.Value.Text].toArray) (.agg [.string y.Table, .int .i64 y.Left, .string y.Op, .int .i64 y.Right, .int .i64 y.Value.Kind, .int .i64 y.Value.Int, .string y.Value.Text].toArray)).run Tryz.prog w = .ok (beqS88 x y) w := eqn88 _ x y
def beqS49 (x y : S49) : Bool := (x.Low == y.Low) && ((x.High == y.High) && (true))
theorem beqS49_iff (x y : S49) : beqS49 x y = true ↔ x = y := by
 cases x; cases y; simp [beqS49]
theorem eqn49 (d : Nat) (x y : S49) : ∀ (w : World), (Op.equalIn (d + 2) 49 (.agg [.int .i64 x.Low, .int .i64 x.High].toArray) (.agg [.int .i64 y.Low, .int .i64 y.High].toArray)).run Tryz.prog w = .ok (beqS49 x y) w :=
 eqS_of (fs := [(Field.mk "Low" 3 0 false "" "" 0), (Field.mk "High" 3 1 false "" "" 8)]) (by kernel_rfl) (by kernel_rfl) (by kernel_rfl) (eqF_cons (by decide) (part_lit ty3 rfl rfl) (part_lit ty3 rfl rfl) (fun w => run_equalIn_int w _ _ _ .i64 _ _ (by kernel_rfl)) (eqF_cons (by decide) (part_lit ty3 rfl rfl) (part_lit ty3 rfl rfl) (fun w => run_equalIn_int w _ _ _ .i64 _ _ (by kernel_rfl)) (eqF_nil)))
theorem eqv49 (x y : S49) : ∀ (w : World), (Op.equalIn 10000 49 (.agg [.int .i64 x.Low, .int .i64 x.High].toArray) (.agg [.int .i64 y.Low, .int .i64 y.High].toArray)).run Tryz.prog w = .ok (beqS49 x y) w := eqn49 _ x y
/-- short names of the commonest terms -/
abbrev _root_.Go.Ab.V.i (n : Int) : V := .d (.lit (.int .i64 n))
abbrev _root_.Go.Ab.V.b (x : Bool) : V := .d (.lit (.bool x))
attribute [simp] V.i V.b
abbrev R34 (xs : List S34) : Option Blk := some (.arr 34 9 (xs.map cS34))
abbrev R3 (xs : List Int) : Option Blk := some (.arr 3 1 (xs.map (cI .i64)))
abbrev R53 (xs : List S53) : Option Blk := some (.arr 53 3 (xs.map cS53))
abbrev R9 (xs : List ByteArray) : Option Blk := some (.arr 9 1 (xs.map cS))
abbrev R43 (xs : List (List S53)) : Option Blk := some (.arr 43 1 (xs.map (cL cS53)))
abbrev R76 (xs : List S76) : Option Blk := some (.arr 76 7 (xs.map cS76))
abbrev R49 (xs : List S49) : Option Blk := some (.arr 49 2 (xs.map cS49))
attribute [simp] R34 R3 R53 R9 R43 R76 R49
abbrev _root_.Go.Ab.V.fg (g : FuncId) (cs : List D) : V := .fn (.func g) (cs.map .d)
abbrev _root_.Go.Ab.V.ls53 (xs : List (List S53)) : V := .d (.sl (xs.map (cL cS53)))
abbrev _root_.Go.Ab.V.s (x : ByteArray) : V := .d (.lit (.string x))
abbrev _root_.Go.Ab.V.s34 (xs : List S34) : V := .d (.sl (xs.map cS34))
abbrev _root_.Go.Ab.V.s41 (xs : List S41) : V := .d (.sl (xs.map cS41))
abbrev _root_.Go.Ab.V.s49 (xs : List S49) : V := .d (.sl (xs.map cS49))
abbrev _root_.Go.Ab.V.s53 (xs : List S53) : V := .d (.sl (xs.map cS53))
abbrev _root_.Go.Ab.V.s56 (xs : List S56) : V := .d (.sl (xs.map cS56))
abbrev _root_.Go.Ab.V.s76 (xs : List S76) : V := .d (.sl (xs.map cS76))
abbrev _root_.Go.Ab.V.s79 (xs : List S79) : V := .d (.sl (xs.map cS79))
abbrev _root_.Go.Ab.V.s82 (xs : List S82) : V := .d (.sl (xs.map cS82))
abbrev _root_.Go.Ab.V.s88 (xs : List S88) : V := .d (.sl (xs.map cS88))
abbrev _root_.Go.Ab.V.sb (xs : List Bool) : V := .d (.sl (xs.map cB))
abbrev _root_.Go.Ab.V.si (xs : List Int) : V := .d (.sl (xs.map (cI .i64)))
abbrev _root_.Go.Ab.V.ss (xs : List ByteArray) : V := .d (.sl (xs.map cS))
abbrev _root_.Go.Ab.V.z : V := .d (.lit (.slice none 0 0))
attribute [simp] V.fg V.ls53 V.s V.s34 V.s41 V.s49 V.s53 V.s56 V.s76 V.s79 V.s82 V.s88 V.sb V.si V.ss V.z
/-- short names of the commonest heaps -/
@[simp] abbrev k58 (x : S58) : List V := [.i x.Kind,.i x.Int,.s x.Text]
@[simp] abbrev k76 (x : S76) : List V := [.i x.Kind,.s x.Name,.i x.Index,.i x.Value.Kind,.i x.Value.Int,.s x.Value.Text,.s76 x.Args]
@[simp] abbrev k79 (x : S79) : List V := [.s x.Name,.s x.Function,.s76 x.Args]
@[simp] abbrev k34 (x : S34) : List V := [.i x.Kind,.s x.Table,.ss x.Names,.s76 x.Exprs,.s79 x.Aggregates,.sb x.Descending,.i x.Count,.i x.Offset,.s34 x.Inputs]
@[simp] abbrev k53 (x : S53) : List V := [.s x.Name,.i x.Kind,.b x.Nullable]
@[simp] abbrev k56 (x : S56) : List V := [.s x.Name,.s53 x.Columns,.si x.PrimaryKey]
@[simp] abbrev k82 (x : S82) : List V := [.s x.Table,.si x.Columns,.s x.RefTable]
@[simp] abbrev k88 (x : S88) : List V := [.s x.Table,.i x.Left,.s x.Op,.i x.Right,.i x.Value.Kind,.i x.Value.Int,.s x.Value.Text]
@[simp] abbrev k26 (x : S26) : List V := [.s56 x.Tables,.s82 x.ForeignKeys,.s88 x.Constraints]
@[simp] abbrev k122 (x : S122) : List V := [.s56 x.s.Tables,.s82 x.s.ForeignKeys,.s88 x.s.Constraints,.s53 x.vars]
abbrev HL : Type := List (Nat × Option Blk)
abbrev SL : Type := List (Nat × V)
abbrev H1 (y0 : S76) : HL := [(5, some (.box (k76 y0)))]
abbrev H2 (y0 : S34) : HL := [(1, some (.box (k34 y0)))]
abbrev H3 (y0 : S58) : HL := [(1, some (.box (k58 y0)))]
abbrev H4 (y0 : S26) (y1 : S34) : HL := [(3, some (.box (k26 y0))), (5, some (.box (k34 y1)))]
abbrev H5 (y0 : S88) : HL := [(3, some (.box (k88 y0)))]
abbrev H6 (y0 : S56) : HL := [(1, some (.box (k56 y0)))]
abbrev H7 (y0 : S34) : HL := [(2, some (.box (k34 y0)))]
abbrev H8 (y0 : S26) : HL := [(1, some (.box (k26 y0)))]
abbrev H9 (y0 : S122) (y1 : S34) : HL := [(3, some (.box (k122 y0))), (4, some (.box (k34 y1)))]
abbrev H10 (y0 : S76) (y1 : S56) : HL := [(5, some (.box (k76 y0))), (8, some (.box (k56 y1)))]
abbrev H11 (y0 : S76) : HL := [(2, some (.box (k76 y0)))]
abbrev H12 (y0 : S122) (y1 : S79) : HL := [(3, some (.box (k122 y0))), (5, some (.box (k79 y1)))]
abbrev H13 (y0 : S56) (y1 : S76) : HL := [(3, some (.box (k56 y0))), (5, some (.box (k76 y1)))]
abbrev H14 (y0 : S56) (y1 : S76) (y2 : List S76) : HL := [(3, some (.box (k56 y0))), (7, some (.box [.fn (.func 115) [.ptr 3 0 0]])), (10, some (.box (k76 y1))), (16, R76 y2)]
abbrev H15 (y0 : S58) (y1 : S58) : HL := [(3, some (.box (k58 y0))), (5, some (.box (k58 y1)))]
abbrev H16 (y0 : S79) : HL := [(5, some (.box (k79 y0)))]
abbrev H17 (y0 : S26) (y1 : S82) : HL := [(2, some (.box (k26 y0))), (3, some (.box (k82 y1)))]
abbrev H18 (y0 : S76) : HL := [(1, some (.box (k76 y0)))]
abbrev H19 (y0 : S56) (y1 : S53) : HL := [(1, some (.box (k56 y0))), (4, some (.box (k53 y1)))]
abbrev H20 (y0 : S56) (y1 : S56) : HL := [(9, some (.box (k56 y0))), (10, some (.box (k56 y1)))]
abbrev H21 (y0 : S26) (y1 : Int) (y2 : ByteArray) (y3 : List ByteArray) (y4 : List S76) (y5 : List S79) (y6 : List Bool) (y7 : Int) (y8 : Int) (y9 : List S34) (y10 : S76) : HL := [(3, some (.box (k26 y0))), (4, some (.box [.i y1, .s y2, .ss y3, .s76 y4, .s79 y5, .sb y6, .i y7, .i y8, .s34 y9])), (5, some (.box (k76 y10)))]
abbrev H22 (y0 : S76) : HL := [(3, some (.box (k76 y0))), (6, some (.box [.i 0, .s (ByteArray.mk #[]), .i 0, .i 0, .i 0, .s (ByteArray.mk #[]), .z]))]
abbrev H23 (y0 : S26) (y1 : S34) (y2 : List S49) : HL := [(3, some (.box (k26 y0))), (5, some (.box (k34 y1))), (6, some (.box [.i 0, .i 0])), (26, R49 y2)]
abbrev H24 (y0 : S122) (y1 : S34) (y2 : List S53) : HL := [(3, some (.box (k122 y0))), (4, some (.box (k34 y1))), (60, R53 y2)]
abbrev H25 (y0 : S56) (y1 : S76) (y2 : S76) (y3 : List S76) : HL := [(3, some (.box (k56 y0))), (7, some (.box [.fn (.func 115) [.ptr 3 0 0]])), (10, some (.box (k76 y1))), (12, some (.box (k76 y2))), (16, R76 y3)]
abbrev H26 (y0 : S122) : HL := [(3, some (.box (k122 y0)))]
abbrev H27 (y0 : S56) (y1 : S76) (y2 : S76) : HL := [(3, some (.box (k56 y0))), (5, some (.box (k76 y1))), (9, some (.box (k76 y2)))]
abbrev H28 (y0 : S82) (y1 : S82) : HL := [(2, some (.box (k82 y0))), (3, some (.box (k82 y1)))]
abbrev H29 (y0 : S58) (y1 : S58) : HL := [(2, some (.box (k58 y0))), (3, some (.box (k58 y1)))]
abbrev H30 (y0 : S26) (y1 : S56) : HL := [(1, some (.box (k26 y0))), (4, some (.box (k56 y1)))]
abbrev H31 (y0 : S76) (y1 : List Int) : HL := [(5, some (.box (k76 y0))), (12, some (.box [.ref 73 0 y1.length])), (73, R3 y1)]
abbrev H32 (y0 : S56) (y1 : S76) (y2 : S76) (y3 : S76) : HL := [(3, some (.box (k56 y0))), (5, some (.box (k76 y1))), (8, some (.box (k76 y2))), (9, some (.box (k76 y3)))]
abbrev H33 (y0 : Int) (y1 : ByteArray) (y2 : List ByteArray) (y3 : List S76) (y4 : List S79) (y5 : List Bool) (y6 : Int) (y7 : Int) (y8 : List S34) (y9 : S76) (y10 : S56) : HL := [(4, some (.box [.i y0, .s y1, .ss y2, .s76 y3, .s79 y4, .sb y5, .i y6, .i y7, .s34 y8])), (5, some (.box (k76 y9))), (8, some (.box (k56 y10)))]
abbrev H34 (y0 : S34) (y1 : List Int) : HL := [(1, some (.box (k34 y0))), (5, R3 y1)]
abbrev H35 (y0 : Int) (y1 : ByteArray) (y2 : List ByteArray) (y3 : List S76) (y4 : List S79) (y5 : List Bool) (y6 : Int) (y7 : Int) (y8 : List S34) (y9 : S76) : HL := [(4, some (.box [.i y0, .s y1, .ss y2, .s76 y3, .s79 y4, .sb y5, .i y6, .i y7, .s34 y8])), (5, some (.box (k76 y9)))]
abbrev H36 (y0 : S26) (y1 : S82) : HL := [(1, some (.box (k26 y0))), (7, some (.box (k82 y1)))]
abbrev H37 (y0 : S122) (y1 : S34) (y2 : List (List S53)) : HL := [(2, some (.box (k122 y0))), (3, some (.box (k34 y1))), (37, R43 y2)]
abbrev H38 (y0 : S56) (y1 : List S76) : HL := [(3, some (.box (k56 y0))), (7, some (.box [.fn (.func 115) [.ptr 3 0 0]])), (16, R76 y1)]
abbrev H39 (y0 : S122) (y1 : S34) (y2 : List S53) : HL := [(3, some (.box (k122 y0))), (4, some (.box (k34 y1))), (56, R53 y2)]
abbrev H40 (y0 : S122) (y1 : S34) : HL := [(2, some (.box (k122 y0))), (3, some (.box (k34 y1)))]
abbrev H41 (y0 : S26) (y1 : S34) (y2 : Int) : HL := [(3, some (.box (k26 y0))), (4, some (.box (k34 y1))), (6, some (.box [.i 0, .i 0])), (7, some (.box [.i 0, .i y2]))]
abbrev H42 (y0 : Int) : HL := [(6, some (.box [.i 0, .i 0])), (7, some (.box [.i 0, .i y0]))]
abbrev H43 (y0 : S26) (y1 : S88) : HL := [(2, some (.box (k26 y0))), (3, some (.box (k88 y1)))]
abbrev H44 (y0 : S26) (y1 : S88) : HL := [(1, some (.box (k26 y0))), (10, some (.box (k88 y1)))]
abbrev H45 (y0 : S34) : HL := [(5, some (.box (k34 y0)))]
abbrev H46 (y0 : S122) (y1 : S79) (y2 : List S53) : HL := [(3, some (.box (k122 y0))), (15, some (.box (k79 y1))), (60, R53 y2)]
abbrev H47 (y0 : S56) (y1 : S76) (y2 : S76) (y3 : S53) : HL := [(3, some (.box (k56 y0))), (5, some (.box (k76 y1))), (9, some (.box (k76 y2))), (12, some (.box (k53 y3)))]
abbrev H48 (y0 : S26) (y1 : S34) (y2 : S76) : HL := [(3, some (.box (k26 y0))), (4, some (.box (k34 y1))), (5, some (.box (k76 y2)))]
abbrev H49 (y0 : S76) : HL := [(6, some (.box (k76 y0)))]
abbrev H50 (y0 : S41) : HL := [(1, some (.box [.s y0.Table, .i y0.Rows]))]
abbrev H51 (y0 : S122) (y1 : S34) (y2 : S53) (y3 : List S53) : HL := [(3, some (.box (k122 y0))), (4, some (.box (k34 y1))), (11, some (.box (k53 y2))), (56, R53 y3)]
abbrev H52 (y0 : S34) : HL := [(5, some (.box (k34 y0))), (6, some (.box [.i 0, .i 0]))]
abbrev H53 (y0 : S34) (y1 : List S49) : HL := [(5, some (.box (k34 y0))), (6, some (.box [.i 0, .i 0])), (26, R49 y1)]
abbrev H54 (y0 : S53) : HL := [(2, some (.box (k53 y0)))]
abbrev H55 : HL := [(4, some (.box [.ref 5080 0 (([] : List Int).length)])), (5, some (.box ((List.replicate 8 false).map vB))), (6, some (.box [.b false])), (7, some (.box [.fn (.func 73) [.ptr 4 0 0, .ptr 6 0 0, .ptr 5 0 0, .ptr 7 0 0]])), (5080, R3 ([] : List Int))]
abbrev H56 (y0 : ByteArray) : HL := [(3, some (.box [.s y0])), (4, some (.box [.s (ByteArray.mk #[]), .i 0, .b false]))]
abbrev H57 : HL := [(4, some (.box [.s (ByteArray.mk #[]), .i 0, .b false]))]
abbrev H58 (y0 : S76) : HL := [(5, some (.box (k76 y0))), (12, some (.box [.z]))]
abbrev H59 (y0 : S122) (y1 : S79) (y2 : List ByteArray) : HL := [(3, some (.box (k122 y0))), (5, some (.box (k79 y1))), (16, R9 y2)]
abbrev H60 (y0 : S122) (y1 : List S53) : HL := [(3, some (.box (k122 y0))), (60, R53 y1)]
abbrev H61 (y0 : S53) : HL := [(14, some (.box (k53 y0)))]
abbrev H62 (y0 : S76) (y1 : List S76) : HL := [(6, some (.box [.i 0, .s (ByteArray.mk #[]), .i 0, .i 0, .i 0, .s (ByteArray.mk #[]), .z])), (8, some (.box [.i y0.Kind, .s y0.Name, .i y0.Index, .i y0.Value.Kind, .i y0.Value.Int, .s y0.Value.Text, .ref 47 0 y1.length])), (47, R76 y1)]
abbrev H63 (y0 : S26) (y1 : S34) : HL := [(3, some (.box (k26 y0))), (5, some (.box (k34 y1))), (6, some (.box [.i 0, .i 0]))]
abbrev H64 (y0 : S34) (y1 : S34) : HL := [(2, some (.box (k34 y0))), (12, some (.box (k34 y1)))]
abbrev H65 (y0 : S56) : HL := [(2, some (.box (k56 y0)))]
abbrev H66 (y0 : S82) (y1 : S56) (y2 : S56) : HL := [(3, some (.box (k82 y0))), (9, some (.box (k56 y1))), (10, some (.box (k56 y2)))]
abbrev H67 (y0 : S34) : HL := [(1, some (.box (k34 y0))), (28, R3 ([1] : List Int))]
abbrev H68 (y0 : S34) (y1 : List Int) : HL := [(1, some (.box (k34 y0))), (37, R3 y1)]
abbrev H69 (y0 : S34) : HL := [(1, some (.box (k34 y0))), (47, R3 ([8] : List Int))]
abbrev H70 (y0 : S34) : HL := [(1, some (.box (k34 y0))), (57, R3 ([9] : List Int))]
abbrev H71 (y0 : S34) : HL := [(1, some (.box (k34 y0))), (67, R3 ([10] : List Int))]
abbrev H72 (y0 : S34) (y1 : List Int) : HL := [(1, some (.box (k34 y0))), (82, R3 y1)]
abbrev H73 (y0 : S34) (y1 : List Int) : HL := [(1, some (.box (k34 y0))), (90, R3 y1)]
abbrev H74 (y0 : S34) : HL := [(1, some (.box (k34 y0))), (111, R3 ([9] : List Int))]
abbrev H75 (y0 : S34) : HL := [(1, some (.box (k34 y0))), (128, R3 ([10] : List Int))]
abbrev H76 (y0 : S53) : HL := [(10, some (.box (k53 y0)))]
abbrev H77 (y0 : S76) : HL := [(4, some (.box (k76 y0)))]
abbrev H78 (y0 : S26) (y1 : S34) : HL := [(3, some (.box (k26 y0))), (5, some (.box (k34 y1))), (8, some (.box ((List.replicate 2 0).map (vI .i64)))), (9, some (.box ((List.replicate 2 0).map (vI .i64))))]
abbrev H79 (y0 : S34) (y1 : S41) : HL := [(5, some (.box (k34 y0))), (13, some (.box [.s y1.Table, .i y1.Rows]))]
abbrev H80 (y0 : S49) (y1 : S76) : HL := [(2, some (.box [.i y0.Low, .i y0.High])), (3, some (.box (k76 y1))), (4, some (.box [.i 0, .i 0]))]
abbrev H81 : HL := [(2, some (.box [.i 0, .s (ByteArray.mk #[]), .i 0, .i 0, .i 0, .s (ByteArray.mk #[]), .z]))]
abbrev H82 : HL := [(6, some (.box [.i 0, .s (ByteArray.mk #[]), .i 0, .i 0, .i 0, .s (ByteArray.mk #[]), .z]))]
abbrev H83 (y0 : S56) (y1 : S76) : HL := [(3, some (.box (k56 y0))), (5, some (.box (k76 y1))), (7, some (.box [.fn (.func 115) [.ptr 3 0 0]]))]
abbrev H84 (y0 : S26) (y1 : S34) (y2 : Int) (y3 : S76) : HL := [(3, some (.box (k26 y0))), (4, some (.box (k34 y1))), (6, some (.box [.i 0, .i 0])), (7, some (.box [.i 0, .i y2])), (8, some (.box (k76 y3)))]
abbrev H85 (y0 : S34) (y1 : S41) : HL := [(5, some (.box (k34 y0))), (6, some (.box [.i 0, .i 0])), (11, some (.box [.s y1.Table, .i y1.Rows]))]
abbrev L1 (y0 : Int) (y1 : List S76) (y2 : Nat) (y3 : Int) : SL := [(1, .i y0), (8, .s76 y1), (9, .i (y2 : Int)), (10, .i y3)]
abbrev L2 (y0 : Int) (y1 : List S76) (y2 : Nat) (y3 : Int) : SL := [(1, .i y0), (6, .ptr 6 0 0), (8, .s76 y1), (9, .i (y2 : Int)), (10, .i y3)]
abbrev L3 (y0 : Int) (y1 : List S76) (y2 : Nat) (y3 : Int) : SL := [(1, .i y0), (2, .ptr 2 0 0), (14, .s76 y1), (15, .i (y2 : Int)), (16, .i y3)]
abbrev L4 (y0 : Int) (y1 : List S79) (y2 : Nat) (y3 : Int) : SL := [(1, .i y0), (2, .ptr 2 0 0), (26, .s79 y1), (27, .i (y2 : Int)), (28, .i y3)]
abbrev L5 (y0 : Int) (y1 : List S79) (y2 : Nat) (y3 : Int) (y4 : List S76) (y5 : Nat) (y6 : Int) : SL := [(1, .i y0), (2, .ptr 2 0 0), (26, .s79 y1), (27, .i (y2 : Int)), (28, .i y3), (33, .s76 y4), (34, .i (y5 : Int)), (35, .i y6)]
abbrev L6 (y0 : Int) (y1 : List S34) (y2 : Nat) (y3 : Int) : SL := [(1, .i y0), (2, .ptr 2 0 0), (46, .s34 y1), (47, .i (y2 : Int)), (48, .i y3)]
abbrev L7 (y0 : List S53) (y1 : Nat) (y2 : Int) : SL := [(1, .ptr 1 0 0), (22, .s53 y0), (23, .i (y1 : Int)), (24, .i y2)]
abbrev L8 (y0 : Int) (y1 : List S53) (y2 : Nat) : SL := [(1, .ptr 1 0 0), (3, .i y0), (4, .ptr 4 0 0), (22, .s53 y1), (23, .i (y2 : Int)), (24, .i y0)]
abbrev L9 (y0 : List S53) (y1 : Nat) (y2 : Int) : SL := [(1, .ptr 1 0 0), (4, .ptr 4 0 0), (22, .s53 y0), (23, .i (y1 : Int)), (24, .i y2)]
abbrev L10 (y0 : List Int) (y1 : Nat) (y2 : Int) : SL := [(1, .ptr 1 0 0), (53, .si y0), (54, .i (y1 : Int)), (55, .i y2)]
abbrev L11 (y0 : Int) (y1 : Int) (y2 : List Int) (y3 : Nat) : SL := [(1, .ptr 1 0 0), (7, .i y0), (8, .i y1), (53, .si y2), (54, .i (y3 : Int)), (55, .i y0)]
abbrev L12 (y0 : Int) (y1 : Int) (y2 : List Int) (y3 : Nat) (y4 : List S53) (y5 : Nat) : SL := [(1, .ptr 1 0 0), (7, .i y0), (8, .i y1), (53, .si y2), (54, .i (y3 : Int)), (55, .i y0), (63, .i y1), (64, .ptr 1 0 1), (65, .s53 y4), (66, .i (y5 : Int))]
abbrev L13 (y0 : Int) (y1 : Int) (y2 : List Int) (y3 : Nat) (y4 : List S53) (y5 : Nat) (y6 : ByteArray) (y7 : Int) (y8 : Bool) : SL := [(1, .ptr 1 0 0), (7, .i y0), (8, .i y1), (53, .si y2), (54, .i (y3 : Int)), (55, .i y0), (63, .i y1), (64, .ptr 1 0 1), (65, .s53 y4), (66, .i (y5 : Int)), (67, .b false), (70, .ptr 1 0 1), (71, .s53 y4), (72, .i y1), (73, .d (.pim [.lit (.string y6), .lit (.int .i64 y7), .lit (.bool y8)])), (74, .d (.pim [.lit (.bool y8)]))]
abbrev L14 (y0 : List Int) (y1 : Nat) (y2 : Int) (y3 : Int) (y4 : List S53) (y5 : Nat) (y6 : ByteArray) (y7 : Int) (y8 : Bool) : SL := [(1, .ptr 1 0 0), (53, .si y0), (54, .i (y1 : Int)), (55, .i y2), (63, .i y3), (64, .ptr 1 0 1), (65, .s53 y4), (66, .i (y5 : Int)), (67, .b false), (70, .ptr 1 0 1), (71, .s53 y4), (72, .i y3), (73, .d (.pim [.lit (.string y6), .lit (.int .i64 y7), .lit (.bool y8)])), (74, .d (.pim [.lit (.bool y8)]))]
abbrev L15 (y0 : Int) (y1 : Int) (y2 : List Int) (y3 : Nat) (y4 : List S53) (y5 : Nat) (y6 : ByteArray) (y7 : Int) (y8 : Bool) : SL := [(1, .ptr 1 0 0), (7, .i y0), (8, .i y1), (53, .si y2), (54, .i (y3 : Int)), (55, .i y0), (63, .i y1), (64, .ptr 1 0 1), (65, .s53 y4), (66, .i (y5 : Int)), (67, .b false), (70, .ptr 1 0 1), (71, .s53 y4), (72, .i y1), (73, .d (.pim [.lit (.string y6), .lit (.int .i64 y7), .lit (.bool y8)])), (74, .d (.pim [.lit (.bool y8)])), (75, .b false), (77, .b false), (78, .i y0)]
abbrev L16 (y0 : Int) (y1 : Bool) : SL := [(2, .ptr 2 0 0), (3, .ptr 3 0 0), (5, .i y0), (6, .b y1)]
abbrev L17 (y0 : List Int) (y1 : Nat) (y2 : Int) : SL := [(9, .ptr 9 0 0), (10, .ptr 10 0 0), (51, .si y0), (52, .i (y1 : Int)), (53, .i y2)]
abbrev L18 (y0 : Int) (y1 : Int) (y2 : List Int) (y3 : Nat) : SL := [(9, .ptr 9 0 0), (10, .ptr 10 0 0), (11, .i y0), (12, .i y1), (51, .si y2), (52, .i (y3 : Int)), (53, .i y0)]
abbrev L19 (y0 : List Int) (y1 : List Int) (y2 : Nat) (y3 : Int) : SL := [(0, .si y0), (1, .si y1), (12, .i (y2 : Int)), (13, .i y3)]
abbrev L20 (y0 : ByteArray) : SL := [(1, .s y0), (3, .ptr 3 0 0), (5, .ptr 5 0 0)]
abbrev L21 (y0 : List S53) : SL := [(3, .ptr 3 0 0), (7, .s53 y0)]
abbrev L22 (y0 : List S53) (y1 : Int) : SL := [(3, .ptr 3 0 0), (7, .s53 y0), (9, .i y1)]
abbrev L23 (y0 : List S53) : SL := [(3, .ptr 3 0 0), (7, .s53 y0), (69, .b true)]
abbrev L24 (y0 : List S53) : SL := [(3, .ptr 3 0 0), (7, .s53 y0), (59, .b false), (63, .b true)]
abbrev L25 (y0 : List S88) (y1 : Nat) (y2 : Int) : SL := [(0, .s88 y0), (3, .ptr 3 0 0), (7, .i (y1 : Int)), (8, .i y2)]
abbrev L26 (y0 : List S88) (y1 : Int) (y2 : Nat) : SL := [(0, .s88 y0), (3, .ptr 3 0 0), (5, .i y1), (7, .i (y2 : Int)), (8, .i y1)]
abbrev L27 (y0 : List S56) (y1 : Nat) (y2 : Int) : SL := [(1, .ptr 1 0 0), (29, .s56 y0), (30, .i (y1 : Int)), (31, .i y2)]
abbrev L28 (y0 : Int) (y1 : List S56) (y2 : Nat) : SL := [(1, .ptr 1 0 0), (3, .i y0), (4, .ptr 4 0 0), (29, .s56 y1), (30, .i (y2 : Int)), (31, .i y0)]
abbrev L29 (y0 : List S82) (y1 : Nat) (y2 : Int) : SL := [(1, .ptr 1 0 0), (57, .s82 y0), (58, .i (y1 : Int)), (59, .i y2)]
abbrev L30 (y0 : Int) (y1 : List S82) (y2 : Nat) : SL := [(1, .ptr 1 0 0), (6, .i y0), (7, .ptr 7 0 0), (57, .s82 y1), (58, .i (y2 : Int)), (59, .i y0)]
abbrev L31 (y0 : List S88) (y1 : Nat) (y2 : Int) : SL := [(1, .ptr 1 0 0), (78, .s88 y0), (79, .i (y1 : Int)), (80, .i y2)]
abbrev L32 (y0 : Int) (y1 : List S88) (y2 : Nat) : SL := [(1, .ptr 1 0 0), (9, .i y0), (10, .ptr 10 0 0), (78, .s88 y1), (79, .i (y2 : Int)), (80, .i y0)]
abbrev L33 (y0 : Int) (y1 : List S34) (y2 : Nat) (y3 : Int) : SL := [(3, .i y0), (7, .s34 y1), (8, .i (y2 : Int)), (9, .i y3)]
abbrev L34 (y0 : Int) (y1 : Int) (y2 : List S34) (y3 : Nat) (y4 : Int) : SL := [(1, .ptr 1 0 0), (4, .i y0), (5, .i y1), (11, .s34 y2), (12, .i (y3 : Int)), (13, .i y4)]
abbrev L35 (y0 : Int) (y1 : Int) (y2 : Int) : SL := [(1, .ptr 1 0 0), (4, .i y0), (5, .i y1), (6, .i y2)]
abbrev L36 (y0 : Int) (y1 : Int) (y2 : Int) (y3 : List S34) (y4 : Nat) (y5 : Int) : SL := [(1, .ptr 1 0 0), (4, .i y0), (5, .i y1), (8, .i y2), (11, .s34 y3), (12, .i (y4 : Int)), (13, .i y5)]
abbrev L37 : SL := [(1, .ptr 1000 0 0), (2, .ptr 2000 0 0), (3, .ptr 3000 0 0), (4, .ptr 4000 0 0), (5, .ptr 5 0 0)]
abbrev L38 : SL := [(1, .ptr 1000 0 0), (2, .ptr 2000 0 0), (3, .ptr 3000 0 0), (4, .ptr 4000 0 0), (5, .ptr 5 0 0), (30, .b false)]
abbrev L39 (y0 : List S76) (y1 : Nat) (y2 : Int) : SL := [(4, .ptr 4000 0 0), (58, .s76 y0), (59, .i (y1 : Int)), (60, .i y2)]
abbrev L40 : SL := [(4, .ptr 4 0 0), (6, .ptr 6 0 0), (7, .ptr 7 0 0)]
abbrev L41 (y0 : List S34) (y1 : Nat) (y2 : Int) : SL := [(4, .ptr 4 0 0), (6, .ptr 6 0 0), (7, .ptr 7 0 0), (18, .s34 y0), (19, .i (y1 : Int)), (20, .i y2)]
abbrev L42 (y0 : List S34) (y1 : Nat) (y2 : Int) : SL := [(4, .ptr 4 0 0), (6, .ptr 6 0 0), (7, .ptr 7 0 0), (9, .ptr 9 0 0), (18, .s34 y0), (19, .i (y1 : Int)), (20, .i y2)]
abbrev L43 (y0 : List S34) (y1 : Nat) (y2 : Int) (y3 : List S76) (y4 : Nat) (y5 : Int) : SL := [(4, .ptr 4 0 0), (6, .ptr 6 0 0), (7, .ptr 7 0 0), (9, .ptr 9 0 0), (18, .s34 y0), (19, .i (y1 : Int)), (20, .i y2), (25, .s76 y3), (26, .i (y4 : Int)), (27, .i y5)]
abbrev L44 (y0 : List S34) (y1 : Nat) (y2 : Int) (y3 : List S79) (y4 : Nat) (y5 : Int) : SL := [(4, .ptr 4 0 0), (6, .ptr 6 0 0), (7, .ptr 7 0 0), (18, .s34 y0), (19, .i (y1 : Int)), (20, .i y2), (36, .s79 y3), (37, .i (y4 : Int)), (38, .i y5)]
abbrev L45 (y0 : List S34) (y1 : Nat) (y2 : Int) (y3 : List S79) (y4 : Nat) (y5 : Int) (y6 : List S76) (y7 : Nat) (y8 : Int) : SL := [(4, .ptr 4 0 0), (6, .ptr 6 0 0), (7, .ptr 7 0 0), (18, .s34 y0), (19, .i (y1 : Int)), (20, .i y2), (36, .s79 y3), (37, .i (y4 : Int)), (38, .i y5), (43, .s76 y6), (44, .i (y7 : Int)), (45, .i y8)]
abbrev L46 (y0 : Bool) : SL := [(1, .ptr 1 0 0), (4, .fn (.func 107) [.ptr 1 0 0]), (26, .b y0)]
abbrev L47 : SL := [(1, .ptr 1 0 0), (4, .fn (.func 107) [.ptr 1 0 0])]
abbrev L48 : SL := [(1, .ptr 1 0 0), (4, .fn (.func 107) [.ptr 1 0 0]), (26, .b false)]
abbrev L49 : SL := [(1, .ptr 1 0 0), (4, .fn (.func 107) [.ptr 1 0 0]), (26, .b true)]
abbrev L50 (y0 : Nat) : SL := [(1, .ptr 1 0 0), (4, .fn (.func 107) [.ptr 1 0 0]), (26, .b (decide ((y0 : Int) > 0)))]
abbrev L51 : SL := [(1, .ptr 1 0 0), (4, .fn (.func 107) [.ptr 1 0 0]), (70, .b true)]
abbrev L52 (y0 : Int) (y1 : Int) (y2 : List S76) (y3 : Nat) (y4 : Int) : SL := [(4, .i y0), (5, .i y1), (11, .s76 y2), (12, .i (y3 : Int)), (13, .i y4)]
abbrev L53 (y0 : ByteArray) (y1 : Nat) (y2 : Int) : SL := [(0, .s y0), (23, .i (y1 : Int)), (24, .i y2)]
abbrev L54 (y0 : List ByteArray) (y1 : ByteArray) (y2 : Nat) (y3 : Int) : SL := [(0, .ss y0), (1, .s y1), (7, .i (y2 : Int)), (8, .i y3)]
abbrev L55 (y0 : List S53) (y1 : List S53) : SL := [(0, .s53 y0), (1, .s53 y1), (5, .ptr 5 0 0)]
abbrev L56 (y0 : List S53) (y1 : List S53) (y2 : Int) : SL := [(0, .s53 y0), (1, .s53 y1), (5, .ptr 5 0 0), (22, .i y2)]
abbrev L57 (y0 : List S53) : SL := [(5, .ptr 5 0 0), (9, .s53 y0)]
abbrev L58 (y0 : List S53) (y1 : List S53) (y2 : List Int) (y3 : Int) : SL := [(0, .s53 y0), (1, .s53 y1), (5, .ptr 5 0 0), (10, .si y2), (11, .i y3)]
abbrev L59 (y0 : List S53) (y1 : List S53) : SL := [(0, .s53 y0), (1, .s53 y1), (5, .ptr 5 0 0), (51, .b true)]
abbrev L60 (y0 : List S53) (y1 : List S53) : SL := [(0, .s53 y0), (1, .s53 y1), (5, .ptr 5 0 0), (46, .b false)]
abbrev L61 (y0 : List S53) (y1 : List S53) : SL := [(0, .s53 y0), (1, .s53 y1), (5, .ptr 5 0 0), (12, .ptr 12 0 0)]
abbrev L62 (y0 : List S53) (y1 : List S53) (y2 : Bool) (y3 : List S76) (y4 : Nat) (y5 : Int) : SL := [(0, .s53 y0), (1, .s53 y1), (5, .ptr 5 0 0), (12, .ptr 12 0 0), (13, .b y2), (53, .s76 y3), (54, .i (y4 : Int)), (55, .i y5)]
abbrev L63 (y0 : List S53) (y1 : List S53) (y2 : Bool) : SL := [(0, .s53 y0), (1, .s53 y1), (5, .ptr 5 0 0), (12, .ptr 12 0 0), (13, .b y2)]
abbrev L64 (y0 : List S53) (y1 : List S53) (y2 : Bool) (y3 : List S76) (y4 : Nat) (y5 : Int) : SL := [(0, .s53 y0), (1, .s53 y1), (5, .ptr 5 0 0), (12, .ptr 12 0 0), (17, .b y2), (53, .s76 y3), (54, .i (y4 : Int)), (55, .i y5)]
abbrev L65 (y0 : Bool) (y1 : ByteArray) : SL := [(12, .ptr 12 0 0), (13, .b y0), (19, .fn (.func 186) [.ptr 12 0 0]), (20, .d (.lit (.func (.func 189) #[] #[]))), (81, .s y1)]
abbrev L66 (y0 : Int) (y1 : Bool) : SL := [(12, .ptr 12 0 0), (20, .d (.lit (.func (.func 189) #[] #[]))), (130, .i y0), (131, .b y1)]
abbrev L67 (y0 : Bool) (y1 : Int) (y2 : Int) : SL := [(151, .b y0), (152, .d (.lit (.func (.func 189) #[] #[]))), (155, .i y1), (158, .i y2)]
abbrev L68 (y0 : List S53) (y1 : List S53) (y2 : Int) : SL := [(0, .s53 y0), (1, .s53 y1), (5, .ptr 5 0 0), (10, .i y2)]
abbrev L69 (y0 : List S53) : SL := [(1, .s53 y0), (3, .ptr 3 0 0), (5, .ptr 5 0 0)]
abbrev L70 (y0 : Int) (y1 : List S53) (y2 : List S53) : SL := [(0, .i y0), (1, .s53 y1), (2, .s53 y2)]
abbrev L71 (y0 : Int) (y1 : List S53) (y2 : List S53) (y3 : Nat) (y4 : Nat) (y5 : Int) : SL := [(0, .i y0), (1, .s53 y1), (2, .s53 y2), (8, .ref 16 0 y3), (18, .i (y4 : Int)), (19, .i y5)]
abbrev L72 (y0 : Int) (y1 : List S53) (y2 : List S53) (y3 : Nat) (y4 : Int) (y5 : Nat) : SL := [(0, .i y0), (1, .s53 y1), (2, .s53 y2), (8, .ref 16 0 y3), (9, .i y4), (18, .i (y5 : Int)), (19, .i y4), (33, .ref 16 0 y3), (34, .i y4)]
abbrev L73 (y0 : Int) (y1 : List S53) (y2 : List S53) (y3 : Nat) (y4 : Int) (y5 : Nat) : SL := [(0, .i y0), (1, .s53 y1), (2, .s53 y2), (8, .ref 16 0 y3), (9, .i y4), (18, .i (y5 : Int)), (19, .i y4), (33, .ref 16 0 y3), (34, .i y4), (40, .b false), (41, .i y0)]
abbrev L74 (y0 : List S53) : SL := [(1, .s53 y0), (3, .ptr 3 0 0), (5, .ptr 5 0 0), (38, .b true)]
abbrev L75 (y0 : List S53) : SL := [(1, .s53 y0), (3, .ptr 3 0 0), (5, .ptr 5 0 0), (15, .b false)]
abbrev L76 (y0 : List S53) (y1 : Nat) : SL := [(1, .s53 y0), (3, .ptr 3 0 0), (5, .ptr 5 0 0), (15, .b false), (16, .ref 16 0 y1)]
abbrev L77 (y0 : List S53) : SL := [(1, .s53 y0), (3, .ptr 3 0 0), (5, .ptr 5 0 0), (28, .b false)]
abbrev L78 (y0 : List S53) : SL := [(2, .s53 y0), (3, .ptr 3 0 0), (4, .ptr 4 0 0)]
abbrev L79 (y0 : List S53) (y1 : Nat) : SL := [(2, .s53 y0), (3, .ptr 3 0 0), (4, .ptr 4 0 0), (8, .ref 60 0 y1)]
abbrev L80 (y0 : List S53) (y1 : Nat) (y2 : Int) : SL := [(2, .s53 y0), (3, .ptr 3 0 0), (4, .ptr 4 0 0), (8, .ref 60 0 y1), (9, .i y2)]
abbrev L81 (y0 : List S53) (y1 : Nat) (y2 : Int) (y3 : Int) (y4 : Bool) (y5 : Int) (y6 : List S76) (y7 : Nat) : SL := [(2, .s53 y0), (3, .ptr 3 0 0), (4, .ptr 4 0 0), (8, .ref 60 0 y1), (9, .i y2), (11, .i y3), (12, .b y4), (13, .i y5), (19, .s76 y6), (20, .i (y7 : Int)), (21, .i y2)]
abbrev L82 (y0 : List S53) (y1 : Nat) (y2 : List S79) (y3 : Nat) : SL := [(2, .s53 y0), (3, .ptr 3 0 0), (8, .ref 60 0 y1), (63, .s79 y2), (64, .i (y3 : Int))]
abbrev L83 (y0 : List S53) (y1 : Nat) (y2 : List S79) (y3 : Nat) (y4 : Int) : SL := [(2, .s53 y0), (3, .ptr 3 0 0), (8, .ref 60 0 y1), (15, .ptr 15 0 0), (63, .s79 y2), (64, .i (y3 : Int)), (65, .i y4)]
abbrev L84 (y0 : List (List S53)) : SL := [(2, .ls53 y0), (3, .ptr 3 0 0), (4, .ptr 4 0 0)]
abbrev L85 (y0 : List (List S53)) (y1 : Int) : SL := [(2, .ls53 y0), (3, .ptr 3 0 0), (4, .ptr 4 0 0), (18, .i y1)]
abbrev L86 (y0 : Nat) (y1 : List S53) (y2 : Nat) : SL := [(3, .ptr 3 0 0), (4, .ptr 4 0 0), (9, .ref 56 0 y0), (59, .s53 y1), (60, .i (y2 : Int))]
abbrev L87 (y0 : Nat) (y1 : List S53) (y2 : Nat) (y3 : Int) : SL := [(3, .ptr 3 0 0), (4, .ptr 4 0 0), (9, .ref 56 0 y0), (11, .ptr 11 0 0), (59, .s53 y1), (60, .i (y2 : Int)), (61, .i y3)]
abbrev L88 (y0 : List (List S53)) (y1 : List S76) (y2 : Nat) (y3 : Int) : SL := [(2, .ls53 y0), (3, .ptr 3 0 0), (114, .s76 y1), (115, .i (y2 : Int)), (116, .i y3)]
abbrev L89 (y0 : Nat) : SL := [(2, .ptr 2 0 0), (3, .ptr 3 0 0), (6, .ref 37 0 y0)]
abbrev L90 (y0 : Nat) (y1 : List S34) (y2 : Nat) (y3 : Int) : SL := [(2, .ptr 2 0 0), (3, .ptr 3 0 0), (6, .ref 37 0 y0), (19, .s34 y1), (20, .i (y2 : Int)), (21, .i y3)]
abbrev L91 (y0 : List S56) (y1 : List S82) (y2 : List S88) (y3 : List S53) (y4 : Int) (y5 : ByteArray) (y6 : List ByteArray) (y7 : List S76) (y8 : List S79) (y9 : List Bool) (y10 : Int) (y11 : Int) (y12 : List S34) : SL := [(40, .agg [.s56 y0, .s82 y1, .s88 y2, .s53 y3]), (41, .agg [.i y4, .s y5, .ss y6, .s76 y7, .s79 y8, .sb y9, .i y10, .i y11, .s34 y12])]
abbrev L92 (y0 : List S53) (y1 : Nat) : SL := [(11, .s53 y0), (52, .s53 y0), (53, .i (y1 : Int))]
abbrev L93 (y0 : List S53) (y1 : Nat) (y2 : Int) : SL := [(11, .s53 y0), (52, .s53 y0), (53, .i (y1 : Int)), (54, .i y2)]
abbrev L94 (y0 : List S53) : SL := [(1, .s53 y0), (3, .ptr 3 0 0), (5, .ptr 5 0 0), (20, .b false)]
abbrev L95 (y0 : ByteArray) (y1 : Int) : SL := [(1, .s y0), (3, .ptr 3 0 0), (5, .ptr 5 0 0), (38, .i y1)]
abbrev L96 (y0 : ByteArray) (y1 : Int) : SL := [(1, .s y0), (3, .ptr 3 0 0), (5, .ptr 5 0 0), (8, .ptr 8 0 0), (9, .ptr 9 0 0), (38, .i y1)]
abbrev L97 (y0 : ByteArray) : SL := [(1, .s y0), (3, .ptr 3 0 0), (5, .ptr 5 0 0), (9, .ptr 9 0 0)]
abbrev L98 (y0 : ByteArray) (y1 : Int) (y2 : ByteArray) : SL := [(1, .s y0), (3, .ptr 3 0 0), (5, .ptr 5 0 0), (9, .ptr 9 0 0), (38, .i y1), (56, .ptr 8 0 1), (57, .s y2), (58, .s y0)]
abbrev L99 (y0 : ByteArray) (y1 : Bool) (y2 : Int) (y3 : List S53) (y4 : Nat) (y5 : Int) : SL := [(1, .s y0), (3, .ptr 3 0 0), (5, .ptr 5 0 0), (9, .ptr 9 0 0), (10, .b y1), (38, .i y2), (67, .s53 y3), (68, .i (y4 : Int)), (69, .i y5)]
abbrev L100 (y0 : ByteArray) (y1 : Int) (y2 : List S53) (y3 : Nat) (y4 : Int) : SL := [(1, .s y0), (3, .ptr 3 0 0), (5, .ptr 5 0 0), (9, .ptr 9 0 0), (12, .ptr 12 0 0), (38, .i y1), (67, .s53 y2), (68, .i (y3 : Int)), (69, .i y4)]
abbrev L101 (y0 : ByteArray) (y1 : Bool) (y2 : Int) : SL := [(1, .s y0), (3, .ptr 3 0 0), (5, .ptr 5 0 0), (10, .b y1), (38, .i y2)]
abbrev L102 : SL := [(3, .ptr 3 0 0), (4, .ptr 4 0 0), (5, .ptr 5 0 0)]
abbrev L103 (y0 : List S56) (y1 : Nat) (y2 : Int) : SL := [(4, .ptr 4 0 0), (5, .ptr 5 0 0), (22, .s56 y0), (23, .i (y1 : Int)), (24, .i y2)]
abbrev L104 (y0 : List S56) (y1 : Nat) (y2 : Int) : SL := [(4, .ptr 4 0 0), (5, .ptr 5 0 0), (8, .ptr 8 0 0), (22, .s56 y0), (23, .i (y1 : Int)), (24, .i y2)]
abbrev L105 (y0 : List Int) (y1 : Nat) (y2 : Int) : SL := [(5, .ptr 5 0 0), (8, .ptr 8 0 0), (39, .si y0), (40, .i (y1 : Int)), (41, .i y2)]
abbrev L106 (y0 : List S41) : SL := [(1, .s41 y0), (3, .ptr 3 0 0), (5, .ptr 5 0 0)]
abbrev L107 (y0 : List S41) : SL := [(1, .s41 y0), (3, .ptr 3 0 0), (5, .ptr 5 0 0), (8, .ptr 8 0 0), (9, .ptr 9 0 0)]
abbrev L108 (y0 : List S41) (y1 : List S34) (y2 : Nat) (y3 : Int) : SL := [(1, .s41 y0), (3, .ptr 3 0 0), (5, .ptr 5 0 0), (8, .ptr 8 0 0), (9, .ptr 9 0 0), (21, .s34 y1), (22, .i (y2 : Int)), (23, .i y3)]
abbrev L109 (y0 : List S41) (y1 : Nat) (y2 : Int) : SL := [(5, .ptr 5 0 0), (44, .s41 y0), (45, .i (y1 : Int)), (46, .i y2)]
abbrev L110 (y0 : Int) : SL := [(3, .ptr 3 0 0), (5, .ptr 5 0 0), (8, .ptr 8 0 0), (9, .ptr 9 0 0), (41, .i y0)]
abbrev L111 (y0 : Int) : SL := [(3, .ptr 3 0 0), (5, .ptr 5 0 0), (8, .ptr 8 0 0), (9, .ptr 9 0 0), (14, .i y0)]
abbrev L112 (y0 : Int) : SL := [(5, .ptr 5 0 0), (8, .ptr 8 0 0), (9, .ptr 9 0 0), (14, .i y0)]
abbrev L113 (y0 : Int) (y1 : Bool) (y2 : Bool) : SL := [(5, .ptr 5 0 0), (8, .ptr 8 0 0), (9, .ptr 9 0 0), (14, .i y0), (15, .b y1), (16, .b y2)]
abbrev L114 (y0 : Int) (y1 : Bool) (y2 : Int) : SL := [(5, .ptr 5 0 0), (8, .ptr 8 0 0), (9, .ptr 9 0 0), (14, .i y0), (15, .b y1), (17, .i y2)]
abbrev L115 (y0 : ByteArray) (y1 : List S53) (y2 : Nat) (y3 : Int) : SL := [(0, .s y0), (7, .s53 y1), (8, .i (y2 : Int)), (9, .i y3)]
abbrev L116 (y0 : ByteArray) (y1 : List S53) (y2 : List Int) : SL := [(1, .d (.pim [.fn (.func 115) [.pim [.lit (.string y0), .sl (y1.map cS53), .sl (y2.map (cI .i64))]]])), (2, .ptr 2 0 0)]
abbrev L117 (y0 : List ByteArray) (y1 : List S76) : SL := [(1, .ss y0), (2, .s76 y1), (3, .ptr 3 0 0), (6, .ptr 6 0 0)]
abbrev L118 (y0 : List ByteArray) (y1 : List S76) (y2 : Int) : SL := [(1, .ss y0), (2, .s76 y1), (3, .ptr 3 0 0), (6, .ptr 6 0 0), (7, .i y2)]
abbrev L119 (y0 : List ByteArray) (y1 : List S76) (y2 : List S76) (y3 : Nat) (y4 : Int) : SL := [(1, .ss y0), (2, .s76 y1), (6, .ptr 6 0 0), (8, .ptr 8 0 0), (34, .s76 y2), (35, .i (y3 : Int)), (36, .i y4)]
abbrev L120 (y0 : ByteArray) (y1 : Nat) (y2 : Int) : SL := [(1, .s y0), (8, .fn (.func 116) [.ptr 7 0 0]), (16, .ref 16 0 y1), (17, .i (y1 : Int)), (18, .i y2)]
abbrev L121 (y0 : ByteArray) (y1 : Nat) (y2 : Int) : SL := [(1, .s y0), (8, .fn (.func 116) [.ptr 7 0 0]), (10, .ptr 10 0 0), (16, .ref 16 0 y1), (17, .i (y1 : Int)), (18, .i y2)]
abbrev L122 (y0 : ByteArray) (y1 : Nat) (y2 : Int) (y3 : ByteArray) : SL := [(1, .s y0), (8, .fn (.func 116) [.ptr 7 0 0]), (10, .ptr 10 0 0), (16, .ref 16 0 y1), (17, .i (y1 : Int)), (18, .i y2), (26, .ptr 10 0 1), (27, .s y3)]
abbrev L123 (y0 : ByteArray) (y1 : Nat) (y2 : Int) (y3 : Nat) (y4 : Int) : SL := [(1, .s y0), (8, .fn (.func 116) [.ptr 7 0 0]), (10, .ptr 10 0 0), (16, .ref 16 0 y1), (17, .i (y1 : Int)), (18, .i y2), (38, .i (y3 : Int)), (39, .i y4)]
abbrev L124 (y0 : ByteArray) (y1 : Int) (y2 : Nat) (y3 : Int) (y4 : Nat) : SL := [(1, .s y0), (8, .fn (.func 116) [.ptr 7 0 0]), (10, .ptr 10 0 0), (11, .i y1), (12, .ptr 12 0 0), (16, .ref 16 0 y2), (17, .i (y2 : Int)), (18, .i y3), (38, .i (y4 : Int)), (39, .i y1)]
abbrev L125 (y0 : ByteArray) (y1 : Int) (y2 : Nat) (y3 : Int) (y4 : Nat) (y5 : ByteArray) : SL := [(1, .s y0), (8, .fn (.func 116) [.ptr 7 0 0]), (10, .ptr 10 0 0), (11, .i y1), (16, .ref 16 0 y2), (17, .i (y2 : Int)), (18, .i y3), (38, .i (y4 : Int)), (39, .i y1), (51, .ptr 12 0 1), (52, .s y5), (53, .s y0)]
abbrev L126 (y0 : ByteArray) (y1 : Nat) (y2 : Int) (y3 : Nat) (y4 : Int) (y5 : ByteArray) : SL := [(1, .s y0), (8, .fn (.func 116) [.ptr 7 0 0]), (10, .ptr 10 0 0), (16, .ref 16 0 y1), (17, .i (y1 : Int)), (18, .i y2), (38, .i (y3 : Int)), (39, .i y4), (51, .ptr 12 0 1), (52, .s y5), (53, .s y0), (54, .b true)]
abbrev L127 (y0 : List S56) (y1 : Nat) (y2 : Int) : SL := [(4, .ptr 4 0 0), (5, .ptr 5 0 0), (28, .s56 y0), (29, .i (y1 : Int)), (30, .i y2)]
abbrev L128 (y0 : List Int) (y1 : Nat) (y2 : Int) : SL := [(5, .ptr 5 0 0), (8, .ptr 8 0 0), (40, .si y0), (41, .i (y1 : Int)), (42, .i y2)]
abbrev L129 (y0 : Int) (y1 : List Int) (y2 : Nat) (y3 : Int) : SL := [(5, .ptr 5 0 0), (8, .ptr 8 0 0), (10, .i y0), (40, .si y1), (41, .i (y2 : Int)), (42, .i y3)]
abbrev L130 (y0 : Int) (y1 : List Int) (y2 : Nat) (y3 : Int) (y4 : List S53) (y5 : Nat) : SL := [(5, .ptr 5 0 0), (8, .ptr 8 0 0), (10, .i y0), (40, .si y1), (41, .i (y2 : Int)), (42, .i y3), (49, .i y0), (50, .ptr 8 0 1), (51, .s53 y4), (52, .i (y5 : Int))]
abbrev L131 (y0 : List Int) (y1 : Nat) (y2 : Int) (y3 : Int) (y4 : List S53) (y5 : Nat) : SL := [(5, .ptr 5 0 0), (8, .ptr 8 0 0), (40, .si y0), (41, .i (y1 : Int)), (42, .i y2), (49, .i y3), (50, .ptr 8 0 1), (51, .s53 y4), (52, .i (y5 : Int)), (53, .b false)]
abbrev L132 (y0 : List S49) : SL := [(2, .s49 y0), (3, .ptr 3 0 0), (4, .ptr 4 0 0), (6, .ptr 6 0 0), (7, .ptr 7 0 0)]
abbrev L133 (y0 : List S49) : SL := [(2, .s49 y0), (6, .ptr 6 0 0), (7, .ptr 7 0 0)]
abbrev L134 (y0 : List S41) : SL := [(1, .s41 y0), (3, .ptr 3 0 0), (5, .ptr 5 0 0), (6, .ptr 6 0 0)]
abbrev L135 (y0 : List S41) (y1 : Nat) : SL := [(1, .s41 y0), (3, .ptr 3 0 0), (5, .ptr 5 0 0), (6, .ptr 6 0 0), (7, .ref 26 0 y1)]
abbrev L136 (y0 : List S41) (y1 : Nat) (y2 : Int) : SL := [(5, .ptr 5 0 0), (6, .ptr 6 0 0), (32, .s41 y0), (33, .i (y1 : Int)), (34, .i y2)]
abbrev L137 (y0 : Nat) (y1 : Int) : SL := [(3, .ptr 3 0 0), (5, .ptr 5 0 0), (6, .ptr 6 0 0), (7, .ref 26 0 y0), (29, .i y1)]
abbrev L138 (y0 : Nat) (y1 : Int) : SL := [(5, .ptr 5 0 0), (6, .ptr 6 0 0), (7, .ref 26 0 y0), (29, .i y1)]
abbrev L139 (y0 : List S41) : SL := [(1, .s41 y0), (3, .ptr 3 0 0), (5, .ptr 5 0 0), (29, .b true)]
abbrev L140 (y0 : List S41) : SL := [(1, .s41 y0), (3, .ptr 3 0 0), (5, .ptr 5 0 0), (16, .b false)]
abbrev L141 (y0 : List S41) : SL := [(1, .s41 y0), (3, .ptr 3 0 0), (5, .ptr 5 0 0), (26, .b false)]
attribute [simp] H1 H2 H3 H4 H5 H6 H7 H8 H9 H10 H11 H12 H13 H14 H15 H16 H17 H18 H19 H20 H21 H22 H23 H24 H25 H26 H27 H28 H29 H30 H31 H32 H33 H34 H35 H36 H37 H38 H39 H40 H41 H42 H43 H44 H45 H46 H47 H48 H49 H50 H51 H52 H53 H54 H55 H56 H57 H58 H59 H60 H61 H62 H63 H64 H65 H66 H67 H68 H69 H70 H71 H72 H73 H74 H75 H76 H77 H78 H79 H80 H81 H82 H83 H84 H85 L1 L2 L3 L4 L5 L6 L7 L8 L9 L10 L11 L12 L13 L14 L15 L16 L17 L18 L19 L20 L21 L22 L23 L24 L25 L26 L27 L28 L29 L30 L31 L32 L33 L34 L35 L36 L37 L38 L39 L40 L41 L42 L43 L44 L45 L46 L47 L48 L49 L50 L51 L52 L53 L54 L55 L56 L57 L58 L59 L60 L61 L62 L63 L64 L65 L66 L67 L68 L69 L70 L71 L72 L73 L74 L75 L76 L77 L78 L79 L80 L81 L82 L83 L84 L85 L86 L87 L88 L89 L90 L91 L92 L93 L94 L95 L96 L97 L98 L99 L100 L101 L102 L103 L104 L105 L106 L107 L108 L109 L110 L111 L112 L113 L114 L115 L116 L117 L118 L119 L120 L121 L122 L123 L124 L125 L126 L127 L128 L129 L130 L131 L132 L133 L134 L135 L136 L137 L138 L139 L140 L141
end Go.Proofs.YtmgddgcniacnbaaGreatDoor
