/- The types of the program's data, in Lean. -/
import Derived.Test.YtimkkjiplioohaaGreatDoorTy
namespace Go.Proofs.YtimkkjiplioohaaGreatDoor
open Go.Ab Go.Rp
attribute [-simp] List.all_eq_true Array.all_toList Array.all_eq_true

structure S61 where
 Kind : Int
 Int : Int
 Text : ByteArray
def cS61 (x : S61) : List D := [.lit (.int .i64 x.Kind), .lit (.int .i64 x.Int), .lit (.string x.Text)]
@[simp] theorem all_cS61 (xs : List S61) : xs.all ((fun e => decide (e.length = 3)) ∘ cS61) = true := all_len (c := cS61) (fun _ => rfl) xs
@[simp] theorem cS61_def (x : S61) : cS61 x = [.lit (.int .i64 x.Kind), .lit (.int .i64 x.Int), .lit (.string x.Text)] := rfl
structure S65 where
 Columns : (List Int)
 Descending : (List Bool)
def cS65 (x : S65) : List D := [.sl (x.Columns.map (cI .i64)), .sl (x.Descending.map cB)]
@[simp] theorem all_cS65 (xs : List S65) : xs.all ((fun e => decide (e.length = 2)) ∘ cS65) = true := all_len (c := cS65) (fun _ => rfl) xs
@[simp] theorem cS65_def (x : S65) : cS65 x = [.sl (x.Columns.map (cI .i64)), .sl (x.Descending.map cB)] := rfl
structure S189 where
 row : (List S61)
 run : Int
 rest : (List (List S61))
def cS189 (x : S189) : List D := [.sl (x.row.map cS61), .lit (.int .i64 x.run), .sl (x.rest.map (cL cS61))]
@[simp] theorem all_cS189 (xs : List S189) : xs.all ((fun e => decide (e.length = 3)) ∘ cS189) = true := all_len (c := cS189) (fun _ => rfl) xs
@[simp] theorem cS189_def (x : S189) : cS189 x = [.sl (x.row.map cS61), .lit (.int .i64 x.run), .sl (x.rest.map (cL cS61))] := rfl
structure S187 where
 by_ : S65
 l : (List S189)
def cS187 (x : S187) : List D := [.sl (x.by_.Columns.map (cI .i64)), .sl (x.by_.Descending.map cB), .sl (x.l.map cS189)]
@[simp] theorem all_cS187 (xs : List S187) : xs.all ((fun e => decide (e.length = 3)) ∘ cS187) = true := all_len (c := cS187) (fun _ => rfl) xs
@[simp] theorem cS187_def (x : S187) : cS187 x = [.sl (x.by_.Columns.map (cI .i64)), .sl (x.by_.Descending.map cB), .sl (x.l.map cS189)] := rfl
structure S75 where
 Function : ByteArray
 Column : Int
def cS75 (x : S75) : List D := [.lit (.string x.Function), .lit (.int .i64 x.Column)]
@[simp] theorem all_cS75 (xs : List S75) : xs.all ((fun e => decide (e.length = 2)) ∘ cS75) = true := all_len (c := cS75) (fun _ => rfl) xs
@[simp] theorem cS75_def (x : S75) : cS75 x = [.lit (.string x.Function), .lit (.int .i64 x.Column)] := rfl
def beqS61 (x y : S61) : Bool := (x.Kind == y.Kind) && ((x.Int == y.Int) && ((x.Text.toList == y.Text.toList) && (true)))
theorem beqS61_iff (x y : S61) : beqS61 x y = true ↔ x = y := by
 cases x; cases y; simp [beqS61]
theorem eqv61 (x y : S61) : ∀ (w : World), (Op.equalIn 10000 61 (.agg [.int .i64 x.Kind, .int .i64 x.Int, .string x.Text].toArray) (.agg [.int .i64 y.Kind, .int .i64 y.Int, .string y.Text].toArray)).run Tryz.prog w = .ok (beqS61 x y) w :=
 eqS_of (fs := [(Field.mk "Kind" 3 0 false "" "" 0), (Field.mk "Int" 3 1 false "" "" 8), (Field.mk "Text" 9 2 false "" "" 16)]) (by kernel_rfl) (by kernel_rfl) (by kernel_rfl) (eqF_cons (by decide) (part_lit ty3 rfl rfl) (part_lit ty3 rfl rfl) (fun w => run_equalIn_int w _ _ _ .i64 _ _ (by kernel_rfl)) (eqF_cons (by decide) (part_lit ty3 rfl rfl) (part_lit ty3 rfl rfl) (fun w => run_equalIn_int w _ _ _ .i64 _ _ (by kernel_rfl)) (eqF_cons (by decide) (part_lit ty9 rfl rfl) (part_lit ty9 rfl rfl) (fun w => run_equalIn_string w _ _ _ _ (by kernel_rfl)) (eqF_nil))))
/-- short names of the commonest terms -/
abbrev _root_.Go.Ab.V.i (n : Int) : V := .d (.lit (.int .i64 n))
abbrev _root_.Go.Ab.V.b (x : Bool) : V := .d (.lit (.bool x))
attribute [simp] V.i V.b
abbrev R61 (xs : List S61) : Option Blk := some (.arr 61 3 (xs.map cS61))
abbrev R189 (xs : List S189) : Option Blk := some (.arr 189 3 (xs.map cS189))
abbrev R57 (xs : List (List S61)) : Option Blk := some (.arr 57 1 (xs.map (cL cS61)))
abbrev R48 (xs : List (List (List S61))) : Option Blk := some (.arr 48 1 (xs.map (cL (cL cS61))))
abbrev R9 (xs : List ByteArray) : Option Blk := some (.arr 9 1 (xs.map cS))
attribute [simp] R61 R189 R57 R48 R9
abbrev _root_.Go.Ab.V.fg (g : FuncId) (cs : List D) : V := .fn (.func g) (cs.map .d)
abbrev _root_.Go.Ab.V.lls61 (xs : List (List (List S61))) : V := .d (.sl (xs.map (cL (cL cS61))))
abbrev _root_.Go.Ab.V.ls61 (xs : List (List S61)) : V := .d (.sl (xs.map (cL cS61)))
abbrev _root_.Go.Ab.V.s (x : ByteArray) : V := .d (.lit (.string x))
abbrev _root_.Go.Ab.V.s61 (xs : List S61) : V := .d (.sl (xs.map cS61))
abbrev _root_.Go.Ab.V.s75 (xs : List S75) : V := .d (.sl (xs.map cS75))
abbrev _root_.Go.Ab.V.sb (xs : List Bool) : V := .d (.sl (xs.map cB))
abbrev _root_.Go.Ab.V.si (xs : List Int) : V := .d (.sl (xs.map (cI .i64)))
abbrev _root_.Go.Ab.V.ss (xs : List ByteArray) : V := .d (.sl (xs.map cS))
abbrev _root_.Go.Ab.V.z : V := .d (.lit (.slice none 0 0))
attribute [simp] V.fg V.lls61 V.ls61 V.s V.s61 V.s75 V.sb V.si V.ss V.z
/-- short names of the commonest heaps -/
abbrev HL : Type := List (Nat × Option Blk)
abbrev SL : Type := List (Nat × V)
abbrev H1 (y0 : S65) : HL := [(5, some (.box [.si y0.Columns, .sb y0.Descending]))]
abbrev H2 (y0 : List Int) (y1 : List Bool) (y2 : List S189) : HL := [(1000, some (.box [.si y0, .sb y1, .ref 25002 0 y2.length])), (25002, R189 y2)]
abbrev H3 (y0 : S187) : HL := [(1000, some (.box [.si y0.by_.Columns, .sb y0.by_.Descending, .ref 25002 0 y0.l.length])), (25002, R189 y0.l)]
abbrev H4 (y0 : Int) (y1 : Int) (y2 : ByteArray) (y3 : S61) : HL := [(4, some (.box [.i 0, .i 0, .s (ByteArray.mk #[])])), (5, some (.box [.i y0, .i y1, .s y2])), (8, some (.box [.i y3.Kind, .i y3.Int, .s y3.Text]))]
abbrev H5 (y0 : Int) (y1 : Int) (y2 : ByteArray) (y3 : S61) : HL := [(4, some (.box [.i 0, .i 0, .s (ByteArray.mk #[])])), (6, some (.box [.i y0, .i y1, .s y2])), (8, some (.box [.i y3.Kind, .i y3.Int, .s y3.Text]))]
abbrev H6 (y0 : S61) : HL := [(1, some (.box [.i y0.Kind, .i y0.Int, .s y0.Text]))]
abbrev H7 (y0 : S65) : HL := [(4, some (.box [.si y0.Columns, .sb y0.Descending]))]
abbrev H8 (y0 : S75) : HL := [(6, some (.box [.s y0.Function, .i y0.Column]))]
abbrev H9 : HL := [(4, some (.box [.i 0, .i 0, .s (ByteArray.mk #[])]))]
abbrev H10 (y0 : S75) : HL := [(2, some (.box [.s y0.Function, .i y0.Column]))]
abbrev H11 : HL := [(2, some (.box [.i 0, .i 0, .s (ByteArray.mk #[])]))]
abbrev H12 (y0 : S65) (y1 : List (List S61)) : HL := [(5, some (.box [.si y0.Columns, .sb y0.Descending])), (86, R57 y1)]
abbrev H13 (y0 : S65) (y1 : List (List S61)) (y2 : List (List S61)) : HL := [(3, some (.box [.si y0.Columns, .sb y0.Descending])), (10, R57 y1), (44, R57 y2)]
abbrev H14 (y0 : S65) (y1 : List (List S61)) : HL := [(5, some (.box [.si y0.Columns, .sb y0.Descending])), (146, R57 y1)]
abbrev H15 (y0 : S61) (y1 : S61) : HL := [(8, some (.box [.i y0.Kind, .i y0.Int, .s y0.Text])), (9, some (.box [.i y1.Kind, .i y1.Int, .s y1.Text]))]
abbrev H16 (y0 : S65) (y1 : List S189) : HL := [(12, some (.box [.si y0.Columns, .sb y0.Descending, .ref 5242 0 y1.length])), (5242, R189 y1)]
abbrev H17 (y0 : S61) : HL := [(4, some (.box [.i y0.Kind, .i y0.Int, .s y0.Text]))]
abbrev H18 (y0 : S75) : HL := [(3, some (.box [.s y0.Function, .i y0.Column])), (4, some (.box [.i 0, .i 0, .s (ByteArray.mk #[])]))]
abbrev H19 (y0 : S65) (y1 : List S61) (y2 : List (List S61)) : HL := [(5, some (.box [.si y0.Columns, .sb y0.Descending])), (66, R61 y1), (86, R57 y2)]
abbrev H20 (y0 : S75) (y1 : List S61) : HL := [(3, some (.box [.s y0.Function, .i y0.Column])), (4, some (.box [.i 0, .i 0, .s (ByteArray.mk #[])])), (20, R61 y1)]
abbrev H21 (y0 : S65) (y1 : List (List S61)) (y2 : List (List S61)) : HL := [(5, some (.box [.si y0.Columns, .sb y0.Descending])), (121, R57 y1), (146, R57 y2)]
abbrev H22 (y0 : S65) (y1 : List (List S61)) (y2 : List S61) (y3 : List (List S61)) : HL := [(5, some (.box [.si y0.Columns, .sb y0.Descending])), (121, R57 y1), (129, R61 y2), (146, R57 y3)]
abbrev H23 (y0 : S61) (y1 : S61) : HL := [(2, some (.box [.i y0.Kind, .i y0.Int, .s y0.Text])), (3, some (.box [.i y1.Kind, .i y1.Int, .s y1.Text]))]
abbrev H24 (y0 : S75) (y1 : List S61) : HL := [(3, some (.box [.s y0.Function, .i y0.Column])), (4, some (.box [.i 0, .i 0, .s (ByteArray.mk #[])])), (34, R61 y1)]
abbrev H25 (y0 : S65) : HL := [(3, some (.box [.si y0.Columns, .sb y0.Descending]))]
abbrev H26 (y0 : List (List (List S61))) (y1 : List (List S61)) (y2 : List (List S61)) (y3 : Int) : HL := [(9, some (.box [.ref 31 0 y0.length])), (21, some (.box [.ls61 y1])), (24, R57 y2), (31, R48 y0), (800021, some (.box [.i y3]))]
abbrev H27 (y0 : List Int) (y1 : List Bool) (y2 : List S189) (y3 : List (List S61)) : HL := [(12, some (.box [.si y0, .sb y1, .ref 5242 0 y2.length])), (54, R57 y3), (5242, R189 y2)]
abbrev H28 (y0 : S61) : HL := [(4, some (.box [.i 0, .i 0, .s (ByteArray.mk #[])])), (5, some (.box [.i y0.Kind, .i y0.Int, .s y0.Text]))]
abbrev H29 (y0 : Int) (y1 : Int) (y2 : ByteArray) : HL := [(4, some (.box [.i 0, .i 0, .s (ByteArray.mk #[])])), (5, some (.box [.i y0, .i y1, .s y2]))]
abbrev H30 (y0 : Int) (y1 : Int) (y2 : ByteArray) : HL := [(4, some (.box [.i 0, .i 0, .s (ByteArray.mk #[])])), (6, some (.box [.i y0, .i y1, .s y2]))]
abbrev H31 (y0 : List (List (List S61))) (y1 : List (List S61)) (y2 : Int) : HL := [(9, some (.box [.ref 31 0 y0.length])), (21, some (.box [.ls61 y1])), (31, R48 y0), (800021, some (.box [.i y2]))]
abbrev H32 (y0 : S61) : HL := [(4, some (.box [.i 0, .i 0, .s (ByteArray.mk #[])])), (6, some (.box [.i y0.Kind, .i y0.Int, .s y0.Text]))]
abbrev H33 (y0 : S65) : HL := [(12, some (.box [.si y0.Columns, .sb y0.Descending, .ref 5242 0 (([] : List S189).length)])), (5242, R189 ([] : List S189))]
abbrev H34 (y0 : S75) (y1 : List ByteArray) : HL := [(6, some (.box [.s y0.Function, .i y0.Column])), (13, R9 y1)]
abbrev H35 (y0 : S75) (y1 : List ByteArray) : HL := [(2, some (.box [.s y0.Function, .i y0.Column])), (5, R9 y1)]
abbrev H36 (y0 : Int) (y1 : Int) (y2 : ByteArray) (y3 : Int) (y4 : Int) (y5 : ByteArray) : HL := [(8, some (.box [.i y0, .i y1, .s y2])), (9, some (.box [.i y3, .i y4, .s y5]))]
abbrev H37 (y0 : S65) (y1 : List (List S61)) : HL := [(3, some (.box [.si y0.Columns, .sb y0.Descending])), (10, R57 y1)]
abbrev H38 (y0 : S189) (y1 : S187) : HL := [(3, some (.box [.s61 y0.row, .i y0.run, .ls61 y0.rest])), (1000, some (.box [.si y1.by_.Columns, .sb y1.by_.Descending, .ref 25002 0 y1.l.length])), (25002, R189 y1.l)]
abbrev H39 (y0 : S65) : HL := [(4, some (.box [.si y0.Columns, .sb y0.Descending])), (9, some (.box [.z]))]
abbrev H40 (y0 : S187) : HL := [(12, some (.box [.si y0.by_.Columns, .sb y0.by_.Descending, .ref 5242 0 y0.l.length])), (5242, R189 y0.l)]
abbrev H41 (y0 : S65) : HL := [(4, some (.box [.si y0.Columns, .sb y0.Descending])), (12, some (.box [.z]))]
abbrev H42 (y0 : S65) (y1 : List (List (List S61))) (y2 : List (List (List S61))) (y3 : Int) : HL := [(4, some (.box [.si y0.Columns, .sb y0.Descending])), (12, some (.box [.ref 41 0 y1.length])), (34, some (.box [.lls61 y2])), (41, R48 y1), (800034, some (.box [.i y3]))]
abbrev H43 (y0 : S65) (y1 : List (List (List S61))) : HL := [(4, some (.box [.si y0.Columns, .sb y0.Descending])), (41, R48 y1)]
abbrev H44 (y0 : S65) (y1 : List (List (List S61))) : HL := [(5, some (.box [.si y0.Columns, .sb y0.Descending])), (24, R48 y1)]
abbrev H45 (y0 : S65) (y1 : List S61) (y2 : List (List S61)) : HL := [(5, some (.box [.si y0.Columns, .sb y0.Descending])), (129, R61 y1), (146, R57 y2)]
abbrev L1 (y0 : List S61) (y1 : List S61) : SL := [(0, .s61 y0), (1, .s61 y1)]
abbrev L2 (y0 : List S61) (y1 : List S61) (y2 : List Bool) (y3 : Nat) (y4 : Int) : SL := [(0, .s61 y0), (1, .s61 y1), (2, .sb y2), (10, .i (y3 : Int)), (11, .i y4)]
abbrev L3 (y0 : List S61) (y1 : List S61) (y2 : List Bool) (y3 : Int) (y4 : Nat) : SL := [(0, .s61 y0), (1, .s61 y1), (2, .sb y2), (7, .i y3), (10, .i (y4 : Int)), (11, .i y3)]
abbrev L4 (y0 : List S61) (y1 : List S61) (y2 : List Bool) (y3 : Int) (y4 : Nat) : SL := [(0, .s61 y0), (1, .s61 y1), (2, .sb y2), (7, .i y3), (10, .i (y4 : Int)), (11, .i y3), (18, .b false)]
abbrev L5 (y0 : List Int) (y1 : List Bool) (y2 : List S189) (y3 : Int) (y4 : Int) : SL := [(0, .d (.pim [.sl (y0.map (cI .i64)), .sl (y1.map cB), .sl (y2.map cS189)])), (1, .i y3), (2, .i y4)]
abbrev L6 (y0 : List Int) (y1 : List Bool) (y2 : List S189) (y3 : Int) (y4 : Int) (y5 : Int) : SL := [(0, .d (.pim [.sl (y0.map (cI .i64)), .sl (y1.map cB), .sl (y2.map cS189)])), (1, .i y3), (2, .i y4), (7, .i y5)]
abbrev L7 (y0 : List Int) (y1 : List Bool) (y2 : List S189) (y3 : Int) (y4 : Int) : SL := [(0, .d (.pim [.sl (y0.map (cI .i64)), .sl (y1.map cB), .sl (y2.map cS189)])), (1, .i y3), (2, .i y4), (31, .b false)]
abbrev L8 (y0 : List (List (List S61))) (y1 : Nat) (y2 : Int) : SL := [(5, .lls61 y0), (6, .i (y1 : Int)), (7, .i y2)]
abbrev L9 (y0 : List (List S61)) (y1 : List (List (List S61))) (y2 : Nat) (y3 : Int) : SL := [(4, .ls61 y0), (5, .lls61 y1), (6, .i (y2 : Int)), (7, .i y3)]
abbrev L10 (y0 : List (List S61)) (y1 : Int) : SL := [(0, .ls61 y0), (2, .i y1), (4, .ptr 4 0 0)]
abbrev L11 (y0 : List (List S61)) (y1 : List Int) (y2 : Nat) (y3 : Int) : SL := [(0, .ls61 y0), (26, .si y1), (27, .i (y2 : Int)), (28, .i y3)]
abbrev L12 (y0 : List (List S61)) (y1 : List Int) (y2 : Nat) (y3 : Int) : SL := [(0, .ls61 y0), (8, .ptr 8 0 0), (26, .si y1), (27, .i (y2 : Int)), (28, .i y3)]
abbrev L13 (y0 : Nat) (y1 : Int) (y2 : Int) : SL := [(0, .ref 1000 0 y0), (1, .i y1), (2, .i y2)]
abbrev L14 (y0 : Nat) (y1 : Int) (y2 : Int) (y3 : Int) : SL := [(0, .ref 1000 0 y0), (1, .i y1), (2, .i y2), (3, .i y3)]
abbrev L15 (y0 : Nat) (y1 : Int) (y2 : Int) (y3 : Int) (y4 : Int) : SL := [(0, .ref 1000 0 y0), (1, .i y1), (2, .i y2), (3, .i y3), (10, .i y4)]
abbrev L16 (y0 : Nat) (y1 : Int) (y2 : Int) : SL := [(0, .ref 1000 0 y0), (1, .i y1), (3, .i y2)]
abbrev L17 (y0 : List Int) (y1 : List Bool) : SL := [(4, .d (.pim [.sl (y0.map (cI .i64)), .sl (y1.map cB)])), (9, .ptr 9 0 0)]
abbrev L18 (y0 : Int) (y1 : Int) : SL := [(0, .fn (.methodOf 184 "") [.ptr 1000 0 0]), (1, .i y0), (2, .i y1)]
abbrev L19 (y0 : Int) (y1 : Int) (y2 : Int) (y3 : Int) : SL := [(0, .fn (.methodOf 184 "") [.ptr 1000 0 0]), (1, .i y0), (2, .i y1), (7, .i y2), (8, .i y3)]
abbrev L20 (y0 : Int) (y1 : Int) (y2 : Int) (y3 : Int) (y4 : Int) : SL := [(0, .fn (.methodOf 184 "") [.ptr 1000 0 0]), (1, .i y0), (2, .i y1), (7, .i y2), (8, .i y3), (9, .i y3), (10, .i y4)]
abbrev L21 (y0 : Int) (y1 : Int) (y2 : Int) (y3 : Int) (y4 : Int) : SL := [(0, .fn (.methodOf 184 "") [.ptr 1000 0 0]), (1, .i y0), (2, .i y1), (7, .i y2), (9, .i y3), (10, .i y4)]
abbrev L22 (y0 : Int) (y1 : Int) (y2 : Int) (y3 : Int) : SL := [(0, .fn (.methodOf 184 "") [.ptr 1000 0 0]), (1, .i y0), (2, .i y1), (7, .i y2), (9, .i y3)]
abbrev L23 : SL := [(0, .fn (.methodOf 184 "") [.ptr 1000 0 0]), (4, .fn (.methodOf 184 "") [.ptr 1000 0 0])]
abbrev L24 (y0 : Int) (y1 : Int) : SL := [(0, .fn (.methodOf 184 "") [.ptr 1000 0 0]), (2, .i y0), (3, .i y1)]
abbrev L25 (y0 : Int) (y1 : Int) : SL := [(0, .fn (.methodOf 184 "") [.ptr 1000 0 0]), (1, .i y0), (4, .i y1)]
abbrev L26 (y0 : Int) (y1 : Int) : SL := [(0, .fn (.methodOf 184 "") [.ptr 1000 0 0]), (1, .i y0), (4, .i y1), (11, .b false)]
abbrev L27 (y0 : List (List (List S61))) (y1 : Nat) (y2 : Int) : SL := [(5, .ptr 12 0 0), (13, .lls61 y0), (14, .i (y1 : Int)), (15, .i y2)]
abbrev L28 (y0 : Int) (y1 : List (List (List S61))) (y2 : Int) : SL := [(2, .i y0), (4, .ptr 4 0 0), (9, .lls61 y1), (11, .i y2)]
abbrev L29 (y0 : Int) (y1 : Nat) (y2 : List (List (List S61))) (y3 : Nat) (y4 : Int) : SL := [(11, .i y0), (14, .ref 61 0 y1), (45, .lls61 y2), (46, .i (y3 : Int)), (47, .i y4)]
abbrev L30 (y0 : Int) (y1 : Nat) (y2 : List (List (List S61))) (y3 : Nat) (y4 : Int) (y5 : List (List S61)) (y6 : Nat) : SL := [(11, .i y0), (14, .ref 61 0 y1), (45, .lls61 y2), (46, .i (y3 : Int)), (47, .i y4), (51, .ls61 y5), (52, .i (y6 : Int))]
abbrev L31 (y0 : List ByteArray) (y1 : ByteArray) (y2 : Nat) (y3 : Int) : SL := [(0, .ss y0), (1, .s y1), (7, .i (y2 : Int)), (8, .i y3)]
abbrev L32 (y0 : List (List S61)) (y1 : List S75) (y2 : Nat) (y3 : Int) : SL := [(0, .ls61 y0), (7, .s75 y1), (8, .i (y2 : Int)), (9, .i y3)]
abbrev L33 (y0 : List (List S61)) (y1 : List S75) (y2 : Nat) (y3 : Int) : SL := [(0, .ls61 y0), (6, .ptr 6 0 0), (7, .s75 y1), (8, .i (y2 : Int)), (9, .i y3)]
abbrev L34 (y0 : List (List S61)) (y1 : List S75) (y2 : Nat) (y3 : Int) (y4 : Nat) : SL := [(0, .ls61 y0), (6, .ptr 6 0 0), (7, .s75 y1), (8, .i (y2 : Int)), (9, .i y3), (13, .ref 13 0 y4)]
abbrev L35 (y0 : List (List S61)) (y1 : List S75) (y2 : Nat) (y3 : Int) (y4 : Int) : SL := [(0, .ls61 y0), (6, .ptr 6 0 0), (7, .s75 y1), (8, .i (y2 : Int)), (9, .i y3), (19, .ptr 6 0 1), (20, .i y4), (21, .b false), (23, .b false), (24, .ptr 6 0 1), (25, .i y4)]
abbrev L36 (y0 : List (List S61)) (y1 : List S75) (y2 : Nat) (y3 : Int) (y4 : Int) (y5 : ByteArray) : SL := [(0, .ls61 y0), (6, .ptr 6 0 0), (7, .s75 y1), (8, .i (y2 : Int)), (9, .i y3), (19, .ptr 6 0 1), (20, .i y4), (21, .b false), (24, .ptr 6 0 1), (25, .i y4), (26, .b true), (27, .b true), (28, .ptr 6 0 0), (29, .s y5)]
abbrev L37 (y0 : List (List S61)) (y1 : List S75) (y2 : Nat) (y3 : Int) (y4 : Int) (y5 : ByteArray) : SL := [(0, .ls61 y0), (7, .s75 y1), (8, .i (y2 : Int)), (9, .i y3), (19, .ptr 6 0 1), (20, .i y4), (21, .b false), (24, .ptr 6 0 1), (25, .i y4), (26, .b true), (27, .b true), (28, .ptr 6 0 0), (29, .s y5), (30, .b false), (31, .b false)]
abbrev L38 (y0 : List (List S61)) (y1 : List S75) (y2 : Nat) (y3 : Int) (y4 : Int) : SL := [(0, .ls61 y0), (7, .s75 y1), (8, .i (y2 : Int)), (9, .i y3), (19, .ptr 6 0 1), (20, .i y4), (21, .b false), (24, .ptr 6 0 1), (25, .i y4), (26, .b false), (27, .b false), (28, .tup []), (29, .tup []), (30, .tup []), (31, .b false)]
abbrev L39 (y0 : ByteArray) (y1 : List S61) : SL := [(0, .s y0), (1, .s61 y1), (4, .ptr 4 0 0)]
abbrev L40 (y0 : Nat) (y1 : Int) (y2 : Int) (y3 : ByteArray) : SL := [(4, .ptr 4 0 0), (12, .i (y0 : Int)), (13, .agg [.i y1, .i y2, .s y3])]
abbrev L41 (y0 : ByteArray) (y1 : Int) (y2 : List S61) (y3 : Nat) (y4 : Int) : SL := [(0, .s y0), (4, .ptr 4 0 0), (5, .ptr 5 0 0), (6, .i y1), (21, .s61 y2), (22, .i (y3 : Int)), (23, .i y4)]
abbrev L42 (y0 : ByteArray) (y1 : Int) (y2 : List S61) (y3 : Nat) (y4 : Int) : SL := [(0, .s y0), (4, .ptr 4 0 0), (5, .ptr 5 0 0), (6, .i y1), (8, .ptr 8 0 0), (21, .s61 y2), (22, .i (y3 : Int)), (23, .i y4)]
abbrev L43 (y0 : ByteArray) (y1 : Int) (y2 : List S61) (y3 : Nat) (y4 : Int) : SL := [(0, .s y0), (4, .ptr 4 0 0), (5, .ptr 5 0 0), (6, .i y1), (8, .ptr 8 0 0), (21, .s61 y2), (22, .i (y3 : Int)), (23, .i y4), (33, .b true)]
abbrev L44 (y0 : ByteArray) (y1 : Int) (y2 : List S61) (y3 : Nat) (y4 : Int) (y5 : Int) (y6 : Int) (y7 : ByteArray) (y8 : Int) (y9 : Int) (y10 : ByteArray) : SL := [(0, .s y0), (4, .ptr 4 0 0), (5, .ptr 5 0 0), (6, .i y1), (8, .ptr 8 0 0), (21, .s61 y2), (22, .i (y3 : Int)), (23, .i y4), (34, .agg [.i y5, .i y6, .s y7]), (35, .agg [.i y8, .i y9, .s y10])]
abbrev L45 (y0 : ByteArray) (y1 : Int) (y2 : List S61) (y3 : Nat) (y4 : Int) (y5 : Int) (y6 : Int) (y7 : ByteArray) (y8 : Int) (y9 : Int) (y10 : ByteArray) : SL := [(0, .s y0), (4, .ptr 4 0 0), (5, .ptr 5 0 0), (6, .i y1), (8, .ptr 8 0 0), (21, .s61 y2), (22, .i (y3 : Int)), (23, .i y4), (34, .agg [.i y5, .i y6, .s y7]), (35, .agg [.i y8, .i y9, .s y10]), (36, .b false)]
abbrev L46 (y0 : ByteArray) (y1 : Int) (y2 : List S61) (y3 : Nat) (y4 : Int) (y5 : Int) (y6 : Int) (y7 : ByteArray) (y8 : Int) (y9 : Int) (y10 : ByteArray) : SL := [(0, .s y0), (4, .ptr 4 0 0), (5, .ptr 5 0 0), (6, .i y1), (8, .ptr 8 0 0), (21, .s61 y2), (22, .i (y3 : Int)), (23, .i y4), (34, .agg [.i y5, .i y6, .s y7]), (35, .agg [.i y8, .i y9, .s y10]), (36, .b false), (38, .b false), (39, .s y0)]
abbrev L47 (y0 : ByteArray) (y1 : Int) (y2 : List S61) (y3 : Nat) (y4 : Int) (y5 : Int) (y6 : Int) (y7 : ByteArray) (y8 : Int) (y9 : Int) (y10 : ByteArray) : SL := [(0, .s y0), (4, .ptr 4 0 0), (5, .ptr 5 0 0), (6, .i y1), (8, .ptr 8 0 0), (21, .s61 y2), (22, .i (y3 : Int)), (23, .i y4), (34, .agg [.i y5, .i y6, .s y7]), (35, .agg [.i y8, .i y9, .s y10]), (36, .b false), (38, .b false), (39, .s y0), (40, .b true), (41, .b true)]
abbrev L48 (y0 : ByteArray) (y1 : Int) (y2 : List S61) (y3 : Nat) (y4 : Int) : SL := [(0, .s y0), (4, .ptr 4 0 0), (5, .ptr 5 0 0), (6, .i y1), (8, .ptr 8 0 0), (21, .s61 y2), (22, .i (y3 : Int)), (23, .i y4), (34, .tup []), (35, .tup []), (36, .tup []), (38, .b false), (39, .s y0)]
abbrev L49 (y0 : ByteArray) (y1 : Int) (y2 : List S61) (y3 : Nat) (y4 : Int) : SL := [(0, .s y0), (4, .ptr 4 0 0), (5, .ptr 5 0 0), (6, .i y1), (8, .ptr 8 0 0), (21, .s61 y2), (22, .i (y3 : Int)), (23, .i y4), (34, .tup []), (35, .tup []), (36, .tup []), (38, .b false), (39, .s y0), (40, .b true), (41, .b true)]
abbrev L50 (y0 : ByteArray) (y1 : Int) (y2 : List S61) (y3 : Nat) (y4 : Int) : SL := [(0, .s y0), (4, .ptr 4 0 0), (5, .ptr 5 0 0), (6, .i y1), (8, .ptr 8 0 0), (21, .s61 y2), (22, .i (y3 : Int)), (23, .i y4), (34, .tup []), (35, .tup []), (36, .tup [])]
abbrev L51 (y0 : List (List S61)) : SL := [(0, .ls61 y0), (3, .ptr 3 0 0), (4, .ptr 4 0 0)]
abbrev L52 (y0 : Nat) (y1 : List (List S61)) (y2 : Nat) (y3 : Int) : SL := [(3, .ptr 3 0 0), (4, .ptr 4 0 0), (5, .ref 34 0 y0), (14, .ls61 y1), (15, .i (y2 : Int)), (16, .i y3)]
abbrev L53 (y0 : List (List S61)) (y1 : List S75) (y2 : Int) : SL := [(0, .ls61 y0), (2, .s75 y1), (3, .i y2), (5, .ptr 5 0 0)]
abbrev L54 (y0 : List (List S61)) (y1 : List S75) : SL := [(0, .ls61 y0), (2, .s75 y1), (5, .ptr 5 0 0)]
abbrev L55 (y0 : List S75) (y1 : List (List S61)) : SL := [(2, .s75 y0), (5, .ptr 5 0 0), (10, .ls61 y1)]
abbrev L56 (y0 : List S75) (y1 : List (List S61)) (y2 : Nat) (y3 : Int) : SL := [(2, .s75 y0), (5, .ptr 5 0 0), (10, .ls61 y1), (14, .ref 86 0 y2), (15, .i y3)]
abbrev L57 (y0 : List S75) (y1 : List (List S61)) (y2 : Nat) (y3 : Int) (y4 : Int) : SL := [(2, .s75 y0), (5, .ptr 5 0 0), (10, .ls61 y1), (14, .ref 86 0 y2), (15, .i y3), (16, .i y4)]
abbrev L58 (y0 : List S75) (y1 : List (List S61)) (y2 : Nat) (y3 : Int) (y4 : Int) : SL := [(2, .s75 y0), (5, .ptr 5 0 0), (10, .ls61 y1), (14, .ref 86 0 y2), (15, .i y3), (16, .i y4), (46, .b true)]
abbrev L59 (y0 : List S75) (y1 : List (List S61)) (y2 : Nat) (y3 : Int) (y4 : Int) (y5 : Nat) (y6 : Nat) : SL := [(2, .s75 y0), (5, .ptr 5 0 0), (10, .ls61 y1), (14, .ref 86 0 y2), (15, .i y3), (16, .i y4), (17, .ref 66 0 y5), (67, .s75 y0), (68, .i (y6 : Int))]
abbrev L60 (y0 : List S75) (y1 : List (List S61)) (y2 : Nat) : SL := [(2, .s75 y0), (5, .ptr 5 0 0), (10, .ls61 y1), (14, .ref 86 0 y2)]
abbrev L61 (y0 : List (List S61)) (y1 : Nat) : SL := [(1, .d (.pim [.sl (y0.map (cL cS61))])), (2, .ptr 2 0 0), (5, .ref 5 0 y1)]
abbrev L62 (y0 : List (List S61)) : SL := [(1, .d (.pim [.sl (y0.map (cL cS61))])), (2, .ptr 2 0 0)]
abbrev L63 (y0 : List (List S61)) : SL := [(1, .d (.pim [.sl (y0.map (cL cS61))])), (2, .ptr 2 0 0), (16, .b false)]
abbrev L64 (y0 : List (List S61)) : SL := [(26, .b false), (27, .ls61 y0), (28, .fn (.func 77) [.ptr 2 0 0])]
abbrev L65 (y0 : List S61) (y1 : List S61) (y2 : List Bool) (y3 : Int) (y4 : Int) : SL := [(0, .s61 y0), (1, .s61 y1), (2, .sb y2), (14, .i y3), (15, .i y4)]
abbrev L66 (y0 : List S61) (y1 : List S61) (y2 : List Bool) (y3 : Int) (y4 : Int) : SL := [(0, .s61 y0), (1, .s61 y1), (2, .sb y2), (7, .i y3), (8, .ptr 8 0 0), (9, .ptr 9 0 0), (14, .i y4), (15, .i y3)]
abbrev L67 (y0 : List S61) (y1 : List S61) (y2 : List Bool) (y3 : Int) (y4 : Int) : SL := [(0, .s61 y0), (1, .s61 y1), (2, .sb y2), (8, .ptr 8 0 0), (9, .ptr 9 0 0), (14, .i y3), (15, .i y4)]
abbrev L68 (y0 : Nat) (y1 : Nat) : SL := [(3, .ptr 3 0 0), (5, .ref 10 0 y0), (6, .ref 44 0 y1)]
abbrev L69 (y0 : Nat) (y1 : Nat) (y2 : Int) (y3 : Int) : SL := [(3, .ptr 3 0 0), (5, .ref 10 0 y0), (6, .ref 44 0 y1), (7, .i y2), (15, .i (y0 : Int)), (16, .i y3)]
abbrev L70 (y0 : List S61) (y1 : List S61) (y2 : Nat) (y3 : Int) : SL := [(0, .s61 y0), (1, .s61 y1), (12, .i (y2 : Int)), (13, .i y3)]
abbrev L71 (y0 : ByteArray) (y1 : Int) (y2 : List S61) (y3 : Nat) (y4 : Int) : SL := [(0, .s y0), (4, .ptr 4 0 0), (5, .i y1), (6, .ptr 6 0 0), (21, .s61 y2), (22, .i (y3 : Int)), (23, .i y4)]
abbrev L72 (y0 : ByteArray) (y1 : Int) (y2 : List S61) (y3 : Nat) (y4 : Int) : SL := [(0, .s y0), (4, .ptr 4 0 0), (5, .i y1), (6, .ptr 6 0 0), (8, .ptr 8 0 0), (21, .s61 y2), (22, .i (y3 : Int)), (23, .i y4)]
abbrev L73 (y0 : ByteArray) (y1 : Int) (y2 : List S61) (y3 : Nat) (y4 : Int) : SL := [(0, .s y0), (4, .ptr 4 0 0), (5, .i y1), (6, .ptr 6 0 0), (8, .ptr 8 0 0), (21, .s61 y2), (22, .i (y3 : Int)), (23, .i y4), (33, .b true)]
abbrev L74 (y0 : ByteArray) (y1 : Int) (y2 : List S61) (y3 : Nat) (y4 : Int) (y5 : Int) (y6 : Int) (y7 : ByteArray) (y8 : Int) (y9 : Int) (y10 : ByteArray) : SL := [(0, .s y0), (4, .ptr 4 0 0), (5, .i y1), (6, .ptr 6 0 0), (8, .ptr 8 0 0), (21, .s61 y2), (22, .i (y3 : Int)), (23, .i y4), (34, .agg [.i y5, .i y6, .s y7]), (35, .agg [.i y8, .i y9, .s y10])]
abbrev L75 (y0 : ByteArray) (y1 : Int) (y2 : List S61) (y3 : Nat) (y4 : Int) (y5 : Int) (y6 : Int) (y7 : ByteArray) (y8 : Int) (y9 : Int) (y10 : ByteArray) : SL := [(0, .s y0), (4, .ptr 4 0 0), (5, .i y1), (6, .ptr 6 0 0), (8, .ptr 8 0 0), (21, .s61 y2), (22, .i (y3 : Int)), (23, .i y4), (34, .agg [.i y5, .i y6, .s y7]), (35, .agg [.i y8, .i y9, .s y10]), (36, .b false)]
abbrev L76 (y0 : ByteArray) (y1 : Int) (y2 : List S61) (y3 : Nat) (y4 : Int) (y5 : Int) (y6 : Int) (y7 : ByteArray) (y8 : Int) (y9 : Int) (y10 : ByteArray) : SL := [(0, .s y0), (4, .ptr 4 0 0), (5, .i y1), (6, .ptr 6 0 0), (8, .ptr 8 0 0), (21, .s61 y2), (22, .i (y3 : Int)), (23, .i y4), (34, .agg [.i y5, .i y6, .s y7]), (35, .agg [.i y8, .i y9, .s y10]), (36, .b false), (38, .b false), (39, .s y0)]
abbrev L77 (y0 : ByteArray) (y1 : Int) (y2 : List S61) (y3 : Nat) (y4 : Int) (y5 : Int) (y6 : Int) (y7 : ByteArray) (y8 : Int) (y9 : Int) (y10 : ByteArray) : SL := [(0, .s y0), (4, .ptr 4 0 0), (5, .i y1), (6, .ptr 6 0 0), (8, .ptr 8 0 0), (21, .s61 y2), (22, .i (y3 : Int)), (23, .i y4), (34, .agg [.i y5, .i y6, .s y7]), (35, .agg [.i y8, .i y9, .s y10]), (36, .b false), (38, .b false), (39, .s y0), (40, .b true), (41, .b true)]
abbrev L78 (y0 : ByteArray) (y1 : Int) (y2 : List S61) (y3 : Nat) (y4 : Int) : SL := [(0, .s y0), (4, .ptr 4 0 0), (5, .i y1), (6, .ptr 6 0 0), (8, .ptr 8 0 0), (21, .s61 y2), (22, .i (y3 : Int)), (23, .i y4), (34, .tup []), (35, .tup []), (36, .tup []), (38, .b false), (39, .s y0)]
abbrev L79 (y0 : ByteArray) (y1 : Int) (y2 : List S61) (y3 : Nat) (y4 : Int) : SL := [(0, .s y0), (4, .ptr 4 0 0), (5, .i y1), (6, .ptr 6 0 0), (8, .ptr 8 0 0), (21, .s61 y2), (22, .i (y3 : Int)), (23, .i y4), (34, .tup []), (35, .tup []), (36, .tup []), (38, .b false), (39, .s y0), (40, .b true), (41, .b true)]
abbrev L80 (y0 : ByteArray) (y1 : Int) (y2 : List S61) (y3 : Nat) (y4 : Int) : SL := [(0, .s y0), (4, .ptr 4 0 0), (5, .i y1), (6, .ptr 6 0 0), (8, .ptr 8 0 0), (21, .s61 y2), (22, .i (y3 : Int)), (23, .i y4), (34, .tup []), (35, .tup []), (36, .tup [])]
abbrev L81 (y0 : Nat) (y1 : List (List S61)) (y2 : Nat) (y3 : Int) : SL := [(3, .ptr 3 0 0), (4, .ptr 4 0 0), (5, .ref 20 0 y0), (8, .ls61 y1), (9, .i (y2 : Int)), (10, .i y3)]
abbrev L82 (y0 : Nat) (y1 : List S61) (y2 : List (List S61)) (y3 : Nat) (y4 : Int) : SL := [(3, .ptr 3 0 0), (4, .ptr 4 0 0), (5, .ref 20 0 y0), (7, .s61 y1), (8, .ls61 y2), (9, .i (y3 : Int)), (10, .i y4)]
abbrev L83 (y0 : List (List S61)) (y1 : List (List S61)) (y2 : Nat) (y3 : Int) : SL := [(0, .ls61 y0), (1, .ls61 y1), (12, .i (y2 : Int)), (13, .i y3)]
abbrev L84 (y0 : List (List S61)) (y1 : List S75) (y2 : Int) : SL := [(0, .ls61 y0), (2, .s75 y1), (3, .i y2), (5, .ptr 5 0 0), (41, .b true)]
abbrev L85 (y0 : List (List S61)) (y1 : List S75) (y2 : Int) : SL := [(0, .ls61 y0), (2, .s75 y1), (3, .i y2), (5, .ptr 5 0 0), (37, .b false)]
abbrev L86 (y0 : List (List S61)) (y1 : List S75) (y2 : List (List S61)) (y3 : Int) : SL := [(0, .ls61 y0), (2, .s75 y1), (5, .ptr 5 0 0), (9, .ls61 y2), (10, .i y3)]
abbrev L87 (y0 : List (List S61)) (y1 : List S75) (y2 : List (List S61)) (y3 : Int) (y4 : Int) : SL := [(0, .ls61 y0), (2, .s75 y1), (5, .ptr 5 0 0), (9, .ls61 y2), (10, .i y3), (11, .i y4)]
abbrev L88 (y0 : List (List S61)) (y1 : List S75) (y2 : List (List S61)) (y3 : Int) (y4 : Int) : SL := [(0, .ls61 y0), (2, .s75 y1), (5, .ptr 5 0 0), (9, .ls61 y2), (10, .i y3), (11, .i y4), (56, .b true)]
abbrev L89 (y0 : List S75) (y1 : List (List S61)) (y2 : Int) : SL := [(2, .s75 y0), (5, .ptr 5 0 0), (9, .ls61 y1), (10, .i y2), (12, .z)]
abbrev L90 (y0 : List S75) (y1 : List (List S61)) (y2 : Int) (y3 : Nat) (y4 : List (List S61)) (y5 : Nat) (y6 : Int) : SL := [(2, .s75 y0), (5, .ptr 5 0 0), (9, .ls61 y1), (10, .i y2), (12, .ref 146 0 y3), (13, .ls61 y4), (76, .i (y5 : Int)), (77, .i y6)]
abbrev L91 (y0 : List S75) (y1 : List (List S61)) (y2 : Int) (y3 : Nat) (y4 : List (List S61)) (y5 : Int) (y6 : Nat) : SL := [(2, .s75 y0), (5, .ptr 5 0 0), (9, .ls61 y1), (10, .i y2), (12, .ref 146 0 y3), (13, .ls61 y4), (14, .i y5), (76, .i (y6 : Int)), (77, .i y5)]
abbrev L92 (y0 : List S75) (y1 : List (List S61)) (y2 : Int) (y3 : Nat) (y4 : List (List S61)) (y5 : Int) : SL := [(2, .s75 y0), (5, .ptr 5 0 0), (9, .ls61 y1), (10, .i y2), (12, .ref 146 0 y3), (13, .ls61 y4), (14, .i y5)]
abbrev L93 (y0 : List S75) (y1 : List (List S61)) (y2 : Int) (y3 : Nat) (y4 : List (List S61)) (y5 : Int) (y6 : Nat) : SL := [(2, .s75 y0), (5, .ptr 5 0 0), (9, .ls61 y1), (10, .i y2), (12, .ref 146 0 y3), (13, .ls61 y4), (14, .i y5), (15, .ref 121 0 y6)]
abbrev L94 (y0 : List S75) (y1 : List (List S61)) (y2 : Int) (y3 : Nat) (y4 : List (List S61)) (y5 : Int) (y6 : Nat) (y7 : Nat) (y8 : Int) : SL := [(2, .s75 y0), (5, .ptr 5 0 0), (9, .ls61 y1), (10, .i y2), (12, .ref 146 0 y3), (13, .ls61 y4), (14, .i y5), (15, .ref 121 0 y6), (76, .i (y7 : Int)), (77, .i y5), (100, .ls61 y4), (101, .i (y7 : Int)), (102, .i y8)]
abbrev L95 (y0 : List S75) (y1 : List (List S61)) (y2 : Int) (y3 : Nat) (y4 : List (List S61)) (y5 : Nat) (y6 : Nat) (y7 : Int) : SL := [(2, .s75 y0), (5, .ptr 5 0 0), (9, .ls61 y1), (10, .i y2), (12, .ref 146 0 y3), (13, .ls61 y4), (15, .ref 121 0 y5), (76, .i (y6 : Int)), (77, .i y7)]
abbrev L96 (y0 : List S75) (y1 : List (List S61)) (y2 : Int) (y3 : Nat) (y4 : List (List S61)) (y5 : Nat) : SL := [(2, .s75 y0), (5, .ptr 5 0 0), (9, .ls61 y1), (10, .i y2), (12, .ref 146 0 y3), (13, .ls61 y4), (15, .ref 121 0 y5)]
abbrev L97 (y0 : List S75) (y1 : List (List S61)) (y2 : Int) (y3 : Nat) (y4 : List (List S61)) (y5 : Nat) (y6 : Nat) (y7 : Nat) (y8 : Int) (y9 : Nat) : SL := [(2, .s75 y0), (5, .ptr 5 0 0), (9, .ls61 y1), (10, .i y2), (12, .ref 146 0 y3), (13, .ls61 y4), (15, .ref 121 0 y5), (18, .ref 129 0 y6), (76, .i (y7 : Int)), (77, .i y8), (130, .s75 y0), (131, .i (y9 : Int))]
abbrev L98 (y0 : List S75) (y1 : List (List S61)) (y2 : Int) : SL := [(2, .s75 y0), (5, .ptr 5 0 0), (9, .ls61 y1), (10, .i y2)]
attribute [simp] H1 H2 H3 H4 H5 H6 H7 H8 H9 H10 H11 H12 H13 H14 H15 H16 H17 H18 H19 H20 H21 H22 H23 H24 H25 H26 H27 H28 H29 H30 H31 H32 H33 H34 H35 H36 H37 H38 H39 H40 H41 H42 H43 H44 H45 L1 L2 L3 L4 L5 L6 L7 L8 L9 L10 L11 L12 L13 L14 L15 L16 L17 L18 L19 L20 L21 L22 L23 L24 L25 L26 L27 L28 L29 L30 L31 L32 L33 L34 L35 L36 L37 L38 L39 L40 L41 L42 L43 L44 L45 L46 L47 L48 L49 L50 L51 L52 L53 L54 L55 L56 L57 L58 L59 L60 L61 L62 L63 L64 L65 L66 L67 L68 L69 L70 L71 L72 L73 L74 L75 L76 L77 L78 L79 L80 L81 L82 L83 L84 L85 L86 L87 L88 L89 L90 L91 L92 L93 L94 L95 L96 L97 L98
end Go.Proofs.YtimkkjiplioohaaGreatDoor
