/- The types of the program's data, in Lean. -/
import Derived.Test.YtimkkjiplioohaaGreatDoorTy
namespace Go.Proofs.YtimkkjiplioohaaGreatDoor
open Go.Ab Go.Rp
attribute [-simp] List.all_eq_true Array.all_toList Array.all_eq_true

structure S61 where
 Kind : Int
 Int : Int
 Text : ByteArray
def cS61 (x : S61) : List D := [.lit (.int .i64 x.Kind), .lit (.int .i64 x.Int), .lit (.string x.Text)]
@[simp] theorem all_cS61 (xs : List S61) : xs.all ((fun e => decide (e.length = 3)) ∘ cS61) = true := all_len (c := cS61) (fun _ => rfl) xs
@[simp] theorem cS61_def (x : S61) : cS61 x = [.lit (.int .i64 x.Kind), .lit (.int .i64 x.Int), .lit (.string x.Text)] := rfl
structure S65 where
 Columns : (List Int)
 Descending : (List Bool)
def cS65 (x : S65) : List D := [.sl (x.Columns.map (cI .i64)), .sl (x.Descending.map cB)]
@[simp] theorem all_cS65 (xs : List S65) : xs.all ((fun e => decide (e.length = 2)) ∘ cS65) = true := all_len (c := cS65) (fun _ => rfl) xs
@[simp] theorem cS65_def (x : S65) : cS65 x = [.sl (x.Columns.map (cI .i64)), .sl (x.Descending.map cB)] := rfl
structure S189 where
 row : (List S61)
 run : Int
 rest : (List (List S61))
def cS189 (x : S189) : List D := [.sl (x.row.map cS61), .lit (.int .i64 x.run), .sl (x.rest.map (cL cS61))]
@[simp] theorem all_cS189 (xs : List S189) : xs.all ((fun e => decide (e.length = 3)) ∘ cS189) = true := all_len (c := cS189) (fun _ => rfl) xs
@[simp] theorem cS189_def (x : S189) : cS189 x = [.sl (x.row.map cS61), .lit (.int .i64 x.run), .sl (x.rest.map (cL cS61))] := rfl
structure S187 where
 by_ : S65
 l : (List S189)
def cS187 (x : S187) : List D := [.sl (x.by_.Columns.map (cI .i64)), .sl (x.by_.Descending.map cB), .sl (x.l.map cS189)]
@[simp] theorem all_cS187 (xs : List S187) : xs.all ((fun e => decide (e.length = 3)) ∘ cS187) = true := all_len (c := cS187) (fun _ => rfl) xs
@[simp] theorem cS187_def (x : S187) : cS187 x = [.sl (x.by_.Columns.map (cI .i64)), .sl (x.by_.Descending.map cB), .sl (x.l.map cS189)] := rfl
def beqS61 (x y : S61) : Bool := (x.Kind == y.Kind) && ((x.Int == y.Int) && ((x.Text.toList == y.Text.toList) && (true)))
theorem beqS61_iff (x y : S61) : beqS61 x y = true ↔ x = y := by
 cases x; cases y; simp [beqS61]
theorem eqv61 (x y : S61) : ∀ (w : World), (Op.equalIn 10000 61 (.agg [.int .i64 x.Kind, .int .i64 x.Int, .string x.Text].toArray) (.agg [.int .i64 y.Kind, .int .i64 y.Int, .string y.Text].toArray)).run Tryz.prog w = .ok (beqS61 x y) w :=
 eqS_of (fs := [(Field.mk "Kind" 3 0 false "" "" 0), (Field.mk "Int" 3 1 false "" "" 8), (Field.mk "Text" 9 2 false "" "" 16)]) (by kernel_rfl) (by kernel_rfl) (by kernel_rfl) (eqF_cons (by decide) (part_lit ty3 rfl rfl) (part_lit ty3 rfl rfl) (fun w => run_equalIn_int w _ _ _ .i64 _ _ (by kernel_rfl)) (eqF_cons (by decide) (part_lit ty3 rfl rfl) (part_lit ty3 rfl rfl) (fun w => run_equalIn_int w _ _ _ .i64 _ _ (by kernel_rfl)) (eqF_cons (by decide) (part_lit ty9 rfl rfl) (part_lit ty9 rfl rfl) (fun w => run_equalIn_string w _ _ _ _ (by kernel_rfl)) (eqF_nil))))
/-- short names of the commonest terms -/
abbrev _root_.Go.Ab.V.i (n : Int) : V := .d (.lit (.int .i64 n))
abbrev _root_.Go.Ab.V.b (x : Bool) : V := .d (.lit (.bool x))
attribute [simp] V.i V.b
abbrev R61 (xs : List S61) : Option Blk := some (.arr 61 3 (xs.map cS61))
abbrev R189 (xs : List S189) : Option Blk := some (.arr 189 3 (xs.map cS189))
abbrev R57 (xs : List (List S61)) : Option Blk := some (.arr 57 1 (xs.map (cL cS61)))
abbrev R48 (xs : List (List (List S61))) : Option Blk := some (.arr 48 1 (xs.map (cL (cL cS61))))
attribute [simp] R61 R189 R57 R48
/-- short names of the commonest heaps -/
abbrev HL : Type := List (Nat × Option Blk)
abbrev SL : Type := List (Nat × V)
abbrev H1 (y0 : List Int) (y1 : List Bool) (y2 : List S189) : HL := [(1000, some (.box [.d (.sl (y0.map (cI .i64))), .d (.sl (y1.map cB)), .ref 25002 0 y2.length])), (25002, R189 y2)]
abbrev H2 (y0 : S65) : HL := [(4, some (.box [.d (.sl (y0.Columns.map (cI .i64))), .d (.sl (y0.Descending.map cB))]))]
abbrev H3 (y0 : S65) : HL := [(5, some (.box [.d (.sl (y0.Columns.map (cI .i64))), .d (.sl (y0.Descending.map cB))]))]
abbrev H4 (y0 : S65) (y1 : List (List S61)) : HL := [(4, some (.box [.d (.sl (y0.Columns.map (cI .i64))), .d (.sl (y0.Descending.map cB))])), (951, R57 y1)]
abbrev H5 (y0 : S187) : HL := [(1000, some (.box [.d (.sl (y0.by_.Columns.map (cI .i64))), .d (.sl (y0.by_.Descending.map cB)), .ref 25002 0 y0.l.length])), (25002, R189 y0.l)]
abbrev H6 (y0 : S65) (y1 : List (List S61)) (y2 : List (List S61)) : HL := [(3, some (.box [.d (.sl (y0.Columns.map (cI .i64))), .d (.sl (y0.Descending.map cB))])), (10, R57 y1), (44, R57 y2)]
abbrev H7 (y0 : S61) (y1 : S61) : HL := [(2, some (.box [.i y0.Kind, .i y0.Int, .d (.lit (.string y0.Text))])), (3, some (.box [.i y1.Kind, .i y1.Int, .d (.lit (.string y1.Text))]))]
abbrev H8 (y0 : S65) (y1 : List S189) : HL := [(12, some (.box [.d (.sl (y0.Columns.map (cI .i64))), .d (.sl (y0.Descending.map cB)), .ref 5242 0 y1.length])), (5242, R189 y1)]
abbrev H9 (y0 : S61) (y1 : S61) : HL := [(8, some (.box [.i y0.Kind, .i y0.Int, .d (.lit (.string y0.Text))])), (9, some (.box [.i y1.Kind, .i y1.Int, .d (.lit (.string y1.Text))]))]
abbrev H10 (y0 : List Int) (y1 : List Bool) (y2 : List S189) (y3 : List (List S61)) : HL := [(12, some (.box [.d (.sl (y0.map (cI .i64))), .d (.sl (y1.map cB)), .ref 5242 0 y2.length])), (54, R57 y3), (5242, R189 y2)]
abbrev H11 (y0 : S65) : HL := [(3, some (.box [.d (.sl (y0.Columns.map (cI .i64))), .d (.sl (y0.Descending.map cB))]))]
abbrev H12 (y0 : List (List (List S61))) (y1 : List (List S61)) (y2 : List (List S61)) (y3 : Int) : HL := [(9, some (.box [.ref 31 0 y0.length])), (21, some (.box [.d (.sl (y1.map (cL cS61)))])), (24, R57 y2), (31, R48 y0), (800021, some (.box [.i y3]))]
abbrev H13 (y0 : Int) (y1 : Int) (y2 : ByteArray) (y3 : Int) (y4 : Int) (y5 : ByteArray) : HL := [(8, some (.box [.i y0, .i y1, .d (.lit (.string y2))])), (9, some (.box [.i y3, .i y4, .d (.lit (.string y5))]))]
abbrev H14 (y0 : List (List (List S61))) (y1 : List (List S61)) (y2 : Int) : HL := [(9, some (.box [.ref 31 0 y0.length])), (21, some (.box [.d (.sl (y1.map (cL cS61)))])), (31, R48 y0), (800021, some (.box [.i y2]))]
abbrev H15 (y0 : S65) : HL := [(12, some (.box [.d (.sl (y0.Columns.map (cI .i64))), .d (.sl (y0.Descending.map cB)), .ref 5242 0 (([] : List S189).length)])), (5242, R189 ([] : List S189))]
abbrev H16 (y0 : S65) (y1 : List (List S61)) : HL := [(3, some (.box [.d (.sl (y0.Columns.map (cI .i64))), .d (.sl (y0.Descending.map cB))])), (10, R57 y1)]
abbrev H17 (y0 : S189) (y1 : S187) : HL := [(3, some (.box [.d (.sl (y0.row.map cS61)), .i y0.run, .d (.sl (y0.rest.map (cL cS61)))])), (1000, some (.box [.d (.sl (y1.by_.Columns.map (cI .i64))), .d (.sl (y1.by_.Descending.map cB)), .ref 25002 0 y1.l.length])), (25002, R189 y1.l)]
abbrev H18 (y0 : S65) : HL := [(4, some (.box [.d (.sl (y0.Columns.map (cI .i64))), .d (.sl (y0.Descending.map cB))])), (9, some (.box [.d (.lit (.slice none 0 0))]))]
abbrev H19 (y0 : S187) : HL := [(12, some (.box [.d (.sl (y0.by_.Columns.map (cI .i64))), .d (.sl (y0.by_.Descending.map cB)), .ref 5242 0 y0.l.length])), (5242, R189 y0.l)]
abbrev H20 (y0 : S65) : HL := [(4, some (.box [.d (.sl (y0.Columns.map (cI .i64))), .d (.sl (y0.Descending.map cB))])), (12, some (.box [.d (.lit (.slice none 0 0))]))]
abbrev H21 (y0 : S65) (y1 : List (List (List S61))) (y2 : List (List (List S61))) (y3 : Int) : HL := [(4, some (.box [.d (.sl (y0.Columns.map (cI .i64))), .d (.sl (y0.Descending.map cB))])), (12, some (.box [.ref 41 0 y1.length])), (34, some (.box [.d (.sl (y2.map (cL (cL cS61))))])), (41, R48 y1), (800034, some (.box [.i y3]))]
abbrev H22 (y0 : S65) (y1 : List (List (List S61))) : HL := [(4, some (.box [.d (.sl (y0.Columns.map (cI .i64))), .d (.sl (y0.Descending.map cB))])), (41, R48 y1)]
abbrev L1 (y0 : List S61) (y1 : Nat) (y2 : List Int) (y3 : Nat) (y4 : Int) : SL := [(0, .d (.sl (y0.map cS61))), (5, .ref 21 0 y1), (9, .d (.sl (y2.map (cI .i64)))), (10, .i (y3 : Int)), (11, .i y4)]
abbrev L2 (y0 : List S61) (y1 : List S61) : SL := [(0, .d (.sl (y0.map cS61))), (1, .d (.sl (y1.map cS61)))]
abbrev L3 (y0 : List S61) (y1 : List S61) (y2 : List Bool) (y3 : Nat) (y4 : Int) : SL := [(0, .d (.sl (y0.map cS61))), (1, .d (.sl (y1.map cS61))), (2, .d (.sl (y2.map cB))), (10, .i (y3 : Int)), (11, .i y4)]
abbrev L4 (y0 : List S61) (y1 : List S61) (y2 : List Bool) (y3 : Int) (y4 : Nat) : SL := [(0, .d (.sl (y0.map cS61))), (1, .d (.sl (y1.map cS61))), (2, .d (.sl (y2.map cB))), (7, .i y3), (10, .i (y4 : Int)), (11, .i y3)]
abbrev L5 (y0 : List S61) (y1 : List S61) (y2 : List Bool) (y3 : Int) (y4 : Nat) : SL := [(0, .d (.sl (y0.map cS61))), (1, .d (.sl (y1.map cS61))), (2, .d (.sl (y2.map cB))), (7, .i y3), (10, .i (y4 : Int)), (11, .i y3), (18, .b false)]
abbrev L6 (y0 : List Int) (y1 : List Bool) (y2 : List S189) (y3 : Int) (y4 : Int) : SL := [(0, .d (.pim [.sl (y0.map (cI .i64)), .sl (y1.map cB), .sl (y2.map cS189)])), (1, .i y3), (2, .i y4)]
abbrev L7 (y0 : List Int) (y1 : List Bool) (y2 : List S189) (y3 : Int) (y4 : Int) (y5 : Int) : SL := [(0, .d (.pim [.sl (y0.map (cI .i64)), .sl (y1.map cB), .sl (y2.map cS189)])), (1, .i y3), (2, .i y4), (7, .i y5)]
abbrev L8 (y0 : List Int) (y1 : List Bool) (y2 : List S189) (y3 : Int) (y4 : Int) : SL := [(0, .d (.pim [.sl (y0.map (cI .i64)), .sl (y1.map cB), .sl (y2.map cS189)])), (1, .i y3), (2, .i y4), (31, .b false)]
abbrev L9 (y0 : List (List (List S61))) (y1 : Nat) (y2 : Int) : SL := [(5, .d (.sl (y0.map (cL (cL cS61))))), (6, .i (y1 : Int)), (7, .i y2)]
abbrev L10 (y0 : List (List S61)) (y1 : List (List (List S61))) (y2 : Nat) (y3 : Int) : SL := [(4, .d (.sl (y0.map (cL cS61)))), (5, .d (.sl (y1.map (cL (cL cS61))))), (6, .i (y2 : Int)), (7, .i y3)]
abbrev L11 (y0 : List (List S61)) (y1 : Int) : SL := [(0, .d (.sl (y0.map (cL cS61)))), (2, .i y1), (4, .ptr 4 0 0)]
abbrev L12 (y0 : List (List S61)) : SL := [(0, .d (.sl (y0.map (cL cS61)))), (4, .ptr 4 0 0)]
abbrev L13 (y0 : List (List S61)) (y1 : List Int) (y2 : Nat) (y3 : Int) : SL := [(0, .d (.sl (y0.map (cL cS61)))), (26, .d (.sl (y1.map (cI .i64)))), (27, .i (y2 : Int)), (28, .i y3)]
abbrev L14 (y0 : List (List S61)) (y1 : List Int) (y2 : Nat) (y3 : Int) : SL := [(0, .d (.sl (y0.map (cL cS61)))), (8, .ptr 8 0 0), (26, .d (.sl (y1.map (cI .i64)))), (27, .i (y2 : Int)), (28, .i y3)]
abbrev L15 (y0 : Nat) (y1 : Int) (y2 : Int) : SL := [(0, .ref 1000 0 y0), (1, .i y1), (2, .i y2)]
abbrev L16 (y0 : Nat) (y1 : Int) (y2 : Int) (y3 : Int) : SL := [(0, .ref 1000 0 y0), (1, .i y1), (2, .i y2), (3, .i y3)]
abbrev L17 (y0 : Nat) (y1 : Int) (y2 : Int) (y3 : Int) (y4 : Int) : SL := [(0, .ref 1000 0 y0), (1, .i y1), (2, .i y2), (3, .i y3), (10, .i y4)]
abbrev L18 (y0 : Nat) (y1 : Int) (y2 : Int) : SL := [(0, .ref 1000 0 y0), (1, .i y1), (3, .i y2)]
abbrev L19 (y0 : Nat) (y1 : Int) (y2 : Int) : SL := [(0, .ref 1000 0 y0), (14, .i y1), (17, .i y2)]
abbrev L20 (y0 : List (List S61)) (y1 : Int) (y2 : Int) : SL := [(0, .d (.sl (y0.map (cL cS61)))), (2, .i y1), (4, .ptr 4 0 0), (8, .i y2)]
abbrev L21 (y0 : List Int) (y1 : List Bool) : SL := [(4, .d (.pim [.sl (y0.map (cI .i64)), .sl (y1.map cB)])), (9, .ptr 9 0 0)]
abbrev L22 (y0 : Int) (y1 : Int) : SL := [(0, .fn (.methodOf 184 "") [.ptr 1000 0 0]), (1, .i y0), (2, .i y1)]
abbrev L23 (y0 : Int) (y1 : Int) (y2 : Int) (y3 : Int) : SL := [(0, .fn (.methodOf 184 "") [.ptr 1000 0 0]), (1, .i y0), (2, .i y1), (7, .i y2), (8, .i y3)]
abbrev L24 (y0 : Int) (y1 : Int) (y2 : Int) (y3 : Int) (y4 : Int) : SL := [(0, .fn (.methodOf 184 "") [.ptr 1000 0 0]), (1, .i y0), (2, .i y1), (7, .i y2), (8, .i y3), (9, .i y3), (10, .i y4)]
abbrev L25 (y0 : Int) (y1 : Int) (y2 : Int) (y3 : Int) (y4 : Int) : SL := [(0, .fn (.methodOf 184 "") [.ptr 1000 0 0]), (1, .i y0), (2, .i y1), (7, .i y2), (9, .i y3), (10, .i y4)]
abbrev L26 (y0 : Int) (y1 : Int) (y2 : Int) (y3 : Int) : SL := [(0, .fn (.methodOf 184 "") [.ptr 1000 0 0]), (1, .i y0), (2, .i y1), (7, .i y2), (9, .i y3)]
abbrev L27 : SL := [(0, .fn (.methodOf 184 "") [.ptr 1000 0 0]), (4, .fn (.methodOf 184 "") [.ptr 1000 0 0])]
abbrev L28 (y0 : Int) (y1 : Int) : SL := [(0, .fn (.methodOf 184 "") [.ptr 1000 0 0]), (2, .i y0), (3, .i y1)]
abbrev L29 (y0 : Int) (y1 : Int) : SL := [(0, .fn (.methodOf 184 "") [.ptr 1000 0 0]), (1, .i y0), (4, .i y1)]
abbrev L30 (y0 : Int) (y1 : Int) : SL := [(0, .fn (.methodOf 184 "") [.ptr 1000 0 0]), (1, .i y0), (4, .i y1), (11, .b false)]
abbrev L31 (y0 : List (List (List S61))) (y1 : Nat) (y2 : Int) : SL := [(5, .ptr 12 0 0), (13, .d (.sl (y0.map (cL (cL cS61))))), (14, .i (y1 : Int)), (15, .i y2)]
abbrev L32 (y0 : Int) (y1 : List (List S61)) (y2 : List (List (List S61))) (y3 : Nat) : SL := [(5, .ptr 12 0 0), (6, .i y0), (7, .d (.sl (y1.map (cL cS61)))), (13, .d (.sl (y2.map (cL (cL cS61))))), (14, .i (y3 : Int)), (15, .i y0)]
abbrev L33 (y0 : Int) (y1 : List (List (List S61))) (y2 : Int) : SL := [(2, .i y0), (4, .ptr 4 0 0), (9, .d (.sl (y1.map (cL (cL cS61))))), (10, .i y2)]
abbrev L34 (y0 : Int) (y1 : List (List (List S61))) (y2 : Int) : SL := [(2, .i y0), (4, .ptr 4 0 0), (9, .d (.sl (y1.map (cL (cL cS61))))), (11, .i y2)]
abbrev L35 (y0 : Int) (y1 : Nat) (y2 : List (List (List S61))) (y3 : Nat) (y4 : Int) : SL := [(11, .i y0), (14, .ref 61 0 y1), (45, .d (.sl (y2.map (cL (cL cS61))))), (46, .i (y3 : Int)), (47, .i y4)]
abbrev L36 (y0 : Int) (y1 : Nat) (y2 : List (List (List S61))) (y3 : Nat) (y4 : Int) (y5 : List (List S61)) (y6 : Nat) (y7 : Int) : SL := [(11, .i y0), (14, .ref 61 0 y1), (45, .d (.sl (y2.map (cL (cL cS61))))), (46, .i (y3 : Int)), (47, .i y4), (51, .d (.sl (y5.map (cL cS61)))), (52, .i (y6 : Int)), (53, .i y7)]
abbrev L37 (y0 : List S61) (y1 : Nat) (y2 : List Int) (y3 : Nat) (y4 : Int) : SL := [(0, .d (.sl (y0.map cS61))), (5, .ref 8 0 y1), (9, .d (.sl (y2.map (cI .i64)))), (10, .i (y3 : Int)), (11, .i y4)]
abbrev L38 (y0 : List S61) (y1 : List S61) (y2 : List Bool) (y3 : Int) (y4 : Int) : SL := [(0, .d (.sl (y0.map cS61))), (1, .d (.sl (y1.map cS61))), (2, .d (.sl (y2.map cB))), (14, .i y3), (15, .i y4)]
abbrev L39 (y0 : List S61) (y1 : List S61) (y2 : List Bool) (y3 : Int) (y4 : Int) : SL := [(0, .d (.sl (y0.map cS61))), (1, .d (.sl (y1.map cS61))), (2, .d (.sl (y2.map cB))), (7, .i y3), (8, .ptr 8 0 0), (9, .ptr 9 0 0), (14, .i y4), (15, .i y3)]
abbrev L40 (y0 : List S61) (y1 : List S61) (y2 : List Bool) (y3 : Int) (y4 : Int) : SL := [(0, .d (.sl (y0.map cS61))), (1, .d (.sl (y1.map cS61))), (2, .d (.sl (y2.map cB))), (8, .ptr 8 0 0), (9, .ptr 9 0 0), (14, .i y3), (15, .i y4)]
abbrev L41 (y0 : List S61) (y1 : List S61) (y2 : List Bool) (y3 : Int) (y4 : Int) (y5 : Int) (y6 : Int) (y7 : ByteArray) (y8 : Int) (y9 : Int) (y10 : ByteArray) : SL := [(0, .d (.sl (y0.map cS61))), (1, .d (.sl (y1.map cS61))), (2, .d (.sl (y2.map cB))), (8, .ptr 8 0 0), (9, .ptr 9 0 0), (14, .i y3), (15, .i y4), (38, .agg [.i y5, .i y6, .d (.lit (.string y7))]), (39, .agg [.i y8, .i y9, .d (.lit (.string y10))])]
abbrev L42 (y0 : List S61) (y1 : List S61) (y2 : List Bool) (y3 : Int) (y4 : Int) (y5 : Int) (y6 : Int) (y7 : ByteArray) (y8 : Int) (y9 : Int) (y10 : ByteArray) : SL := [(0, .d (.sl (y0.map cS61))), (1, .d (.sl (y1.map cS61))), (2, .d (.sl (y2.map cB))), (14, .i y3), (15, .i y4), (41, .agg [.i y5, .i y6, .d (.lit (.string y7))]), (42, .agg [.i y8, .i y9, .d (.lit (.string y10))])]
abbrev L43 (y0 : Nat) (y1 : Nat) : SL := [(3, .ptr 3 0 0), (5, .ref 10 0 y0), (6, .ref 44 0 y1)]
abbrev L44 (y0 : Nat) (y1 : Nat) (y2 : Int) (y3 : Int) : SL := [(3, .ptr 3 0 0), (5, .ref 10 0 y0), (6, .ref 44 0 y1), (7, .i y2), (15, .i (y0 : Int)), (16, .i y3)]
abbrev L45 (y0 : Nat) (y1 : Nat) (y2 : Int) (y3 : Int) : SL := [(3, .ptr 3 0 0), (5, .ref 10 0 y0), (6, .ref 44 0 y1), (7, .i y2), (8, .i y3), (15, .i (y0 : Int)), (16, .i y3)]
abbrev L46 (y0 : Int) (y1 : Nat) (y2 : List (List S61)) (y3 : Nat) (y4 : Int) : SL := [(2, .i y0), (4, .ptr 4 0 0), (9, .ref 951 0 y1), (25, .d (.sl (y2.map (cL cS61)))), (26, .i (y3 : Int)), (27, .i y4)]
abbrev L47 (y0 : Int) (y1 : Nat) (y2 : List S61) (y3 : Int) (y4 : List (List S61)) (y5 : Nat) (y6 : Int) : SL := [(2, .i y0), (4, .ptr 4 0 0), (9, .ref 951 0 y1), (11, .d (.sl (y2.map cS61))), (12, .i y3), (25, .d (.sl (y4.map (cL cS61)))), (26, .i (y5 : Int)), (27, .i y6)]
abbrev L48 (y0 : Int) (y1 : Nat) (y2 : List S61) (y3 : Int) (y4 : List (List S61)) (y5 : Nat) (y6 : Int) : SL := [(2, .i y0), (4, .ptr 4 0 0), (9, .ref 951 0 y1), (11, .d (.sl (y2.map cS61))), (12, .i y3), (25, .d (.sl (y4.map (cL cS61)))), (26, .i (y5 : Int)), (27, .i y6), (35, .b true)]
abbrev L49 (y0 : Int) (y1 : List (List S61)) (y2 : Nat) (y3 : Int) (y4 : Nat) (y5 : Int) (y6 : List S61) : SL := [(2, .i y0), (4, .ptr 4 0 0), (25, .d (.sl (y1.map (cL cS61)))), (26, .i (y2 : Int)), (27, .i y3), (51, .ref 951 0 y4), (52, .i y5), (53, .d (.sl (y6.map cS61)))]
abbrev L50 (y0 : Int) (y1 : List (List S61)) (y2 : Nat) (y3 : Int) : SL := [(2, .i y0), (4, .ptr 4 0 0), (25, .d (.sl (y1.map (cL cS61)))), (26, .i (y2 : Int)), (27, .i y3)]
abbrev L51 (y0 : List S61) (y1 : List S61) (y2 : Nat) (y3 : Int) : SL := [(0, .d (.sl (y0.map cS61))), (1, .d (.sl (y1.map cS61))), (12, .i (y2 : Int)), (13, .i y3)]
abbrev L52 (y0 : List S61) (y1 : List S61) (y2 : Nat) (y3 : Int) (y4 : Int) (y5 : Int) (y6 : ByteArray) (y7 : Int) (y8 : Int) (y9 : ByteArray) : SL := [(0, .d (.sl (y0.map cS61))), (1, .d (.sl (y1.map cS61))), (12, .i (y2 : Int)), (13, .i y3), (19, .agg [.i y4, .i y5, .d (.lit (.string y6))]), (23, .agg [.i y7, .i y8, .d (.lit (.string y9))])]
abbrev L53 (y0 : List (List S61)) (y1 : List (List S61)) : SL := [(0, .d (.sl (y0.map (cL cS61)))), (1, .d (.sl (y1.map (cL cS61))))]
abbrev L54 (y0 : List (List S61)) (y1 : List (List S61)) (y2 : Nat) (y3 : Int) : SL := [(0, .d (.sl (y0.map (cL cS61)))), (1, .d (.sl (y1.map (cL cS61)))), (12, .i (y2 : Int)), (13, .i y3)]
abbrev L55 (y0 : List (List S61)) (y1 : Int) (y2 : Int) : SL := [(0, .d (.sl (y0.map (cL cS61)))), (2, .i y1), (3, .i y2), (5, .ptr 5 0 0)]
abbrev L56 (y0 : List (List S61)) (y1 : Int) (y2 : Int) : SL := [(0, .d (.sl (y0.map (cL cS61)))), (2, .i y1), (3, .i y2), (5, .ptr 5 0 0), (19, .b false)]
abbrev L57 (y0 : List (List S61)) (y1 : Int) (y2 : Int) (y3 : List (List S61)) (y4 : Int) (y5 : Int) : SL := [(0, .d (.sl (y0.map (cL cS61)))), (2, .i y1), (3, .i y2), (5, .ptr 5 0 0), (9, .d (.sl (y3.map (cL cS61)))), (10, .i y4), (11, .i y5)]
abbrev L58 (y0 : List (List S61)) (y1 : Int) (y2 : Int) (y3 : List (List S61)) (y4 : Int) (y5 : Int) (y6 : Int) : SL := [(0, .d (.sl (y0.map (cL cS61)))), (2, .i y1), (3, .i y2), (5, .ptr 5 0 0), (9, .d (.sl (y3.map (cL cS61)))), (10, .i y4), (11, .i y5), (12, .i y6)]
abbrev L59 (y0 : List (List S61)) (y1 : Int) (y2 : Int) (y3 : List (List S61)) (y4 : Int) (y5 : Int) (y6 : List (List S61)) : SL := [(0, .d (.sl (y0.map (cL cS61)))), (2, .i y1), (3, .i y2), (5, .ptr 5 0 0), (9, .d (.sl (y3.map (cL cS61)))), (10, .i y4), (11, .i y5), (13, .d (.sl (y6.map (cL cS61))))]
abbrev L60 (y0 : List (List S61)) (y1 : Int) (y2 : Int) (y3 : List (List S61)) (y4 : Int) (y5 : Int) (y6 : List (List S61)) (y7 : Int) (y8 : Int) : SL := [(0, .d (.sl (y0.map (cL cS61)))), (2, .i y1), (3, .i y2), (5, .ptr 5 0 0), (9, .d (.sl (y3.map (cL cS61)))), (10, .i y4), (11, .i y5), (13, .d (.sl (y6.map (cL cS61)))), (14, .i y7), (15, .i y8)]
abbrev L61 (y0 : Int) (y1 : List (List S61)) (y2 : Int) (y3 : Int) (y4 : List (List S61)) (y5 : Int) (y6 : List (List S61)) (y7 : Int) : SL := [(3, .i y0), (9, .d (.sl (y1.map (cL cS61)))), (10, .i y2), (11, .i y3), (13, .d (.sl (y4.map (cL cS61)))), (14, .i y5), (16, .d (.sl (y6.map (cL cS61)))), (17, .i y7)]
abbrev L62 (y0 : Int) (y1 : List (List S61)) (y2 : Int) (y3 : List (List S61)) (y4 : Int) (y5 : List (List S61)) (y6 : Int) : SL := [(3, .i y0), (9, .d (.sl (y1.map (cL cS61)))), (10, .i y2), (13, .d (.sl (y3.map (cL cS61)))), (14, .i y4), (16, .d (.sl (y5.map (cL cS61)))), (17, .i y6)]
abbrev L63 (y0 : Int) (y1 : Int) (y2 : List (List S61)) (y3 : Int) (y4 : List (List S61)) (y5 : Int) : SL := [(3, .i y0), (10, .i y1), (13, .d (.sl (y2.map (cL cS61)))), (14, .i y3), (16, .d (.sl (y4.map (cL cS61)))), (17, .i y5)]
abbrev L64 (y0 : Int) (y1 : List (List S61)) (y2 : List (List S61)) (y3 : Int) : SL := [(3, .i y0), (13, .d (.sl (y1.map (cL cS61)))), (16, .d (.sl (y2.map (cL cS61)))), (17, .i y3)]
abbrev L65 (y0 : Int) (y1 : List (List S61)) (y2 : List (List S61)) : SL := [(3, .i y0), (13, .d (.sl (y1.map (cL cS61)))), (16, .d (.sl (y2.map (cL cS61))))]
attribute [simp] H1 H2 H3 H4 H5 H6 H7 H8 H9 H10 H11 H12 H13 H14 H15 H16 H17 H18 H19 H20 H21 H22 L1 L2 L3 L4 L5 L6 L7 L8 L9 L10 L11 L12 L13 L14 L15 L16 L17 L18 L19 L20 L21 L22 L23 L24 L25 L26 L27 L28 L29 L30 L31 L32 L33 L34 L35 L36 L37 L38 L39 L40 L41 L42 L43 L44 L45 L46 L47 L48 L49 L50 L51 L52 L53 L54 L55 L56 L57 L58 L59 L60 L61 L62 L63 L64 L65
end Go.Proofs.YtimkkjiplioohaaGreatDoor
