/- The types of the program's data, in Lean. -/
import Derived.Test.YtfdhaigfonolpaaTy
import Derived.Test.YtfdhaigfonolpaaA4
import Derived.Test.YtfdhaigfonolpaaShelf
import Derived.Test.YtfdhaigfonolpaaBkIns2
namespace Go.Proofs.Ytfdhaigfonolpaa
open Go.Ab Go.Rp
attribute [-simp] List.all_eq_true Array.all_toList Array.all_eq_true

structure S71 where
 Kind : Int
 Int : Int
 Text : ByteArray
def cS71 (x : S71) : List D := [.lit (.int .i64 x.Kind), .lit (.int .i64 x.Int), .lit (.string x.Text)]
@[simp] theorem all_cS71 (xs : List S71) : xs.all ((fun e => decide (e.length = 3)) ∘ cS71) = true := all_len (c := cS71) (fun _ => rfl) xs
@[simp] theorem cS71_def (x : S71) : cS71 x = [.lit (.int .i64 x.Kind), .lit (.int .i64 x.Int), .lit (.string x.Text)] := rfl
structure S76 where
 Key : ByteArray
 Row : (List S71)
def cS76 (x : S76) : List D := [.lit (.string x.Key), .sl (x.Row.map cS71)]
@[simp] theorem all_cS76 (xs : List S76) : xs.all ((fun e => decide (e.length = 2)) ∘ cS76) = true := all_len (c := cS76) (fun _ => rfl) xs
@[simp] theorem cS76_def (x : S76) : cS76 x = [.lit (.string x.Key), .sl (x.Row.map cS71)] := rfl
structure S64 where
 time : Int
 records : (List Int)
def cS64 (x : S64) : List D := [.lit (.int .i64 x.time), .sl (x.records.map (cI .i64))]
@[simp] theorem all_cS64 (xs : List S64) : xs.all ((fun e => decide (e.length = 2)) ∘ cS64) = true := all_len (c := cS64) (fun _ => rfl) xs
@[simp] theorem cS64_def (x : S64) : cS64 x = [.lit (.int .i64 x.time), .sl (x.records.map (cI .i64))] := rfl
structure S73 where
 time : Int
 key : ByteArray
 row : (List S71)
def cS73 (x : S73) : List D := [.lit (.int .i64 x.time), .lit (.string x.key), .sl (x.row.map cS71)]
@[simp] theorem all_cS73 (xs : List S73) : xs.all ((fun e => decide (e.length = 3)) ∘ cS73) = true := all_len (c := cS73) (fun _ => rfl) xs
@[simp] theorem cS73_def (x : S73) : cS73 x = [.lit (.int .i64 x.time), .lit (.string x.key), .sl (x.row.map cS71)] := rfl
structure S68 where
 records : (List S76)
 refs : (List Int)
 backups : (List S64)
 changes : (List S73)
 earliest : Int
def cS68 (x : S68) : List D := [.sl (x.records.map cS76), .sl (x.refs.map (cI .i64)), .sl (x.backups.map cS64), .sl (x.changes.map cS73), .lit (.int .i64 x.earliest)]
@[simp] theorem all_cS68 (xs : List S68) : xs.all ((fun e => decide (e.length = 5)) ∘ cS68) = true := all_len (c := cS68) (fun _ => rfl) xs
@[simp] theorem cS68_def (x : S68) : cS68 x = [.sl (x.records.map cS76), .sl (x.refs.map (cI .i64)), .sl (x.backups.map cS64), .sl (x.changes.map cS73), .lit (.int .i64 x.earliest)] := rfl
structure S35 where
 Time : Int
 State : (List (ByteArray × (List S71)))
def cS35 (x : S35) : List D := [.lit (.int .i64 x.Time), .mpi .string false (x.State.map (MKey.sk ∘ Prod.fst)) (x.State.map ((cL cS71) ∘ Prod.snd))]
@[simp] theorem all_cS35 (xs : List S35) : xs.all ((fun e => decide (e.length = 2)) ∘ cS35) = true := all_len (c := cS35) (fun _ => rfl) xs
@[simp] theorem cS35_def (x : S35) : cS35 x = [.lit (.int .i64 x.Time), .mpi .string false (x.State.map (MKey.sk ∘ Prod.fst)) (x.State.map ((cL cS71) ∘ Prod.snd))] := rfl
structure S46 where
 Time : Int
 Key : ByteArray
 Row : (List S71)
def cS46 (x : S46) : List D := [.lit (.int .i64 x.Time), .lit (.string x.Key), .sl (x.Row.map cS71)]
@[simp] theorem all_cS46 (xs : List S46) : xs.all ((fun e => decide (e.length = 3)) ∘ cS46) = true := all_len (c := cS46) (fun _ => rfl) xs
@[simp] theorem cS46_def (x : S46) : cS46 x = [.lit (.int .i64 x.Time), .lit (.string x.Key), .sl (x.Row.map cS71)] := rfl
structure S39 where
 Backups : (List S35)
 Changes : (List S46)
 Earliest : Int
def cS39 (x : S39) : List D := [.sl (x.Backups.map cS35), .sl (x.Changes.map cS46), .lit (.int .i64 x.Earliest)]
@[simp] theorem all_cS39 (xs : List S39) : xs.all ((fun e => decide (e.length = 3)) ∘ cS39) = true := all_len (c := cS39) (fun _ => rfl) xs
@[simp] theorem cS39_def (x : S39) : cS39 x = [.sl (x.Backups.map cS35), .sl (x.Changes.map cS46), .lit (.int .i64 x.Earliest)] := rfl
def beqS71 (x y : S71) : Bool := (x.Kind == y.Kind) && ((x.Int == y.Int) && ((x.Text.toList == y.Text.toList) && (true)))
theorem beqS71_iff (x y : S71) : beqS71 x y = true ↔ x = y := by
 cases x; cases y; simp [beqS71]
theorem eqn71 (d : Nat) (x y : S71) : ∀ (w : World), (Op.equalIn (d + 2) 71 (.agg [.int .i64 x.Kind, .int .i64 x.Int, .string x.Text].toArray) (.agg [.int .i64 y.Kind, .int .i64 y.Int, .string y.Text].toArray)).run Try.prog w = .ok (beqS71 x y) w :=
 eqS_of (fs := [(Field.mk "Kind" 3 0 false "" "" 0), (Field.mk "Int" 3 1 false "" "" 8), (Field.mk "Text" 9 2 false "" "" 16)]) (by kernel_rfl) (by kernel_rfl) (by kernel_rfl) (eqF_cons (by decide) (part_lit ty3 rfl rfl) (part_lit ty3 rfl rfl) (fun w => run_equalIn_int w _ _ _ .i64 _ _ (by kernel_rfl)) (eqF_cons (by decide) (part_lit ty3 rfl rfl) (part_lit ty3 rfl rfl) (fun w => run_equalIn_int w _ _ _ .i64 _ _ (by kernel_rfl)) (eqF_cons (by decide) (part_lit ty9 rfl rfl) (part_lit ty9 rfl rfl) (fun w => run_equalIn_string w _ _ _ _ (by kernel_rfl)) (eqF_nil))))
theorem eqv71 (x y : S71) : ∀ (w : World), (Op.equalIn 10000 71 (.agg [.int .i64 x.Kind, .int .i64 x.Int, .string x.Text].toArray) (.agg [.int .i64 y.Kind, .int .i64 y.Int, .string y.Text].toArray)).run Try.prog w = .ok (beqS71 x y) w := eqn71 _ x y
/-- short names of the commonest terms -/
abbrev _root_.Go.Ab.V.i (n : Int) : V := .d (.lit (.int .i64 n))
abbrev _root_.Go.Ab.V.b (x : Bool) : V := .d (.lit (.bool x))
attribute [simp] V.i V.b
abbrev R64 (xs : List S64) : Option Blk := some (.arr 64 2 (xs.map cS64))
abbrev R76 (xs : List S76) : Option Blk := some (.arr 76 2 (xs.map cS76))
abbrev R3 (xs : List Int) : Option Blk := some (.arr 3 1 (xs.map (cI .i64)))
abbrev R73 (xs : List S73) : Option Blk := some (.arr 73 3 (xs.map cS73))
abbrev R71 (xs : List S71) : Option Blk := some (.arr 71 3 (xs.map cS71))
abbrev R35 (xs : List S35) : Option Blk := some (.arr 35 2 (xs.map cS35))
abbrev R46 (xs : List S46) : Option Blk := some (.arr 46 3 (xs.map cS46))
attribute [simp] R64 R76 R3 R73 R71 R35 R46
abbrev _root_.Go.Ab.V.fg (g : FuncId) (cs : List D) : V := .fn (.func g) (cs.map .d)
abbrev _root_.Go.Ab.V.ls71 (xs : List (List S71)) : V := .d (.sl (xs.map (cL cS71)))
abbrev _root_.Go.Ab.V.lsi (xs : List (List Int)) : V := .d (.sl (xs.map (cL (cI .i64))))
abbrev _root_.Go.Ab.V.s (x : ByteArray) : V := .d (.lit (.string x))
abbrev _root_.Go.Ab.V.s46 (xs : List S46) : V := .d (.sl (xs.map cS46))
abbrev _root_.Go.Ab.V.s71 (xs : List S71) : V := .d (.sl (xs.map cS71))
abbrev _root_.Go.Ab.V.s76 (xs : List S76) : V := .d (.sl (xs.map cS76))
abbrev _root_.Go.Ab.V.si (xs : List Int) : V := .d (.sl (xs.map (cI .i64)))
abbrev _root_.Go.Ab.V.ss (xs : List ByteArray) : V := .d (.sl (xs.map cS))
abbrev _root_.Go.Ab.V.z : V := .d (.lit (.slice none 0 0))
attribute [simp] V.fg V.ls71 V.lsi V.s V.s46 V.s71 V.s76 V.si V.ss V.z
/-- short names of the commonest heaps -/
abbrev HL : Type := List (Nat × Option Blk)
abbrev SL : Type := List (Nat × V)
abbrev H1 (y0 : S68) : HL := [(1000, some (.box [.ref 25000 0 y0.records.length, .ref 25001 0 y0.refs.length, .ref 25002 0 y0.backups.length, .ref 25003 0 y0.changes.length, .i y0.earliest])), (25000, R76 y0.records), (25001, R3 y0.refs), (25002, R64 y0.backups), (25003, R73 y0.changes)]
abbrev H2 : HL := [(9, some (.box [.ptr 44 0 0])), (44, some (.box [.ref 5880 0 (([(S35.mk 0 [])] : List S35).length), .ref 5881 0 (([] : List S46).length), .i 0])), (5880, R35 ([(S35.mk 0 [])] : List S35)), (5881, R46 ([] : List S46))]
abbrev H3 (y0 : Int) (y1 : List Int) (y2 : S73) (y3 : List S76) (y4 : S68) : HL := [(6, some (.box [.i y0, .si y1])), (13, some (.box [.i y2.time, .s y2.key, .s71 y2.row])), (64, R76 y3), (1000, some (.box [.ref 25000 0 y4.records.length, .ref 25001 0 y4.refs.length, .ref 25002 0 y4.backups.length, .ref 25003 0 y4.changes.length, .i y4.earliest])), (25000, R76 y4.records), (25001, R3 y4.refs), (25002, R64 y4.backups), (25003, R73 y4.changes)]
abbrev H4 (y0 : S68) : HL := [(2, some (.box [.ptr 1000 0 0])), (1000, some (.box [.ref 25000 0 y0.records.length, .ref 25001 0 y0.refs.length, .ref 25002 0 y0.backups.length, .ref 25003 0 y0.changes.length, .i y0.earliest])), (25000, R76 y0.records), (25001, R3 y0.refs), (25002, R64 y0.backups), (25003, R73 y0.changes)]
abbrev H5 (y0 : Int) (y1 : List Int) (y2 : List S76) (y3 : S68) : HL := [(6, some (.box [.i y0, .si y1])), (64, R76 y2), (1000, some (.box [.ref 25000 0 y3.records.length, .ref 25001 0 y3.refs.length, .ref 25002 0 y3.backups.length, .ref 25003 0 y3.changes.length, .i y3.earliest])), (25000, R76 y3.records), (25001, R3 y3.refs), (25002, R64 y3.backups), (25003, R73 y3.changes)]
abbrev H6 (y0 : List S76) (y1 : List Int) (y2 : S68) : HL := [(2, some (.box [.ptr 1000 0 0])), (1000, some (.box [.ref 25000 0 y0.length, .ref 25001 0 y1.length, .ref 25002 0 y2.backups.length, .ref 25003 0 y2.changes.length, .i y2.earliest])), (25000, R76 y0), (25001, R3 y1), (25002, R64 y2.backups), (25003, R73 y2.changes)]
abbrev H7 (y0 : S68) : HL := [(25, some (.box [.ref 5500 0 y0.records.length, .ref 5501 0 y0.refs.length, .ref 5502 0 y0.backups.length, .ref 5503 0 y0.changes.length, .i y0.earliest])), (5500, R76 y0.records), (5501, R3 y0.refs), (5502, R64 y0.backups), (5503, R73 y0.changes)]
abbrev H8 (y0 : S46) : HL := [(3, some (.box [.i y0.Time, .s y0.Key, .s71 y0.Row]))]
abbrev H9 (y0 : Int) (y1 : List Int) (y2 : List S76) (y3 : List Int) (y4 : S68) : HL := [(8, some (.box [.i y0, .ref 100 0 y1.length])), (100, R3 y1), (1000, some (.box [.ref 25000 0 y2.length, .ref 25001 0 y3.length, .ref 25002 0 y4.backups.length, .ref 25003 0 y4.changes.length, .i y4.earliest])), (25000, R76 y2), (25001, R3 y3), (25002, R64 y4.backups), (25003, R73 y4.changes)]
abbrev H10 (y0 : Int) (y1 : List Int) (y2 : S68) : HL := [(6, some (.box [.i y0, .si y1])), (1000, some (.box [.ref 25000 0 y2.records.length, .ref 25001 0 y2.refs.length, .ref 25002 0 y2.backups.length, .ref 25003 0 y2.changes.length, .i y2.earliest])), (25000, R76 y2.records), (25001, R3 y2.refs), (25002, R64 y2.backups), (25003, R73 y2.changes)]
abbrev H11 (y0 : Int) (y1 : S68) : HL := [(8, some (.box [.i y0, .z])), (1000, some (.box [.ref 25000 0 y1.records.length, .ref 25001 0 y1.refs.length, .ref 25002 0 y1.backups.length, .ref 25003 0 y1.changes.length, .i y1.earliest])), (25000, R76 y1.records), (25001, R3 y1.refs), (25002, R64 y1.backups), (25003, R73 y1.changes)]
abbrev H12 : HL := [(4, some (.box [.ref 5080 0 (([] : List S76).length), .ref 5081 0 (([] : List Int).length), .ref 5082 0 (([(S64.mk 0 [])] : List S64).length), .ref 5083 0 (([] : List S73).length), .i 0])), (5080, R76 ([] : List S76)), (5081, R3 ([] : List Int)), (5082, R64 ([(S64.mk 0 [])] : List S64)), (5083, R73 ([] : List S73))]
abbrev H13 (y0 : S68) : HL := [(6, some (.box [.i 0, .z])), (1000, some (.box [.ref 25000 0 y0.records.length, .ref 25001 0 y0.refs.length, .ref 25002 0 y0.backups.length, .ref 25003 0 y0.changes.length, .i y0.earliest])), (25000, R76 y0.records), (25001, R3 y0.refs), (25002, R64 y0.backups), (25003, R73 y0.changes)]
abbrev H14 (y0 : Int) (y1 : List Int) (y2 : S64) (y3 : S68) : HL := [(6, some (.box [.i y0, .si y1])), (8, some (.box [.i y2.time, .si y2.records])), (1000, some (.box [.ref 25000 0 y3.records.length, .ref 25001 0 y3.refs.length, .ref 25002 0 y3.backups.length, .ref 25003 0 y3.changes.length, .i y3.earliest])), (25000, R76 y3.records), (25001, R3 y3.refs), (25002, R64 y3.backups), (25003, R73 y3.changes)]
abbrev H15 (y0 : S64) (y1 : S68) : HL := [(6, some (.box [.i y0.time, .si y0.records])), (1000, some (.box [.ref 25000 0 y1.records.length, .ref 25001 0 y1.refs.length, .ref 25002 0 y1.backups.length, .ref 25003 0 y1.changes.length, .i y1.earliest])), (25000, R76 y1.records), (25001, R3 y1.refs), (25002, R64 y1.backups), (25003, R73 y1.changes)]
abbrev H16 (y0 : List S76) (y1 : S68) : HL := [(64, R76 y0), (1000, some (.box [.ref 25000 0 y1.records.length, .ref 25001 0 y1.refs.length, .ref 25002 0 y1.backups.length, .ref 25003 0 y1.changes.length, .i y1.earliest])), (25000, R76 y1.records), (25001, R3 y1.refs), (25002, R64 y1.backups), (25003, R73 y1.changes)]
abbrev H17 (y0 : List S76) (y1 : List Int) (y2 : List S64) (y3 : S68) : HL := [(2, some (.box [.ptr 1000 0 0])), (1000, some (.box [.ref 25000 0 y0.length, .ref 25001 0 y1.length, .ref 25002 0 y2.length, .ref 25003 0 y3.changes.length, .i y3.earliest])), (25000, R76 y0), (25001, R3 y1), (25002, R64 y2), (25003, R73 y3.changes)]
abbrev H18 (y0 : S68) : HL := [(40, some (.box [.ref 5800 0 y0.records.length, .ref 5801 0 y0.refs.length, .ref 5802 0 y0.backups.length, .ref 5803 0 y0.changes.length, .i y0.earliest])), (5800, R76 y0.records), (5801, R3 y0.refs), (5802, R64 y0.backups), (5803, R73 y0.changes)]
abbrev H19 (y0 : S68) : HL := [(9, some (.box [.ptr 44 0 0])), (40, some (.box [.ref 5800 0 y0.records.length, .ref 5801 0 y0.refs.length, .ref 5802 0 y0.backups.length, .ref 5803 0 y0.changes.length, .i y0.earliest])), (44, some (.box [.ref 5880 0 (([(S35.mk 0 [])] : List S35).length), .ref 5881 0 (([] : List S46).length), .i 0])), (5800, R76 y0.records), (5801, R3 y0.refs), (5802, R64 y0.backups), (5803, R73 y0.changes), (5880, R35 ([(S35.mk 0 [])] : List S35)), (5881, R46 ([] : List S46))]
abbrev L1 (y0 : List S76) (y1 : List Int) (y2 : List S64) (y3 : List S73) (y4 : Int) (y5 : Int) : SL := [(0, .d (.pim [.sl (y0.map cS76), .sl (y1.map (cI .i64)), .sl (y2.map cS64), .sl (y3.map cS73), .lit (.int .i64 y4)])), (3, .i y5)]
abbrev L2 (y0 : Int) (y1 : ByteArray) (y2 : List S71) : SL := [(0, .ptr 1000 0 0), (1, .i y0), (2, .s y1), (3, .s71 y2)]
abbrev L3 (y0 : Int) (y1 : Nat) (y2 : Nat) (y3 : Int) : SL := [(0, .ptr 1000 0 0), (3, .i y0), (11, .ref 25000 y1 y2), (12, .i (y2 : Int)), (13, .i y3)]
abbrev L4 (y0 : Int) (y1 : Nat) (y2 : Int) : SL := [(3, .i y0), (25, .ref 25001 0 y1), (26, .i (y1 : Int)), (27, .i y2)]
abbrev L5 (y0 : List S76) (y1 : ByteArray) : SL := [(0, .s76 y0), (1, .s y1)]
abbrev L6 (y0 : Int) : SL := [(0, .ptr 1000 0 0), (1, .i y0), (6, .ptr 6 0 0)]
abbrev L7 (y0 : Int) (y1 : Nat) (y2 : Int) : SL := [(0, .ptr 1000 0 0), (1, .i y0), (6, .ptr 6 0 0), (25, .ref 25002 0 y1), (26, .i (y1 : Int)), (27, .i y2)]
abbrev L8 (y0 : Int) (y1 : Nat) : SL := [(0, .ptr 1000 0 0), (1, .i y0), (6, .ptr 6 0 0), (9, .ref 64 0 y1)]
abbrev L9 (y0 : Int) (y1 : Nat) (y2 : Nat) (y3 : Int) : SL := [(1, .i y0), (6, .ptr 6 0 0), (9, .ref 64 0 y1), (69, .ref 25003 0 y2), (70, .i (y2 : Int)), (71, .i y3)]
abbrev L10 (y0 : Int) (y1 : Nat) (y2 : Nat) (y3 : Int) : SL := [(1, .i y0), (6, .ptr 6 0 0), (9, .ref 64 0 y1), (13, .ptr 13 0 0), (69, .ref 25003 0 y2), (70, .i (y2 : Int)), (71, .i y3)]
abbrev L11 (y0 : Int) (y1 : Nat) (y2 : Int) (y3 : Bool) (y4 : Nat) (y5 : Int) : SL := [(1, .i y0), (6, .ptr 6 0 0), (9, .ref 64 0 y1), (13, .ptr 13 0 0), (14, .i y2), (15, .b y3), (69, .ref 25003 0 y4), (70, .i (y4 : Int)), (71, .i y5)]
abbrev L12 (y0 : Int) (y1 : Nat) (y2 : Int) : SL := [(1, .i y0), (6, .ptr 6 0 0), (9, .ref 64 0 y1), (13, .ptr 13 0 0), (14, .i y2)]
abbrev L13 (y0 : List S71) (y1 : List S71) (y2 : Nat) (y3 : Int) : SL := [(0, .s71 y0), (1, .s71 y1), (12, .i (y2 : Int)), (13, .i y3)]
abbrev L14 (y0 : List S76) (y1 : List Int) (y2 : List S64) (y3 : List S73) (y4 : Int) (y5 : Nat) (y6 : Int) : SL := [(0, .d (.pim [.sl (y0.map cS76), .sl (y1.map (cI .i64)), .sl (y2.map cS64), .sl (y3.map cS73), .lit (.int .i64 y4)])), (3, .ptr 3 0 0), (10, .s76 y0), (11, .i (y5 : Int)), (12, .i y6)]
abbrev L15 (y0 : List S76) (y1 : List Int) (y2 : List S64) (y3 : List S73) (y4 : Int) (y5 : Int) (y6 : Nat) : SL := [(0, .d (.pim [.sl (y0.map cS76), .sl (y1.map (cI .i64)), .sl (y2.map cS64), .sl (y3.map cS73), .lit (.int .i64 y4)])), (3, .ptr 3 0 0), (5, .i y5), (6, .ptr 6 0 0), (10, .s76 y0), (11, .i (y6 : Int)), (12, .i y5)]
abbrev L16 (y0 : List S76) (y1 : List Int) (y2 : List S64) (y3 : List S73) (y4 : Int) (y5 : Int) (y6 : Nat) : SL := [(0, .d (.pim [.sl (y0.map cS76), .sl (y1.map (cI .i64)), .sl (y2.map cS64), .sl (y3.map cS73), .lit (.int .i64 y4)])), (3, .ptr 3 0 0), (5, .i y5), (10, .s76 y0), (11, .i (y6 : Int)), (12, .i y5)]
abbrev L17 (y0 : List S76) (y1 : List Int) (y2 : List S64) (y3 : List S73) (y4 : Int) (y5 : Int) (y6 : Nat) (y7 : ByteArray) (y8 : ByteArray) : SL := [(0, .d (.pim [.sl (y0.map cS76), .sl (y1.map (cI .i64)), .sl (y2.map cS64), .sl (y3.map cS73), .lit (.int .i64 y4)])), (3, .ptr 3 0 0), (5, .i y5), (6, .ptr 6 0 0), (10, .s76 y0), (11, .i (y6 : Int)), (12, .i y5), (26, .ptr 6 0 0), (27, .s y7), (28, .ptr 3 0 0), (29, .s y8)]
abbrev L18 (y0 : List S76) (y1 : List Int) (y2 : List S64) (y3 : List S73) (y4 : Int) (y5 : Int) (y6 : Nat) (y7 : ByteArray) (y8 : ByteArray) : SL := [(0, .d (.pim [.sl (y0.map cS76), .sl (y1.map (cI .i64)), .sl (y2.map cS64), .sl (y3.map cS73), .lit (.int .i64 y4)])), (3, .ptr 3 0 0), (5, .i y5), (10, .s76 y0), (11, .i (y6 : Int)), (12, .i y5), (26, .ptr 6 0 0), (27, .s y7), (28, .ptr 3 0 0), (29, .s y8), (30, .b true)]
abbrev L19 (y0 : Int) (y1 : List S76) (y2 : Nat) (y3 : Int) : SL := [(0, .ptr 1000 0 0), (8, .ptr 8 0 0), (9, .i y0), (36, .s76 y1), (37, .i (y2 : Int)), (38, .i y3)]
abbrev L20 (y0 : Int) (y1 : List S76) (y2 : Nat) (y3 : Int) : SL := [(0, .ptr 1000 0 0), (8, .ptr 8 0 0), (9, .i y0), (11, .ptr 11 0 0), (36, .s76 y1), (37, .i (y2 : Int)), (38, .i y3)]
abbrev L21 (y0 : Int) (y1 : Int) (y2 : List S76) (y3 : Nat) (y4 : Int) : SL := [(0, .ptr 1000 0 0), (8, .ptr 8 0 0), (9, .i y0), (11, .ptr 11 0 0), (12, .i y1), (36, .s76 y2), (37, .i (y3 : Int)), (38, .i y4)]
abbrev L22 (y0 : Int) (y1 : Int) (y2 : List S76) (y3 : Nat) (y4 : Int) : SL := [(0, .ptr 1000 0 0), (8, .ptr 8 0 0), (9, .i y0), (12, .i y1), (36, .s76 y2), (37, .i (y3 : Int)), (38, .i y4)]
abbrev L23 (y0 : Int) (y1 : Int) (y2 : Nat) (y3 : Nat) (y4 : Int) : SL := [(0, .ptr 1000 0 0), (1, .i y0), (5, .i y1), (6, .mref 700006), (17, .ref 25000 y2 y3), (18, .i (y3 : Int)), (19, .i y4)]
abbrev L24 (y0 : Int) (y1 : Int) (y2 : Nat) (y3 : Nat) (y4 : Int) : SL := [(0, .ptr 1000 0 0), (1, .i y0), (5, .i y1), (6, .mref 700006), (8, .ptr 8 0 0), (17, .ref 25000 y2 y3), (18, .i (y3 : Int)), (19, .i y4)]
abbrev L25 (y0 : Int) (y1 : Int) (y2 : Nat) (y3 : Int) : SL := [(1, .i y0), (5, .i y1), (6, .mref 700006), (45, .ref 25001 0 y2), (46, .i (y2 : Int)), (47, .i y3)]
abbrev L26 (y0 : Int) (y1 : Int) (y2 : Nat) (y3 : Int) : SL := [(1, .i y0), (5, .i y1), (6, .mref 700006), (12, .ptr 12 0 0), (45, .ref 25001 0 y2), (46, .i (y2 : Int)), (47, .i y3)]
abbrev L27 (y0 : List S71) : SL := [(2, .d (.pim [.sl (y0.map cS71)])), (3, .ptr 3 0 0)]
abbrev L28 (y0 : List S71) (y1 : List S71) : SL := [(9, .b true), (11, .s71 y0), (12, .s71 y1)]
abbrev L29 (y0 : Nat) (y1 : Nat) (y2 : Nat) (y3 : Int) : SL := [(3, .ref 34 0 y0), (11, .ref 25000 y1 y2), (12, .i (y2 : Int)), (13, .i y3)]
abbrev L30 (y0 : Nat) (y1 : Nat) (y2 : Nat) (y3 : Int) : SL := [(3, .ref 34 0 y0), (6, .ptr 6 0 0), (7, .ptr 7 0 0), (11, .ref 25000 y1 y2), (12, .i (y2 : Int)), (13, .i y3)]
abbrev L31 (y0 : Nat) : SL := [(0, .ref 1000 0 y0), (1, .fn (.func 33) [.ptr 2000 0 0])]
abbrev L32 (y0 : Nat) (y1 : Int) : SL := [(0, .ref 1000 0 y0), (1, .fn (.func 33) [.ptr 2000 0 0]), (7, .i (y0 : Int)), (8, .i y1)]
abbrev L33 (y0 : Nat) (y1 : Int) : SL := [(0, .ref 1000 0 y0), (1, .fn (.func 33) [.ptr 2000 0 0]), (5, .i y1), (7, .i (y0 : Int)), (8, .i y1)]
abbrev L34 (y0 : Nat) (y1 : Int) (y2 : Int) : SL := [(0, .ref 1000 0 y0), (1, .fn (.func 33) [.ptr 2000 0 0]), (5, .i y1), (6, .i y2)]
abbrev L35 (y0 : Nat) (y1 : Int) (y2 : Int) : SL := [(0, .ref 1000 0 y0), (1, .fn (.func 33) [.ptr 2000 0 0]), (5, .i y1), (6, .i y2), (7, .ptr 7 0 0)]
abbrev L36 (y0 : Nat) (y1 : Int) : SL := [(2, .ptr 2 0 0), (5, .i (y0 : Int)), (44, .ref 25002 0 y0), (45, .i (y0 : Int)), (46, .i y1)]
abbrev L37 (y0 : Nat) (y1 : Int) (y2 : List Int) (y3 : Nat) (y4 : Int) : SL := [(2, .ptr 2 0 0), (5, .i (y0 : Int)), (44, .ref 25002 0 y0), (45, .i (y0 : Int)), (46, .i y1), (51, .si y2), (52, .i (y3 : Int)), (53, .i y4)]
abbrev L38 (y0 : Nat) (y1 : Int) (y2 : Int) (y3 : List Int) (y4 : Nat) (y5 : Int) : SL := [(2, .ptr 2 0 0), (5, .i (y0 : Int)), (9, .i y1), (44, .ref 25002 0 y0), (45, .i (y0 : Int)), (46, .i y2), (51, .si y3), (52, .i (y4 : Int)), (53, .i y5)]
abbrev L39 (y0 : Nat) : SL := [(0, .ref 1000 0 y0), (1, .fn (.func 17) [.ptr 2000 0 0])]
abbrev L40 (y0 : Nat) (y1 : Int) : SL := [(0, .ref 1000 0 y0), (1, .fn (.func 17) [.ptr 2000 0 0]), (7, .i (y0 : Int)), (8, .i y1)]
abbrev L41 (y0 : Nat) (y1 : Int) : SL := [(0, .ref 1000 0 y0), (1, .fn (.func 17) [.ptr 2000 0 0]), (5, .i y1), (7, .i (y0 : Int)), (8, .i y1)]
abbrev L42 (y0 : Nat) (y1 : Int) (y2 : Int) : SL := [(0, .ref 1000 0 y0), (1, .fn (.func 17) [.ptr 2000 0 0]), (5, .i y1), (6, .i y2)]
abbrev L43 (y0 : Nat) (y1 : Int) (y2 : Int) : SL := [(0, .ref 1000 0 y0), (1, .fn (.func 17) [.ptr 2000 0 0]), (5, .i y1), (6, .i y2), (7, .ptr 7 0 0)]
abbrev L44 (y0 : List S76) (y1 : List Int) (y2 : List S64) (y3 : List S73) (y4 : Int) (y5 : Int) (y6 : Nat) (y7 : Int) : SL := [(0, .d (.pim [.sl (y0.map cS76), .sl (y1.map (cI .i64)), .sl (y2.map cS64), .sl (y3.map cS73), .lit (.int .i64 y4)])), (3, .i y5), (10, .si y1), (11, .i (y6 : Int)), (12, .i y7)]
abbrev L45 (y0 : List (List Int)) (y1 : List ByteArray) (y2 : List (List S71)) : SL := [(0, .lsi y0), (1, .ss y1), (2, .ls71 y2)]
abbrev L46 (y0 : List (List Int)) (y1 : List ByteArray) (y2 : List (List S71)) : SL := [(0, .lsi y0), (1, .ss y1), (2, .ls71 y2), (7, .ptr 25 0 0)]
abbrev L47 (y0 : List (List Int)) (y1 : List ByteArray) (y2 : List (List S71)) : SL := [(0, .lsi y0), (1, .ss y1), (2, .ls71 y2), (7, .ptr 25 0 0), (28, .b false), (29, .ptr 25 0 0)]
abbrev L48 (y0 : List (List Int)) (y1 : List ByteArray) (y2 : List (List S71)) : SL := [(0, .lsi y0), (1, .ss y1), (2, .ls71 y2), (34, .b false), (35, .ptr 25 0 0)]
abbrev L49 (y0 : List (List Int)) (y1 : List ByteArray) (y2 : List (List S71)) : SL := [(0, .lsi y0), (1, .ss y1), (2, .ls71 y2), (8, .d (.lit (.pointer none)))]
abbrev L50 (y0 : List (List Int)) (y1 : List ByteArray) (y2 : List (List S71)) : SL := [(0, .lsi y0), (1, .ss y1), (2, .ls71 y2), (8, .d (.lit (.pointer none))), (44, .ptr 44 0 0)]
abbrev L51 (y0 : List ByteArray) (y1 : List (List S71)) (y2 : List (List Int)) (y3 : Nat) : SL := [(1, .ss y0), (2, .ls71 y1), (8, .d (.lit (.pointer none))), (9, .ptr 9 0 0), (45, .lsi y2), (46, .i (y3 : Int)), (47, .i 0)]
abbrev L52 (y0 : List ByteArray) (y1 : List (List S71)) (y2 : List Int) (y3 : List (List Int)) (y4 : Nat) : SL := [(1, .ss y0), (2, .ls71 y1), (8, .d (.lit (.pointer none))), (9, .ptr 9 0 0), (11, .si y2), (45, .lsi y3), (46, .i (y4 : Int)), (47, .i 0)]
abbrev L53 (y0 : List ByteArray) (y1 : List (List S71)) (y2 : List Int) (y3 : List (List Int)) (y4 : Nat) (y5 : Int) : SL := [(1, .ss y0), (2, .ls71 y1), (8, .d (.lit (.pointer none))), (9, .ptr 9 0 0), (11, .si y2), (45, .lsi y3), (46, .i (y4 : Int)), (47, .i 0), (52, .i y5), (53, .ss y0), (54, .si y2)]
abbrev L54 (y0 : List ByteArray) (y1 : List (List S71)) (y2 : List Int) (y3 : List (List Int)) (y4 : Nat) (y5 : Int) (y6 : ByteArray) : SL := [(1, .ss y0), (2, .ls71 y1), (8, .d (.lit (.pointer none))), (9, .ptr 9 0 0), (11, .si y2), (45, .lsi y3), (46, .i (y4 : Int)), (47, .i 0), (52, .i y5), (56, .s y6), (57, .ls71 y1), (58, .si y2)]
abbrev L55 (y0 : List ByteArray) (y1 : List (List S71)) (y2 : List Int) : SL := [(1, .ss y0), (2, .ls71 y1), (8, .d (.lit (.pointer none))), (9, .ptr 9 0 0), (11, .si y2)]
abbrev L56 (y0 : List ByteArray) (y1 : List (List S71)) (y2 : Int) (y3 : ByteArray) (y4 : List S71) (y5 : List (List Int)) (y6 : Nat) : SL := [(1, .ss y0), (2, .ls71 y1), (8, .d (.lit (.pointer none))), (9, .ptr 9 0 0), (12, .i y2), (13, .s y3), (14, .s71 y4), (15, .i 0), (16, .i 0), (45, .lsi y5), (46, .i (y6 : Int)), (47, .i 0)]
abbrev L57 (y0 : List ByteArray) (y1 : List (List S71)) (y2 : Int) (y3 : List (List Int)) (y4 : Nat) : SL := [(1, .ss y0), (2, .ls71 y1), (8, .d (.lit (.pointer none))), (9, .ptr 9 0 0), (12, .i y2), (15, .i 0), (16, .i 0), (45, .lsi y3), (46, .i (y4 : Int)), (47, .i 0)]
abbrev L58 (y0 : List (List Int)) (y1 : List ByteArray) (y2 : List (List S71)) : SL := [(0, .lsi y0), (1, .ss y1), (2, .ls71 y2), (8, .ptr 40 0 0)]
abbrev L59 (y0 : List (List Int)) (y1 : List ByteArray) (y2 : List (List S71)) : SL := [(0, .lsi y0), (1, .ss y1), (2, .ls71 y2), (8, .ptr 40 0 0), (44, .ptr 44 0 0)]
abbrev L60 (y0 : List ByteArray) (y1 : List (List S71)) (y2 : List (List Int)) (y3 : Nat) (y4 : Int) : SL := [(1, .ss y0), (2, .ls71 y1), (8, .ptr 40 0 0), (9, .ptr 9 0 0), (45, .lsi y2), (46, .i (y3 : Int)), (47, .i y4)]
abbrev L61 (y0 : List ByteArray) (y1 : List (List S71)) (y2 : List Int) (y3 : List (List Int)) (y4 : Nat) (y5 : Int) : SL := [(1, .ss y0), (2, .ls71 y1), (8, .ptr 40 0 0), (9, .ptr 9 0 0), (11, .si y2), (45, .lsi y3), (46, .i (y4 : Int)), (47, .i y5)]
abbrev L62 (y0 : List ByteArray) (y1 : List (List S71)) (y2 : List Int) (y3 : List (List Int)) (y4 : Nat) (y5 : Int) (y6 : Int) : SL := [(1, .ss y0), (2, .ls71 y1), (8, .ptr 40 0 0), (9, .ptr 9 0 0), (11, .si y2), (45, .lsi y3), (46, .i (y4 : Int)), (47, .i y5), (52, .i y6), (53, .ss y0), (54, .si y2)]
abbrev L63 (y0 : List ByteArray) (y1 : List (List S71)) (y2 : List Int) (y3 : List (List Int)) (y4 : Nat) (y5 : Int) (y6 : Int) (y7 : ByteArray) : SL := [(1, .ss y0), (2, .ls71 y1), (8, .ptr 40 0 0), (9, .ptr 9 0 0), (11, .si y2), (45, .lsi y3), (46, .i (y4 : Int)), (47, .i y5), (52, .i y6), (56, .s y7), (57, .ls71 y1), (58, .si y2)]
abbrev L64 (y0 : List ByteArray) (y1 : List (List S71)) (y2 : Int) (y3 : ByteArray) (y4 : List S71) (y5 : List (List Int)) (y6 : Nat) (y7 : Int) : SL := [(1, .ss y0), (2, .ls71 y1), (8, .ptr 40 0 0), (9, .ptr 9 0 0), (12, .i y2), (13, .s y3), (14, .s71 y4), (15, .i 0), (16, .i 0), (45, .lsi y5), (46, .i (y6 : Int)), (47, .i y7)]
abbrev L65 (y0 : List ByteArray) (y1 : List (List S71)) (y2 : Int) (y3 : Int) (y4 : List (List Int)) (y5 : Nat) (y6 : Int) : SL := [(1, .ss y0), (2, .ls71 y1), (8, .ptr 40 0 0), (9, .ptr 9 0 0), (15, .i y2), (16, .i y3), (45, .lsi y4), (46, .i (y5 : Int)), (47, .i y6)]
abbrev L66 (y0 : List ByteArray) (y1 : List (List S71)) (y2 : Int) (y3 : ByteArray) (y4 : List S71) : SL := [(1, .ss y0), (2, .ls71 y1), (8, .ptr 40 0 0), (9, .ptr 9 0 0), (12, .i y2), (13, .s y3), (14, .s71 y4)]
abbrev L67 (y0 : List ByteArray) (y1 : List (List S71)) (y2 : Int) (y3 : ByteArray) (y4 : List S71) (y5 : Int) (y6 : List (List Int)) (y7 : Nat) (y8 : Int) : SL := [(1, .ss y0), (2, .ls71 y1), (8, .ptr 40 0 0), (9, .ptr 9 0 0), (12, .i y2), (13, .s y3), (14, .s71 y4), (15, .i y5), (16, .i 0), (45, .lsi y6), (46, .i (y7 : Int)), (47, .i y8)]
abbrev L68 (y0 : List ByteArray) (y1 : List (List S71)) (y2 : Int) : SL := [(1, .ss y0), (2, .ls71 y1), (8, .ptr 40 0 0), (9, .ptr 9 0 0), (15, .i y2), (16, .i 6)]
abbrev L69 (y0 : List ByteArray) (y1 : List (List S71)) (y2 : Int) (y3 : ByteArray) (y4 : List S71) (y5 : Int) (y6 : List (List Int)) (y7 : Nat) (y8 : Int) (y9 : Nat) : SL := [(1, .ss y0), (2, .ls71 y1), (8, .ptr 40 0 0), (9, .ptr 9 0 0), (12, .i y2), (13, .s y3), (14, .s71 y4), (15, .i y5), (16, .i 0), (45, .lsi y6), (46, .i (y7 : Int)), (47, .i y8), (92, .s y3), (93, .i (y9 : Int))]
abbrev L70 (y0 : List ByteArray) (y1 : List (List S71)) (y2 : Int) : SL := [(1, .ss y0), (2, .ls71 y1), (8, .ptr 40 0 0), (9, .ptr 9 0 0), (15, .i y2), (16, .i 2)]
abbrev L71 (y0 : List ByteArray) (y1 : List (List S71)) (y2 : Int) : SL := [(1, .ss y0), (2, .ls71 y1), (8, .ptr 40 0 0), (9, .ptr 9 0 0), (15, .i y2), (16, .i 18)]
abbrev L72 (y0 : List ByteArray) (y1 : List (List S71)) (y2 : Int) (y3 : List (List Int)) (y4 : Nat) (y5 : Int) : SL := [(1, .ss y0), (2, .ls71 y1), (8, .ptr 40 0 0), (9, .ptr 9 0 0), (15, .i y2), (16, .i 0), (45, .lsi y3), (46, .i (y4 : Int)), (47, .i y5)]
abbrev L73 (y0 : List ByteArray) (y1 : List (List S71)) (y2 : Int) (y3 : List (List Int)) (y4 : Nat) (y5 : Int) : SL := [(1, .ss y0), (2, .ls71 y1), (8, .ptr 40 0 0), (9, .ptr 9 0 0), (12, .i y2), (15, .i 0), (16, .i 0), (45, .lsi y3), (46, .i (y4 : Int)), (47, .i y5)]
abbrev L74 (y0 : List ByteArray) (y1 : List (List S71)) (y2 : Int) (y3 : List (List Int)) (y4 : Nat) (y5 : Int) : SL := [(1, .ss y0), (2, .ls71 y1), (8, .ptr 40 0 0), (9, .ptr 9 0 0), (12, .i y2), (16, .i 0), (18, .i 0), (45, .lsi y3), (46, .i (y4 : Int)), (47, .i y5)]
abbrev L75 (y0 : List ByteArray) (y1 : List (List S71)) (y2 : Int) (y3 : Int) (y4 : Int) (y5 : List (List Int)) (y6 : Nat) (y7 : Int) : SL := [(1, .ss y0), (2, .ls71 y1), (8, .ptr 40 0 0), (9, .ptr 9 0 0), (12, .i y2), (15, .i y3), (16, .i 0), (17, .i y4), (18, .i 0), (45, .lsi y5), (46, .i (y6 : Int)), (47, .i y7)]
abbrev L76 (y0 : List ByteArray) (y1 : List (List S71)) (y2 : Int) (y3 : Int) (y4 : Int) : SL := [(1, .ss y0), (2, .ls71 y1), (8, .ptr 40 0 0), (9, .ptr 9 0 0), (12, .i y2), (15, .i y3), (16, .i 0), (17, .i y4), (18, .i 0)]
abbrev L77 (y0 : List ByteArray) (y1 : List (List S71)) (y2 : Int) (y3 : Int) (y4 : Int) : SL := [(1, .ss y0), (2, .ls71 y1), (8, .ptr 40 0 0), (9, .ptr 9 0 0), (12, .i y2), (15, .i y3), (16, .i 0), (17, .i y4)]
abbrev L78 (y0 : List ByteArray) (y1 : List (List S71)) (y2 : Int) (y3 : Int) (y4 : List (List Int)) (y5 : Nat) (y6 : Int) : SL := [(1, .ss y0), (2, .ls71 y1), (8, .ptr 40 0 0), (9, .ptr 9 0 0), (12, .i y2), (15, .i y3), (16, .i 1), (45, .lsi y4), (46, .i (y5 : Int)), (47, .i y6)]
abbrev L79 (y0 : List ByteArray) (y1 : List (List S71)) (y2 : Int) (y3 : Int) (y4 : List (List Int)) (y5 : Nat) (y6 : Int) : SL := [(1, .ss y0), (2, .ls71 y1), (8, .ptr 40 0 0), (9, .ptr 9 0 0), (12, .i y2), (15, .i y3), (16, .i 0), (45, .lsi y4), (46, .i (y5 : Int)), (47, .i y6)]
abbrev L80 (y0 : List ByteArray) (y1 : List (List S71)) (y2 : Int) : SL := [(1, .ss y0), (2, .ls71 y1), (8, .ptr 40 0 0), (9, .ptr 9 0 0), (12, .i y2), (16, .i 0)]
abbrev L81 (y0 : List ByteArray) (y1 : List (List S71)) (y2 : Int) (y3 : List (List Int)) (y4 : Nat) (y5 : Int) (y6 : List S76) (y7 : Int) : SL := [(1, .ss y0), (2, .ls71 y1), (8, .ptr 40 0 0), (9, .ptr 9 0 0), (15, .i y2), (16, .i 0), (45, .lsi y3), (46, .i (y4 : Int)), (47, .i y5), (231, .s76 y6), (232, .ptr 44 0 0), (233, .i y7)]
abbrev L82 (y0 : List ByteArray) (y1 : List (List S71)) (y2 : Int) (y3 : Int) (y4 : Int) (y5 : List (List Int)) (y6 : Nat) (y7 : Int) : SL := [(1, .ss y0), (2, .ls71 y1), (8, .ptr 40 0 0), (9, .ptr 9 0 0), (22, .i y2), (23, .i y3), (24, .i y4), (45, .lsi y5), (46, .i (y6 : Int)), (47, .i y7)]
abbrev L83 (y0 : List ByteArray) (y1 : List (List S71)) (y2 : Int) (y3 : Int) (y4 : List (List Int)) (y5 : Nat) (y6 : Int) (y7 : Int) (y8 : Nat) (y9 : Nat) : SL := [(1, .ss y0), (2, .ls71 y1), (8, .ptr 40 0 0), (9, .ptr 9 0 0), (23, .i y2), (24, .i y3), (45, .lsi y4), (46, .i (y5 : Int)), (47, .i y6), (248, .i y7), (249, .ptr 44 0 0), (250, .ptr 44 0 0), (251, .ptr 44 0 0), (252, .ref 5880 y8 y9), (253, .i (y9 : Int))]
abbrev L84 (y0 : List ByteArray) (y1 : List (List S71)) (y2 : List (List Int)) (y3 : Nat) (y4 : Int) (y5 : Int) : SL := [(1, .ss y0), (2, .ls71 y1), (8, .ptr 40 0 0), (9, .ptr 9 0 0), (45, .lsi y2), (46, .i (y3 : Int)), (47, .i y4), (248, .i y5), (249, .ptr 44 0 0), (250, .ptr 44 0 0), (251, .ptr 44 0 0)]
abbrev L85 (y0 : List ByteArray) (y1 : List (List S71)) (y2 : Int) (y3 : List (List Int)) (y4 : Nat) (y5 : Int) (y6 : Int) (y7 : Nat) (y8 : Int) (y9 : Int) : SL := [(1, .ss y0), (2, .ls71 y1), (8, .ptr 40 0 0), (9, .ptr 9 0 0), (24, .i y2), (45, .lsi y3), (46, .i (y4 : Int)), (47, .i y5), (248, .i y6), (249, .ptr 44 0 0), (250, .ptr 44 0 0), (251, .ptr 44 0 0), (253, .i (y7 : Int)), (254, .b false), (257, .i y8), (258, .ptr 44 0 0), (259, .i y9)]
attribute [simp] H1 H2 H3 H4 H5 H6 H7 H8 H9 H10 H11 H12 H13 H14 H15 H16 H17 H18 H19 L1 L2 L3 L4 L5 L6 L7 L8 L9 L10 L11 L12 L13 L14 L15 L16 L17 L18 L19 L20 L21 L22 L23 L24 L25 L26 L27 L28 L29 L30 L31 L32 L33 L34 L35 L36 L37 L38 L39 L40 L41 L42 L43 L44 L45 L46 L47 L48 L49 L50 L51 L52 L53 L54 L55 L56 L57 L58 L59 L60 L61 L62 L63 L64 L65 L66 L67 L68 L69 L70 L71 L72 L73 L74 L75 L76 L77 L78 L79 L80 L81 L82 L83 L84 L85
end Go.Proofs.Ytfdhaigfonolpaa
