/- The types of the program's data, in Lean. -/
import Derived.Test.YtifcmomjjkbboabTy
import Derived.Test.YtifcmomjjkbboabA4
import Derived.Test.YtifcmomjjkbboabShelf
namespace Go.Proofs.Ytifcmomjjkbboab
open Go.Ab Go.Rp
attribute [-simp] List.all_eq_true Array.all_toList Array.all_eq_true

structure S64 where
 Term : Int
 Payload : ByteArray
def cS64 (x : S64) : List D := [.lit (.int .i64 x.Term), .lit (.string x.Payload)]
@[simp] theorem all_cS64 (xs : List S64) : xs.all ((fun e => decide (e.length = 2)) ∘ cS64) = true := all_len (c := cS64) (fun _ => rfl) xs
@[simp] theorem cS64_def (x : S64) : cS64 x = [.lit (.int .i64 x.Term), .lit (.string x.Payload)] := rfl
structure S61 where
 term : Int
 commit : Int
 log : (List S64)
 match_ : (List Int)
def cS61 (x : S61) : List D := [.lit (.int .i64 x.term), .lit (.int .i64 x.commit), .sl (x.log.map cS64), .sl (x.match_.map (cI .i64))]
@[simp] theorem all_cS61 (xs : List S61) : xs.all ((fun e => decide (e.length = 4)) ∘ cS61) = true := all_len (c := cS61) (fun _ => rfl) xs
@[simp] theorem cS61_def (x : S61) : cS61 x = [.lit (.int .i64 x.term), .lit (.int .i64 x.commit), .sl (x.log.map cS64), .sl (x.match_.map (cI .i64))] := rfl
structure S73 where
 Kind : Int
 From : Int
 To : Int
 Term : Int
 Index : Int
 PrevTerm : Int
 Commit : Int
 Entries : (List S64)
def cS73 (x : S73) : List D := [.lit (.int .i64 x.Kind), .lit (.int .i64 x.From), .lit (.int .i64 x.To), .lit (.int .i64 x.Term), .lit (.int .i64 x.Index), .lit (.int .i64 x.PrevTerm), .lit (.int .i64 x.Commit), .sl (x.Entries.map cS64)]
@[simp] theorem all_cS73 (xs : List S73) : xs.all ((fun e => decide (e.length = 8)) ∘ cS73) = true := all_len (c := cS73) (fun _ => rfl) xs
@[simp] theorem cS73_def (x : S73) : cS73 x = [.lit (.int .i64 x.Kind), .lit (.int .i64 x.From), .lit (.int .i64 x.To), .lit (.int .i64 x.Term), .lit (.int .i64 x.Index), .lit (.int .i64 x.PrevTerm), .lit (.int .i64 x.Commit), .sl (x.Entries.map cS64)] := rfl
structure S59 where
 servers : (List S61)
 leaders : (List Int)
 network : (List S73)
def cS59 (x : S59) : List D := [.sl (x.servers.map cS61), .sl (x.leaders.map (cI .i64)), .sl (x.network.map cS73)]
@[simp] theorem all_cS59 (xs : List S59) : xs.all ((fun e => decide (e.length = 3)) ∘ cS59) = true := all_len (c := cS59) (fun _ => rfl) xs
@[simp] theorem cS59_def (x : S59) : cS59 x = [.sl (x.servers.map cS61), .sl (x.leaders.map (cI .i64)), .sl (x.network.map cS73)] := rfl
structure S68 where
 Term : Int
 Commit : Int
 Log : (List S64)
 Match : (List Int)
def cS68 (x : S68) : List D := [.lit (.int .i64 x.Term), .lit (.int .i64 x.Commit), .sl (x.Log.map cS64), .sl (x.Match.map (cI .i64))]
@[simp] theorem all_cS68 (xs : List S68) : xs.all ((fun e => decide (e.length = 4)) ∘ cS68) = true := all_len (c := cS68) (fun _ => rfl) xs
@[simp] theorem cS68_def (x : S68) : cS68 x = [.lit (.int .i64 x.Term), .lit (.int .i64 x.Commit), .sl (x.Log.map cS64), .sl (x.Match.map (cI .i64))] := rfl
structure S44 where
 Servers : (List S68)
 Leaders : (List Int)
 Network : (List S73)
def cS44 (x : S44) : List D := [.sl (x.Servers.map cS68), .sl (x.Leaders.map (cI .i64)), .sl (x.Network.map cS73)]
@[simp] theorem all_cS44 (xs : List S44) : xs.all ((fun e => decide (e.length = 3)) ∘ cS44) = true := all_len (c := cS44) (fun _ => rfl) xs
@[simp] theorem cS44_def (x : S44) : cS44 x = [.sl (x.Servers.map cS68), .sl (x.Leaders.map (cI .i64)), .sl (x.Network.map cS73)] := rfl
/-- short names of the commonest terms -/
abbrev _root_.Go.Ab.V.i (n : Int) : V := .d (.lit (.int .i64 n))
abbrev _root_.Go.Ab.V.b (x : Bool) : V := .d (.lit (.bool x))
attribute [simp] V.i V.b
abbrev R3 (xs : List Int) : Option Blk := some (.arr 3 1 (xs.map (cI .i64)))
abbrev R73 (xs : List S73) : Option Blk := some (.arr 73 8 (xs.map cS73))
abbrev R64 (xs : List S64) : Option Blk := some (.arr 64 2 (xs.map cS64))
abbrev R47 (xs : List S73) : Option Blk := some (.arr 47 8 (xs.map cS73))
abbrev R71 (xs : List S64) : Option Blk := some (.arr 71 2 (xs.map cS64))
attribute [simp] R3 R73 R64 R47 R71
/-- short names of the commonest heaps -/
abbrev HL : Type := List (Nat × Option Blk)
abbrev SL : Type := List (Nat × V)
abbrev H1 (y0 : S59) : HL := [(1000, some (.box [.ref 25000 0 y0.servers.length, .ref 25001 0 y0.leaders.length, .ref 25002 0 y0.network.length])), (25000, some (.nest 61 4 [none, none, some (64, 2), some (3, 1)] (y0.servers.map cS61) [])), (25001, R3 y0.leaders), (25002, R73 y0.network)]
abbrev H2 (y0 : List S61) (y1 : List Int) (y2 : List S73) (y3 : List S68) (y4 : List Int) (y5 : List S73) : HL := [(60, some (.box [.ref 6200 0 y0.length, .ref 6201 0 y1.length, .ref 6202 0 y2.length])), (82, some (.box [.ref 6640 0 y3.length, .ref 6641 0 y4.length, .ref 6642 0 y5.length])), (6200, some (.nest 61 4 [none, none, some (64, 2), some (3, 1)] (y0.map cS61) [])), (6201, R3 y1), (6202, R73 y2), (6640, some (.nest 68 4 [none, none, some (71, 2), some (3, 1)] (y3.map cS68) [])), (6641, R3 y4), (6642, R47 y5)]
abbrev H3 (y0 : S59) (y1 : S44) : HL := [(1000, some (.box [.ref 25000 0 y0.servers.length, .ref 25001 0 y0.leaders.length, .ref 25002 0 y0.network.length])), (2000, some (.box [.ref 45000 0 y1.Servers.length, .ref 45001 0 y1.Leaders.length, .ref 45002 0 y1.Network.length])), (25000, some (.nest 61 4 [none, none, some (64, 2), some (3, 1)] (y0.servers.map cS61) [])), (25001, R3 y0.leaders), (25002, R73 y0.network), (45000, some (.nest 68 4 [none, none, some (71, 2), some (3, 1)] (y1.Servers.map cS68) [])), (45001, R3 y1.Leaders), (45002, R47 y1.Network)]
abbrev H4 (y0 : S44) : HL := [(1000, some (.box [.ref 25000 0 y0.Servers.length, .ref 25001 0 y0.Leaders.length, .ref 25002 0 y0.Network.length])), (25000, some (.nest 68 4 [none, none, some (71, 2), some (3, 1)] (y0.Servers.map cS68) [])), (25001, R3 y0.Leaders), (25002, R47 y0.Network)]
abbrev H5 (y0 : List Int) (y1 : S59) : HL := [(41, R3 y0), (1000, some (.box [.ref 25000 0 y1.servers.length, .ref 25001 0 y1.leaders.length, .ref 25002 0 y1.network.length])), (25000, some (.nest 61 4 [none, none, some (64, 2), some (3, 1)] (y1.servers.map cS61) [])), (25001, R3 y1.leaders), (25002, R73 y1.network)]
abbrev H6 (y0 : S59) : HL := [(60, some (.box [.ref 6200 0 y0.servers.length, .ref 6201 0 y0.leaders.length, .ref 6202 0 y0.network.length])), (6200, some (.nest 61 4 [none, none, some (64, 2), some (3, 1)] (y0.servers.map cS61) [])), (6201, R3 y0.leaders), (6202, R73 y0.network)]
abbrev H7 (y0 : S59) (y1 : List S68) (y2 : List Int) (y3 : List S73) : HL := [(60, some (.box [.ref 6200 0 y0.servers.length, .ref 6201 0 y0.leaders.length, .ref 6202 0 y0.network.length])), (82, some (.box [.ref 6640 0 y1.length, .ref 6641 0 y2.length, .ref 6642 0 y3.length])), (6200, some (.nest 61 4 [none, none, some (64, 2), some (3, 1)] (y0.servers.map cS61) [])), (6201, R3 y0.leaders), (6202, R73 y0.network), (6640, some (.nest 68 4 [none, none, some (71, 2), some (3, 1)] (y1.map cS68) [])), (6641, R3 y2), (6642, R47 y3)]
abbrev H8 (y0 : S73) (y1 : List S68) (y2 : S44) : HL := [(3, some (.box [.i y0.Kind, .i y0.From, .i y0.To, .i y0.Term, .i y0.Index, .i y0.PrevTerm, .i y0.Commit, .d (.sl (y0.Entries.map cS64))])), (1000, some (.box [.ref 25000 0 y1.length, .ref 25001 0 y2.Leaders.length, .ref 25002 0 y2.Network.length])), (25000, some (.nest 68 4 [none, none, some (71, 2), some (3, 1)] (y1.map cS68) [])), (25001, R3 y2.Leaders), (25002, R47 y2.Network)]
abbrev H9 (y0 : List S68) (y1 : S44) : HL := [(1000, some (.box [.ref 25000 0 y0.length, .ref 25001 0 y1.Leaders.length, .ref 25002 0 y1.Network.length])), (25000, some (.nest 68 4 [none, none, some (71, 2), some (3, 1)] (y0.map cS68) [])), (25001, R3 y1.Leaders), (25002, R47 y1.Network)]
abbrev H10 (y0 : S73) (y1 : List S61) (y2 : S59) : HL := [(3, some (.box [.i y0.Kind, .i y0.From, .i y0.To, .i y0.Term, .i y0.Index, .i y0.PrevTerm, .i y0.Commit, .d (.sl (y0.Entries.map cS64))])), (1000, some (.box [.ref 25000 0 y1.length, .ref 25001 0 y2.leaders.length, .ref 25002 0 y2.network.length])), (25000, some (.nest 61 4 [none, none, some (64, 2), some (3, 1)] (y1.map cS61) [])), (25001, R3 y2.leaders), (25002, R73 y2.network)]
abbrev H11 (y0 : S73) (y1 : S73) : HL := [(2, some (.box [.i y0.Kind, .i y0.From, .i y0.To, .i y0.Term, .i y0.Index, .i y0.PrevTerm, .i y0.Commit, .d (.sl (y0.Entries.map cS64))])), (3, some (.box [.i y1.Kind, .i y1.From, .i y1.To, .i y1.Term, .i y1.Index, .i y1.PrevTerm, .i y1.Commit, .d (.sl (y1.Entries.map cS64))]))]
abbrev H12 (y0 : S73) (y1 : S44) : HL := [(3, some (.box [.i y0.Kind, .i y0.From, .i y0.To, .i y0.Term, .i y0.Index, .i y0.PrevTerm, .i y0.Commit, .d (.sl (y0.Entries.map cS64))])), (1000, some (.box [.ref 25000 0 y1.Servers.length, .ref 25001 0 y1.Leaders.length, .ref 25002 0 y1.Network.length])), (25000, some (.nest 68 4 [none, none, some (71, 2), some (3, 1)] (y1.Servers.map cS68) [])), (25001, R3 y1.Leaders), (25002, R47 y1.Network)]
abbrev H13 (y0 : S73) (y1 : S59) (y2 : List S73) : HL := [(5, some (.box [.i y0.Kind, .i y0.From, .i y0.To, .i y0.Term, .i y0.Index, .i y0.PrevTerm, .i y0.Commit, .d (.sl (y0.Entries.map cS64))])), (1000, some (.box [.ref 25000 0 y1.servers.length, .ref 25001 0 y1.leaders.length, .ref 25002 0 y2.length])), (25000, some (.nest 61 4 [none, none, some (64, 2), some (3, 1)] (y1.servers.map cS61) [])), (25001, R3 y1.leaders), (25002, R73 y2)]
abbrev H14 (y0 : List S61) (y1 : List Int) : HL := [(16, some (.box [.ref 5320 0 y0.length, .ref 5321 0 y1.length, .ref 5322 0 (([] : List S73).length)])), (5320, some (.nest 61 4 [none, none, some (64, 2), some (3, 1)] (y0.map cS61) [])), (5321, R3 y1), (5322, R73 ([] : List S73))]
abbrev H15 (y0 : S73) (y1 : S64) (y2 : List S68) (y3 : S44) : HL := [(3, some (.box [.i y0.Kind, .i y0.From, .i y0.To, .i y0.Term, .i y0.Index, .i y0.PrevTerm, .i y0.Commit, .d (.sl (y0.Entries.map cS64))])), (6, some (.box [.i y1.Term, .d (.lit (.string y1.Payload))])), (1000, some (.box [.ref 25000 0 y2.length, .ref 25001 0 y3.Leaders.length, .ref 25002 0 y3.Network.length])), (25000, some (.nest 68 4 [none, none, some (71, 2), some (3, 1)] (y2.map cS68) [])), (25001, R3 y3.Leaders), (25002, R47 y3.Network)]
abbrev H16 (y0 : List S61) (y1 : S59) : HL := [(1000, some (.box [.ref 25000 0 y0.length, .ref 25001 0 y1.leaders.length, .ref 25002 0 y1.network.length])), (25000, some (.nest 61 4 [none, none, some (64, 2), some (3, 1)] (y0.map cS61) [])), (25001, R3 y1.leaders), (25002, R73 y1.network)]
abbrev H17 (y0 : S68) (y1 : Int) (y2 : Int) (y3 : Int) (y4 : List S64) : HL := [(6, some (.box [.i 0, .i 0, .i 0, .i 0, .i 0, .i 0, .i 0, .d (.lit (.slice none 0 0))])), (7, some (.box [.i y0.Term, .i y0.Commit, .d (.sl (y0.Log.map cS64)), .d (.sl (y0.Match.map (cI .i64)))])), (9, some (.box [.i 1, .i y1, .i y2, .i y0.Term, .i y3, .i 0, .i y0.Commit, .ref 53 0 y4.length])), (53, R71 y4)]
abbrev H18 (y0 : S59) : HL := [(27, some (.box [.ref 5540 0 y0.servers.length, .ref 5541 0 y0.leaders.length, .ref 5542 0 y0.network.length])), (5540, some (.nest 61 4 [none, none, some (64, 2), some (3, 1)] (y0.servers.map cS61) [])), (5541, R3 y0.leaders), (5542, R73 y0.network)]
abbrev H19 (y0 : S59) (y1 : S44) : HL := [(60, some (.box [.ref 6200 0 y0.servers.length, .ref 6201 0 y0.leaders.length, .ref 6202 0 y0.network.length])), (82, some (.box [.ref 6640 0 y1.Servers.length, .ref 6641 0 y1.Leaders.length, .ref 6642 0 y1.Network.length])), (6200, some (.nest 61 4 [none, none, some (64, 2), some (3, 1)] (y0.servers.map cS61) [])), (6201, R3 y0.leaders), (6202, R73 y0.network), (6640, some (.nest 68 4 [none, none, some (71, 2), some (3, 1)] (y1.Servers.map cS68) [])), (6641, R3 y1.Leaders), (6642, R47 y1.Network)]
abbrev H20 (y0 : S73) (y1 : S64) (y2 : List S61) (y3 : S59) : HL := [(3, some (.box [.i y0.Kind, .i y0.From, .i y0.To, .i y0.Term, .i y0.Index, .i y0.PrevTerm, .i y0.Commit, .d (.sl (y0.Entries.map cS64))])), (6, some (.box [.i y1.Term, .d (.lit (.string y1.Payload))])), (1000, some (.box [.ref 25000 0 y2.length, .ref 25001 0 y3.leaders.length, .ref 25002 0 y3.network.length])), (25000, some (.nest 61 4 [none, none, some (64, 2), some (3, 1)] (y2.map cS61) [])), (25001, R3 y3.leaders), (25002, R73 y3.network)]
abbrev H21 (y0 : List Int) (y1 : List S61) (y2 : List Int) (y3 : S59) : HL := [(41, R3 y0), (1000, some (.box [.ref 25000 0 y1.length, .ref 25001 0 y2.length, .ref 25002 0 y3.network.length])), (25000, some (.nest 61 4 [none, none, some (64, 2), some (3, 1)] (y1.map cS61) [])), (25001, R3 y2), (25002, R73 y3.network)]
abbrev H22 (y0 : List S73) (y1 : S59) : HL := [(22, R73 y0), (1000, some (.box [.ref 25000 0 y1.servers.length, .ref 25001 0 y1.leaders.length, .ref 25002 0 y1.network.length])), (25000, some (.nest 61 4 [none, none, some (64, 2), some (3, 1)] (y1.servers.map cS61) [])), (25001, R3 y1.leaders), (25002, R73 y1.network)]
abbrev H23 (y0 : List S68) (y1 : List Int) : HL := [(6, some (.box [.ref 5120 0 y0.length, .ref 5121 0 y1.length, .ref 5122 0 (([] : List S73).length)])), (5120, some (.nest 68 4 [none, none, some (71, 2), some (3, 1)] (y0.map cS68) [])), (5121, R3 y1), (5122, R47 ([] : List S73))]
abbrev H24 (y0 : S59) (y1 : List S73) : HL := [(1000, some (.box [.ref 25000 0 y0.servers.length, .ref 25001 0 y0.leaders.length, .ref 25002 0 y1.length])), (25000, some (.nest 61 4 [none, none, some (64, 2), some (3, 1)] (y0.servers.map cS61) [])), (25001, R3 y0.leaders), (25002, R73 y1)]
abbrev H25 (y0 : List S61) (y1 : List Int) (y2 : List S73) : HL := [(27, some (.box [.ref 5540 0 y0.length, .ref 5541 0 y1.length, .ref 5542 0 y2.length])), (5540, some (.nest 61 4 [none, none, some (64, 2), some (3, 1)] (y0.map cS61) [])), (5541, R3 y1), (5542, R73 y2)]
abbrev H26 (y0 : S73) (y1 : S59) : HL := [(3, some (.box [.i y0.Kind, .i y0.From, .i y0.To, .i y0.Term, .i y0.Index, .i y0.PrevTerm, .i y0.Commit, .d (.sl (y0.Entries.map cS64))])), (1000, some (.box [.ref 25000 0 y1.servers.length, .ref 25001 0 y1.leaders.length, .ref 25002 0 y1.network.length])), (25000, some (.nest 61 4 [none, none, some (64, 2), some (3, 1)] (y1.servers.map cS61) [])), (25001, R3 y1.leaders), (25002, R73 y1.network)]
abbrev H27 (y0 : S64) (y1 : S64) : HL := [(2, some (.box [.i y0.Term, .d (.lit (.string y0.Payload))])), (3, some (.box [.i y1.Term, .d (.lit (.string y1.Payload))]))]
abbrev H28 (y0 : S73) (y1 : List S61) (y2 : List Int) (y3 : List S73) (y4 : List S68) (y5 : List Int) (y6 : List S73) : HL := [(25, some (.box [.i y0.Kind, .i y0.From, .i y0.To, .i y0.Term, .i y0.Index, .i y0.PrevTerm, .i y0.Commit, .d (.sl (y0.Entries.map cS64))])), (60, some (.box [.ref 6200 0 y1.length, .ref 6201 0 y2.length, .ref 6202 0 y3.length])), (82, some (.box [.ref 6640 0 y4.length, .ref 6641 0 y5.length, .ref 6642 0 y6.length])), (6200, some (.nest 61 4 [none, none, some (64, 2), some (3, 1)] (y1.map cS61) [])), (6201, R3 y2), (6202, R73 y3), (6640, some (.nest 68 4 [none, none, some (71, 2), some (3, 1)] (y4.map cS68) [])), (6641, R3 y5), (6642, R47 y6)]
abbrev H29 (y0 : List Int) (y1 : List S61) (y2 : S59) : HL := [(28, R3 y0), (1000, some (.box [.ref 25000 0 y1.length, .ref 25001 0 y2.leaders.length, .ref 25002 0 y2.network.length])), (25000, some (.nest 61 4 [none, none, some (64, 2), some (3, 1)] (y1.map cS61) [])), (25001, R3 y2.leaders), (25002, R73 y2.network)]
abbrev H30 (y0 : List Int) : HL := [(6, some (.box [.ref 5120 0 (([] : List S68).length), .ref 5121 0 y0.length, .ref 5122 0 (([] : List S73).length)])), (5120, some (.nest 68 4 [none, none, some (71, 2), some (3, 1)] (([] : List S68).map cS68) [])), (5121, R3 y0), (5122, R47 ([] : List S73))]
abbrev H31 (y0 : S73) (y1 : List S73) (y2 : S59) : HL := [(5, some (.box [.i y0.Kind, .i y0.From, .i y0.To, .i y0.Term, .i y0.Index, .i y0.PrevTerm, .i y0.Commit, .d (.sl (y0.Entries.map cS64))])), (30, R73 y1), (1000, some (.box [.ref 25000 0 y2.servers.length, .ref 25001 0 y2.leaders.length, .ref 25002 0 y2.network.length])), (25000, some (.nest 61 4 [none, none, some (64, 2), some (3, 1)] (y2.servers.map cS61) [])), (25001, R3 y2.leaders), (25002, R73 y2.network)]
abbrev H32 (y0 : List S73) (y1 : S59) : HL := [(21, R73 y0), (1000, some (.box [.ref 25000 0 y1.servers.length, .ref 25001 0 y1.leaders.length, .ref 25002 0 y1.network.length])), (25000, some (.nest 61 4 [none, none, some (64, 2), some (3, 1)] (y1.servers.map cS61) [])), (25001, R3 y1.leaders), (25002, R73 y1.network)]
abbrev H33 (y0 : List Int) (y1 : S59) : HL := [(41, R3 y0), (1000, some (.box [.d (.sl (y1.servers.map cS61)), .ref 25001 0 y1.leaders.length, .ref 25002 0 y1.network.length])), (25001, R3 y1.leaders), (25002, R73 y1.network)]
abbrev H34 (y0 : List S61) (y1 : List Int) (y2 : S59) : HL := [(1000, some (.box [.ref 25000 0 y0.length, .ref 25001 0 y1.length, .ref 25002 0 y2.network.length])), (25000, some (.nest 61 4 [none, none, some (64, 2), some (3, 1)] (y0.map cS61) [])), (25001, R3 y1), (25002, R73 y2.network)]
abbrev H35 (y0 : S44) : HL := [(1000, some (.box [.d (.sl (y0.Servers.map cS68)), .ref 25001 0 y0.Leaders.length, .ref 25002 0 y0.Network.length])), (25001, R3 y0.Leaders), (25002, R47 y0.Network)]
abbrev H36 (y0 : S68) : HL := [(6, some (.box [.i 0, .i 0, .i 0, .i 0, .i 0, .i 0, .i 0, .d (.lit (.slice none 0 0))])), (7, some (.box [.i y0.Term, .i y0.Commit, .d (.sl (y0.Log.map cS64)), .d (.sl (y0.Match.map (cI .i64)))]))]
abbrev H37 (y0 : S68) (y1 : Int) (y2 : Int) (y3 : Int) : HL := [(6, some (.box [.i 0, .i 0, .i 0, .i 0, .i 0, .i 0, .i 0, .d (.lit (.slice none 0 0))])), (7, some (.box [.i y0.Term, .i y0.Commit, .d (.sl (y0.Log.map cS64)), .d (.sl (y0.Match.map (cI .i64)))])), (9, some (.box [.i 1, .i y1, .i y2, .i y0.Term, .i y3, .i 0, .i y0.Commit, .d (.lit (.slice none 0 0))]))]
abbrev H38 (y0 : S73) (y1 : S59) : HL := [(5, some (.box [.i y0.Kind, .i y0.From, .i y0.To, .i y0.Term, .i y0.Index, .i y0.PrevTerm, .i y0.Commit, .d (.sl (y0.Entries.map cS64))])), (1000, some (.box [.ref 25000 0 y1.servers.length, .ref 25001 0 y1.leaders.length, .ref 25002 0 y1.network.length])), (25000, some (.nest 61 4 [none, none, some (64, 2), some (3, 1)] (y1.servers.map cS61) [])), (25001, R3 y1.leaders), (25002, R73 y1.network)]
abbrev H39 (y0 : S44) : HL := [(12, some (.mp (.int .i64) (encM MKey.ik vB ([] : List (Int × Bool))))), (1000, some (.box [.ref 25000 0 y0.Servers.length, .ref 25001 0 y0.Leaders.length, .ref 25002 0 y0.Network.length])), (25000, some (.nest 68 4 [none, none, some (71, 2), some (3, 1)] (y0.Servers.map cS68) [])), (25001, R3 y0.Leaders), (25002, R47 y0.Network)]
abbrev H40 (y0 : S73) (y1 : List S73) (y2 : S59) : HL := [(5, some (.box [.i y0.Kind, .i y0.From, .i y0.To, .i y0.Term, .i y0.Index, .i y0.PrevTerm, .i y0.Commit, .d (.sl (y0.Entries.map cS64))])), (22, R73 y1), (1000, some (.box [.ref 25000 0 y2.servers.length, .ref 25001 0 y2.leaders.length, .ref 25002 0 y2.network.length])), (25000, some (.nest 61 4 [none, none, some (64, 2), some (3, 1)] (y2.servers.map cS61) [])), (25001, R3 y2.leaders), (25002, R73 y2.network)]
abbrev H41 (y0 : S73) (y1 : List S61) (y2 : List Int) (y3 : List S73) (y4 : List S68) (y5 : List Int) (y6 : List S73) : HL := [(25, some (.box [.i y0.Kind, .i y0.From, .i y0.To, .i y0.Term, .i y0.Index, .i y0.PrevTerm, .i y0.Commit, .d (.sl (y0.Entries.map cS64))])), (60, some (.box [.ref 6200 0 y1.length, .ref 6201 0 y2.length, .ref 6202 0 y3.length])), (82, some (.box [.ref 6640 0 y4.length, .ref 6641 0 y5.length, .ref 203 0 y6.length])), (203, R47 y6), (6200, some (.nest 61 4 [none, none, some (64, 2), some (3, 1)] (y1.map cS61) [])), (6201, R3 y2), (6202, R73 y3), (6640, some (.nest 68 4 [none, none, some (71, 2), some (3, 1)] (y4.map cS68) [])), (6641, R3 y5)]
abbrev L1 (y0 : Int) (y1 : Nat) (y2 : Int) : SL := [(0, .i y0), (4, .ptr 16 0 0), (21, .i (y1 : Int)), (22, .i y2)]
abbrev L2 (y0 : List S61) (y1 : List Int) (y2 : List S73) (y3 : Int) : SL := [(0, .d (.pim [.sl (y0.map cS61), .sl (y1.map (cI .i64)), .sl (y2.map cS73)])), (1, .i y3)]
abbrev L3 (y0 : Int) (y1 : ByteArray) : SL := [(0, .ptr 1000 0 0), (1, .i y0), (2, .d (.lit (.string y1)))]
abbrev L4 (y0 : Int) (y1 : ByteArray) (y2 : Nat) : SL := [(0, .ptr 1000 0 0), (1, .i y0), (2, .d (.lit (.string y1))), (7, .ptr 25000 y2 0)]
abbrev L5 (y0 : List ByteArray) (y1 : Int) : SL := [(0, .d (.sl (y0.map cS))), (1, .i y1), (5, .d (.lit (.string (ByteArray.mk #[]))))]
abbrev L6 (y0 : Nat) (y1 : Int) : SL := [(0, .ptr 1000 0 0), (4, .ptr 25000 y0 0), (5, .i y1)]
abbrev L7 (y0 : Nat) (y1 : Int) : SL := [(0, .ptr 1000 0 0), (4, .ptr 25000 y0 0), (5, .i y1), (6, .i 0)]
abbrev L8 (y0 : Nat) (y1 : Int) (y2 : Int) (y3 : Nat) (y4 : Int) : SL := [(0, .ptr 1000 0 0), (4, .ptr 25000 y0 0), (5, .i y1), (6, .i y2), (42, .ref 9181 0 y3), (43, .i (y3 : Int)), (44, .i y4)]
abbrev L9 (y0 : Int) : SL := [(6, .ptr 6 0 0), (7, .ptr 7 0 0), (8, .i y0), (9, .ptr 9 0 0)]
abbrev L10 (y0 : Int) (y1 : Int) : SL := [(6, .ptr 6 0 0), (7, .ptr 7 0 0), (8, .i y0), (9, .ptr 9 0 0), (10, .i y1)]
abbrev L11 (y0 : Nat) : SL := [(0, .ptr 1000 0 0), (3, .ptr 3 0 0), (4, .ptr 25000 y0 0)]
abbrev L12 (y0 : Nat) : SL := [(0, .ptr 1000 0 0), (3, .ptr 3 0 0), (4, .ptr 25000 y0 0), (48, .b true)]
abbrev L13 (y0 : Nat) : SL := [(0, .ptr 1000 0 0), (3, .ptr 3 0 0), (4, .ptr 25000 y0 0), (29, .b false)]
abbrev L14 (y0 : Nat) : SL := [(0, .ptr 1000 0 0), (3, .ptr 3 0 0), (4, .ptr 25000 y0 0), (48, .b false)]
abbrev L15 (y0 : Nat) (y1 : List S64) (y2 : Nat) (y3 : Int) : SL := [(0, .ptr 1000 0 0), (3, .ptr 3 0 0), (4, .ptr 25000 y0 0), (50, .d (.sl (y1.map cS64))), (51, .i (y2 : Int)), (52, .i y3)]
abbrev L16 (y0 : Nat) (y1 : Int) (y2 : List S64) (y3 : Nat) (y4 : Int) : SL := [(0, .ptr 1000 0 0), (3, .ptr 3 0 0), (4, .ptr 25000 y0 0), (6, .ptr 6 0 0), (7, .i y1), (50, .d (.sl (y2.map cS64))), (51, .i (y3 : Int)), (52, .i y4)]
abbrev L17 (y0 : Nat) (y1 : Int) : SL := [(0, .ptr 1000 0 0), (3, .ptr 3 0 0), (4, .ptr 25000 y0 0), (8, .i y1)]
abbrev L18 (y0 : Int) : SL := [(0, .ptr 1000 0 0), (3, .ptr 3 0 0), (8, .i y0)]
abbrev L19 (y0 : Nat) : SL := [(0, .ptr 1000 0 0), (5, .ptr 5 0 0), (6, .ptr 25000 y0 0)]
abbrev L20 (y0 : Nat) (y1 : Int) : SL := [(0, .ptr 1000 0 0), (5, .ptr 5 0 0), (6, .ptr 25000 y0 0), (67, .b true), (68, .ptr 1000 0 0), (70, .i y1)]
abbrev L21 (y0 : Nat) : SL := [(0, .ptr 1000 0 0), (5, .ptr 5 0 0), (6, .ptr 25000 y0 0), (59, .b false)]
abbrev L22 (y0 : List (List S73)) (y1 : Int) (y2 : Nat) (y3 : Int) : SL := [(0, .d (.sl (y0.map (cL cS73)))), (3, .i y1), (9, .d (.sl (y0.map (cL cS73)))), (10, .i (y2 : Int)), (11, .i y3)]
abbrev L23 (y0 : Nat) (y1 : List (List S73)) (y2 : Nat) (y3 : Int) : SL := [(6, .ref 24 0 y0), (25, .d (.sl (y1.map (cL cS73)))), (26, .i (y2 : Int)), (27, .i y3)]
abbrev L24 (y0 : Nat) (y1 : Int) : SL := [(0, .ptr 1000 0 0), (3, .ptr 3 0 0), (4, .ptr 25000 y0 0), (36, .b true), (37, .ptr 1000 0 0), (39, .i y1)]
abbrev L25 (y0 : Nat) : SL := [(0, .ptr 1000 0 0), (3, .ptr 3 0 0), (4, .ptr 25000 y0 0), (41, .b false)]
abbrev L26 (y0 : Nat) : SL := [(0, .ptr 1000 0 0), (3, .ptr 3 0 0), (4, .ptr 25000 y0 0), (96, .b true)]
abbrev L27 (y0 : Nat) : SL := [(0, .ptr 1000 0 0), (3, .ptr 3 0 0), (4, .ptr 25000 y0 0), (77, .b false)]
abbrev L28 (y0 : Nat) : SL := [(0, .ptr 1000 0 0), (3, .ptr 3 0 0), (4, .ptr 25000 y0 0), (96, .b false)]
abbrev L29 (y0 : Nat) (y1 : List S64) (y2 : Nat) (y3 : Int) : SL := [(0, .ptr 1000 0 0), (3, .ptr 3 0 0), (4, .ptr 25000 y0 0), (98, .d (.sl (y1.map cS64))), (99, .i (y2 : Int)), (100, .i y3)]
abbrev L30 (y0 : Nat) (y1 : Int) (y2 : List S64) (y3 : Nat) (y4 : Int) : SL := [(0, .ptr 1000 0 0), (3, .ptr 3 0 0), (4, .ptr 25000 y0 0), (6, .ptr 6 0 0), (7, .i y1), (98, .d (.sl (y2.map cS64))), (99, .i (y3 : Int)), (100, .i y4)]
abbrev L31 (y0 : Nat) (y1 : Nat) (y2 : List S64) (y3 : Nat) (y4 : Int) : SL := [(0, .ptr 1000 0 0), (3, .ptr 3 0 0), (4, .ptr 25000 y0 0), (6, .ptr 6 0 0), (7, .i (y1 : Int)), (98, .d (.sl (y2.map cS64))), (99, .i (y3 : Int)), (100, .i y4)]
abbrev L32 (y0 : Nat) (y1 : List S64) (y2 : Nat) (y3 : Int) : SL := [(0, .ptr 1000 0 0), (3, .ptr 3 0 0), (4, .ptr 25000 y0 0), (6, .ptr 6 0 0), (98, .d (.sl (y1.map cS64))), (99, .i (y2 : Int)), (100, .i y3)]
abbrev L33 (y0 : Nat) (y1 : Int) (y2 : Int) : SL := [(0, .ptr 1000 0 0), (3, .ptr 3 0 0), (4, .ptr 25000 y0 0), (8, .i y1), (9, .i y2)]
abbrev L34 (y0 : List (List Int)) (y1 : Int) : SL := [(0, .d (.sl (y0.map (cL (cI .i64))))), (1, .i y1), (5, .d (.lit (.slice none 0 0)))]
abbrev L35 (y0 : List Int) (y1 : Int) (y2 : Nat) (y3 : Int) : SL := [(0, .d (.sl (y0.map (cI .i64)))), (1, .i y1), (7, .i (y2 : Int)), (8, .i y3)]
abbrev L36 (y0 : List Int) (y1 : Int) (y2 : Int) (y3 : Nat) : SL := [(0, .d (.sl (y0.map (cI .i64)))), (1, .i y1), (5, .i y2), (7, .i (y3 : Int)), (8, .i y2)]
abbrev L37 (y0 : List S64) (y1 : List S64) : SL := [(0, .d (.sl (y0.map cS64))), (1, .d (.sl (y1.map cS64))), (5, .d (.lit (.func (.func 43) #[] #[])))]
abbrev L38 (y0 : List S64) (y1 : List S64) : SL := [(0, .d (.sl (y0.map cS64))), (1, .d (.sl (y1.map cS64)))]
abbrev L39 (y0 : List S64) (y1 : List S64) (y2 : Int) (y3 : Int) : SL := [(0, .d (.sl (y0.map cS64))), (1, .d (.sl (y1.map cS64))), (6, .i y2), (7, .i y3)]
abbrev L40 (y0 : Int) (y1 : List Int) : SL := [(0, .ptr 1000 0 0), (1, .i y0), (2, .d (.sl (y1.map (cI .i64))))]
abbrev L41 (y0 : Int) (y1 : Nat) (y2 : List Int) (y3 : Nat) (y4 : Int) : SL := [(0, .ptr 1000 0 0), (1, .i y0), (7, .ref 41 0 y1), (19, .d (.sl (y2.map (cI .i64)))), (20, .i (y3 : Int)), (21, .i y4)]
abbrev L42 (y0 : Int) (y1 : Nat) (y2 : Int) (y3 : List Int) (y4 : Nat) (y5 : Int) : SL := [(0, .ptr 1000 0 0), (1, .i y0), (7, .ref 41 0 y1), (9, .i y2), (19, .d (.sl (y3.map (cI .i64)))), (20, .i (y4 : Int)), (21, .i y5)]
abbrev L43 (y0 : Int) (y1 : Nat) (y2 : Int) (y3 : List Int) (y4 : Nat) (y5 : Int) : SL := [(0, .ptr 1000 0 0), (1, .i y0), (7, .ref 41 0 y1), (9, .i y2), (19, .d (.sl (y3.map (cI .i64)))), (20, .i (y4 : Int)), (21, .i y5), (32, .b true)]
abbrev L44 (y0 : Int) (y1 : Nat) : SL := [(0, .ptr 1000 0 0), (1, .i y0), (7, .ref 41 0 y1)]
abbrev L45 (y0 : Int) (y1 : Nat) (y2 : Int) : SL := [(0, .ptr 1000 0 0), (1, .i y0), (7, .ref 41 0 y1), (53, .ref 41 0 y1), (54, .i (y1 : Int)), (55, .i y2)]
abbrev L46 (y0 : Int) (y1 : Nat) (y2 : Int) (y3 : Int) : SL := [(0, .ptr 1000 0 0), (1, .i y0), (7, .ref 41 0 y1), (11, .i y2), (53, .ref 41 0 y1), (54, .i (y1 : Int)), (55, .i y3)]
abbrev L47 (y0 : Int) (y1 : Int) (y2 : Nat) : SL := [(0, .ptr 1000 0 0), (1, .i y0), (12, .i y1), (102, .ref 41 0 y2)]
abbrev L48 (y0 : List S64) (y1 : List S64) : SL := [(0, .d (.sl (y0.map cS64))), (1, .d (.sl (y1.map cS64))), (5, .d (.lit (.func (.func 44) #[] #[])))]
abbrev L49 (y0 : Int) (y1 : List Int) : SL := [(0, .ptr 1000 0 0), (1, .i y0), (2, .d (.sl (y1.map (cI .i64)))), (12, .mref 12)]
abbrev L50 (y0 : Int) : SL := [(0, .ptr 1000 0 0), (1, .i y0), (7, .mref 12)]
abbrev L51 (y0 : Int) (y1 : Nat) : SL := [(0, .ptr 1000 0 0), (1, .i y0), (7, .mref 12), (18, .ref 16 0 y1)]
abbrev L52 (y0 : Int) (y1 : Int) (y2 : Nat) : SL := [(0, .ptr 1000 0 0), (1, .i y0), (7, .mref 12), (9, .i y1), (18, .ref 16 0 y2)]
abbrev L53 (y0 : Nat) (y1 : Nat) (y2 : Int) : SL := [(3, .ref 22 0 y0), (9, .ref 25002 0 y1), (10, .i (y1 : Int)), (11, .i y2)]
abbrev L54 (y0 : Nat) (y1 : Nat) (y2 : Int) : SL := [(3, .ref 22 0 y0), (5, .ptr 5 0 0), (9, .ref 25002 0 y1), (10, .i (y1 : Int)), (11, .i y2)]
abbrev L55 (y0 : List S73) (y1 : List S73) : SL := [(0, .d (.sl (y0.map cS73))), (1, .d (.sl (y1.map cS73)))]
abbrev L56 (y0 : Int) : SL := [(0, .ptr 1000 0 0), (1, .ptr 2000 0 0), (5, .i y0)]
abbrev L57 (y0 : Int) (y1 : List S64) (y2 : Int) (y3 : Int) : SL := [(0, .ptr 1000 0 0), (1, .ptr 2000 0 0), (5, .i y0), (6, .d (.sl (y1.map cS64))), (7, .i y2), (8, .i y3)]
abbrev L58 (y0 : Int) (y1 : List S64) (y2 : Int) : SL := [(0, .ptr 1000 0 0), (1, .ptr 2000 0 0), (5, .i y0), (6, .d (.sl (y1.map cS64))), (7, .i y2)]
abbrev L59 (y0 : Int) (y1 : List S64) (y2 : Int) : SL := [(0, .ptr 1000 0 0), (1, .ptr 2000 0 0), (5, .i y0), (6, .d (.sl (y1.map cS64))), (41, .i y2)]
abbrev L60 (y0 : Int) (y1 : List S64) (y2 : Int) (y3 : Nat) (y4 : Nat) (y5 : Int) : SL := [(0, .ptr 1000 0 0), (1, .ptr 2000 0 0), (5, .i y0), (6, .d (.sl (y1.map cS64))), (52, .i y2), (53, .ptr 2000 0 0), (54, .ptr 2000 0 0), (55, .ptr 2000 0 0), (56, .ref 45000 0 y3), (57, .i y0), (58, .ptr 45000 y4 0), (59, .ptr 45000 y4 1), (60, .i y5)]
abbrev L61 (y0 : Int) (y1 : Int) (y2 : Nat) (y3 : Nat) (y4 : Int) : SL := [(0, .ptr 1000 0 0), (1, .ptr 2000 0 0), (5, .i y0), (52, .i y1), (53, .ptr 2000 0 0), (54, .ptr 2000 0 0), (55, .ptr 2000 0 0), (56, .ref 45000 0 y2), (57, .i y0), (58, .ptr 45000 y3 0), (59, .ptr 45000 y3 1), (60, .i y4)]
abbrev L62 (y0 : Int) (y1 : Int) (y2 : Nat) (y3 : Nat) (y4 : Int) : SL := [(0, .ptr 1000 0 0), (1, .ptr 2000 0 0), (5, .i y0), (52, .i y1), (53, .ptr 2000 0 0), (54, .ptr 2000 0 0), (55, .ptr 2000 0 0), (56, .ref 45000 0 y2), (57, .i y0), (58, .ptr 45000 y3 0), (59, .ptr 45000 y3 1), (60, .i y4), (61, .b false)]
abbrev L63 (y0 : Int) (y1 : List (List Int)) (y2 : List ByteArray) (y3 : List (List Int)) : SL := [(0, .i y0), (1, .d (.sl (y1.map (cL (cI .i64))))), (2, .d (.sl (y2.map cS))), (3, .d (.sl (y3.map (cL (cI .i64)))))]
abbrev L64 (y0 : Int) (y1 : List (List Int)) (y2 : List ByteArray) (y3 : List (List Int)) : SL := [(0, .i y0), (1, .d (.sl (y1.map (cL (cI .i64))))), (2, .d (.sl (y2.map cS))), (3, .d (.sl (y3.map (cL (cI .i64))))), (9, .d (.lit (.pointer none)))]
abbrev L65 (y0 : Int) (y1 : List (List Int)) (y2 : List ByteArray) (y3 : List (List Int)) : SL := [(0, .i y0), (1, .d (.sl (y1.map (cL (cI .i64))))), (2, .d (.sl (y2.map cS))), (3, .d (.sl (y3.map (cL (cI .i64))))), (9, .d (.lit (.pointer none))), (40, .b true)]
abbrev L66 (y0 : Int) (y1 : List (List Int)) (y2 : List ByteArray) (y3 : List (List Int)) : SL := [(0, .i y0), (1, .d (.sl (y1.map (cL (cI .i64))))), (2, .d (.sl (y2.map cS))), (3, .d (.sl (y3.map (cL (cI .i64))))), (9, .ptr 27 0 0)]
abbrev L67 (y0 : Int) (y1 : List (List Int)) (y2 : List ByteArray) (y3 : List (List Int)) (y4 : List S64) (y5 : Int) : SL := [(0, .i y0), (1, .d (.sl (y1.map (cL (cI .i64))))), (2, .d (.sl (y2.map cS))), (3, .d (.sl (y3.map (cL (cI .i64))))), (11, .d (.sl (y4.map cS64))), (12, .i y5)]
abbrev L68 (y0 : Int) (y1 : List (List Int)) (y2 : List ByteArray) (y3 : List (List Int)) : SL := [(0, .i y0), (1, .d (.sl (y1.map (cL (cI .i64))))), (2, .d (.sl (y2.map cS))), (3, .d (.sl (y3.map (cL (cI .i64))))), (57, .b true)]
abbrev L69 (y0 : Int) (y1 : List (List Int)) (y2 : List ByteArray) (y3 : List (List Int)) (y4 : List S64) : SL := [(0, .i y0), (1, .d (.sl (y1.map (cL (cI .i64))))), (2, .d (.sl (y2.map cS))), (3, .d (.sl (y3.map (cL (cI .i64))))), (11, .d (.sl (y4.map cS64)))]
abbrev L70 (y0 : Int) (y1 : List (List Int)) (y2 : List ByteArray) (y3 : List (List Int)) : SL := [(0, .i y0), (1, .d (.sl (y1.map (cL (cI .i64))))), (2, .d (.sl (y2.map cS))), (3, .d (.sl (y3.map (cL (cI .i64))))), (59, .i y0)]
abbrev L71 (y0 : Int) (y1 : List (List Int)) (y2 : List ByteArray) (y3 : List (List Int)) (y4 : Int) : SL := [(0, .i y0), (1, .d (.sl (y1.map (cL (cI .i64))))), (2, .d (.sl (y2.map cS))), (3, .d (.sl (y3.map (cL (cI .i64))))), (14, .d (.lit (.pointer none))), (15, .i y4)]
abbrev L72 (y0 : Int) (y1 : List (List Int)) (y2 : List ByteArray) (y3 : List (List Int)) : SL := [(0, .i y0), (1, .d (.sl (y1.map (cL (cI .i64))))), (2, .d (.sl (y2.map cS))), (3, .d (.sl (y3.map (cL (cI .i64))))), (14, .d (.lit (.pointer none))), (80, .b true)]
abbrev L73 (y0 : Int) (y1 : List (List Int)) (y2 : List ByteArray) (y3 : List (List Int)) : SL := [(0, .i y0), (1, .d (.sl (y1.map (cL (cI .i64))))), (2, .d (.sl (y2.map cS))), (3, .d (.sl (y3.map (cL (cI .i64))))), (14, .d (.lit (.pointer none)))]
abbrev L74 (y0 : Int) (y1 : List (List Int)) (y2 : List ByteArray) (y3 : List (List Int)) (y4 : Int) : SL := [(0, .i y0), (1, .d (.sl (y1.map (cL (cI .i64))))), (2, .d (.sl (y2.map cS))), (3, .d (.sl (y3.map (cL (cI .i64))))), (14, .ptr 60 0 0), (15, .i y4)]
abbrev L75 (y0 : Int) (y1 : List (List Int)) (y2 : List ByteArray) (y3 : List (List Int)) : SL := [(0, .i y0), (1, .d (.sl (y1.map (cL (cI .i64))))), (2, .d (.sl (y2.map cS))), (3, .d (.sl (y3.map (cL (cI .i64))))), (14, .ptr 60 0 0)]
abbrev L76 (y0 : Int) (y1 : List (List Int)) (y2 : List ByteArray) (y3 : List (List Int)) : SL := [(0, .i y0), (1, .d (.sl (y1.map (cL (cI .i64))))), (2, .d (.sl (y2.map cS))), (3, .d (.sl (y3.map (cL (cI .i64))))), (14, .ptr 60 0 0), (81, .i y0)]
abbrev L77 (y0 : Int) (y1 : List ByteArray) (y2 : List (List Int)) (y3 : List (List Int)) (y4 : Nat) : SL := [(0, .i y0), (2, .d (.sl (y1.map cS))), (3, .d (.sl (y2.map (cL (cI .i64))))), (14, .ptr 60 0 0), (16, .d (.lit (.pointer none))), (83, .d (.sl (y3.map (cL (cI .i64))))), (84, .i (y4 : Int)), (85, .i 0)]
abbrev L78 (y0 : Int) (y1 : List ByteArray) (y2 : List (List Int)) (y3 : List Int) (y4 : List (List Int)) (y5 : Nat) : SL := [(0, .i y0), (2, .d (.sl (y1.map cS))), (3, .d (.sl (y2.map (cL (cI .i64))))), (14, .ptr 60 0 0), (16, .d (.lit (.pointer none))), (18, .d (.sl (y3.map (cI .i64)))), (83, .d (.sl (y4.map (cL (cI .i64))))), (84, .i (y5 : Int)), (85, .i 0)]
abbrev L79 (y0 : Int) (y1 : List ByteArray) (y2 : List (List Int)) (y3 : List Int) (y4 : Int) (y5 : Int) (y6 : List (List Int)) (y7 : Nat) : SL := [(0, .i y0), (2, .d (.sl (y1.map cS))), (3, .d (.sl (y2.map (cL (cI .i64))))), (14, .ptr 60 0 0), (16, .d (.lit (.pointer none))), (18, .d (.sl (y3.map (cI .i64)))), (19, .i y4), (20, .i y5), (21, .i 0), (22, .i 0), (83, .d (.sl (y6.map (cL (cI .i64))))), (84, .i (y7 : Int)), (85, .i 0)]
abbrev L80 (y0 : Int) (y1 : List ByteArray) (y2 : List (List Int)) (y3 : List (List Int)) (y4 : Nat) (y5 : Int) : SL := [(0, .i y0), (2, .d (.sl (y1.map cS))), (3, .d (.sl (y2.map (cL (cI .i64))))), (14, .ptr 60 0 0), (16, .ptr 82 0 0), (83, .d (.sl (y3.map (cL (cI .i64))))), (84, .i (y4 : Int)), (85, .i y5)]
abbrev L81 (y0 : Int) (y1 : List ByteArray) (y2 : List (List Int)) (y3 : List Int) (y4 : List (List Int)) (y5 : Nat) (y6 : Int) : SL := [(0, .i y0), (2, .d (.sl (y1.map cS))), (3, .d (.sl (y2.map (cL (cI .i64))))), (14, .ptr 60 0 0), (16, .ptr 82 0 0), (18, .d (.sl (y3.map (cI .i64)))), (83, .d (.sl (y4.map (cL (cI .i64))))), (84, .i (y5 : Int)), (85, .i y6)]
abbrev L82 (y0 : Int) (y1 : List ByteArray) (y2 : List (List Int)) (y3 : List Int) (y4 : Int) (y5 : Int) (y6 : List (List Int)) (y7 : Nat) (y8 : Int) : SL := [(0, .i y0), (2, .d (.sl (y1.map cS))), (3, .d (.sl (y2.map (cL (cI .i64))))), (14, .ptr 60 0 0), (16, .ptr 82 0 0), (18, .d (.sl (y3.map (cI .i64)))), (19, .i y4), (20, .i y5), (21, .i 0), (22, .i 0), (83, .d (.sl (y6.map (cL (cI .i64))))), (84, .i (y7 : Int)), (85, .i y8)]
abbrev L83 (y0 : Int) (y1 : List ByteArray) (y2 : List (List Int)) (y3 : List Int) (y4 : Int) (y5 : Int) (y6 : List (List Int)) (y7 : Nat) (y8 : Int) (y9 : Int) : SL := [(0, .i y0), (2, .d (.sl (y1.map cS))), (3, .d (.sl (y2.map (cL (cI .i64))))), (14, .ptr 60 0 0), (16, .ptr 82 0 0), (18, .d (.sl (y3.map (cI .i64)))), (19, .i y4), (20, .i y5), (21, .i 0), (22, .i 0), (83, .d (.sl (y6.map (cL (cI .i64))))), (84, .i (y7 : Int)), (85, .i y8), (94, .i y9)]
abbrev L84 (y0 : Int) (y1 : List ByteArray) (y2 : List (List Int)) (y3 : Int) (y4 : Int) (y5 : List (List Int)) (y6 : Nat) (y7 : Int) : SL := [(0, .i y0), (2, .d (.sl (y1.map cS))), (3, .d (.sl (y2.map (cL (cI .i64))))), (14, .ptr 60 0 0), (16, .ptr 82 0 0), (21, .i y3), (22, .i y4), (83, .d (.sl (y5.map (cL (cI .i64))))), (84, .i (y6 : Int)), (85, .i y7)]
abbrev L85 (y0 : Int) (y1 : List ByteArray) (y2 : List (List Int)) (y3 : Int) (y4 : List (List Int)) (y5 : Nat) (y6 : Int) : SL := [(0, .i y0), (2, .d (.sl (y1.map cS))), (3, .d (.sl (y2.map (cL (cI .i64))))), (14, .ptr 60 0 0), (16, .ptr 82 0 0), (19, .i y3), (83, .d (.sl (y4.map (cL (cI .i64))))), (84, .i (y5 : Int)), (85, .i y6)]
abbrev L86 (y0 : Int) (y1 : List ByteArray) (y2 : List (List Int)) (y3 : Int) (y4 : ByteArray) (y5 : List (List Int)) (y6 : Nat) (y7 : Int) : SL := [(0, .i y0), (2, .d (.sl (y1.map cS))), (3, .d (.sl (y2.map (cL (cI .i64))))), (14, .ptr 60 0 0), (16, .ptr 82 0 0), (19, .i y3), (23, .d (.lit (.string y4))), (83, .d (.sl (y5.map (cL (cI .i64))))), (84, .i (y6 : Int)), (85, .i y7)]
abbrev L87 (y0 : Int) (y1 : List ByteArray) (y2 : List (List Int)) (y3 : Int) (y4 : Int) (y5 : Int) (y6 : List (List Int)) (y7 : Nat) (y8 : Int) : SL := [(0, .i y0), (2, .d (.sl (y1.map cS))), (3, .d (.sl (y2.map (cL (cI .i64))))), (14, .ptr 60 0 0), (16, .ptr 82 0 0), (19, .i y3), (20, .i y4), (21, .i y5), (22, .i 0), (83, .d (.sl (y6.map (cL (cI .i64))))), (84, .i (y7 : Int)), (85, .i y8)]
abbrev L88 (y0 : Int) (y1 : List ByteArray) (y2 : List (List Int)) (y3 : Int) (y4 : Int) (y5 : Int) (y6 : List (List Int)) (y7 : Nat) (y8 : Int) : SL := [(0, .i y0), (2, .d (.sl (y1.map cS))), (3, .d (.sl (y2.map (cL (cI .i64))))), (14, .ptr 60 0 0), (16, .ptr 82 0 0), (19, .i y3), (20, .i y4), (21, .i y5), (22, .i 0), (83, .d (.sl (y6.map (cL (cI .i64))))), (84, .i (y7 : Int)), (85, .i y8), (127, .b true)]
abbrev L89 (y0 : Int) (y1 : List ByteArray) (y2 : List (List Int)) (y3 : Int) (y4 : Int) (y5 : Int) (y6 : List (List Int)) (y7 : Nat) (y8 : Int) : SL := [(0, .i y0), (2, .d (.sl (y1.map cS))), (3, .d (.sl (y2.map (cL (cI .i64))))), (14, .ptr 60 0 0), (16, .ptr 82 0 0), (19, .i y3), (20, .i y4), (21, .i y5), (22, .i 0), (83, .d (.sl (y6.map (cL (cI .i64))))), (84, .i (y7 : Int)), (85, .i y8), (133, .b false)]
abbrev L90 (y0 : Int) (y1 : List ByteArray) (y2 : List (List Int)) (y3 : Int) (y4 : Int) (y5 : Int) (y6 : List (List Int)) (y7 : Nat) (y8 : Int) (y9 : Int) (y10 : Bool) : SL := [(0, .i y0), (2, .d (.sl (y1.map cS))), (3, .d (.sl (y2.map (cL (cI .i64))))), (14, .ptr 60 0 0), (16, .ptr 82 0 0), (19, .i y3), (20, .i y4), (21, .i y5), (22, .i 0), (83, .d (.sl (y6.map (cL (cI .i64))))), (84, .i (y7 : Int)), (85, .i y8), (134, .i y4), (135, .i y0), (136, .i y9), (137, .b y10)]
abbrev L91 (y0 : Int) (y1 : List ByteArray) (y2 : List (List Int)) (y3 : Int) : SL := [(0, .i y0), (2, .d (.sl (y1.map cS))), (3, .d (.sl (y2.map (cL (cI .i64))))), (14, .ptr 60 0 0), (16, .ptr 82 0 0), (21, .i y3)]
abbrev L92 (y0 : Int) (y1 : List ByteArray) (y2 : List (List Int)) (y3 : Int) (y4 : List (List Int)) (y5 : Nat) (y6 : Int) : SL := [(0, .i y0), (2, .d (.sl (y1.map cS))), (3, .d (.sl (y2.map (cL (cI .i64))))), (14, .ptr 60 0 0), (16, .ptr 82 0 0), (21, .i y3), (22, .i 0), (83, .d (.sl (y4.map (cL (cI .i64))))), (84, .i (y5 : Int)), (85, .i y6)]
abbrev L93 (y0 : Int) (y1 : List ByteArray) (y2 : List (List Int)) (y3 : Int) (y4 : Int) : SL := [(0, .i y0), (2, .d (.sl (y1.map cS))), (3, .d (.sl (y2.map (cL (cI .i64))))), (14, .ptr 60 0 0), (16, .ptr 82 0 0), (19, .i y3), (21, .i y4)]
abbrev L94 (y0 : Int) (y1 : List ByteArray) (y2 : List (List Int)) (y3 : Int) (y4 : List (List Int)) (y5 : Nat) (y6 : Int) : SL := [(0, .i y0), (2, .d (.sl (y1.map cS))), (3, .d (.sl (y2.map (cL (cI .i64))))), (14, .ptr 60 0 0), (16, .ptr 82 0 0), (19, .i y3), (24, .b true), (83, .d (.sl (y4.map (cL (cI .i64))))), (84, .i (y5 : Int)), (85, .i y6)]
abbrev L95 (y0 : Int) (y1 : List ByteArray) (y2 : List (List Int)) (y3 : Int) (y4 : List (List Int)) (y5 : Nat) (y6 : Int) : SL := [(0, .i y0), (2, .d (.sl (y1.map cS))), (3, .d (.sl (y2.map (cL (cI .i64))))), (14, .ptr 60 0 0), (16, .ptr 82 0 0), (19, .i y3), (24, .b false), (83, .d (.sl (y4.map (cL (cI .i64))))), (84, .i (y5 : Int)), (85, .i y6)]
abbrev L96 (y0 : Int) (y1 : List ByteArray) (y2 : List (List Int)) (y3 : Int) (y4 : Int) (y5 : Bool) (y6 : List (List Int)) (y7 : Nat) (y8 : Int) : SL := [(0, .i y0), (2, .d (.sl (y1.map cS))), (3, .d (.sl (y2.map (cL (cI .i64))))), (14, .ptr 60 0 0), (16, .ptr 82 0 0), (19, .i y3), (21, .i y4), (22, .i 4), (24, .b y5), (83, .d (.sl (y6.map (cL (cI .i64))))), (84, .i (y7 : Int)), (85, .i y8)]
abbrev L97 (y0 : Int) (y1 : List ByteArray) (y2 : List (List Int)) (y3 : Int) (y4 : Int) (y5 : Bool) : SL := [(0, .i y0), (2, .d (.sl (y1.map cS))), (3, .d (.sl (y2.map (cL (cI .i64))))), (14, .ptr 60 0 0), (16, .ptr 82 0 0), (19, .i y3), (21, .i y4), (22, .i 0), (24, .b y5)]
abbrev L98 (y0 : Int) (y1 : List ByteArray) (y2 : List (List Int)) (y3 : Int) (y4 : List (List Int)) (y5 : Nat) (y6 : Int) : SL := [(0, .i y0), (2, .d (.sl (y1.map cS))), (3, .d (.sl (y2.map (cL (cI .i64))))), (14, .ptr 60 0 0), (16, .ptr 82 0 0), (21, .i y3), (22, .i 0), (25, .ptr 25 0 0), (83, .d (.sl (y4.map (cL (cI .i64))))), (84, .i (y5 : Int)), (85, .i y6)]
abbrev L99 (y0 : Int) (y1 : List ByteArray) (y2 : List (List Int)) (y3 : Int) (y4 : Int) (y5 : List (List Int)) (y6 : Nat) (y7 : Int) : SL := [(0, .i y0), (2, .d (.sl (y1.map cS))), (3, .d (.sl (y2.map (cL (cI .i64))))), (14, .ptr 60 0 0), (16, .ptr 82 0 0), (19, .i y3), (20, .i y4), (21, .i 0), (22, .i 0), (83, .d (.sl (y5.map (cL (cI .i64))))), (84, .i (y6 : Int)), (85, .i y7)]
abbrev L100 (y0 : Int) (y1 : List ByteArray) (y2 : List (List Int)) (y3 : Int) (y4 : Int) (y5 : List (List Int)) (y6 : Nat) (y7 : Int) : SL := [(0, .i y0), (2, .d (.sl (y1.map cS))), (3, .d (.sl (y2.map (cL (cI .i64))))), (14, .ptr 60 0 0), (16, .ptr 82 0 0), (19, .i y3), (20, .i y4), (83, .d (.sl (y5.map (cL (cI .i64))))), (84, .i (y6 : Int)), (85, .i y7), (212, .ptr 60 0 0), (213, .i y3), (214, .d (.sl (y2.map (cL (cI .i64))))), (215, .i y4)]
abbrev L101 (y0 : Int) (y1 : List ByteArray) (y2 : List (List Int)) (y3 : List (List Int)) (y4 : Nat) (y5 : Int) (y6 : Int) (y7 : Int) (y8 : Int) : SL := [(0, .i y0), (2, .d (.sl (y1.map cS))), (3, .d (.sl (y2.map (cL (cI .i64))))), (14, .ptr 60 0 0), (16, .ptr 82 0 0), (83, .d (.sl (y3.map (cL (cI .i64))))), (84, .i (y4 : Int)), (85, .i y5), (217, .i y6), (218, .ptr 82 0 0), (219, .i y7), (220, .d (.sl (y2.map (cL (cI .i64))))), (221, .i y8)]
abbrev L102 (y0 : Int) (y1 : List ByteArray) (y2 : List (List Int)) (y3 : List (List Int)) (y4 : Nat) (y5 : Int) : SL := [(0, .i y0), (2, .d (.sl (y1.map cS))), (3, .d (.sl (y2.map (cL (cI .i64))))), (14, .ptr 60 0 0), (16, .ptr 82 0 0), (83, .d (.sl (y3.map (cL (cI .i64))))), (84, .i (y4 : Int)), (85, .i y5), (227, .b false)]
attribute [simp] H1 H2 H3 H4 H5 H6 H7 H8 H9 H10 H11 H12 H13 H14 H15 H16 H17 H18 H19 H20 H21 H22 H23 H24 H25 H26 H27 H28 H29 H30 H31 H32 H33 H34 H35 H36 H37 H38 H39 H40 H41 L1 L2 L3 L4 L5 L6 L7 L8 L9 L10 L11 L12 L13 L14 L15 L16 L17 L18 L19 L20 L21 L22 L23 L24 L25 L26 L27 L28 L29 L30 L31 L32 L33 L34 L35 L36 L37 L38 L39 L40 L41 L42 L43 L44 L45 L46 L47 L48 L49 L50 L51 L52 L53 L54 L55 L56 L57 L58 L59 L60 L61 L62 L63 L64 L65 L66 L67 L68 L69 L70 L71 L72 L73 L74 L75 L76 L77 L78 L79 L80 L81 L82 L83 L84 L85 L86 L87 L88 L89 L90 L91 L92 L93 L94 L95 L96 L97 L98 L99 L100 L101 L102
end Go.Proofs.Ytifcmomjjkbboab
