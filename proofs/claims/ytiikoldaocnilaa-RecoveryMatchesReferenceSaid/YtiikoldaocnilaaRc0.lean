/- The types of the program's data, in Lean. -/
import Derived.Test.YtiikoldaocnilaaTy
import Derived.Test.YtiikoldaocnilaaA3
namespace Go.Proofs.Ytiikoldaocnilaa
open Go.Ab Go.Rp
attribute [-simp] List.all_eq_true Array.all_toList Array.all_eq_true

structure S78 where
 value : Int
 lsn : Int
def cS78 (x : S78) : List D := [.lit (.int .i64 x.value), .lit (.int .i64 x.lsn)]
@[simp] theorem all_cS78 (xs : List S78) : xs.all ((fun e => decide (e.length = 2)) ∘ cS78) = true := all_len (c := cS78) (fun _ => rfl) xs
@[simp] theorem cS78_def (x : S78) : cS78 x = [.lit (.int .i64 x.value), .lit (.int .i64 x.lsn)] := rfl
structure S80 where
 kind : Int
 tx : Int
 page : Int
 before : Int
 after : Int
def cS80 (x : S80) : List D := [.lit (.int .i64 x.kind), .lit (.int .i64 x.tx), .lit (.int .i64 x.page), .lit (.int .i64 x.before), .lit (.int .i64 x.after)]
@[simp] theorem all_cS80 (xs : List S80) : xs.all ((fun e => decide (e.length = 5)) ∘ cS80) = true := all_len (c := cS80) (fun _ => rfl) xs
@[simp] theorem cS80_def (x : S80) : cS80 x = [.lit (.int .i64 x.kind), .lit (.int .i64 x.tx), .lit (.int .i64 x.page), .lit (.int .i64 x.before), .lit (.int .i64 x.after)] := rfl
structure S74 where
 buffer : (List S78)
 disk : (List S78)
 log : (List S80)
 flushed : Int
 lastID : Int
 active : (List Int)
 writer : (List Int)
def cS74 (x : S74) : List D := [.sl (x.buffer.map cS78), .sl (x.disk.map cS78), .sl (x.log.map cS80), .lit (.int .i64 x.flushed), .lit (.int .i64 x.lastID), .sl (x.active.map (cI .i64)), .sl (x.writer.map (cI .i64))]
@[simp] theorem all_cS74 (xs : List S74) : xs.all ((fun e => decide (e.length = 7)) ∘ cS74) = true := all_len (c := cS74) (fun _ => rfl) xs
@[simp] theorem cS74_def (x : S74) : cS74 x = [.sl (x.buffer.map cS78), .sl (x.disk.map cS78), .sl (x.log.map cS80), .lit (.int .i64 x.flushed), .lit (.int .i64 x.lastID), .sl (x.active.map (cI .i64)), .sl (x.writer.map (cI .i64))] := rfl
structure S84 where
 Kind : Int
 Tx : Int
 Page : Int
 Before : Int
 After : Int
def cS84 (x : S84) : List D := [.lit (.int .i64 x.Kind), .lit (.int .i64 x.Tx), .lit (.int .i64 x.Page), .lit (.int .i64 x.Before), .lit (.int .i64 x.After)]
@[simp] theorem all_cS84 (xs : List S84) : xs.all ((fun e => decide (e.length = 5)) ∘ cS84) = true := all_len (c := cS84) (fun _ => rfl) xs
@[simp] theorem cS84_def (x : S84) : cS84 x = [.lit (.int .i64 x.Kind), .lit (.int .i64 x.Tx), .lit (.int .i64 x.Page), .lit (.int .i64 x.Before), .lit (.int .i64 x.After)] := rfl
structure S56 where
 Buffer : (List Int)
 Disk : (List Int)
 DiskLSN : (List Int)
 Log : (List S84)
 Flushed : Int
 LastID : Int
 Active : (List Int)
def cS56 (x : S56) : List D := [.sl (x.Buffer.map (cI .i64)), .sl (x.Disk.map (cI .i64)), .sl (x.DiskLSN.map (cI .i64)), .sl (x.Log.map cS84), .lit (.int .i64 x.Flushed), .lit (.int .i64 x.LastID), .sl (x.Active.map (cI .i64))]
@[simp] theorem all_cS56 (xs : List S56) : xs.all ((fun e => decide (e.length = 7)) ∘ cS56) = true := all_len (c := cS56) (fun _ => rfl) xs
@[simp] theorem cS56_def (x : S56) : cS56 x = [.sl (x.Buffer.map (cI .i64)), .sl (x.Disk.map (cI .i64)), .sl (x.DiskLSN.map (cI .i64)), .sl (x.Log.map cS84), .lit (.int .i64 x.Flushed), .lit (.int .i64 x.LastID), .sl (x.Active.map (cI .i64))] := rfl
/-- short names of the commonest terms -/
abbrev _root_.Go.Ab.V.i (n : Int) : V := .d (.lit (.int .i64 n))
abbrev _root_.Go.Ab.V.b (x : Bool) : V := .d (.lit (.bool x))
attribute [simp] V.i V.b
abbrev R78 (xs : List S78) : Option Blk := some (.arr 78 2 (xs.map cS78))
abbrev R3 (xs : List Int) : Option Blk := some (.arr 3 1 (xs.map (cI .i64)))
abbrev R80 (xs : List S80) : Option Blk := some (.arr 80 5 (xs.map cS80))
abbrev R84 (xs : List S84) : Option Blk := some (.arr 84 5 (xs.map cS84))
attribute [simp] R78 R3 R80 R84
end Go.Proofs.Ytiikoldaocnilaa
