/- The types of the program's data, in Lean. -/
import Derived.Test.YtdiekinmoklonaaTy
import Derived.Test.YtdiekinmoklonaaA3
import Derived.Test.YtdiekinmoklonaaShelf
namespace Go.Proofs.Ytdiekinmoklonaa
open Go.Ab Go.Rp
attribute [-simp] List.all_eq_true Array.all_toList Array.all_eq_true

structure S29 where
 Tx : Int
 Table : ByteArray
 Key : ByteArray
 Mode : Int
def cS29 (x : S29) : List D := [.lit (.int .i64 x.Tx), .lit (.string x.Table), .lit (.string x.Key), .lit (.int .i64 x.Mode)]
@[simp] theorem all_cS29 (xs : List S29) : xs.all ((fun e => decide (e.length = 4)) ∘ cS29) = true := all_len (c := cS29) (fun _ => rfl) xs
@[simp] theorem cS29_def (x : S29) : cS29 x = [.lit (.int .i64 x.Tx), .lit (.string x.Table), .lit (.string x.Key), .lit (.int .i64 x.Mode)] := rfl
structure S48 where
 granted : (List S29)
 queue : (List S29)
def cS48 (x : S48) : List D := [.sl (x.granted.map cS29), .sl (x.queue.map cS29)]
@[simp] theorem all_cS48 (xs : List S48) : xs.all ((fun e => decide (e.length = 2)) ∘ cS48) = true := all_len (c := cS48) (fun _ => rfl) xs
@[simp] theorem cS48_def (x : S48) : cS48 x = [.sl (x.granted.map cS29), .sl (x.queue.map cS29)] := rfl
structure S33 where
 Granted : (List S29)
 Queue : (List S29)
def cS33 (x : S33) : List D := [.sl (x.Granted.map cS29), .sl (x.Queue.map cS29)]
@[simp] theorem all_cS33 (xs : List S33) : xs.all ((fun e => decide (e.length = 2)) ∘ cS33) = true := all_len (c := cS33) (fun _ => rfl) xs
@[simp] theorem cS33_def (x : S33) : cS33 x = [.sl (x.Granted.map cS29), .sl (x.Queue.map cS29)] := rfl
/-- short names of the commonest terms -/
abbrev _root_.Go.Ab.V.i (n : Int) : V := .d (.lit (.int .i64 n))
abbrev _root_.Go.Ab.V.b (x : Bool) : V := .d (.lit (.bool x))
attribute [simp] V.i V.b
abbrev R29 (xs : List S29) : Option Blk := some (.arr 29 4 (xs.map cS29))
abbrev R3 (xs : List Int) : Option Blk := some (.arr 3 1 (xs.map (cI .i64)))
abbrev R46 (xs : List (List S29)) : Option Blk := some (.arr 46 1 (xs.map (cL cS29)))
abbrev R34 (xs : List (List Int)) : Option Blk := some (.arr 34 1 (xs.map (cL (cI .i64))))
abbrev R37 (xs : List S29) : Option Blk := some (.arr 37 4 (xs.map cS29))
attribute [simp] R29 R3 R46 R34 R37
end Go.Proofs.Ytdiekinmoklonaa
