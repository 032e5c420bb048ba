/- The types of the program's data, in Lean. -/
import Derived.Test.YtiikoldaocnilaaTy
namespace Go.Proofs.Ytiikoldaocnilaa
open Go.Ab Go.Rp
attribute [-simp] List.all_eq_true Array.all_toList Array.all_eq_true

structure S66 where
 sector : Int
 data : (List Int)
def cS66 (x : S66) : List D := [.lit (.int .i64 x.sector), .sl (x.data.map (cI .u8))]
@[simp] theorem all_cS66 (xs : List S66) : xs.all ((fun e => decide (e.length = 2)) ∘ cS66) = true := all_len (c := cS66) (fun _ => rfl) xs
@[simp] theorem cS66_def (x : S66) : cS66 x = [.lit (.int .i64 x.sector), .sl (x.data.map (cI .u8))] := rfl
structure S64 where
 durable : (List (List Int))
 pending : (List S66)
def cS64 (x : S64) : List D := [.sl (x.durable.map (cL (cI .u8))), .sl (x.pending.map cS66)]
@[simp] theorem all_cS64 (xs : List S64) : xs.all ((fun e => decide (e.length = 2)) ∘ cS64) = true := all_len (c := cS64) (fun _ => rfl) xs
@[simp] theorem cS64_def (x : S64) : cS64 x = [.sl (x.durable.map (cL (cI .u8))), .sl (x.pending.map cS66)] := rfl
end Go.Proofs.Ytiikoldaocnilaa
