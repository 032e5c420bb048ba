/- The types of the program's data, in Lean. -/
import Derived.Test.YtabjbkdlacibjaaTy
namespace Go.Proofs.Ytabjbkdlacibjaa
open Go.Ab Go.Rp
attribute [-simp] List.all_eq_true Array.all_toList Array.all_eq_true

structure S27 where
  Tx : Int
  Kind : Int
  Key : ByteArray
def cS27 (x : S27) : List D := [.lit (.int .i64 x.Tx), .lit (.int .i64 x.Kind), .lit (.string x.Key)]
@[simp] theorem all_cS27 (xs : List S27) : xs.all ((fun e => decide (e.length = 3)) ∘ cS27) = true := all_len (c := cS27) (fun _ => rfl) xs
@[simp] theorem cS27_def (x : S27) : cS27 x = [.lit (.int .i64 x.Tx), .lit (.int .i64 x.Kind), .lit (.string x.Key)] := rfl
end Go.Proofs.Ytabjbkdlacibjaa
