/- The types of the program's data, in Lean. -/
import Derived.Test.YtabjbkdlacibjaaTy
namespace Go.Proofs.Ytabjbkdlacibjaa
open Go.Ab Go.Rp
attribute [-simp] List.all_eq_true Array.all_toList Array.all_eq_true

structure S105 where
  Start : Int
  Commit : Int
  Reads : (List ByteArray)
  Writes : (List ByteArray)
def cS105 (x : S105) : List D := [.lit (.int .i64 x.Start), .lit (.int .i64 x.Commit), .sl (x.Reads.map cS), .sl (x.Writes.map cS)]
@[simp] theorem all_cS105 (xs : List S105) : xs.all ((fun e => decide (e.length = 4)) ∘ cS105) = true := all_len (c := cS105) (fun _ => rfl) xs
@[simp] theorem cS105_def (x : S105) : cS105 x = [.lit (.int .i64 x.Start), .lit (.int .i64 x.Commit), .sl (x.Reads.map cS), .sl (x.Writes.map cS)] := rfl
structure S43 where
  a0 : Int
  a1 : Int
def cS43 (x : S43) : List D := [.lit (.int .i64 x.a0), .lit (.int .i64 x.a1)]
@[simp] theorem all_cS43 (xs : List S43) : xs.all ((fun e => decide (e.length = 2)) ∘ cS43) = true := all_len (c := cS43) (fun _ => rfl) xs
@[simp] theorem cS43_def (x : S43) : cS43 x = [.lit (.int .i64 x.a0), .lit (.int .i64 x.a1)] := rfl
def beqS43 (x y : S43) : Bool := (x.a0 == y.a0) && (x.a1 == y.a1)
theorem beqS43_iff (x y : S43) : beqS43 x y = true ↔ x = y := by
  cases x; cases y; simp [beqS43]
theorem eqv43 (x y : S43) : ∀ (w : World), (Op.equalIn 10000 43 (.agg [.int .i64 x.a0, .int .i64 x.a1].toArray) (.agg [.int .i64 y.a0, .int .i64 y.a1].toArray)).run Try.prog w = .ok (beqS43 x y) w :=
  eq_int2 (by kernel_rfl) ty3 rfl rfl _ _ _ _
end Go.Proofs.Ytabjbkdlacibjaa
