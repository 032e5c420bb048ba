/- The types of the program's data, in Lean. -/
import Derived.Test.YtabjbkdlacibjaaTy
namespace Go.Proofs.Ytabjbkdlacibjaa
open Go.Ab Go.Rp
attribute [-simp] List.all_eq_true Array.all_toList Array.all_eq_true

structure S27 where
  Tx : Int
  Kind : Int
  Key : ByteArray
def cS27 (x : S27) : List D := [.lit (.int .i64 x.Tx), .lit (.int .i64 x.Kind), .lit (.string x.Key)]
@[simp] theorem all_cS27 (xs : List S27) : xs.all ((fun e => decide (e.length = 3)) ∘ cS27) = true := all_len (c := cS27) (fun _ => rfl) xs
@[simp] theorem cS27_def (x : S27) : cS27 x = [.lit (.int .i64 x.Tx), .lit (.int .i64 x.Kind), .lit (.string x.Key)] := rfl
structure S43 where
  a0 : Int
  a1 : Int
def cS43 (x : S43) : List D := [.lit (.int .i64 x.a0), .lit (.int .i64 x.a1)]
@[simp] theorem all_cS43 (xs : List S43) : xs.all ((fun e => decide (e.length = 2)) ∘ cS43) = true := all_len (c := cS43) (fun _ => rfl) xs
@[simp] theorem cS43_def (x : S43) : cS43 x = [.lit (.int .i64 x.a0), .lit (.int .i64 x.a1)] := rfl
def beqS43 (x y : S43) : Bool := (x.a0 == y.a0) && (x.a1 == y.a1)
theorem beqS43_iff (x y : S43) : beqS43 x y = true ↔ x = y := by
  cases x; cases y; simp [beqS43]
theorem eqv43 (x y : S43) : ∀ (w : World), (Op.equalIn 10000 43 (.agg [.int .i64 x.a0, .int .i64 x.a1].toArray) (.agg [.int .i64 y.a0, .int .i64 y.a1].toArray)).run Try.prog w = .ok (beqS43 x y) w :=
  eq_int2 (by kernel_rfl) ty3 rfl rfl _ _ _ _
end Go.Proofs.Ytabjbkdlacibjaa
