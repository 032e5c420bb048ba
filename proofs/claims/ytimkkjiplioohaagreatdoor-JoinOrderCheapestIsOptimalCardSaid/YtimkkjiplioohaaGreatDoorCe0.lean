/- The types of the program's data, in Lean. -/
import Derived.Test.YtimkkjiplioohaaGreatDoorTy
namespace Go.Proofs.YtimkkjiplioohaaGreatDoor
open Go.Ab Go.Rp
attribute [-simp] List.all_eq_true Array.all_toList Array.all_eq_true

structure S115 where
 A : Int
 B : Int
 Divisor : Int
def cS115 (x : S115) : List D := [.lit (.int .i64 x.A), .lit (.int .i64 x.B), .lit (.int .i64 x.Divisor)]
@[simp] theorem all_cS115 (xs : List S115) : xs.all ((fun e => decide (e.length = 3)) ∘ cS115) = true := all_len (c := cS115) (fun _ => rfl) xs
@[simp] theorem cS115_def (x : S115) : cS115 x = [.lit (.int .i64 x.A), .lit (.int .i64 x.B), .lit (.int .i64 x.Divisor)] := rfl
structure S25 where
 Sizes : (List Int)
 Selectivities : (List S115)
def cS25 (x : S25) : List D := [.sl (x.Sizes.map (cI .i64)), .sl (x.Selectivities.map cS115)]
@[simp] theorem all_cS25 (xs : List S25) : xs.all ((fun e => decide (e.length = 2)) ∘ cS25) = true := all_len (c := cS25) (fun _ => rfl) xs
@[simp] theorem cS25_def (x : S25) : cS25 x = [.sl (x.Sizes.map (cI .i64)), .sl (x.Selectivities.map cS115)] := rfl
structure S28 where
 Leaf : Int
 Children : (List S28)
mutual
def cS28 : S28 → List D
 | ⟨f0, f1⟩ => [.lit (.int .i64 f0), .sl (cS28L f1)]
def cS28L : List S28 → List (List D)
 | [] => []
 | x :: xs => cS28 x :: cS28L xs
end
theorem cS28L_eq (xs : List S28) : cS28L xs = xs.map cS28 := by
 induction xs with
 | nil => simp [cS28L]
 | cons x xs ih => simp [cS28L, ih]
@[simp] theorem cS28_def (x : S28) : cS28 x = [.lit (.int .i64 x.Leaf), .sl (x.Children.map cS28)] := by
 cases x; simp [cS28, cS28L_eq]
@[simp] theorem all_cS28 (xs : List S28) : xs.all ((fun e => decide (e.length = 2)) ∘ cS28) = true := all_len (c := cS28) (fun x => by rw [cS28_def]; rfl) xs
structure S122 where
 tree : S28
 cost : Int
 ok : Bool
def cS122 (x : S122) : List D := [.lit (.int .i64 x.tree.Leaf), .sl (x.tree.Children.map cS28), .lit (.int .i64 x.cost), .lit (.bool x.ok)]
@[simp] theorem all_cS122 (xs : List S122) : xs.all ((fun e => decide (e.length = 4)) ∘ cS122) = true := all_len (c := cS122) (fun _ => rfl) xs
@[simp] theorem cS122_def (x : S122) : cS122 x = [.lit (.int .i64 x.tree.Leaf), .sl (x.tree.Children.map cS28), .lit (.int .i64 x.cost), .lit (.bool x.ok)] := rfl
end Go.Proofs.YtimkkjiplioohaaGreatDoor
