/- The types of the program's data, in Lean. -/
import Derived.Test.YtacafkegbgmnoaaTy
namespace Go.Proofs.Ytacafkegbgmnoaa
open Go.Ab Go.Rp
attribute [-simp] List.all_eq_true Array.all_toList Array.all_eq_true

structure S24 where
 Kind : Int
 Int : Int
 Text : ByteArray
def cS24 (x : S24) : List D := [.lit (.int .i64 x.Kind), .lit (.int .i64 x.Int), .lit (.string x.Text)]
@[simp] theorem all_cS24 (xs : List S24) : xs.all ((fun e => decide (e.length = 3)) ∘ cS24) = true := all_len (c := cS24) (fun _ => rfl) xs
@[simp] theorem cS24_def (x : S24) : cS24 x = [.lit (.int .i64 x.Kind), .lit (.int .i64 x.Int), .lit (.string x.Text)] := rfl
structure S46 where
 Name : ByteArray
 Kind : Int
 Nullable : Bool
def cS46 (x : S46) : List D := [.lit (.string x.Name), .lit (.int .i64 x.Kind), .lit (.bool x.Nullable)]
@[simp] theorem all_cS46 (xs : List S46) : xs.all ((fun e => decide (e.length = 3)) ∘ cS46) = true := all_len (c := cS46) (fun _ => rfl) xs
@[simp] theorem cS46_def (x : S46) : cS46 x = [.lit (.string x.Name), .lit (.int .i64 x.Kind), .lit (.bool x.Nullable)] := rfl
structure S27 where
 Kind : Int
 Name : ByteArray
 Index : Int
 Value : S24
 Args : (List S27)
mutual
def cS27 : S27 → List D
 | ⟨f0, f1, f2, f3, f4⟩ => [.lit (.int .i64 f0), .lit (.string f1), .lit (.int .i64 f2), .lit (.int .i64 f3.Kind), .lit (.int .i64 f3.Int), .lit (.string f3.Text), .sl (cS27L f4)]
def cS27L : List S27 → List (List D)
 | [] => []
 | x :: xs => cS27 x :: cS27L xs
end
theorem cS27L_eq (xs : List S27) : cS27L xs = xs.map cS27 := by
 induction xs with
 | nil => simp [cS27L]
 | cons x xs ih => simp [cS27L, ih]
@[simp] theorem cS27_def (x : S27) : cS27 x = [.lit (.int .i64 x.Kind), .lit (.string x.Name), .lit (.int .i64 x.Index), .lit (.int .i64 x.Value.Kind), .lit (.int .i64 x.Value.Int), .lit (.string x.Value.Text), .sl (x.Args.map cS27)] := by
 cases x; simp [cS27, cS27L_eq]
@[simp] theorem all_cS27 (xs : List S27) : xs.all ((fun e => decide (e.length = 7)) ∘ cS27) = true := all_len (c := cS27) (fun x => by rw [cS27_def]; rfl) xs
structure S41 where
 Columns : (List S46)
 Row : (List S24)
 Parameters : (List S24)
 VariableNames : (List ByteArray)
 VariableValues : (List S24)
def cS41 (x : S41) : List D := [.sl (x.Columns.map cS46), .sl (x.Row.map cS24), .sl (x.Parameters.map cS24), .sl (x.VariableNames.map cS), .sl (x.VariableValues.map cS24)]
@[simp] theorem all_cS41 (xs : List S41) : xs.all ((fun e => decide (e.length = 5)) ∘ cS41) = true := all_len (c := cS41) (fun _ => rfl) xs
@[simp] theorem cS41_def (x : S41) : cS41 x = [.sl (x.Columns.map cS46), .sl (x.Row.map cS24), .sl (x.Parameters.map cS24), .sl (x.VariableNames.map cS), .sl (x.VariableValues.map cS24)] := rfl
structure S44 where
 Columns : (List (ByteArray × S24))
 Variables : (List (ByteArray × S24))
 Parameters : (List S24)
def cS44 (x : S44) : List D := [.mpi .string true (x.Columns.map (MKey.sk ∘ Prod.fst)) (x.Columns.map (cS24 ∘ Prod.snd)), .mpi .string true (x.Variables.map (MKey.sk ∘ Prod.fst)) (x.Variables.map (cS24 ∘ Prod.snd)), .sl (x.Parameters.map cS24)]
@[simp] theorem all_cS44 (xs : List S44) : xs.all ((fun e => decide (e.length = 3)) ∘ cS44) = true := all_len (c := cS44) (fun _ => rfl) xs
@[simp] theorem cS44_def (x : S44) : cS44 x = [.mpi .string true (x.Columns.map (MKey.sk ∘ Prod.fst)) (x.Columns.map (cS24 ∘ Prod.snd)), .mpi .string true (x.Variables.map (MKey.sk ∘ Prod.fst)) (x.Variables.map (cS24 ∘ Prod.snd)), .sl (x.Parameters.map cS24)] := rfl
def beqS24 (x y : S24) : Bool := (x.Kind == y.Kind) && ((x.Int == y.Int) && ((x.Text.toList == y.Text.toList) && (true)))
theorem beqS24_iff (x y : S24) : beqS24 x y = true ↔ x = y := by
 cases x; cases y; simp [beqS24]
theorem eqv24 (x y : S24) : ∀ (w : World), (Op.equalIn 10000 24 (.agg [.int .i64 x.Kind, .int .i64 x.Int, .string x.Text].toArray) (.agg [.int .i64 y.Kind, .int .i64 y.Int, .string y.Text].toArray)).run Try.prog w = .ok (beqS24 x y) w :=
 eqS_of (fs := [(Field.mk "Kind" 3 0 false "" "" 0), (Field.mk "Int" 3 1 false "" "" 8), (Field.mk "Text" 9 2 false "" "" 16)]) (by kernel_rfl) (by kernel_rfl) (by kernel_rfl) (eqF_cons (by decide) (part_lit ty3 rfl rfl) (part_lit ty3 rfl rfl) (fun w => run_equalIn_int w _ _ _ .i64 _ _ (by kernel_rfl)) (eqF_cons (by decide) (part_lit ty3 rfl rfl) (part_lit ty3 rfl rfl) (fun w => run_equalIn_int w _ _ _ .i64 _ _ (by kernel_rfl)) (eqF_cons (by decide) (part_lit ty9 rfl rfl) (part_lit ty9 rfl rfl) (fun w => run_equalIn_string w _ _ _ _ (by kernel_rfl)) (eqF_nil))))
end Go.Proofs.Ytacafkegbgmnoaa
