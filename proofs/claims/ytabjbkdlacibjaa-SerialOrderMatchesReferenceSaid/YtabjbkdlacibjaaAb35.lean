/- Functional programs: arrays of many cells as flat lists. -/
import Derived.Test.YtabjbkdlacibjaaAb34
namespace Go.Ab
open Go.RowKit

def dI (k : IntKind) (n : Int) : D := .lit (.int k n)
def dB (b : Bool) : D := .lit (.bool b)
def dS (s : ByteArray) : D := .lit (.string s)
@[simp] theorem comp_dI (k : IntKind) : V.d ∘ dI k = vI k := rfl
@[simp] theorem comp_dB : V.d ∘ dB = vB := rfl
@[simp] theorem comp_dS : V.d ∘ dS = vS := rfl
attribute [simp] vI vB vS dI dB dS

/-- a kind of cells -/
structure Scal {α : Type} (v : α → V) (d : α → D) : Prop where
  is : ∀ x, v x = .d (d x)
  lit : ∀ x, ∃ u, d x = .lit u
theorem sI (k : IntKind) : Scal (vI k) (dI k) := ⟨fun _ => rfl, fun _ => ⟨_, rfl⟩⟩
theorem sB : Scal vB dB := ⟨fun _ => rfl, fun _ => ⟨_, rfl⟩⟩
theorem sS : Scal vS dS := ⟨fun _ => rfl, fun _ => ⟨_, rfl⟩⟩
section
variable {α : Type} {v : α → V} {d : α → D}
theorem Scal.map (h : Scal v d) (xs : List α) : xs.map v = (xs.map d).map V.d := by
  rw [List.map_map]
  exact List.map_congr_left fun x _ => h.is x
theorem Scal.allCell (h : Scal v d) (xs : List α) : (xs.map v).all V.cell = true := by
  rw [List.all_map, List.all_eq_true]
  intro x _
  show (v x).cell = true
  rw [h.is]; rfl
theorem Scal.all' (h : Scal v d) (xs : List α) : xs.all (V.cell ∘ v) = true := by
  have := h.allCell xs
  rwa [List.all_map] at this
theorem Scal.hasL (h : Scal v d) (id : Nat) (xs : List α) : Ab.hasL id (xs.map v) = false := by
  rw [h.map]; exact hasL_d _
theorem Scal.killC (h : Scal v d) (id : Nat) : ∀ xs : List α, Ab.killC id (xs.map v) = xs.map v
  | [] => rfl
  | x :: xs => by
    show (if (v x).has id then V.hole else v x) :: Ab.killC id (xs.map v) = _
    have : (v x).has id = false := by rw [h.is]; rfl
    rw [h.killC id xs, if_neg (by simp [this])]
    rfl
theorem Scal.closedL (h : Scal v d) (xs : List α) : Ab.closedL (xs.map v) = true := by
  rw [h.map]; exact closedL_d _
theorem Scal.flatL (h : Scal v d) : ∀ xs : List α, Ab.flatL (xs.map v) = true
  | [] => rfl
  | x :: xs => by
    show ((v x).flat && Ab.flatL (xs.map v)) = true
    obtain ⟨u, hu⟩ := h.lit x
    rw [h.flatL xs, h.is, hu]
    rfl
theorem Scal.viewV (h : Scal v d) (H : Heap) (xs : List α) : Ab.viewV H (.agg (xs.map v)) = some (.agg (xs.map v)) := by
  rw [h.map]
  show (mapO (viewD H 2) ((xs.map d).map V.d)).map _ = _
  rw [mapO_viewD_d]
  rfl
theorem Scal.viewD (h : Scal v d) (H : Heap) (k : Nat) (xs : List α) : mapO (Ab.viewD H k) (xs.map v) = some (xs.map d) := by
  rw [h.map]; exact mapO_viewD_d _
theorem Scal.toDs (h : Scal v d) (xs : List α) : Ab.toDs (xs.map v) = some (xs.map d) := by
  induction xs with
  | nil => rfl
  | cons x xs ih =>
    show (match toD (v x), Ab.toDs (xs.map v) with | some x, some xs => some (x :: xs) | _, _ => none) = _
    rw [ih, h.is]
    rfl
theorem Scal.frz1 (h : Scal v d) (id : Nat) (es : List (List D)) (xs : List α) : (xs.map v).map (V.frz1 id es) = xs.map v := by
  rw [List.map_map]
  refine List.map_congr_left fun x _ => ?_
  show V.frz1 id es (v x) = v x
  rw [h.is]; rfl
theorem Scal.wk1 (h : Scal v d) (hn : ∀ x, d x ≠ .lit (.slice none 0 0)) (xs : List α) : (xs.map v).map V.wk1 = xs.map v := by
  rw [List.map_map]
  refine List.map_congr_left fun x _ => ?_
  show V.wk1 (v x) = v x
  rw [h.is]
  have := hn x
  show V.d (d x).wk = _
  unfold D.wk
  split
  · rename_i e; exact absurd e this
  · rfl
end
@[simp] theorem all_vI (k : IntKind) (xs : List Int) : xs.all (V.cell ∘ vI k) = true := (sI k).all' xs
@[simp] theorem all_vB (xs : List Bool) : xs.all (V.cell ∘ vB) = true := sB.all' xs
@[simp] theorem all_vS (xs : List ByteArray) : xs.all (V.cell ∘ vS) = true := sS.all' xs
@[simp] theorem hasL_vI (k : IntKind) (id : Nat) (xs : List Int) : hasL id (xs.map (vI k)) = false := (sI k).hasL id xs
@[simp] theorem hasL_vB (id : Nat) (xs : List Bool) : hasL id (xs.map vB) = false := sB.hasL id xs
@[simp] theorem hasL_vS (id : Nat) (xs : List ByteArray) : hasL id (xs.map vS) = false := sS.hasL id xs
@[simp] theorem killC_vI (k : IntKind) (id : Nat) (xs : List Int) : killC id (xs.map (vI k)) = xs.map (vI k) := (sI k).killC id xs
@[simp] theorem killC_vB (id : Nat) (xs : List Bool) : killC id (xs.map vB) = xs.map vB := sB.killC id xs
@[simp] theorem killC_vS (id : Nat) (xs : List ByteArray) : killC id (xs.map vS) = xs.map vS := sS.killC id xs
@[simp] theorem closedL_vI (k : IntKind) (xs : List Int) : closedL (xs.map (vI k)) = true := (sI k).closedL xs
@[simp] theorem closedL_vB (xs : List Bool) : closedL (xs.map vB) = true := sB.closedL xs
@[simp] theorem closedL_vS (xs : List ByteArray) : closedL (xs.map vS) = true := sS.closedL xs
@[simp] theorem flatL_vI (k : IntKind) (xs : List Int) : flatL (xs.map (vI k)) = true := (sI k).flatL xs
@[simp] theorem flatL_vB (xs : List Bool) : flatL (xs.map vB) = true := sB.flatL xs
@[simp] theorem flatL_vS (xs : List ByteArray) : flatL (xs.map vS) = true := sS.flatL xs
@[simp high] theorem viewV_vI (k : IntKind) (H : Heap) (xs : List Int) : viewV H (.agg (xs.map (vI k))) = some (.agg (xs.map (vI k))) := (sI k).viewV H xs
@[simp high] theorem viewV_vB (H : Heap) (xs : List Bool) : viewV H (.agg (xs.map vB)) = some (.agg (xs.map vB)) := sB.viewV H xs
@[simp high] theorem viewV_vS (H : Heap) (xs : List ByteArray) : viewV H (.agg (xs.map vS)) = some (.agg (xs.map vS)) := sS.viewV H xs
@[simp] theorem viewD_vI (k : IntKind) (H : Heap) (n : Nat) (xs : List Int) : mapO (viewD H n) (xs.map (vI k)) = some (xs.map (dI k)) := (sI k).viewD H n xs
@[simp] theorem viewD_vB (H : Heap) (n : Nat) (xs : List Bool) : mapO (viewD H n) (xs.map vB) = some (xs.map dB) := sB.viewD H n xs
@[simp] theorem viewD_vS (H : Heap) (n : Nat) (xs : List ByteArray) : mapO (viewD H n) (xs.map vS) = some (xs.map dS) := sS.viewD H n xs
@[simp] theorem frz1_vI (k : IntKind) (id : Nat) (es : List (List D)) : V.frz1 id es ∘ vI k = vI k := rfl
@[simp] theorem frz1_vB (id : Nat) (es : List (List D)) : V.frz1 id es ∘ vB = vB := rfl
@[simp] theorem frz1_vS (id : Nat) (es : List (List D)) : V.frz1 id es ∘ vS = vS := rfl
@[simp] theorem frzP_vI (k : IntKind) (id : Nat) (es : List D) : frzP id es ∘ vI k = vI k := rfl
@[simp] theorem frzP_vB (id : Nat) (es : List D) : frzP id es ∘ vB = vB := rfl
@[simp] theorem wk1_vI (k : IntKind) : V.wk1 ∘ vI k = vI k := rfl
@[simp] theorem wk1_vB : V.wk1 ∘ vB = vB := rfl
@[simp] theorem wk1_vS : V.wk1 ∘ vS = vS := rfl
attribute [simp] List.drop_eq_nil_of_le

/-! ### indices -/
/-- an index into an array -/
def arrI (i : Int) (n : Nat) : Option Nat := if 0 ≤ i ∧ i < n then some i.toNat else none
theorem arrI_some {i : Int} {n k : Nat} (h : arrI i n = some k) : i.toNat = k ∧ 0 ≤ i ∧ i < n ∧ k < n := by
  obtain ⟨h1, h2⟩ := gsome h
  injection h2 with h2
  exact ⟨h2, h1.1, h1.2, by omega⟩
theorem arrI_nat {k n : Nat} (h : k < n) : arrI (k : Int) n = some k := by
  unfold arrI
  rw [if_pos (by omega)]
  simp
/-- a list of the array's length -/
def lenL {α : Type} (n : Nat) (xs : List α) : Option (List α) := if xs.length = n then some xs else none
theorem lenL_some {α : Type} {n : Nat} {xs ys : List α} (h : lenL n xs = some ys) : xs.length = n ∧ xs = ys := by
  obtain ⟨h1, h2⟩ := gsome h
  injection h2 with h2
  exact ⟨h1, h2⟩
/-- a part of an array -/
def subL {α : Type} (xs : List α) (o n : Nat) : Option (List α) := if o + n ≤ xs.length then some ((xs.drop o).take n) else none
theorem subL_some {α : Type} {xs ys : List α} {o n : Nat} (v : α → V) (h : subL xs o n = some ys) : n ≤ xs.length - o ∧ ((xs.map v).drop o).take n = ys.map v ∧ ys.length = n := by
  obtain ⟨h1, h2⟩ := gsome h
  injection h2 with h2
  subst h2
  exact ⟨by omega, by simp, by simp; omega⟩
/-- a cell is set -/
def setN {α : Type} (xs : List α) (o : Nat) (x : α) : Option (List α) := if o < xs.length then some (xs.set o x) else none
theorem setN_some {α : Type} {xs ys : List α} {o : Nat} {x : α} (v : α → V) (h : setN xs o x = some ys) : o + 1 ≤ xs.length ∧ (xs.map v).take o ++ v x :: (xs.map v).drop (o + 1) = ys.map v ∧ ys.length = xs.length := by
  obtain ⟨h1, h2⟩ := gsome h
  injection h2 with h2
  subst h2
  refine ⟨h1, ?_, by simp⟩
  rw [List.map_set, List.set_eq_take_append_cons_drop, if_pos (by simpa using h1)]
end Go.Ab
