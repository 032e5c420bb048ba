/- Slices that a call has made: an owned row whose elements read as data. -/
import Derived.Test.YtimkkjiplioohaaGreatDoorRep
namespace Go.Rp
open Go.RowKit

/-- the cells of a row of elements -/
def Flat {α : Type} [Rep α] (w : World) (B : Nat) : List α → List Value → Prop
 | [], cs => cs = []
 | x :: xs, cs => ∃ c1 c2, cs = c1 ++ c2 ∧ Rep.is w B x c1 ∧ Flat w B xs c2

section
variable {α : Type} [Rep α] {w w' : World} {B B' : Nat}

theorem Flat.length : ∀ {xs : List α} {cs : List Value}, Flat w B xs cs → cs.length = xs.length * Rep.n α
 | [], cs, h => by
  have : cs = [] := h
  simp [this]
 | x :: xs, cs, h => by
  obtain ⟨c1, c2, rfl, h1, h2⟩ := h
  rw [List.length_append, Rep.len h1, Flat.length h2, List.length_cons, Nat.add_mul, Nat.one_mul, Nat.add_comm]

theorem Flat.below : ∀ {xs : List α} {cs : List Value}, Flat w B xs cs → Below B w w' → Flat w' B xs cs
 | [], _, h, _ => h
 | _ :: _, _, h, hb => by
  obtain ⟨c1, c2, rfl, h1, h2⟩ := h
  exact ⟨c1, c2, rfl, Rep.below h1 hb, h2.below hb⟩

theorem Flat.mono : ∀ {xs : List α} {cs : List Value}, Flat w B xs cs → B ≤ B' → Flat w B' xs cs
 | [], _, h, _ => h
 | _ :: _, _, h, hb => by
  obtain ⟨c1, c2, rfl, h1, h2⟩ := h
  exact ⟨c1, c2, rfl, Rep.mono h1 hb, h2.mono hb⟩

theorem Flat.append : ∀ {xs ys : List α} {cs ds : List Value}, Flat w B xs cs → Flat w B ys ds → Flat w B (xs ++ ys) (cs ++ ds)
 | [], ys, cs, ds, h, g => by
  have : cs = [] := h
  subst this
  exact g
 | x :: xs, ys, cs, ds, h, g => by
  obtain ⟨c1, c2, rfl, h1, h2⟩ := h
  exact ⟨c1, c2 ++ ds, by simp, h1, h2.append g⟩

theorem Flat.one {x : α} {cs : List Value} (h : Rep.is w B x cs) : Flat w B [x] cs := ⟨cs, [], by simp, h, rfl⟩

/-- the cells of element i -/
theorem Flat.get : ∀ {xs : List α} {cs : List Value}, Flat w B xs cs → ∀ i (h : i < xs.length), Rep.is w B xs[i] ((cs.drop (i * Rep.n α)).take (Rep.n α))
 | [], _, _, i, hi => by simp at hi
 | x :: xs, cs, h, 0, _ => by
  obtain ⟨c1, c2, rfl, h1, h2⟩ := h
  rw [Nat.zero_mul, List.drop_zero, ← Rep.len h1, List.take_left]
  exact h1
 | x :: xs, cs, h, i + 1, hi => by
  obtain ⟨c1, c2, rfl, h1, h2⟩ := h
  have e : (c1 ++ c2).drop ((i + 1) * Rep.n α) = c2.drop (i * Rep.n α) := by
   rw [Nat.add_mul, Nat.one_mul, Nat.add_comm, ← Rep.len h1, ← List.drop_drop, List.drop_left]
  rw [e]
  exact h2.get i (by simpa using hi)

theorem Flat.take : ∀ {xs : List α} {cs : List Value} (k : Nat), Flat w B xs cs → Flat w B (xs.take k) (cs.take (k * Rep.n α))
 | [], cs, k, h => by
  have : cs = [] := h
  subst this
  simp [Flat]
 | x :: xs, cs, 0, h => by simp [Flat]
 | x :: xs, cs, k + 1, h => by
  obtain ⟨c1, c2, rfl, h1, h2⟩ := h
  refine ⟨c1, c2.take (k * Rep.n α), ?_, h1, h2.take k⟩
  rw [Nat.add_mul, Nat.one_mul, Nat.add_comm, ← Rep.len h1, List.take_length_add_append]

theorem Flat.drop : ∀ {xs : List α} {cs : List Value} (k : Nat), Flat w B xs cs → Flat w B (xs.drop k) (cs.drop (k * Rep.n α))
 | [], cs, k, h => by
  have : cs = [] := h
  subst this
  simp [Flat]
 | x :: xs, cs, 0, h => by simpa using h
 | x :: xs, cs, k + 1, h => by
  obtain ⟨c1, c2, rfl, h1, h2⟩ := h
  have e : (c1 ++ c2).drop ((k + 1) * Rep.n α) = c2.drop (k * Rep.n α) := by
   rw [Nat.add_mul, Nat.one_mul, Nat.add_comm, ← Rep.len h1, ← List.drop_drop, List.drop_left]
  rw [e]
  exact h2.drop k

/-- v is a slice of the call's own (its block from base on), its elements read as xs -/
def Own (w : World) (base : Nat) (e : TypeId) (v : Value) (xs : List α) : Prop :=
 ∃ flat, w.ownsRow base e (Rep.n α) v xs.length flat ∧ Flat w w.heap.size xs flat

theorem Own.nil (w : World) (base : Nat) (e : TypeId) : Own (α := α) w base e (.slice none 0 0) [] :=
 ⟨[], World.ownsRow_nil _ _ _ _, rfl⟩

/-- an owned row reads as data -/
theorem Own.is {base : Nat} {e : TypeId} {v : Value} {xs : List α} (h : Own w base e v xs) (hz : xs.length * Rep.bytes α ≤ reach) : Rep.is w w.heap.size xs [v] := by
 obtain ⟨flat, ⟨hl, hr⟩, hf⟩ := h
 rcases hr with ⟨rfl, h0⟩ | ⟨g, cap, cur, rfl, hbg, hg, hnc, hcm, hcs, htake⟩
 ·have : xs = [] := List.eq_nil_of_length_eq_zero h0
  subst this
  exact ⟨none, 0, rfl, Nat.le_refl _, Nat.zero_le _, by simp, fun _ => rfl, fun i hi => by simp at hi⟩
 ·have hlt : g < w.heap.size := by
   rcases Nat.lt_or_ge g w.heap.size with h' | h'
   ·exact h'
   ·rw [Array.getElem?_eq_none h'] at hg; cases hg
  refine ⟨some ⟨g, 0, none⟩, cap, rfl, hnc, hcm, hz, (fun h => by cases h), fun i hi => ⟨g, 0, _, rfl, hlt, hf.get i hi, fun j hj => ?_⟩⟩
  have hn : i * Rep.n α + j < xs.length * Rep.n α := by
   have : (i + 1) * Rep.n α ≤ xs.length * Rep.n α := Nat.mul_le_mul_right _ hi
   rw [Nat.add_mul, Nat.one_mul] at this
   omega
  rw [List.getElem?_take_of_lt hj, List.getElem?_drop, ← htake, List.getElem?_take_of_lt hn]
  simp [World.cell?, hg, Array.getElem?_toList]

theorem Own.below {base : Nat} {e : TypeId} {v : Value} {xs : List α} (h : Own w base e v xs) (hb : Below w.heap.size w w') : Own w' base e v xs := by
 obtain ⟨flat, hr, hf⟩ := h
 refine ⟨flat, ?_, (hf.below hb).mono hb.size⟩
 refine hr.kept (row := none) ⟨hb.os, hb.tape, hb.output, hb.size, fun k hk _ => hb.block k hk⟩ ?_
 cases hv : v.ownBlock with
 | none => exact .inl rfl
 | some g => exact .inr (by simp)

theorem Own.alloc {base : Nat} {e : TypeId} {v : Value} {xs : List α} (h : Own w base e v xs) (o : Obj) : Own (w.alloc o) base e v xs :=
 h.below ((Below.refl _ _).alloc (Nat.le_refl _) _)

/-- u and v don't share a block -/
def Apart (u v : Value) : Prop := u.ownBlock = none ∨ u.ownBlock ≠ v.ownBlock

/-- the elements of an owned row lie below its own block, or in older blocks: they are kept by a change of that row alone if they are flat -/
class FlatRep (α : Type) [Rep α] : Prop where
 any : ∀ {w w' : World} {B B' : Nat} {a : α} {cs : List Value}, Rep.is w B a cs → Rep.is w' B' a cs

instance : FlatRep Int := ⟨fun h => h⟩
instance : FlatRep Bool := ⟨fun h => h⟩
instance : FlatRep ByteArray := ⟨fun h => h⟩
instance : FlatRep UInt8 := ⟨fun h => h⟩
class FlatFlds (α : Type) [Flds α] : Prop where
 any : ∀ {w w' : World} {B B' : Nat} {a : α} {cs : List Value}, Flds.is w B a cs → Flds.is w' B' a cs
instance : FlatFlds Unit := ⟨fun h => h⟩
instance {α β : Type} [Rep α] [FlatRep α] [Flds β] [FlatFlds β] : FlatFlds (α × β) := ⟨fun h => by
 obtain ⟨c1, c2, rfl, h1, h2⟩ := h
 exact ⟨c1, c2, rfl, FlatRep.any h1, FlatFlds.any h2⟩⟩
instance {α : Type} [Flds α] [FlatFlds α] : FlatRep (St α) := ⟨fun h => FlatFlds.any (α := α) h⟩

theorem Flat.any [FlatRep α] : ∀ {xs : List α} {cs : List Value}, Flat w B xs cs → Flat w' B' xs cs
 | [], _, h => h
 | _ :: _, _, h => by
  obtain ⟨c1, c2, rfl, h1, h2⟩ := h
  exact ⟨c1, c2, rfl, FlatRep.any h1, h2.any⟩

/-- an owned row that the change doesn't touch -/
theorem Own.kept [FlatRep α] {base : Nat} {e : TypeId} {u : Value} {xs : List α} {row : Option Nat} (h : Own w base e u xs) (hg : w.grownBy w' row) (hne : u.ownBlock = none ∨ u.ownBlock ≠ row) : Own w' base e u xs := by
 obtain ⟨flat, hr, hf⟩ := h
 exact ⟨flat, hr.kept hg hne, hf.any⟩

end

section
variable {P : Program} (w : World)
/-- a call of function g enters it -/
def Enters (P : Program) (g : FuncId) : Prop := ∀ (args : Array Value) (w : World), (callFunc g args).run P w = .ok (.enter g args) w
theorem enters_of {g : FuncId} {fn : Func} {c : Code} (hf : P.funcs[g]? = some fn) (hname : (fn.name == "runtime.NumGoroutine") = false) (hb : fn.body = some c) : Enters P g := by
 intro args w
 have h1 : fn.name ≠ "runtime.NumGoroutine" := by simpa using hname
 simp [callFunc, hf, h1, hb]

/-- the element type of a slice type, as the program's table has it -/
structure Elem (P : Program) (t e : TypeId) (α : Type) [Rep α] (bytes : Nat) : Prop where
 ht : P.underlying t = some (.slice e)
 inf : ∃ i z, P.info? e = some i ∧ i.zero = some z ∧ i.size = Rep.n α ∧ i.bytes = bytes ∧ z.cells.size = Rep.n α
 pos : 0 < Rep.n α
 posb : 0 < bytes

theorem Elem.of {t e : TypeId} {α : Type} [Rep α] {bytes : Nat} {z : Value} (ht : P.underlying t = some (.slice e)) (hi : (P.info? e).map (fun i => (i.zero, i.size, i.bytes)) = some (some z, Rep.n α, bytes)) (hz : z.cells.size = Rep.n α)
  (pos : 0 < Rep.n α) (posb : 0 < bytes) : Elem P t e α bytes := by
 obtain ⟨i, h1, h2, h3, h4⟩ := info_parts hi
 exact ⟨ht, ⟨i, z, h1, h2, h3, h4, hz⟩, pos, posb⟩

end

/-! ### Cells that are set in a row -/
/-- l with vs from place o on -/
def splice (l : List Value) (o : Nat) (vs : List Value) : List Value := l.take o ++ vs ++ l.drop (o + vs.length)

theorem splice_nil (l : List Value) (o : Nat) : splice l o [] = l := by unfold splice; simp

theorem splice_cons {l : List Value} {o : Nat} {v : Value} {vs : List Value} (h : o + vs.length < l.length) : splice (l.set o v) (o + 1) vs = splice l o (v :: vs) := by
 unfold splice
 apply List.ext_getElem?
 intro j
 simp only [List.getElem?_append, List.length_append, List.length_take, List.length_set, List.getElem?_take, List.getElem?_set, List.getElem?_drop, List.length_cons]
 have e1 : min (o + 1) l.length = o + 1 := by omega
 have e2 : min o l.length = o := by omega
 rw [e1, e2]
 by_cases h1 : j < o
 ·simp [show j < o + 1 by omega, h1, show j < o + 1 + vs.length by omega, show j < o + (vs.length + 1) by omega, show ¬ o = j by omega]
 ·by_cases h2 : j = o
  ·subst h2
   simp [show j < j + 1 + vs.length by omega, show j < j + (vs.length + 1) by omega, show j < l.length by omega]
  ·by_cases h3 : j < o + (vs.length + 1)
   ·simp only [h3, show j < o + 1 + vs.length by omega, show ¬ j < o + 1 by omega, h1, if_true, if_false]
    rw [show j - o = (j - (o + 1)) + 1 by omega, List.getElem?_cons_succ]
   ·simp only [h3, show ¬ j < o + 1 + vs.length by omega, if_false]
    rw [if_neg (by omega)]
    congr 1
    omega

theorem heap_setCells {g : Nat} {e : TypeId} {fr : Nat × Nat} : ∀ {vs : List Value} {o : Nat} {w : World} {cur : Array Value}, w.heap[g]? = some (.cells cur e fr) → o + vs.length ≤ cur.size →
  (w.setCells g o vs).heap[g]? = some (.cells (splice cur.toList o vs).toArray e fr)
 | [], o, w, cur, h, _ => by
  rw [splice_nil]
  simpa [World.setCells] using h
 | v :: vs, o, w, cur, h, hl => by
  have h1 := heap_setCell_at (i := o) h v
  have h2 := heap_setCells (vs := vs) (o := o + 1) h1 (by simp at hl ⊢; omega)
  unfold World.setCells
  rw [h2, show (cur.setIfInBounds o v).toList = cur.toList.set o v by simp, splice_cons (by simp at hl ⊢; omega)]

/-- clear of n elements of an owned row -/
theorem run_clear_row {P : Program} (w : World) (t ty e : TypeId) (z : Value) (g o n c : Nat) (cur : Array Value) (ht : P.underlying t = some (.slice e)) (hz : ∀ w, (zeroValue e).run P w = .ok z w) (hn : n ≠ 0)
  (hg : w.heap[g]? = some (.cells cur e (0, 0))) (hl : o + (Builtin.zeroCells z.cells n).size ≤ cur.size) (h1 : ∀ v ∈ (Builtin.zeroCells z.cells n).toList, v.oneCell' = true) :
  (Builtin.clear_ #[t] ty #[.slice (some ⟨g, o, none⟩) n c]).run P w = .ok (.tuple #[]) (w.setRow g (splice cur.toList o (Builtin.zeroCells z.cells n).toList).toArray) := by
 have hs := run_storeCells_at (P := P) g o e (Builtin.zeroCells z.cells n).toList 0 cur w hg (by simpa using hl) h1
 simp only [Nat.add_zero] at hs
 obtain ⟨m, rfl⟩ := Nat.exists_eq_succ_of_ne_zero hn
 simp [Builtin.clear_, run_underlying ht, hz, hs, splice]

theorem grownBy_setRow (w : World) (g : Nat) (c : Array Value) : w.grownBy (w.setRow g c) (some g) :=
 ⟨rfl, rfl, rfl, by simp, fun k _ hk => setRow_other w g k _ (fun e => hk (by rw [e]))⟩

theorem grownBy_setCell {w : World} {g o : Nat} {v : Value} : w.grownBy (w.setCell ⟨g, o, none⟩ v) (some g) :=
 ⟨rfl, rfl, rfl, by simp [World.setCell], fun k _ hk => Below.heap_setCell _ _ _ _ (fun e => hk (by rw [e]))⟩
theorem grownBy_trans {a b c : World} {row : Option Nat} (h : a.grownBy b row) (k : b.grownBy c row) : a.grownBy c row :=
 ⟨k.os.trans h.os, k.tape.trans h.tape, k.output.trans h.output, Nat.le_trans h.size k.size, fun i hi hr => (k.block i (Nat.lt_of_lt_of_le hi h.size) hr).trans (h.block i hi hr)⟩
theorem grownBy_refl (a : World) (row : Option Nat) : a.grownBy a row := ⟨rfl, rfl, rfl, Nat.le_refl _, fun _ _ _ => rfl⟩
theorem grownBy_setCells {g : Nat} : ∀ {vs : List Value} {o : Nat} {w : World}, w.grownBy (w.setCells g o vs) (some g)
 | [], _, w => grownBy_refl w _
 | v :: vs, o, _w => grownBy_trans (grownBy_setCell (o := o) (v := v)) (grownBy_setCells (vs := vs) (o := o + 1))


/-- the length in a slot -/
def lenOf : Value → Nat | .slice _ n _ => n | _ => 0

end Go.Rp
