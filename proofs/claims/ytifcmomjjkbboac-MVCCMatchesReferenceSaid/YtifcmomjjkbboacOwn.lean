/- Slices that a call has made: an owned row whose elements read as data. -/
import Derived.Test.YtifcmomjjkbboacRep
namespace Go.Rp
open Go.RowKit

/-- the cells of a row of elements -/
def Flat {α : Type} [Rep α] (w : World) (B : Nat) : List α → List Value → Prop
 | [], cs => cs = []
 | x :: xs, cs => ∃ c1 c2, cs = c1 ++ c2 ∧ Rep.is w B x c1 ∧ Flat w B xs c2

section
variable {α : Type} [Rep α] {w w' : World} {B B' : Nat}

theorem Flat.length : ∀ {xs : List α} {cs : List Value}, Flat w B xs cs → cs.length = xs.length * Rep.n α
 | [], cs, h => by
  have : cs = [] := h
  simp [this]
 | x :: xs, cs, h => by
  obtain ⟨c1, c2, rfl, h1, h2⟩ := h
  rw [List.length_append, Rep.len h1, Flat.length h2, List.length_cons, Nat.add_mul, Nat.one_mul, Nat.add_comm]

theorem Flat.below : ∀ {xs : List α} {cs : List Value}, Flat w B xs cs → Below B w w' → Flat w' B xs cs
 | [], _, h, _ => h
 | _ :: _, _, h, hb => by
  obtain ⟨c1, c2, rfl, h1, h2⟩ := h
  exact ⟨c1, c2, rfl, Rep.below h1 hb, h2.below hb⟩

theorem Flat.mono : ∀ {xs : List α} {cs : List Value}, Flat w B xs cs → B ≤ B' → Flat w B' xs cs
 | [], _, h, _ => h
 | _ :: _, _, h, hb => by
  obtain ⟨c1, c2, rfl, h1, h2⟩ := h
  exact ⟨c1, c2, rfl, Rep.mono h1 hb, h2.mono hb⟩

theorem Flat.append : ∀ {xs ys : List α} {cs ds : List Value}, Flat w B xs cs → Flat w B ys ds → Flat w B (xs ++ ys) (cs ++ ds)
 | [], ys, cs, ds, h, g => by
  have : cs = [] := h
  subst this
  exact g
 | x :: xs, ys, cs, ds, h, g => by
  obtain ⟨c1, c2, rfl, h1, h2⟩ := h
  exact ⟨c1, c2 ++ ds, by simp, h1, h2.append g⟩

theorem Flat.one {x : α} {cs : List Value} (h : Rep.is w B x cs) : Flat w B [x] cs := ⟨cs, [], by simp, h, rfl⟩

theorem Flat.one' : ∀ {xs : List α} {cs : List Value}, Flat w B xs cs → ∀ u ∈ cs, u.oneCell' = true
 | [], cs, h, u, hu => by
  have : cs = [] := h
  subst this
  cases hu
 | x :: xs, cs, h, u, hu => by
  obtain ⟨c1, c2, rfl, h1, h2⟩ := h
  exact (List.mem_append.1 hu).elim (Rep.one h1 u) (h2.one' u)

/-- the cells of element i -/
theorem Flat.get : ∀ {xs : List α} {cs : List Value}, Flat w B xs cs → ∀ i (h : i < xs.length), Rep.is w B xs[i] ((cs.drop (i * Rep.n α)).take (Rep.n α))
 | [], _, _, i, hi => by simp at hi
 | x :: xs, cs, h, 0, _ => by
  obtain ⟨c1, c2, rfl, h1, h2⟩ := h
  rw [Nat.zero_mul, List.drop_zero, ← Rep.len h1, List.take_left]
  exact h1
 | x :: xs, cs, h, i + 1, hi => by
  obtain ⟨c1, c2, rfl, h1, h2⟩ := h
  have e : (c1 ++ c2).drop ((i + 1) * Rep.n α) = c2.drop (i * Rep.n α) := by
   rw [Nat.add_mul, Nat.one_mul, Nat.add_comm, ← Rep.len h1, ← List.drop_drop, List.drop_left]
  rw [e]
  exact h2.get i (by simpa using hi)

theorem Flat.take : ∀ {xs : List α} {cs : List Value} (k : Nat), Flat w B xs cs → Flat w B (xs.take k) (cs.take (k * Rep.n α))
 | [], cs, k, h => by
  have : cs = [] := h
  subst this
  simp [Flat]
 | x :: xs, cs, 0, h => by simp [Flat]
 | x :: xs, cs, k + 1, h => by
  obtain ⟨c1, c2, rfl, h1, h2⟩ := h
  refine ⟨c1, c2.take (k * Rep.n α), ?_, h1, h2.take k⟩
  rw [Nat.add_mul, Nat.one_mul, Nat.add_comm, ← Rep.len h1, List.take_length_add_append]

theorem Flat.drop : ∀ {xs : List α} {cs : List Value} (k : Nat), Flat w B xs cs → Flat w B (xs.drop k) (cs.drop (k * Rep.n α))
 | [], cs, k, h => by
  have : cs = [] := h
  subst this
  simp [Flat]
 | x :: xs, cs, 0, h => by simpa using h
 | x :: xs, cs, k + 1, h => by
  obtain ⟨c1, c2, rfl, h1, h2⟩ := h
  have e : (c1 ++ c2).drop ((k + 1) * Rep.n α) = c2.drop (k * Rep.n α) := by
   rw [Nat.add_mul, Nat.one_mul, Nat.add_comm, ← Rep.len h1, ← List.drop_drop, List.drop_left]
  rw [e]
  exact h2.drop k

/-- v is a slice of the call's own (its block from base on), its elements read as xs -/
def Own (w : World) (base : Nat) (e : TypeId) (v : Value) (xs : List α) : Prop :=
 ∃ flat, w.ownsRow base e (Rep.n α) v xs.length flat ∧ Flat w w.heap.size xs flat

theorem Own.nil (w : World) (base : Nat) (e : TypeId) : Own (α := α) w base e (.slice none 0 0) [] :=
 ⟨[], World.ownsRow_nil _ _ _ _, rfl⟩

/-- an owned row reads as data -/
theorem Own.is {base : Nat} {e : TypeId} {v : Value} {xs : List α} (h : Own w base e v xs) (hz : xs.length * Rep.bytes α ≤ reach) : Rep.is w w.heap.size xs [v] := by
 obtain ⟨flat, ⟨hl, hr⟩, hf⟩ := h
 rcases hr with ⟨rfl, h0⟩ | ⟨g, cap, cur, rfl, hbg, hg, hnc, hcm, hcs, htake⟩
 ·have : xs = [] := List.eq_nil_of_length_eq_zero h0
  subst this
  exact ⟨none, 0, rfl, Nat.le_refl _, Nat.zero_le _, by simp, fun _ => rfl, fun i hi => by simp at hi⟩
 ·have hlt : g < w.heap.size := by
   rcases Nat.lt_or_ge g w.heap.size with h' | h'
   ·exact h'
   ·rw [Array.getElem?_eq_none h'] at hg; cases hg
  refine ⟨some ⟨g, 0, none⟩, cap, rfl, hnc, hcm, hz, (fun h => by cases h), fun i hi => ⟨g, 0, _, rfl, hlt, hf.get i hi, fun j hj => ?_⟩⟩
  have hn : i * Rep.n α + j < xs.length * Rep.n α := by
   have : (i + 1) * Rep.n α ≤ xs.length * Rep.n α := Nat.mul_le_mul_right _ hi
   rw [Nat.add_mul, Nat.one_mul] at this
   omega
  rw [List.getElem?_take_of_lt hj, List.getElem?_drop, ← htake, List.getElem?_take_of_lt hn]
  simp [World.cell?, hg, Array.getElem?_toList]

theorem Own.below {base : Nat} {e : TypeId} {v : Value} {xs : List α} (h : Own w base e v xs) (hb : Below w.heap.size w w') : Own w' base e v xs := by
 obtain ⟨flat, hr, hf⟩ := h
 refine ⟨flat, ?_, (hf.below hb).mono hb.size⟩
 refine hr.kept (row := none) ⟨hb.os, hb.tape, hb.output, hb.size, fun k hk _ => hb.block k hk⟩ ?_
 cases hv : v.ownBlock with
 | none => exact .inl rfl
 | some g => exact .inr (by simp)

theorem Own.alloc {base : Nat} {e : TypeId} {v : Value} {xs : List α} (h : Own w base e v xs) (o : Obj) : Own (w.alloc o) base e v xs :=
 h.below ((Below.refl _ _).alloc (Nat.le_refl _) _)

/-- u and v don't share a block -/
def Apart (u v : Value) : Prop := u.ownBlock = none ∨ u.ownBlock ≠ v.ownBlock

theorem Own.ltB {base : Nat} {e : TypeId} {v : Value} {xs : List α} (h : Own w base e v xs) : ∀ k, v.ownBlock = some k → base ≤ k ∧ k < w.heap.size := by
 obtain ⟨flat, hr, _⟩ := h
 exact hr.lt

theorem Own.shape {base : Nat} {e : TypeId} {v : Value} {xs : List α} (h : Own w base e v xs) : ∃ A cap, v = .slice A xs.length cap ∧ xs.length ≤ cap ∧ (A = none → xs = []) := by
 obtain ⟨flat, ⟨_, hr⟩, _⟩ := h
 rcases hr with ⟨rfl, h0⟩ | ⟨g, cap, cur, rfl, hbg, hg, hnc, hcm, hcs, htake⟩
 ·exact ⟨none, 0, by rw [h0], by omega, fun _ => List.eq_nil_of_length_eq_zero h0⟩
 ·exact ⟨_, cap, rfl, hnc, fun h => by cases h⟩

/-- the change that a law on an owned row leaves -/
theorem grown_below {base : Nat} {e : TypeId} {v : Value} {xs : List α} (h : Own w base e v xs) (hg : w.grownBy w' v.ownBlock) (hb : base ≤ w.heap.size) : Below base w w' :=
 (Below.refl _ _).grown hg hb (fun k hk => (h.ltB k hk).1)

/-- the elements of an owned row lie below its own block, or in older blocks: they are kept by a change of that row alone if they are flat -/
class FlatRep (α : Type) [Rep α] : Prop where
 any : ∀ {w w' : World} {B B' : Nat} {a : α} {cs : List Value}, Rep.is w B a cs → Rep.is w' B' a cs

instance : FlatRep Int := ⟨fun h => h⟩
instance : FlatRep Bool := ⟨fun h => h⟩
instance : FlatRep ByteArray := ⟨fun h => h⟩
instance : FlatRep UInt8 := ⟨fun h => h⟩
class FlatFlds (α : Type) [Flds α] : Prop where
 any : ∀ {w w' : World} {B B' : Nat} {a : α} {cs : List Value}, Flds.is w B a cs → Flds.is w' B' a cs
instance : FlatFlds Unit := ⟨fun h => h⟩
instance {α β : Type} [Rep α] [FlatRep α] [Flds β] [FlatFlds β] : FlatFlds (α × β) := ⟨fun h => by
 obtain ⟨c1, c2, rfl, h1, h2⟩ := h
 exact ⟨c1, c2, rfl, FlatRep.any h1, FlatFlds.any h2⟩⟩
instance {α : Type} [Flds α] [FlatFlds α] : FlatRep (St α) := ⟨fun h => FlatFlds.any (α := α) h⟩

theorem Flat.any [FlatRep α] : ∀ {xs : List α} {cs : List Value}, Flat w B xs cs → Flat w' B' xs cs
 | [], _, h => h
 | _ :: _, _, h => by
  obtain ⟨c1, c2, rfl, h1, h2⟩ := h
  exact ⟨c1, c2, rfl, FlatRep.any h1, h2.any⟩

/-- an owned row that the change doesn't touch -/
theorem Own.kept [FlatRep α] {base : Nat} {e : TypeId} {u : Value} {xs : List α} {row : Option Nat} (h : Own w base e u xs) (hg : w.grownBy w' row) (hne : u.ownBlock = none ∨ u.ownBlock ≠ row) : Own w' base e u xs := by
 obtain ⟨flat, hr, hf⟩ := h
 exact ⟨flat, hr.kept hg hne, hf.any⟩

end

section
variable {P : Program} (w : World)
/-- APPEND onto an owned row, from a row of cells. -/
theorem run_append_rep {α : Type} [Rep α] (base : Nat) (t ty e : TypeId) (i : TypeInfo) (z : Value) (bytes : Nat) (ht : P.underlying t = some (.slice e)) (hi : P.info? e = some i) (hz : i.zero = some z)
  (hsize : i.size = Rep.n α) (hby : i.bytes = bytes) (hzs : z.cells.size = Rep.n α) (hsz : 0 < Rep.n α)
  (v : Value) (xs ys : List α) (flat : List Value) (hown : w.ownsRow base e (Rep.n α) v xs.length flat)
  (a : Addr) (c : Nat) (news : List Value) (hf : Flat w w.heap.size xs flat) (hnews' : Flat w w.heap.size ys news) (hnews : ∀ j u, news[j]? = some u → w.cell? (a.add j) = some u) (h1 : ∀ u ∈ news, u.oneCell' = true)
  (hbytes : (xs.length + ys.length) * bytes ≤ reach) (hb0 : 0 < bytes) (hbase : base ≤ w.heap.size)
  (hkeep : ∀ w', w.grownBy w' v.ownBlock → Flat w' w'.heap.size (xs ++ ys) (flat ++ news)) :
  ∃ v' w', (Builtin.append_ #[t, t] ty #[v, .slice (some a) ys.length c]).run P w = .ok v' w' ∧ Own w' base e v' (xs ++ ys) ∧ w.grownBy w' v.ownBlock ∧
   (v'.ownBlock = v.ownBlock ∨ ∃ g, v'.ownBlock = some g ∧ w.heap.size ≤ g) := by
 have hl := hnews'.length
 have h63 : xs.length + ys.length ≤ maxLen := by
  have h2 : (xs.length + ys.length) * 1 ≤ (xs.length + ys.length) * bytes := Nat.mul_le_mul_left _ hb0
  unfold reach at hbytes
  unfold maxLen
  omega
 obtain ⟨v', w', hr, h2, h3, _⟩ := run_append_own (P := P) w base t ty e i z (Rep.n α) bytes ht hi hz hsize hby hzs hsz v xs.length flat hown a ys.length c news hl hnews h1 h63 hbytes hbase
 refine ⟨v', w', hr, ⟨_, by rw [List.length_append]; exact h2, hkeep w' h3⟩, h3, ?_⟩
 -- where the new row lies
 rcases hown.2 with ⟨rfl, h0⟩ | ⟨g, cap, cur, rfl, hbg, hg, hnc, hcm, hcs, htake⟩
 ·by_cases hm : ys.length = 0
  ·rw [hm] at hr
   have : (Builtin.append_ #[t, t] ty #[.slice none 0 0, .slice (some a) 0 c]).run P w = .ok (.slice none 0 0) w := by
    simp [Builtin.append_, run_underlying ht, sizeOf, typeInfo, hi, Builtin.lenOf, Builtin.firstCells, loadCells, loadCellsFrom]
   rw [this] at hr
   injection hr with e1 e2
   subst e1
   exact .inl rfl
  ·have hx : xs = [] := List.eq_nil_of_length_eq_zero h0
   subst hx
   have := run_append_nil (P := P) w t ty e i z ht hi hz a ys.length c news (by rw [hsize]; exact hl) hnews (by omega) (by unfold maxLen at h63; simp at h63; omega) (by rw [hby]; unfold reach at hbytes; simp at hbytes; omega)
   rw [this] at hr
   injection hr with e1 e2
   subst e1
   exact .inr ⟨_, rfl, Nat.le_refl _⟩
 ·by_cases hroom : xs.length + ys.length ≤ cap
  ·have hfit : xs.length * i.size + news.length ≤ cur.size := by rw [hl, hcs, hsize, ← Nat.add_mul]; exact Nat.mul_le_mul_right _ hroom
   have := run_append_room (P := P) w t ty e i ht hi g xs.length cap cur hg a ys.length c news (by rw [hsize]; exact hl) hnews h1 hroom hfit
   rw [this] at hr
   injection hr with e1 e2
   subst e1
   exact .inl rfl
  ·have holds : ∀ j u, flat[j]? = some u → w.cell? ((⟨g, 0, none⟩ : Addr).add j) = some u := hown.cells (g := g) rfl
   have := run_append_grow (P := P) w t ty e i z ht hi hz ⟨g, 0, none⟩ xs.length cap flat (by rw [hsize]; exact hown.1) holds a ys.length c news (by rw [hsize]; exact hl) hnews (by omega) (by unfold maxLen at h63; omega) (growslice_fits (by omega) (by rw [hby]; exact hbytes))
   rw [this] at hr
   injection hr with e1 e2
   subst e1
   exact .inr ⟨_, rfl, Nat.le_refl _⟩

/-- a call of function g enters it -/
def Enters (P : Program) (g : FuncId) : Prop := ∀ (args : Array Value) (w : World), (callFunc g args).run P w = .ok (.enter g args) w
theorem enters_of {g : FuncId} {fn : Func} {c : Code} (hf : P.funcs[g]? = some fn) (hname : (fn.name == "runtime.NumGoroutine") = false) (hb : fn.body = some c) : Enters P g := by
 intro args w
 have h1 : fn.name ≠ "runtime.NumGoroutine" := by simpa using hname
 simp [callFunc, hf, h1, hb]

/-- the element type of a slice type, as the program's table has it -/
structure Elem (P : Program) (t e : TypeId) (α : Type) [Rep α] (bytes : Nat) : Prop where
 ht : P.underlying t = some (.slice e)
 inf : ∃ i z, P.info? e = some i ∧ i.zero = some z ∧ i.size = Rep.n α ∧ i.bytes = bytes ∧ z.cells.size = Rep.n α
 pos : 0 < Rep.n α
 posb : 0 < bytes

theorem Elem.of {t e : TypeId} {α : Type} [Rep α] {bytes : Nat} {z : Value} (ht : P.underlying t = some (.slice e)) (hi : (P.info? e).map (fun i => (i.zero, i.size, i.bytes)) = some (some z, Rep.n α, bytes)) (hz : z.cells.size = Rep.n α)
  (pos : 0 < Rep.n α) (posb : 0 < bytes) : Elem P t e α bytes := by
 obtain ⟨i, h1, h2, h3, h4⟩ := info_parts hi
 exact ⟨ht, ⟨i, z, h1, h2, h3, h4, hz⟩, pos, posb⟩

theorem wpList_append_rep {α : Type} [Rep α] [FlatRep α] {ops : Array Oper} {rest : List Oper} {o : Oper} {a : Act} {Q : Exit → Act → World → Prop} (hgd : o.guard = none) (s x : Operand) (t : TypeId)
  (ho : o.op = .call { callee := .builtin .append, args := #[s, x], argTypes := #[t, t] })
  (base : Nat) (e : TypeId) (bytes : Nat) (he : Elem P t e α bytes)
  (v : Value) (xs ys : List α) (hs : a.eval s = v) (hown : Own w base e v xs) (ad : Addr) (c : Nat) (hx : a.eval x = .slice (some ad) ys.length c)
  (news : List Value) (hys : Flat w w.heap.size ys news) (hnews : ∀ j u, news[j]? = some u → w.cell? (ad.add j) = some u)
  (hbytes : (xs.length + ys.length) * bytes ≤ reach) (hbase : base ≤ w.heap.size)
  (h : ∀ v' w', Own w' base e v' (xs ++ ys) → w.grownBy w' v.ownBlock → (v'.ownBlock = v.ownBlock ∨ ∃ g, v'.ownBlock = some g ∧ w.heap.size ≤ g) → wpList P ops Q rest (a.put o.dst v') w') : wpList P ops Q (o :: rest) a w := by
 refine wpList_plain hgd fun K hK => ?_
 obtain ⟨flat, hr, hf⟩ := hown
 obtain ⟨i, z, hi, hz, hsize, hby, hzs⟩ := he.inf
 have h1 : ∀ u ∈ news, u.oneCell' = true := hys.one'
 obtain ⟨v', w', hrun, h2, h3, h4⟩ := run_append_rep (P := P) w base t o.type e i z bytes he.ht hi hz hsize hby hzs he.pos v xs ys flat hr ad c news hf hys hnews h1 hbytes he.posb hbase
  (fun w' _ => (hf.any).append hys.any)
 have := hK _ _ (h v' w' h2 h3 h4)
 unfold Oper.wp execOp
 simp only [ho, resolve, invoke, builtin, Sem.run_bind, Sem.run_pure, Result.andThen_ok, List.map_toArray, List.map_cons, List.map_nil, hs, hx, hrun]
 exact this
end

/-! ### Cells that are set in a row -/
/-- l with vs from place o on -/
def splice (l : List Value) (o : Nat) (vs : List Value) : List Value := l.take o ++ vs ++ l.drop (o + vs.length)

theorem splice_length {l vs : List Value} {o : Nat} (h : o + vs.length ≤ l.length) : (splice l o vs).length = l.length := by
 unfold splice; simp; omega

theorem splice_nil (l : List Value) (o : Nat) : splice l o [] = l := by unfold splice; simp

theorem splice_cons {l : List Value} {o : Nat} {v : Value} {vs : List Value} (h : o + vs.length < l.length) : splice (l.set o v) (o + 1) vs = splice l o (v :: vs) := by
 unfold splice
 apply List.ext_getElem?
 intro j
 simp only [List.getElem?_append, List.length_append, List.length_take, List.length_set, List.getElem?_take, List.getElem?_set, List.getElem?_drop, List.length_cons]
 have e1 : min (o + 1) l.length = o + 1 := by omega
 have e2 : min o l.length = o := by omega
 rw [e1, e2]
 by_cases h1 : j < o
 ·simp [show j < o + 1 by omega, h1, show j < o + 1 + vs.length by omega, show j < o + (vs.length + 1) by omega, show ¬ o = j by omega]
 ·by_cases h2 : j = o
  ·subst h2
   simp [show j < j + 1 + vs.length by omega, show j < j + (vs.length + 1) by omega, show j < l.length by omega]
  ·by_cases h3 : j < o + (vs.length + 1)
   ·simp only [h3, show j < o + 1 + vs.length by omega, show ¬ j < o + 1 by omega, h1, if_true, if_false]
    rw [show j - o = (j - (o + 1)) + 1 by omega, List.getElem?_cons_succ]
   ·simp only [h3, show ¬ j < o + 1 + vs.length by omega, if_false]
    rw [if_neg (by omega)]
    congr 1
    omega

theorem heap_setCells {g : Nat} {e : TypeId} {fr : Nat × Nat} : ∀ {vs : List Value} {o : Nat} {w : World} {cur : Array Value}, w.heap[g]? = some (.cells cur e fr) → o + vs.length ≤ cur.size →
  (w.setCells g o vs).heap[g]? = some (.cells (splice cur.toList o vs).toArray e fr)
 | [], o, w, cur, h, _ => by
  rw [splice_nil]
  simpa [World.setCells] using h
 | v :: vs, o, w, cur, h, hl => by
  have h1 := heap_setCell_at (i := o) h v
  have h2 := heap_setCells (vs := vs) (o := o + 1) h1 (by simp at hl ⊢; omega)
  unfold World.setCells
  rw [h2, show (cur.setIfInBounds o v).toList = cur.toList.set o v by simp, splice_cons (by simp at hl ⊢; omega)]

/-- clear of n elements of an owned row -/
theorem run_clear_row {P : Program} (w : World) (t ty e : TypeId) (z : Value) (g o n c : Nat) (cur : Array Value) (ht : P.underlying t = some (.slice e)) (hz : ∀ w, (zeroValue e).run P w = .ok z w) (hn : n ≠ 0)
  (hg : w.heap[g]? = some (.cells cur e (0, 0))) (hl : o + (Builtin.zeroCells z.cells n).size ≤ cur.size) (h1 : ∀ v ∈ (Builtin.zeroCells z.cells n).toList, v.oneCell' = true) :
  (Builtin.clear_ #[t] ty #[.slice (some ⟨g, o, none⟩) n c]).run P w = .ok (.tuple #[]) (w.setRow g (splice cur.toList o (Builtin.zeroCells z.cells n).toList).toArray) := by
 have hs := run_storeCells_at (P := P) g o e (Builtin.zeroCells z.cells n).toList 0 cur w hg (by simpa using hl) h1
 simp only [Nat.add_zero] at hs
 obtain ⟨m, rfl⟩ := Nat.exists_eq_succ_of_ne_zero hn
 simp [Builtin.clear_, run_underlying ht, hz, hs, splice]

theorem grownBy_setRow (w : World) (g : Nat) (c : Array Value) : w.grownBy (w.setRow g c) (some g) :=
 ⟨rfl, rfl, rfl, by simp, fun k _ hk => setRow_other w g k _ (fun e => hk (by rw [e]))⟩

theorem grownBy_setCell {w : World} {g o : Nat} {v : Value} : w.grownBy (w.setCell ⟨g, o, none⟩ v) (some g) :=
 ⟨rfl, rfl, rfl, by simp [World.setCell], fun k _ hk => Below.heap_setCell _ _ _ _ (fun e => hk (by rw [e]))⟩
theorem grownBy_trans {a b c : World} {row : Option Nat} (h : a.grownBy b row) (k : b.grownBy c row) : a.grownBy c row :=
 ⟨k.os.trans h.os, k.tape.trans h.tape, k.output.trans h.output, Nat.le_trans h.size k.size, fun i hi hr => (k.block i (Nat.lt_of_lt_of_le hi h.size) hr).trans (h.block i hi hr)⟩
theorem grownBy_refl (a : World) (row : Option Nat) : a.grownBy a row := ⟨rfl, rfl, rfl, Nat.le_refl _, fun _ _ _ => rfl⟩
theorem grownBy_drew {a b : World} {row : Option Nat} (h : a.grownBy b row) : a.grownBy b.drew row := ⟨h.os, h.tape, h.output, h.size, h.block⟩
theorem grownBy_drewN {a b : World} {row : Option Nat} (h : a.grownBy b row) (n : Nat) : a.grownBy (b.drewN n) row := ⟨h.os, h.tape, h.output, h.size, h.block⟩
theorem grownBy_setCells {g : Nat} : ∀ {vs : List Value} {o : Nat} {w : World}, w.grownBy (w.setCells g o vs) (some g)
 | [], _, w => grownBy_refl w _
 | v :: vs, o, _w => grownBy_trans (grownBy_setCell (o := o) (v := v)) (grownBy_setCells (vs := vs) (o := o + 1))


/-- the cells of a slice that reads as data, in a row -/
theorem row_flat {α : Type} [Rep α] {w : World} {B b off : Nat} (hn : 0 < Rep.n α) : ∀ (xs : List α) (i0 : Nat), (∀ i (h : i < xs.length), ∃ es, Rep.is w B xs[i] es ∧ ∀ j, j < Rep.n α → w.cell? ⟨b, off + (i0 + i) * Rep.n α + j, none⟩ = es[j]?) →
  ∃ flat, Flat w B xs flat ∧ ∀ j u, flat[j]? = some u → w.cell? ⟨b, off + i0 * Rep.n α + j, none⟩ = some u
 | [], _, _ => ⟨[], rfl, fun j u h => by simp at h⟩
 | x :: xs, i0, h => by
  obtain ⟨es, he, hc⟩ := h 0 (by simp)
  obtain ⟨flat, hf, hg⟩ := row_flat hn xs (i0 + 1) (fun i hi => by
   obtain ⟨es', he', hc'⟩ := h (i + 1) (by simpa using hi)
   exact ⟨es', by simpa using he', fun j hj => by rw [show i0 + 1 + i = i0 + (i + 1) by omega]; exact hc' j hj⟩)
  refine ⟨es ++ flat, ⟨es, flat, rfl, he, hf⟩, fun j u hu => ?_⟩
  have hl := Rep.len he
  by_cases hj : j < Rep.n α
  ·rw [List.getElem?_append_left (by omega)] at hu
   have := hc j hj
   rw [Nat.add_zero] at this
   rw [this, hu]
  ·rw [List.getElem?_append_right (by omega), hl] at hu
   have := hg _ _ hu
   rw [Nat.add_mul, Nat.one_mul] at this
   rw [show off + i0 * Rep.n α + j = off + (i0 * Rep.n α + Rep.n α) + (j - Rep.n α) by omega]
   exact this

theorem addr_add1 {b off : Nat} (j : Nat) : (⟨b, off, none⟩ : Addr).add j = ⟨b, off + j, none⟩ := by
 unfold Addr.add
 by_cases hj : j = 0 <;> simp [hj]

theorem list_flat {α : Type} [Rep α] {w : World} {B : Nat} {xs : List α} {a : Addr} {cap : Nat} (hn : 0 < Rep.n α) (h : Rep.is w B xs [.slice (some a) xs.length cap]) : ∃ flat, Flat w B xs flat ∧ ∀ j u, flat[j]? = some u → w.cell? (a.add j) = some u := by
 obtain ⟨A, cap', hv, h1, h2, h3, h4, h5⟩ := h
 simp only [List.cons.injEq, Value.slice.injEq, and_true, true_and] at hv
 obtain ⟨rfl, _⟩ := hv
 cases xs with
 | nil => exact ⟨[], rfl, fun j u h => by simp at h⟩
 | cons x xs =>
  obtain ⟨b, off, es, hA, hB, hes, hc⟩ := h5 0 (by simp)
  injection hA with hA
  subst hA
  obtain ⟨flat, hf, hg⟩ := row_flat (w := w) (B := B) (b := b) (off := off) hn (x :: xs) 0 (fun i hi => by
   obtain ⟨b', off', es', hA', _, hes', hc'⟩ := h5 i hi
   injection hA' with hA'
   injection hA' with e1 e2
   subst e1
   subst e2
   exact ⟨es', hes', fun j hj => by rw [Nat.zero_add]; exact hc' j hj⟩)
  refine ⟨flat, hf, fun j u hu => ?_⟩
  have := hg j u hu
  rw [Nat.zero_mul, Nat.add_zero] at this
  rw [addr_add1]
  exact this

/-- an empty row that was just made -/
theorem Own.made0 {α : Type} [Rep α] (w : World) (base : Nat) (e : TypeId) (hb : base ≤ w.heap.size) : Own (α := α) (w.alloc (.cells #[] e)) base e (.slice (some ⟨w.heap.size, 0, none⟩) 0 0) [] := by
 refine ⟨[], ⟨by simp, .inr ⟨w.heap.size, 0, #[], rfl, hb, ?_, Nat.le_refl _, Nat.zero_le _, by simp, by simp⟩⟩, rfl⟩
 show (w.heap.push _)[w.heap.size]? = _
 simp


/-- the cells of a new block -/
theorem cells_new (w : World) (cs : List Value) (e : TypeId) {n : Nat} (hn : w.heap.size = n) : ∀ j u, cs[j]? = some u → (w.alloc (.cells cs.toArray e)).cell? ((⟨n, 0, none⟩ : Addr).add j) = some u := by
 intro j u h
 subst hn
 rw [addr_add1, Nat.zero_add, World.cell?_alloc_new]
 simpa using h


/-- an owned row that is not empty, opened -/
theorem Own.opened {α : Type} [Rep α] {w : World} {base : Nat} {e : TypeId} {v : Value} {xs : List α} (h : Own w base e v xs) (hne : 0 < xs.length) :
  ∃ g cap, v = .slice (some ⟨g, 0, none⟩) xs.length cap ∧ xs.length ≤ cap ∧ cap ≤ maxLen ∧ base ≤ g ∧ g < w.heap.size ∧
   ∀ i (_ : i < xs.length), ∃ es, Rep.is w w.heap.size xs[i] es ∧ ∀ j, j < Rep.n α → w.cell? ⟨g, i * Rep.n α + j, none⟩ = es[j]? := by
 have h' := h
 obtain ⟨flat, ⟨hl, hr⟩, hf⟩ := h
 rcases hr with ⟨rfl, h0⟩ | ⟨g, cap, cur, rfl, hbg, hg, hnc, hcm, hcs, htake⟩
 ·omega
 ·have hlt := (h'.ltB g rfl).2
  refine ⟨g, cap, rfl, hnc, hcm, hbg, hlt, fun i hi => ⟨_, hf.get i hi, fun j hj => ?_⟩⟩
  have hn : i * Rep.n α + j < xs.length * Rep.n α := by
   have : (i + 1) * Rep.n α ≤ xs.length * Rep.n α := Nat.mul_le_mul_right _ hi
   rw [Nat.add_mul, Nat.one_mul] at this
   omega
  rw [List.getElem?_take_of_lt hj, List.getElem?_drop, ← htake, List.getElem?_take_of_lt hn]
  simp [World.cell?, hg, Array.getElem?_toList]

/-- the first k elements of an owned row read as data -/
theorem Own.take_is {α : Type} [Rep α] {w : World} {base : Nat} {e : TypeId} {g cap : Nat} {xs : List α} (h : Own w base e (.slice (some ⟨g, 0, none⟩) xs.length cap) xs) (k : Nat) (hk : k ≤ xs.length) (hz : xs.length * Rep.bytes α ≤ reach) :
  Rep.is w w.heap.size (xs.take k) [.slice (some ⟨g, 0, none⟩) k cap] := by
 obtain ⟨A, cap', hv, h1, h2, h3, h4, h5⟩ := h.is hz
 simp only [List.cons.injEq, Value.slice.injEq, and_true, true_and] at hv
 obtain ⟨rfl, rfl⟩ := hv
 have hl : (xs.take k).length = k := by rw [List.length_take]; omega
 refine ⟨_, cap, by rw [hl], by omega, h2, ?_, (fun h => by cases h), fun i hi => ?_⟩
 ·rw [hl]; exact Nat.le_trans (Nat.mul_le_mul_right _ hk) h3
 ·have hi' : i < xs.length := by omega
  obtain ⟨b, off, es, hA, hB, hes, hc⟩ := h5 i hi'
  exact ⟨b, off, es, hA, hB, by rw [List.getElem_take]; exact hes, hc⟩

theorem retV {a b : Value} (h : a = b) : Ending.returned a = .returned b := by rw [h]
/-- the length in a slot -/
def lenOf : Value → Nat | .slice _ n _ => n | _ => 0

end Go.Rp
