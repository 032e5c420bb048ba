/- Slices that a call has made: an owned row whose elements read as data. -/
import Derived.Test.YtfdhaigfonolpaaRep
namespace Go.Rp
open Go.RowKit
section
variable {α : Type} [Rep α] {w w' : World} {B B' : Nat}
class FlatRep (α : Type) [Rep α] : Prop where
 any : ∀ {w w' : World} {B B' : Nat} {a : α} {cs : List Value}, Rep.is w B a cs → Rep.is w' B' a cs
instance : FlatRep Int := ⟨fun h => h⟩
instance : FlatRep Bool := ⟨fun h => h⟩
instance : FlatRep ByteArray := ⟨fun h => h⟩
instance : FlatRep UInt8 := ⟨fun h => h⟩
class FlatFlds (α : Type) [Flds α] : Prop where
 any : ∀ {w w' : World} {B B' : Nat} {a : α} {cs : List Value}, Flds.is w B a cs → Flds.is w' B' a cs
instance : FlatFlds Unit := ⟨fun h => h⟩
instance {α β : Type} [Rep α] [FlatRep α] [Flds β] [FlatFlds β] : FlatFlds (α × β) := ⟨fun h => by
 obtain ⟨c1, c2, rfl, h1, h2⟩ := h
 exact ⟨c1, c2, rfl, FlatRep.any h1, FlatFlds.any h2⟩⟩
instance {α : Type} [Flds α] [FlatFlds α] : FlatRep (St α) := ⟨fun h => FlatFlds.any (α := α) h⟩
end
section
variable {P : Program} (w : World)
def Enters (P : Program) (g : FuncId) : Prop := ∀ (args : Array Value) (w : World), (callFunc g args).run P w = .ok (.enter g args) w
theorem enters_of {g : FuncId} {fn : Func} {c : Code} (hf : P.funcs[g]? = some fn) (hname : (fn.name == "runtime.NumGoroutine") = false) (hb : fn.body = some c) : Enters P g := by
 intro args w
 have h1 : fn.name ≠ "runtime.NumGoroutine" := by simpa using hname
 simp [callFunc, hf, h1, hb]
end
def splice (l : List Value) (o : Nat) (vs : List Value) : List Value := l.take o ++ vs ++ l.drop (o + vs.length)
theorem splice_nil (l : List Value) (o : Nat) : splice l o [] = l := by unfold splice; simp
theorem splice_cons {l : List Value} {o : Nat} {v : Value} {vs : List Value} (h : o + vs.length < l.length) : splice (l.set o v) (o + 1) vs = splice l o (v :: vs) := by
 unfold splice
 apply List.ext_getElem?
 intro j
 simp only [List.getElem?_append, List.length_append, List.length_take, List.length_set, List.getElem?_take, List.getElem?_set, List.getElem?_drop, List.length_cons]
 have e1 : min (o + 1) l.length = o + 1 := by omega
 have e2 : min o l.length = o := by omega
 rw [e1, e2]
 by_cases h1 : j < o
 ·simp [show j < o + 1 by omega, h1, show j < o + 1 + vs.length by omega, show j < o + (vs.length + 1) by omega, show ¬ o = j by omega]
 ·by_cases h2 : j = o
  ·subst h2
   simp [show j < j + 1 + vs.length by omega, show j < j + (vs.length + 1) by omega, show j < l.length by omega]
  ·by_cases h3 : j < o + (vs.length + 1)
   ·simp only [h3, show j < o + 1 + vs.length by omega, show ¬ j < o + 1 by omega, h1, if_true, if_false]
    rw [show j - o = (j - (o + 1)) + 1 by omega, List.getElem?_cons_succ]
   ·simp only [h3, show ¬ j < o + 1 + vs.length by omega, if_false]
    rw [if_neg (by omega)]
    congr 1
    omega
theorem heap_setCells {g : Nat} {e : TypeId} {fr : Nat × Nat} : ∀ {vs : List Value} {o : Nat} {w : World} {cur : Array Value}, w.heap[g]? = some (.cells cur e fr) → o + vs.length ≤ cur.size →
  (w.setCells g o vs).heap[g]? = some (.cells (splice cur.toList o vs).toArray e fr)
 | [], o, w, cur, h, _ => by
  rw [splice_nil]
  simpa [World.setCells] using h
 | v :: vs, o, w, cur, h, hl => by
  have h1 := heap_setCell_at (i := o) h v
  have h2 := heap_setCells (vs := vs) (o := o + 1) h1 (by simp at hl ⊢; omega)
  unfold World.setCells
  rw [h2, show (cur.setIfInBounds o v).toList = cur.toList.set o v by simp, splice_cons (by simp at hl ⊢; omega)]
theorem run_clear_row {P : Program} (w : World) (t ty e : TypeId) (z : Value) (g o n c : Nat) (cur : Array Value) (ht : P.underlying t = some (.slice e)) (hz : ∀ w, (zeroValue e).run P w = .ok z w) (hn : n ≠ 0)
  (hg : w.heap[g]? = some (.cells cur e (0, 0))) (hl : o + (Builtin.zeroCells z.cells n).size ≤ cur.size) (h1 : ∀ v ∈ (Builtin.zeroCells z.cells n).toList, v.oneCell' = true) :
  (Builtin.clear_ #[t] ty #[.slice (some ⟨g, o, none⟩) n c]).run P w = .ok (.tuple #[]) (w.setRow g (splice cur.toList o (Builtin.zeroCells z.cells n).toList).toArray) := by
 have hs := run_storeCells_at (P := P) g o e (Builtin.zeroCells z.cells n).toList 0 cur w hg (by simpa using hl) h1
 simp only [Nat.add_zero] at hs
 obtain ⟨m, rfl⟩ := Nat.exists_eq_succ_of_ne_zero hn
 simp [Builtin.clear_, run_underlying ht, hz, hs, splice]
theorem grownBy_setRow (w : World) (g : Nat) (c : Array Value) : w.grownBy (w.setRow g c) (some g) :=
 ⟨rfl, rfl, rfl, by simp, fun k _ hk => setRow_other w g k _ (fun e => hk (by rw [e]))⟩
theorem grownBy_setCell {w : World} {g o : Nat} {v : Value} : w.grownBy (w.setCell ⟨g, o, none⟩ v) (some g) :=
 ⟨rfl, rfl, rfl, by simp [World.setCell], fun k _ hk => Below.heap_setCell _ _ _ _ (fun e => hk (by rw [e]))⟩
theorem grownBy_trans {a b c : World} {row : Option Nat} (h : a.grownBy b row) (k : b.grownBy c row) : a.grownBy c row :=
 ⟨k.os.trans h.os, k.tape.trans h.tape, k.output.trans h.output, Nat.le_trans h.size k.size, fun i hi hr => (k.block i (Nat.lt_of_lt_of_le hi h.size) hr).trans (h.block i hi hr)⟩
theorem grownBy_refl (a : World) (row : Option Nat) : a.grownBy a row := ⟨rfl, rfl, rfl, Nat.le_refl _, fun _ _ _ => rfl⟩
theorem grownBy_setCells {g : Nat} : ∀ {vs : List Value} {o : Nat} {w : World}, w.grownBy (w.setCells g o vs) (some g)
 | [], _, w => grownBy_refl w _
 | v :: vs, o, _w => grownBy_trans (grownBy_setCell (o := o) (v := v)) (grownBy_setCells (vs := vs) (o := o + 1))
def lenOf : Value → Nat | .slice _ n _ => n | _ => 0
end Go.Rp
