/- Functional programs: copy into an own row, remainders of uint64, cases of optional objects. Functional programs: zeros appended to an own row. The abstract machine: ranges over slices.Backward's function. The abstract machine: the rule of a range over slices.Backward's function. The abstract machine: calls that look at own rows and hand back rows of literals. The abstract machine: the library's sorts on own rows (the kit's contracts, as contracts of functions that are lent a row). The abstract machine: slices.SortFunc on an own row (the kit's contract, as a contract of a function that is lent a row). The abstract machine: appends to a row whose first elements have been cut off; loops whose state hides how the row lies. The abstract machine: drawn regions whose first operations only look and call, and whose effects stand at the end. Functional programs: errors as truth values; contracts of the library's functions. The abstract machine: maps: their length. The abstract machine: functions that hand back a map of their own (maps.Clone); two calls at once (slices.Sorted(maps.Keys(m))). -/
import Derived.Test.YtdiekinmoklonacA2
import Derived.Laws.CopyRow
import Derived.Laws.IdiomCopy
import Derived.Lib.AppendZerosOnto
import Derived.RangeFuncSeq
import Derived.RangeFuncBox
import Derived.RangeFuncLeaves
import Derived.Shelf.Abstract
import Derived.WalkKit
import Derived.OwnWalkIn
import Derived.TacticsInMore
import Derived.LoopNIn
import Derived.LoopIn
import Derived.Shelf.Sort.Plain
import Derived.Shelf.Slices.In.SortNone
import Derived.Shelf.SlSortCmp.NoneTotal
import Derived.Sort.KeysCollected
import Derived.Maps.Own
section
namespace Go.Ab
open Go.RowKit

/-- an object or none -/
def ocase {α β : Type} (o : Option α) (a : Option β) (b : α → Option β) : Option β := match o with
 | none => a
 | some x => b x
theorem osome {α β : Type} {o : Option α} {a : Option β} {b : α → Option β} {r : β} (h : ocase o a b = some r) : (o = none ∧ a = some r) ∨ ∃ x, o = some x ∧ b x = some r := by
 cases o with
 | none => exact .inl ⟨rfl, h⟩
 | some x => exact .inr ⟨x, rfl, h⟩

theorem frz1_ite {id : Nat} {es : List (List D)} {c : Prop} [Decidable c] {a b : V} : V.frz1 id es (if c then a else b) = if c then V.frz1 id es a else V.frz1 id es b := by split <;> rfl
theorem frz_ite {id : Nat} {es : List (List D)} {c : Prop} [Decidable c] {a b : V} : V.frz id es (if c then a else b) = if c then V.frz id es a else V.frz id es b := by split <;> rfl
end Go.Ab
end
section
namespace Go.Ab
open Go.RowKit

def natZ (i : Int) : Option Nat := if 0 ≤ i then some i.toNat else none
end Go.Ab
end
section
namespace Go.Ab
open Go.RowKit

mutual
theorem RV.relo {E E' : Env} {w : World} (hz : E'.Z = E.Z) : ∀ (c : V) (x : Value), (∀ id, c.has id = true → E'.loc id = E.loc id) → RV E w c x → RV E' w c x
 | .d x, v, _, h => by unfold RV at h ⊢; rw [hz]; exact h
 | .ref i off len, v, hh, h => by
  unfold RV at h ⊢
  rw [hh i (by simp [V.has])]
  exact h
 | .ptr i k off, v, hh, h => by
  unfold RV at h ⊢
  rw [hh i (by simp [V.has])]
  exact h
 | .mref i, v, hh, h => by
  unfold RV at h ⊢
  rw [hh i (by simp [V.has])]
  exact h
 | .agg cs, v, hh, ⟨vs, h1, h2, h3⟩ => ⟨vs, h1, h2, RVs.relo hz cs vs (fun id h => hh id (by simpa [V.has] using h)) h3⟩
 | .tup cs, v, hh, ⟨vs, h1, h2⟩ => ⟨vs, h1, RVs.relo hz cs vs (fun id h => hh id (by simpa [V.has] using h)) h2⟩
 | .fn f cs, v, hh, ⟨vs, h1, h2⟩ => ⟨vs, h1, RVs.relo hz cs vs (fun id h => hh id (by simpa [V.has] using h)) h2⟩
 | .dx es, v, _, h => by unfold RV at h ⊢; rw [hz]; exact h
 | .hole, _, _, h => h
 | .junk, _, _, _ => trivial
theorem RVs.relo {E E' : Env} {w : World} (hz : E'.Z = E.Z) : ∀ (cs : List V) (vs : List Value), (∀ id, hasL id cs = true → E'.loc id = E.loc id) → RVs E w cs vs → RVs E' w cs vs
 | [], vs, _, h => h
 | c :: cs, vs, hh, ⟨v, r, h1, h2, h3⟩ => ⟨v, r, h1, RV.relo hz c v (fun id h => hh id (by simp [hasL, h])) h2, RVs.relo hz cs r (fun id h => hh id (by simp [hasL, h])) h3⟩
end

/-- a block that is no one's -/
def Free (H : Heap) (E : Env) (D : Nat) : Prop := (∀ i, H i ≠ none → (E.loc i).nil = false → (E.loc i).b ≠ D) ∧ ¬ E.Z D
def Env.more (E : Env) (Z : Nat → Prop) : Env := ⟨E.loc, fun b => E.Z b ∨ Z b⟩

/-- a frame that begins here -/
def Fx.now (W : World) (E : Env) (H : Heap) (roots : List (Nat × Loc)) (d : List Deferred) (ro : Option Nat) (h : ∀ l, ro = some l → Free H E l ∧ ∃ r, W.heap[l]? = some (.loop r)) (g : GO E H W) : Fx :=
 ⟨W, E.Z, lof E H, roots, d, ro, fun l e => by
  obtain ⟨⟨h1, h2⟩, r, h3⟩ := h l e
  exact ⟨(Array.getElem?_eq_some_iff.1 h3).1, fun ⟨i, a, b, c⟩ => h1 i a b c, h2, r, h3⟩, g.gw, g.own⟩

theorem Mod.now {fx : Fx} {S : St} {E : Env} {a : Act} {W : World} (m : Mod fx S E a W) (roots : List (Nat × Loc)) (d : List Deferred) (ro : Option Nat) (h : ∀ l, ro = some l → Free S.hp E l ∧ ∃ r, W.heap[l]? = some (.loop r))
  (hr : ∀ r ∈ roots, r.1 ∈ S.rts ∧ E.loc r.1 = r.2) : Mod (Fx.now W E S.hp roots d ro h m.go) S E { a with defers := d } W :=
 ⟨m.nt, m.slots, rfl, m.ok, ⟨rfl, rfl, rfl, Nat.le_refl _, fun _ _ _ => rfl⟩, fun i hi hn => .inr ⟨i, hi, hn, rfl⟩, fun _ h => .inl h, hr⟩

/-- what happened since W left the loop's frame as it must be -/
structure Since (W : World) (E : Env) (H : Heap) (lp : Nat) (W3 : World) (E3 : Env) (H3 : Heap) : Prop where
 os : W3.os = W.os
 tape : W3.tape = W.tape
 output : W3.output = W.output
 size : W.heap.size ≤ W3.heap.size
 block : ∀ b, b < W.heap.size → ¬ lof E H b → b ≠ lp → W3.heap[b]? = W.heap[b]?
 mine : ∀ i, H3 i ≠ none → (E3.loc i).nil = false → W.heap.size ≤ (E3.loc i).b ∨ lof E H (E3.loc i).b
 z : ∀ b, E3.Z b → E.Z b ∨ W.heap.size ≤ b ∨ lof E H b

theorem Mod.resume {fx : Fx} {nt : Nat} {rts : List Nat} {sl : Nat → V} {H : Heap} {E : Env} {a : Act} {W : World} (m : Mod fx ⟨nt, rts, sl, H⟩ E a W) {lp : Nat} (hlp : fx.w0.heap.size ≤ lp) (hlf : Free H E lp)
  {fx3 : Fx} {S3 : St} {E3 : Env} {a3 : Act} {W3 : World} (m3 : Mod fx3 S3 E3 a3 W3) (s : Since W E H lp W3 E3 S3.hp) (hids : ∀ t id, (sl t).has id = true → E3.loc id = E.loc id) (hroots : ∀ r ∈ fx.roots, E3.loc r.1 = E.loc r.1) :
  Mod fx ⟨nt, rts, sl, S3.hp⟩ (E3.more E.Z) a W3 := by
 have hk : Keeps E.Z W W3 := fun b hb => s.block b (m.ok.zlt b hb) (fun ⟨i, hi, hn, e⟩ => m.ok.apart i hi hn (e ▸ hb)) (fun e => hlf.2 (e ▸ hb))
 refine ⟨m.nt, fun t => ?_, m.dfr, ⟨fun id k hh => ?_, m3.ok.inj, fun i hi hn h => ?_, fun b hb => ?_⟩, ⟨s.os.trans m.frame.os, s.tape.trans m.frame.tape, s.output.trans m.frame.output, Nat.le_trans m.frame.size s.size, fun b h1 h2 => ?_⟩, fun i hi hn => ?_, fun b hb => ?_, fun r hr => ?_⟩
 ·have h1 : RV ⟨E.loc, (E3.more E.Z).Z⟩ W3 (sl t) (a.tmps.getD t undef) := RV.keep (E := E) (E' := ⟨E.loc, (E3.more E.Z).Z⟩) hk (fun b h => Or.inr h) rfl _ _ (m.slots t)
  exact RV.relo (E := ⟨E.loc, (E3.more E.Z).Z⟩) (E' := E3.more E.Z) rfl _ _ (fun id h => hids t id h) h1
 ·exact (m3.ok.hold id k hh).keep (E' := E3.more E.Z) (fun _ _ => rfl) (fun _ h => .inl h) rfl (fun _ => rfl) (Nat.le_refl _)
 ·rcases h with h | h
  ·exact m3.ok.apart i hi hn h
  ·rcases s.mine i hi hn with g | ⟨j, g1, g2, g3⟩
   ·exact absurd (m.ok.zlt _ h) (by simp only [Env.more] at *; omega)
   ·exact m.ok.apart j g1 g2 (by rw [g3]; exact h)
 ·rcases hb with h | h
  ·exact m3.ok.zlt b h
  ·exact Nat.lt_of_lt_of_le (m.ok.zlt b h) s.size
 ·have hs := m.frame.size
  refine (s.block b (by omega) (fun ⟨i, hi, hn, e⟩ => ?_) (by omega)).trans (m.frame.block b h1 h2)
  rcases m.mine i hi hn with g | g
  ·omega
  ·exact h2 (e ▸ g)
 ·have hs := m.frame.size
  rcases s.mine i hi hn with g | ⟨j, g1, g2, g3⟩
  ·exact .inl (by simp only [Env.more] at *; omega)
  ·show _ ∨ fx.L (E3.loc i).b
   rw [← g3]
   have := m.mine j g1 g2
   rcases this with g | g
   ·left; show fx.w0.heap.size ≤ (E3.loc i).b; rw [← g3]; exact g
   ·exact .inr g
 ·have hs := m.frame.size
  have hL : ∀ b, lof E H b → fx.w0.heap.size ≤ b ∨ fx.L b := fun b ⟨i, hi, hn, e⟩ => by subst e; exact m.mine i hi hn
  rcases hb with h | h
  ·rcases s.z b h with h | h | h
   ·exact m.z b h
   ·exact .inr (.inl (by omega))
   ·exact .inr (hL b h)
  ·exact m.z b h
 ·exact ⟨(m.roots r hr).1, (hroots r hr).trans (m.roots r hr).2⟩

theorem Since.free {W : World} {E : Env} {H : Heap} {lp : Nat} {W3 : World} {E3 : Env} {H3 : Heap} (s : Since W E H lp W3 E3 H3) {D : Nat} (hD : D < W.heap.size) (h : Free H E D) : Free H3 (E3.more E.Z) D := by
 refine ⟨fun i hi hn e => ?_, fun hz => ?_⟩
 ·have e : (E3.loc i).b = D := e
  rcases s.mine i hi hn with g | ⟨j, g1, g2, g3⟩
  ·omega
  ·exact h.1 j g1 g2 (by rw [g3]; exact e)
 ·rcases hz with hz | hz
  ·rcases s.z D hz with g | g | ⟨j, g1, g2, g3⟩
   ·exact h.2 g
   ·omega
   ·exact h.1 j g1 g2 g3
  ·exact h.2 hz

/-- turning the record at the end -/
theorem Since.turn {W : World} {E : Env} {H : Heap} {lp : Nat} {W3 : World} {E3 : Env} {H3 : Heap} (s : Since W E H lp W3 E3 H3) (o : Obj) : Since W E H lp (W3.putObj lp o) E3 H3 :=
 ⟨s.os, s.tape, s.output, by rw [World.putObj_size]; exact s.size, fun b h1 h2 h3 => (World.putObj_heap_other h3).trans (s.block b h1 h2 h3), s.mine, s.z⟩

theorem Mod.since {fx : Fx} {S : St} {E : Env} {a : Act} {W : World} (m : Mod fx S E a W) {W0 : World} {E0 : Env} {H0 : Heap} (lp : Nat) (h1 : ∃ o, fx.w0 = W0.putObj lp o) (h2 : fx.L = lof E0 H0) (h3 : fx.Z0 = E0.Z) : Since W0 E0 H0 lp W E S.hp := by
 obtain ⟨o, h1⟩ := h1
 have f := m.frame
 have mi := m.mine
 have mz := m.z
 rw [h1, h2] at mi
 rw [h1, h2, h3] at mz
 have hs : fx.w0.heap.size = W0.heap.size := by rw [h1, World.putObj_size]
 refine ⟨by rw [f.os, h1]; rfl, by rw [f.tape, h1]; rfl, by rw [f.output, h1]; rfl, by rw [← hs]; exact f.size, fun b hb hl hp => ?_, fun i hi hn => ?_, fun b hb => ?_⟩
 ·rw [f.block b (by omega) (by rw [h2]; exact hl), h1]; exact World.putObj_heap_other hp
 ·have := mi i hi hn; rw [World.putObj_size] at this; exact this
 ·have := mz b hb; rw [World.putObj_size] at this; exact this

theorem Mod.since0 {fx : Fx} {S : St} {E : Env} {a : Act} {W : World} (m : Mod fx S E a W) {W0 : World} {E0 : Env} {H0 : Heap} (lp : Nat) (h1 : fx.w0 = W0) (h2 : fx.L = lof E0 H0) (h3 : fx.Z0 = E0.Z) : Since W0 E0 H0 lp W E S.hp := by
 subst h1
 have f := m.frame
 have mi := m.mine
 have mz := m.z
 rw [h2] at mi
 rw [h2, h3] at mz
 exact ⟨f.os, f.tape, f.output, f.size, fun b hb hl _ => f.block b hb (by rw [h2]; exact hl), mi, mz⟩

theorem Free.less {H : Heap} {E : Env} {Z : Nat → Prop} {D : Nat} (h : Free H (E.more Z) D) : Free H E D := ⟨h.1, fun g => h.2 (.inl g)⟩
theorem Free.not {H : Heap} {E : Env} {D : Nat} (h : Free H E D) : ¬ lof E H D := fun ⟨i, a, b, c⟩ => h.1 i a b c

/-- a frame that begins with the turn of a free block -/
theorem Mod.fresh {fx : Fx} {S : St} {E : Env} {a : Act} {W : World} (m : Mod fx S E a W) {D : Nat} (hf : Free S.hp E D) (hD : gN ≤ D) (o : Obj) (roots : List (Nat × Loc)) (ro : Option Nat) (h : ∀ l, ro = some l → Free S.hp E l ∧ ∃ r, (W.putObj D o).heap[l]? = some (.loop r))
  (hr : ∀ r ∈ roots, r.1 ∈ S.rts ∧ E.loc r.1 = r.2) : Mod (Fx.now (W.putObj D o) E S.hp roots a.defers ro h ⟨m.go.gw.keep (fun b hb => World.putObj_heap_other (Nat.ne_of_lt (Nat.lt_of_lt_of_le hb hD))) (by rw [World.putObj_size]; exact Nat.le_refl _), m.go.own⟩) S E a (W.putObj D o) := by
 have hk : Keeps E.Z W (W.putObj D o) := fun b hb => World.putObj_heap_other (fun e => hf.2 (e ▸ hb))
 refine ⟨m.nt, fun t => RV.keep hk (fun _ h => h) rfl _ _ (m.slots t), rfl, ⟨fun id k hh => ?_, m.ok.inj, m.ok.apart, fun b hb => by rw [World.putObj_size]; exact m.ok.zlt b hb⟩, ⟨rfl, rfl, rfl, Nat.le_refl _, fun _ _ _ => rfl⟩, fun i hi hn => .inr ⟨i, hi, hn, rfl⟩, fun _ h => .inl h, hr⟩
 exact (m.ok.hold id k hh).keep hk (fun _ h => h) rfl (fun hn => World.putObj_heap_other (hf.1 id (by rw [hh]; simp) hn)) (by rw [World.putObj_size]; exact Nat.le_refl _)

theorem Since.trans {W1 W2 W3 : World} {E1 E2 E3 : Env} {H1 H2 H3 : Heap} {lp : Nat} (x : Since W1 E1 H1 lp W2 E2 H2) (y : Since W2 E2 H2 lp W3 E3 H3) : Since W1 E1 H1 lp W3 E3 H3 := by
 have hL : ∀ b, lof E2 H2 b → W1.heap.size ≤ b ∨ lof E1 H1 b := fun b ⟨i, hi, hn, e⟩ => by subst e; exact x.mine i hi hn
 have hs := x.size
 refine ⟨y.os.trans x.os, y.tape.trans x.tape, y.output.trans x.output, Nat.le_trans x.size y.size, fun b h1 h2 h3 => ?_, fun i hi hn => ?_, fun b hb => ?_⟩
 ·refine (y.block b (by omega) (fun h => ?_) h3).trans (x.block b h1 h2 h3)
  rcases hL b h with h | h
  ·omega
  ·exact h2 h
 ·rcases y.mine i hi hn with h | h
  ·exact .inl (by omega)
  ·exact hL _ h
 ·rcases y.z b hb with h | h | h
  ·exact x.z b h
  ·exact .inr (.inl (by omega))
  ·exact .inr (hL _ h)
end Go.Ab
end
section
namespace Go.Ab
open Go.RowKit

def rangeL {α β ρ : Type} (step : α → β → Option (Out β ρ)) : List α → β → Option (Out β ρ)
 | [], b => some (.go b)
 | x :: xs, b => match step x b with
  | some (.go b') => rangeL step xs b'
  | some (.ret r) => some (.ret r)
  | none => none

def elemV : List D → V
 | [c] => .d c
 | cs => .agg (cs.map .d)
def elemW : List Value → Value
 | [v] => v
 | vs => .agg vs.toArray
theorem elemV_sound {E : Env} {w : World} : ∀ {cs : List D} {vs : List Value}, RDs w E.Z cs vs → RV E w (elemV cs) (elemW vs)
 | [], vs, h => by
  obtain rfl : vs = [] := h
  exact ⟨[], rfl, fun c h => by simp at h, rfl⟩
 | [c], vs, h => by
  obtain ⟨v, r, rfl, h1, h2⟩ := h
  obtain rfl : r = [] := h2
  exact h1
 | c :: d :: cs, vs, h => by
  have h' := RVs_d.2 h
  obtain ⟨v, r, rfl, h1, v', r', rfl, h2, h3⟩ := h
  exact ⟨_, rfl, fun c h => by obtain ⟨x, _, rfl⟩ := List.mem_map.1 h; rfl, h'⟩

@[simp] theorem elemV_one (c : D) : elemV [c] = .d c := rfl
@[simp] theorem elemV_two (c d : D) (cs : List D) : elemV (c :: d :: cs) = .agg ((c :: d :: cs).map .d) := rfl

attribute [simp] V.wk1 D.wk

structure SrcOk (H : Heap) (src : V) (es : List (List D)) (m : Nat) : Prop where
 len : ∀ (E : Env) (w : World) (u : Value), E.ok H w → RV E w src u → es.length ≤ maxLen ∧ ∃ A cap, u = .slice A es.length cap
 get : ∀ (E : Env) (w : World) (u : Value), E.ok H w → RV E w src u → ∀ (j : Nat) (e : List D), es[j]? = some e → ∃ b off cap vs, u = .slice (some ⟨b, off, none⟩) es.length cap ∧ RDs w E.Z e vs ∧ w.rangeAt b (off + j * m) vs
theorem SrcOk.of {H : Heap} {src : V} {es : List (List D)} {m : Nat} (hl : lenV src = some es.length) (h1 : ∀ (E : Env) (w : World) (u : Value), E.ok H w → RV E w src u → es.length ≤ maxLen) (h2 : ∀ (j : Nat) (e : List D), es[j]? = some e → ∃ r, idxS H src (j : Int) m = some r ∧ cellsAt H r = some (e.map .d)) : SrcOk H src es m :=
 ⟨fun E w u ok h => ⟨h1 E w u ok h, lenV_sound h hl⟩, fun E w u ok h j e he => by
  obtain ⟨A, cap, hu⟩ := lenV_sound h hl
  obtain ⟨r, hr, hc⟩ := h2 j e he
  obtain ⟨b, o, len, cap', hu', _, _, hr'⟩ := idxS_sound ok h hr
  obtain ⟨b', o', vs, hp, g1, g2, _, _⟩ := cellsAt_sound ok hr' hc
  rw [hu] at hu'
  injection hu' with e1 e2 e3
  injection hp with hp
  injection hp with hp
  injection hp with q1 q2
  refine ⟨b, o, cap, vs, by rw [hu, e1], RVs_d.1 g1, ?_⟩
  rw [← q1, ← q2] at g2
  simpa using g2⟩
theorem SrcOk.data {H : Heap} {es : List (List D)} {m : Nat} (hm : ∀ e ∈ es, e.length = m) : SrcOk H (.d (.sl es)) es m :=
 SrcOk.of rfl (fun E w u ok h => by obtain ⟨A, cap, _, h1, h2, _⟩ := h; omega) fun j e he => ⟨.d (.pim e), by simp [idxS, he, hm e (List.mem_of_getElem? he)], rfl⟩
theorem SrcOk.own {H : Heap} {es : List (List D)} {m id T : Nat} (h : H id = some (.arr T m es)) : SrcOk H (.ref id 0 es.length) es m :=
 SrcOk.of rfl (fun E w u ok _ => by
  obtain ⟨_, _, _, _, h5⟩ := ok.hold _ _ h
  rcases h5 with ⟨_, h6⟩ | ⟨_, c, flat, _, h7, h8, _⟩
  ·rw [h6]; exact Nat.zero_le _
  ·omega) fun j e he => ⟨.ptr id j 0, by simp [idxS, h, (List.getElem?_eq_some_iff.1 he).1], by simp [cellsAt, h, he]⟩

/-- what the iterator hands over in round k: the elements from the last to the first -/
def BackArg (m : Nat) (p : Addr) (N k : Nat) (W : World) (args : Array Value) : Prop :=
 ∃ b off cap vs, W.cell? p = some (.slice (some ⟨b, off, none⟩) N cap) ∧ W.rangeAt b (off + (N - 1 - k) * m) vs ∧ vs.length = m ∧ args = #[.int .i64 ((N - 1 - k : Nat) : Int), elemW vs]
def BackC (P : Program) (gf m : Nat) : Prop :=
 ∀ (pb po l N : Nat) (J : Nat → World → Prop) (Jx : World → Prop) (W : World), N ≤ maxLen →
  (∀ k W, k ≤ N → J k W → ∃ A cap, W.cell? ⟨pb, po, none⟩ = some (.slice A N cap)) →
  (∀ k W, k < N → J k W → ∃ args, BackArg m ⟨pb, po, none⟩ N k W args ∧ YieldAt Fence.wide 6 P l args W fun e W' => (e = .returned (.bool true) ∧ J (k + 1) W') ∨ (e = .returned (.bool false) ∧ Jx W')) →
  J 0 W → CallsIn Fence.wide 7 P gf #[.func (.yield l) #[] #[], .pointer (some ⟨pb, po, none⟩)] W fun e W' => (∃ v, e = .returned v) ∧ (J N W' ∨ Jx W')

theorem callsIn_rd {ro : Option Nat} {n k : Nat} {P : Program} {f : FuncId} {args : Array Value} {w : World} {R : Ending → World → Prop} (h : CallsIn Fence.wide n P f args w R) : CallsIn (Rd ro) k P f args w R := rd_calls (callsIn_wide.1 h)
theorem wpIn_any {ro : Option Nat} {n k : Nat} {P : Program} {c : Code} {Q : Exit → Act → World → Prop} {a : Act} {w : World} (h : c.wpIn (Rd ro) n P Q a w) : c.wpIn (Rd ro) k P Q a w := fun b kk cs h1 h2 _ => h b kk cs h1 h2 (fun _ hd => by cases hd)

theorem run_enterLoop_inner {P : Program} {w : World} {l0 : Nat} {r0 : Loop} (h : w.heap[l0]? = some (.loop r0)) (fn : FuncId) (tmps : Array Value) (ps : Array Tmp) (assign body : Code) :
  (Instr.enterLoop fn tmps ps assign body (some l0)).run P w = .ok (w.heap.size, []) (w.alloc (.loop { state := .ready, pending := none, fn, tmps, params := ps, assign, body, defers := r0.defers })) := by
 unfold Instr.enterLoop
 simp only [Sem.run_bind, run_getLoop h, run_newObj_alloc, Result.andThen, Sem.run_pure]

theorem grow_alloc (w : World) (o : Obj) : Grow w (w.alloc o) := ⟨rfl, rfl, rfl, by simp, fun b hb => Below.heap_alloc _ _ _ hb⟩
theorem Grow.trans' {a b c : World} (h : Grow a b) (k : Grow b c) : Grow a c := ⟨k.os.trans h.os, k.tape.trans h.tape, k.output.trans h.output, Nat.le_trans h.size k.size, fun i hi => (k.block i (Nat.lt_of_lt_of_le hi h.size)).trans (h.block i hi)⟩

theorem enter_any {P : Program} {w : World} {ro : Option Nat} (h : ∀ l, ro = some l → ∃ r, w.heap[l]? = some (.loop r)) (fn : FuncId) (tmps : Array Value) (ps : Array Tmp) (assign body : Code) :
  ∃ (lp D : Nat) (ms : List Nat) (W1 : World), (Instr.enterLoop fn tmps ps assign body ro).run P w = .ok (lp, ms.map coll) W1 ∧ W1.heap[lp]? = some (.loop { state := .ready, pending := none, fn, tmps, params := ps, assign, body, defers := D }) ∧ Grow w W1 ∧ w.heap.size ≤ lp ∧ ms.Nodup ∧
   ∀ d ∈ ms, w.heap.size ≤ d ∧ d ≠ lp ∧ W1.heap[d]? = some (.deferred (some [])) := by
 cases ro with
 | none =>
  refine ⟨_, w.heap.size, [w.heap.size], _, run_enterLoop_outer fn tmps ps assign body, ?_, (grow_alloc _ _).trans' (grow_alloc _ _), by omega, by simp, fun d hd => ?_⟩
  ·have := World.alloc_heap_new (w.alloc (.deferred (some []))) (.loop { state := .ready, pending := none, fn, tmps, params := ps, assign, body, defers := w.heap.size })
   rwa [World.size_alloc] at this
  ·obtain rfl : d = w.heap.size := by simpa using hd
   exact ⟨Nat.le_refl _, by omega, (Below.heap_alloc _ _ _ (by simp)).trans (World.alloc_heap_new w _)⟩
 | some l0 =>
  obtain ⟨r0, h0⟩ := h l0 rfl
  exact ⟨_, r0.defers, [], _, run_enterLoop_inner h0 fn tmps ps assign body, World.alloc_heap_new w _, grow_alloc _ _, Nat.le_refl _, List.nodup_nil, fun d hd => by cases hd⟩

def jumpOf : Exit → Option Code
 | .ret => some .ret
 | .exit id => some (.exit id)
 | .goto t => some (.goto t)
 | _ => none

def PostR {β ρ : Type} (nt : Nat) (rts rts' : List Nat) (l : List (Nat × V)) (Hst : β → List (Nat × Option Blk)) (r : ρ) (Q : Exit → St → Prop) : Out β ρ → Exit → St → Prop
 | .go b, e, S => e = .normal ∧ Sub S (mk nt rts' [] (Hst b))
 | .ret r', e, S => jumpOf e ≠ none ∧ ∃ h', Sub S (mk nt rts' [] h') ∧ (r' = r → Q e (mk nt rts l h'))

theorem tlook_has {id : Nat} : ∀ {l : List (Nat × V)} {t : Nat}, (tlook l t).has id = true → ∃ p ∈ l, p.2.has id = true
 | [], _, h => by simp [tlook, V.has] at h
 | (k, v) :: l, t, h => by
  simp only [tlook] at h
  split at h
  ·exact ⟨_, List.mem_cons_self .., h⟩
  ·obtain ⟨p, h1, h2⟩ := tlook_has h
   exact ⟨p, List.mem_cons_of_mem _ h1, h2⟩

theorem Free.grow {H : Heap} {E : Env} {w : World} (ok : E.ok H w) {D : Nat} (h : w.heap.size ≤ D) : Free H E D :=
 ⟨fun i hi hn e => by
  cases hh : H i with
  | none => exact hi hh
  | some k =>
   have := (ok.hold i k hh).block_lt hn
   omega, fun hz => by have := ok.zlt D hz; omega⟩

theorem rangeL_drop {α β ρ : Type} {step : α → β → Option (Out β ρ)} {xs : List α} {k : Nat} {x : α} {b : β} {o : Out β ρ} (hx : xs[k]? = some x) (h : rangeL step (xs.drop k) b = some o) :
  (∃ b', step x b = some (.go b') ∧ rangeL step (xs.drop (k + 1)) b' = some o) ∨ ∃ r', step x b = some (.ret r') ∧ o = .ret r' := by
 obtain ⟨hlt, he⟩ := List.getElem?_eq_some_iff.1 hx
 rw [List.drop_eq_getElem_cons hlt, he] at h
 simp only [rangeL] at h
 split at h
 ·rename_i b' hb; exact .inl ⟨b', hb, h⟩
 ·rename_i r' hb; injection h with h; exact .inr ⟨r', hb, h.symm⟩
 ·cases h

section
variable {P : Program} {α β ρ : Type}
set_option maxHeartbeats 1000000 in
theorem AW.back {tg : Nat} {p0 p1 : Tmp} {assign body : Code} {S : St} {Q : Exit → St → Prop} {gf mz B : Nat} {src : V} {c : α → List D} {xs : List α} {step : α → β → Option (Out β ρ)} {b0 : β} {o : Out β ρ} {r : ρ} {nt : Nat} {rts : List Nat} {l : List (Nat × V)}
  (Hst : β → List (Nat × Option Blk)) (rts' : List Nat) (hC : BackC P gf mz) (hent : Rp.Enters P gf) (h0 : Sub S (mk nt rts l (Hst b0)))
  (hg : tlook l tg = .fn (.func gf) [.ptr B 0 0]) (hB : ∀ b, hlook (Hst b) B = some (.box [src])) (hsrc : ∀ b, SrcOk (hlook (Hst b)) src (xs.map c) mz) (hm : ∀ x, (c x).length = mz)
  (hrts : ∀ i ∈ rts, i ∈ rts') (hids : ∀ p ∈ l, ∀ id, p.2.has id = true → id ∈ rts')
  (hd : rangeL step xs.reverse b0 = some o)
  (round : ∀ b x o', step x b = some o' → AW P assign (((mk nt rts' l (Hst b)).put (some p0) .junk).put (some p1) (elemV (c x))) (thenQ (fun S1 => AW P body S1 (PostR nt rts rts' l Hst r Q o')) (fun _ _ => False))) :
  AW P (.rangeFunc (.tmp tg) #[p0, p1] assign body) S (PostJ (fun b => mk nt rts l (Hst b)) r Q o) := by
 intro fx a w m0
 obtain ⟨E0, m⟩ := h0 fx a w m0
 have hgv := m.ev (.tmp tg)
 rw [show (mk nt rts l (Hst b0)).ev (.tmp tg) = .fn (.func gf) [.ptr B 0 0] from hg] at hgv
 obtain ⟨vs, hval, v0, r0, rfl, hp, rfl⟩ := hgv
 obtain ⟨hBn, rfl⟩ := hp
 have hpin0 : ∀ t id, (tlook l t).has id = true → id ∈ rts' := fun t id h => by obtain ⟨p, h1, h2⟩ := tlook_has h; exact hids p h1 id h2
 refine wpIn_rangeFunc fun fn _ => ?_
 obtain ⟨lp, Dd, ms, W1, hrun, hL1, hgr, hlp, hnd, hms⟩ := enter_any (P := P) (w := w) (ro := fx.ro) (fun l0 e => by
  obtain ⟨g1, g2, _, r0, g4⟩ := fx.lrec l0 e
  exact ⟨r0, (m.frame.block l0 g1 g2).trans g4⟩) fn a.tmps #[p0, p1] assign body
 obtain ⟨rec, hrec⟩ : ∃ rec : LoopState → Option Code → Loop, rec = fun st pe => { state := st, pending := pe, fn, tmps := a.tmps, params := #[p0, p1], assign, body, defers := Dd } := ⟨_, rfl⟩
 have hL1 : W1.heap[lp]? = some (.loop (rec .ready none)) := by rw [hrec]; exact hL1
 have hlt1 : lp < W1.heap.size := (Array.getElem?_eq_some_iff.1 hL1).1
 obtain ⟨roots, hroots⟩ : ∃ roots : List (Nat × Loc), roots = rts'.map fun i => (i, E0.loc i) := ⟨_, rfl⟩
 obtain ⟨fxl, hfxl⟩ : ∃ fxl, fxl = Fx.now w E0 (hlook (Hst b0)) roots a.defers none (fun _ h => by cases h) m.go := ⟨_, rfl⟩
 have ml : Mod fxl ⟨nt, rts', tlook l, hlook (Hst b0)⟩ E0 a w := by
  subst hfxl
  exact ⟨m.nt, m.slots, rfl, m.ok, ⟨rfl, rfl, rfl, Nat.le_refl _, fun _ _ _ => rfl⟩, fun i hi hn => .inr ⟨i, hi, hn, rfl⟩, fun _ h => .inl h, fun r hr => by
   rw [show (Fx.now w E0 (hlook (Hst b0)) roots a.defers none (fun _ h => by cases h) m.go).roots = roots from rfl, hroots] at hr
   obtain ⟨i, hi, rfl⟩ := List.mem_map.1 hr
   exact ⟨hi, rfl⟩⟩
 have hw0 : fxl.w0 = w := by rw [hfxl]; rfl
 have hrr : fxl.roots = rts'.map fun i => (i, E0.loc i) := by rw [hfxl, ← hroots]; rfl
 have hgD : gN ≤ lp := Nat.le_trans m.go.gw.lt hlp
 -- where the pinned names lie
 have pin : ∀ {b : β} {h : List (Nat × Option Blk)} {E : Env} {W : World}, Mod fxl ⟨nt, rts', tlook l, hlook h⟩ E a W → ∀ i ∈ rts', E.loc i = E0.loc i := fun {b h E W} mm i hi =>
  (mm.roots (i, E0.loc i) (by rw [hrr]; exact List.mem_map.2 ⟨i, hi, rfl⟩)).2
 have hBin : B ∈ rts' := hpin0 tg B (by rw [hg]; simp [V.has, hasL])
 obtain ⟨J, hJ⟩ : ∃ J : Nat → World → Prop, J = fun k W => ∃ b E, rangeL step (xs.reverse.drop k) b = some o ∧ Mod fxl ⟨nt, rts', tlook l, hlook (Hst b)⟩ E a W ∧ W.heap[lp]? = some (.loop (rec .ready none)) ∧ (∀ d ∈ ms, W.heap[d]? = some (.deferred (some []))) ∧ (∀ d ∈ lp :: ms, Free (hlook (Hst b)) E d) := ⟨_, rfl⟩
 obtain ⟨Jx, hJx⟩ : ∃ Jx : World → Prop, Jx = fun W => ∃ e jc h' E r', jumpOf e = some jc ∧ o = .ret r' ∧ (r' = r → Q e (mk nt rts l h')) ∧ Mod fxl ⟨nt, rts', tlook l, hlook h'⟩ E a W ∧ W.heap[lp]? = some (.loop (rec .done (some jc))) ∧ (∀ d ∈ ms, W.heap[d]? = some (.deferred (some []))) ∧ (∀ d ∈ lp :: ms, Free (hlook h') E d) := ⟨_, rfl⟩
 have hm1 : ∀ d ∈ lp :: ms, w.heap.size ≤ d ∧ d < W1.heap.size := fun d hd => by
  rcases List.mem_cons.1 hd with rfl | h
  ·exact ⟨hlp, hlt1⟩
  ·obtain ⟨g1, _, g3⟩ := hms d h
   exact ⟨g1, (Array.getElem?_eq_some_iff.1 g3).1⟩
 have hJ0 : J 0 W1 := by
  rw [hJ]
  exact ⟨b0, E0, hd, ml.grow hgr, hL1, fun d hd => (hms d hd).2.2, fun d hd => Free.grow m.ok (hm1 d hd).1⟩
 -- the frame behind the loop
 have behind : ∀ (h : List (Nat × Option Blk)) (E : Env) (W : World), Mod fxl ⟨nt, rts', tlook l, hlook h⟩ E a W → (∀ d ∈ ms, W.heap[d]? = some (.deferred (some []))) → (∀ d ∈ lp :: ms, Free (hlook h) E d) →
   ∃ fx', Ext fx fx' ∧ Models fx' (mk nt rts l h) { a with defers := ms.map coll ++ a.defers } W := by
  intro h E W mm hmk hfree
  have hE : ∀ i ∈ rts', E.loc i = E0.loc i := pin (b := b0) mm
  have hLl : ∀ b, lof E0 (hlook (Hst b0)) b → fx.w0.heap.size ≤ b ∨ fx.L b := fun b ⟨i, hi, hn, e⟩ => by subst e; exact m.mine i hi hn
  have hfl : fxl.L = lof E0 (hlook (Hst b0)) := by rw [hfxl]; rfl
  have hzl : fxl.Z0 = E0.Z := by rw [hfxl]; rfl
  have hsw := m.frame.size
  have hfr : fx.frame W := by
   have f := mm.frame
   refine ⟨f.os.trans (hw0 ▸ m.frame.os), f.tape.trans (hw0 ▸ m.frame.tape), f.output.trans (hw0 ▸ m.frame.output), Nat.le_trans hsw (hw0 ▸ f.size), fun b h1 h2 => ?_⟩
   have := f.block b (by rw [hw0]; omega) (by rw [hfl]; intro h; rcases hLl b h with h | h; omega; exact h2 h)
   rw [hw0] at this
   exact this.trans (m.frame.block b h1 h2)
  have hmine : ∀ b, lof E (hlook h) b → fx.w0.heap.size ≤ b ∨ fx.L b := fun b ⟨i, hi, hn, e⟩ => by
   subst e
   rcases mm.mine i hi hn with g | g
   ·rw [hw0] at g; exact .inl (by omega)
   ·rw [hfl] at g; exact hLl _ g
  have hz : ∀ b, E.Z b → fx.Z0 b ∨ fx.w0.heap.size ≤ b ∨ fx.L b := fun b hb => by
   rcases mm.z b hb with g | g | g
   ·rw [hzl] at g; exact m.z b g
   ·rw [hw0] at g; exact .inr (.inl (by omega))
   ·rw [hfl] at g; exact .inr (hLl b g)
  have hrec' : ∀ l0, fx.ro = some l0 → Free (hlook h) E l0 ∧ ∃ r, W.heap[l0]? = some (.loop r) := fun l0 e => by
   obtain ⟨g1, g2, g3, r0, g4⟩ := fx.lrec l0 e
   refine ⟨⟨fun i hi hn e' => ?_, fun hz' => ?_⟩, r0, (hfr.block l0 g1 g2).trans g4⟩
   ·rcases hmine l0 ⟨i, hi, hn, e'⟩ with g | g
    ·omega
    ·exact g2 g
   ·rcases hz l0 hz' with g | g | g
    ·exact g3 g
    ·omega
    ·exact g2 g
  refine ⟨Fx.now W E (hlook h) fx.roots (ms.map coll ++ fx.dfr) fx.ro hrec' mm.go, ⟨rfl, hfr, hmine, hz, rfl, ms, rfl, hnd, fun d hd => ?_⟩, E, ?_⟩
  ·have h1 := hm1 d (List.mem_cons_of_mem _ hd)
   have h2 := hfree d (List.mem_cons_of_mem _ hd)
   have h3 := hmk d hd
   exact ⟨by omega, (Array.getElem?_eq_some_iff.1 h3).1, h3, h2.2, fun ⟨i, a1, a2, a3⟩ => h2.1 i a1 a2 a3⟩
  ·refine ⟨mm.nt, mm.slots, by rw [m.dfr]; rfl, mm.ok, ⟨rfl, rfl, rfl, Nat.le_refl _, fun _ _ _ => rfl⟩, fun i hi hn => .inr ⟨i, hi, hn, rfl⟩, fun _ h => .inl h, fun r hr => ?_⟩
   obtain ⟨g1, g2⟩ := m.roots r hr
   exact ⟨g1, (hE r.1 (hrts _ g1)).trans g2⟩
 refine ⟨lp, ms.map coll, W1, { target := .fn (.func gf) [.pointer (some ⟨(E0.loc B).b, (E0.loc B).o + 0 * (E0.loc B).n + 0, none⟩)].toArray, args := #[.func (.yield lp) #[] #[]] }, W1, gf, #[.func (.yield lp) #[] #[], .pointer (some ⟨(E0.loc B).b, (E0.loc B).o + 0 * (E0.loc B).n + 0, none⟩)], W1, hrun, ?_, fun _ _ => trivial, ?_, (fun h => by cases h), ?_⟩
 ·simp only [resolve, hval]
  simp [go_sem]
 ·have := hent #[.func (.yield lp) #[] #[], .pointer (some ⟨(E0.loc B).b, (E0.loc B).o + 0 * (E0.loc B).n + 0, none⟩)] W1
  simp [invoke, go_sem] at this ⊢
  exact this
 ·-- the box
  have rd : ∀ {b : β} {E : Env} {W : World}, Mod fxl ⟨nt, rts', tlook l, hlook (Hst b)⟩ E a W → ∃ u, W.cell? ⟨(E0.loc B).b, (E0.loc B).o + 0 * (E0.loc B).n + 0, none⟩ = some u ∧ RV E W src u := fun {b E W} mm => by
   obtain ⟨_, _, vs, hv, hra, _, _⟩ := mm.ok.hold B _ (hB b)
   obtain ⟨u, r0, rfl, hu, hr0⟩ := hv
   refine ⟨u, ?_, hu⟩
   have := hra 0 u rfl
   rw [pin (b := b) mm B hBin] at this
   simpa using this
  have hlen : xs.length ≤ maxLen := by
   obtain ⟨u, _, hu⟩ := rd ml
   have := ((hsrc b0).len E0 w u ml.ok hu).1
   simpa using this
  have hw1 : fxl.w0.heap.size ≤ lp := by rw [hw0]; exact hlp
  refine (callsIn_rd (hC _ _ lp xs.length J Jx W1 hlen ?_ ?_ hJ0)).mono ?_
  ·intro k W _ hk
   rw [hJ] at hk
   obtain ⟨b, E, _, mm, _⟩ := hk
   obtain ⟨u, h1, hu⟩ := rd mm
   obtain ⟨_, A, cap, rfl⟩ := (hsrc b).len E W u mm.ok hu
   exact ⟨A, cap, by simpa using h1⟩
  ·intro k W hk hJk
   rw [hJ] at hJk
   obtain ⟨b, E, hr, mm, hl, hmk, hfree⟩ := hJk
   obtain ⟨x, hx⟩ : ∃ x, xs.reverse[k]? = some x := ⟨_, List.getElem?_eq_getElem (by simpa using hk)⟩
   have hx2 : (xs.map c)[xs.length - 1 - k]? = some (c x) := by
    rw [List.getElem?_reverse hk] at hx
    rw [List.getElem?_map, hx]; rfl
   obtain ⟨u, h1, hu⟩ := rd mm
   obtain ⟨bb, off, cap, vs, rfl, hvs, hra⟩ := (hsrc b).get E W u mm.ok hu _ _ hx2
   have hvl : vs.length = mz := by rw [RDs_length hvs, hm]
   have hstep : ∃ o', step x b = some o' ∧ ((∃ b', o' = .go b' ∧ rangeL step (xs.reverse.drop (k + 1)) b' = some o) ∨ ∃ r', o' = .ret r' ∧ o = .ret r') := by
    rcases rangeL_drop hx hr with ⟨b', h2, h3⟩ | ⟨r', h2, h3⟩
    ·exact ⟨_, h2, .inl ⟨b', rfl, h3⟩⟩
    ·exact ⟨_, h2, .inr ⟨r', rfl, h3⟩⟩
   obtain ⟨o', hst, hcont⟩ := hstep
   refine ⟨_, ⟨bb, off, cap, vs, by simpa using h1, hra, hvl, rfl⟩, ?_⟩
   have hy := run_yield (P := P) (args := #[.int .i64 ((xs.length - 1 - k : Nat) : Int), elemW vs]) hl (by rw [hrec]; rfl)
   rw [hrec] at hy
   refine ⟨fn, _, assign, body, hy, roundIn_of_wpIn trivial ?_⟩
   clear hy
   have hfl := hfree lp (List.mem_cons_self ..)
   have hltW : lp < W.heap.size := (Array.getElem?_eq_some_iff.1 hl).1
   have hpinE := pin (b := b) mm
   have hrts1 : ∀ r ∈ roots, r.1 ∈ rts' ∧ E.loc r.1 = r.2 := fun r hr => by
    rw [hroots] at hr
    obtain ⟨i, hi, rfl⟩ := List.mem_map.1 hr
    exact ⟨hi, hpinE i hi⟩
   have m0 := mm.now roots [] (some lp) (fun l' e => by injection e with e; subst e; exact ⟨hfl, _, hl⟩) hrts1
   have m1 := (m0.put (some p0) (v := .junk) (x := .int .i64 ((xs.length - 1 - k : Nat) : Int)) trivial).put (some p1) (elemV_sound hvs)
   have hA := round b x o' hst _ _ W ⟨E, m1⟩
   refine wpIn_any (ro := some lp) (n := 0) ?_
   refine Code.wpIn_mono ?_ (show assign.wpIn (Rd (some lp)) 0 P _ _ W from by simpa [Act.put, Fx.now] using hA)
   rintro e1 a1 Wa ⟨S1, fx1, hq, hx1, E1, m1'⟩
   cases e1 with
   | normal =>
    have hq : AW P body S1 (PostR nt rts rts' l Hst r Q o') := hq
    have m1b := m1'.back hx1
    have s1 := m1b.since0 (W0 := W) (E0 := E) (H0 := hlook (Hst b)) lp rfl rfl rfl
    have hla : Wa.heap[lp]? = some (.loop (rec .ready none)) := (m1b.frame.block lp hltW hfl.not).trans hl
    have hf1 : Free S1.hp E1 lp := (s1.free hltW hfl).less
    refine ⟨_, run_beginRound hla (by rw [hrec]), ?_⟩
    have hlb : (Wa.putObj lp (.loop { rec .ready none with state := .busy })).heap[lp]? = some (.loop { rec .ready none with state := .busy }) := World.putObj_heap_same (Array.getElem?_eq_some_iff.1 hla).1
    have m2 := m1'.fresh hf1 hgD (.loop { rec .ready none with state := .busy }) roots (some lp) (fun l' e => by injection e with e; subst e; exact ⟨hf1, _, hlb⟩) (fun r hr => m1b.roots r hr)
    have hB2 := hq _ _ _ ⟨E1, m2⟩
    refine wpIn_any (ro := some lp) (n := 0) ?_
    refine Code.wpIn_mono ?_ hB2
    rintro e3 a3 W3 ⟨S3, fx3, hp3, hx3, hM3⟩
    -- the end of a round, whatever it leaves by
    have fin : ∀ (h' : List (Nat × Option Blk)) (jump : Option Code), Sub S3 (mk nt rts' [] h') → ∃ E4 W4, (Instr.endRound lp jump).run P W3 = .ok (.bool jump.isNone) W4 ∧ Mod fxl ⟨nt, rts', tlook l, hlook h'⟩ E4 a W4 ∧ W4.heap[lp]? = some (.loop (rec (if jump.isNone then .ready else .done) jump)) ∧ (∀ d ∈ ms, W4.heap[d]? = some (.deferred (some []))) ∧ (∀ d ∈ lp :: ms, Free (hlook h') E4 d) := fun h' jump hsub => by
     obtain ⟨E3, m3⟩ := hsub _ _ _ hM3
     have m3b := m3.back hx3
     have s2 := m3b.since (W0 := Wa) (E0 := E1) (H0 := S1.hp) lp ⟨_, rfl⟩ rfl rfl
     have s := s1.trans s2
     have hl3 : W3.heap[lp]? = some (.loop { rec .ready none with state := .busy }) := (m3b.frame.block lp (Array.getElem?_eq_some_iff.1 hlb).1 hf1.not).trans hlb
     have hro3 : ∀ i ∈ rts', E3.loc i = E.loc i := fun i hi => (m3b.roots (i, E0.loc i) (by show _ ∈ roots; rw [hroots]; exact List.mem_map.2 ⟨i, hi, rfl⟩)).2.trans (hpinE i hi).symm
     have mr := mm.resume hw1 hfl m3 s (fun t id h => hro3 id (hpin0 t id h)) (fun r hr => by
      rw [hrr] at hr
      obtain ⟨i, hi, rfl⟩ := List.mem_map.1 hr
      exact hro3 i hi)
     have hf4 := s.free hltW hfl
     refine ⟨_, _, run_endRound jump hl3, mr.turn _ hw1 hf4.1 hf4.2, ?_, fun d hd => ?_, fun d hd => ?_⟩
     ·rw [hrec]; exact World.putObj_heap_same (Array.getElem?_eq_some_iff.1 hl3).1
     ·have hfd := hfree d (List.mem_cons_of_mem _ hd)
      have hdl := (hms d hd).2.1
      exact (World.putObj_heap_other hdl).trans ((s.block d (Array.getElem?_eq_some_iff.1 (hmk d hd)).1 hfd.not hdl).trans (hmk d hd))
     ·refine s.free ?_ (hfree d hd)
      rcases List.mem_cons.1 hd with rfl | h
      ·exact hltW
      ·exact (Array.getElem?_eq_some_iff.1 (hmk d h)).1
    have stop : ∀ jc, jumpOf e3 = some jc → e3 ≠ .normal → ∃ v w', (Instr.endRound lp (some jc)).run P W3 = .ok v w' ∧ ((Ending.returned v = .returned (.bool true) ∧ J (k + 1) w') ∨ (Ending.returned v = .returned (.bool false) ∧ Jx w')) := fun jc hj hne => by
     rcases hcont with ⟨b', rfl, hr'⟩ | ⟨r', rfl, ho⟩
     ·exact absurd hp3.1 hne
     ·obtain ⟨_, h', hsub, hQ⟩ := hp3
      obtain ⟨E4, W4, h1, h2, h3, h4, h5⟩ := fin h' (some jc) hsub
      refine ⟨_, _, h1, .inr ⟨rfl, ?_⟩⟩
      rw [hJx]
      exact ⟨e3, jc, h', E4, r', hj, ho, hQ, h2, h3, h4, h5⟩
    cases e3 with
    | normal =>
     rcases hcont with ⟨b', rfl, hr'⟩ | ⟨r', rfl, ho⟩
     ·obtain ⟨_, hsub⟩ := hp3
      obtain ⟨E4, W4, h1, h2, h3, h4, h5⟩ := fin (Hst b') none hsub
      refine ⟨_, _, h1, .inl ⟨rfl, ?_⟩⟩
      rw [hJ]
      exact ⟨b', E4, hr', h2, h3, h4, h5⟩
     ·exact absurd rfl hp3.1
    | ret => exact stop _ rfl (by simp)
    | exit id => exact stop _ rfl (by simp)
    | goto t => exact stop _ rfl (by simp)
    | panic ch =>
     rcases hcont with ⟨b', rfl, hr'⟩ | ⟨r', rfl, ho⟩
     ·cases hp3.1
     ·exact absurd rfl hp3.1
    | outgrown =>
     rcases hcont with ⟨b', rfl, hr'⟩ | ⟨r', rfl, ho⟩
     ·cases hp3.1
     ·exact absurd rfl hp3.1
   | exit id => exact hq.elim
   | goto t => exact hq.elim
   | ret => exact hq.elim
   | panic ch => exact hq.elim
   | outgrown => exact hq.elim
  ·rintro e W2 ⟨⟨v, rfl⟩, h | h⟩
   ·rw [hJ] at h
    obtain ⟨b, E, hr, mm, hl, hmk, hfree⟩ := h
    have hfl := hfree lp (List.mem_cons_self ..)
    have ho : o = .go b := by
     rw [List.drop_of_length_le (by simp)] at hr
     injection hr with hr; exact hr.symm
    obtain ⟨ob, hob⟩ : ∃ ob, (Instr.endLoop lp).run P W2 = .ok none (W2.putObj lp ob) := ⟨_, by have := run_endLoop (P := P) hl (by rw [hrec]; simp); rw [show (rec .ready none).pending = none from by rw [hrec]] at this; exact this⟩
    obtain ⟨fx', hx', hM⟩ := behind (Hst b) E _ (mm.turn ob hw1 hfl.1 hfl.2) (fun d hd => (World.putObj_heap_other (hms d hd).2.1).trans (hmk d hd)) hfree
    refine ⟨none, _, hob, ?_⟩
    exact ⟨_, fx', by rw [ho]; exact ⟨rfl, Sub.refl _⟩, hx', hM⟩
   ·rw [hJx] at h
    obtain ⟨e, jc, h', E, r', hj, ho, hQ, mm, hl, hmk, hfree⟩ := h
    have hfl := hfree lp (List.mem_cons_self ..)
    obtain ⟨ob, hob⟩ : ∃ ob, (Instr.endLoop lp).run P W2 = .ok (some jc) (W2.putObj lp ob) := ⟨_, by have := run_endLoop (P := P) hl (by rw [hrec]; simp); rw [show (rec .done (some jc)).pending = some jc from by rw [hrec]] at this; exact this⟩
    obtain ⟨fx', hx', hM⟩ := behind h' E _ (mm.turn ob hw1 hfl.1 hfl.2) (fun d hd => (World.putObj_heap_other (hms d hd).2.1).trans (hmk d hd)) hfree
    refine ⟨some jc, _, hob, ?_⟩
    have hend : ∀ hne : e ≠ .normal, Aft fx (PostJ (fun b => mk nt rts l (Hst b)) r Q o) e { a with defers := ms.map coll ++ a.defers } (W2.putObj lp ob) := fun hne => ⟨_, fx', by rw [ho]; exact ⟨hne, hQ⟩, hx', hM⟩
    cases e with
    | ret => injection hj with hj; subst hj; exact wpIn_ret (hend (by simp))
    | exit id => injection hj with hj; subst hj; exact wpIn_exit (hend (by simp))
    | goto t => injection hj with hj; subst hj; exact wpIn_goto (hend (by simp))
    | normal => cases hj
    | panic ch => cases hj
    | outgrown => cases hj
end
end Go.Ab
end
section
namespace Go.Ab
open Go.RowKit

theorem flat_map {α : Type} {c : α → List D} (h : ∀ a, ∀ x ∈ c a, x.flat = true) (xs : List α) : ∀ e ∈ xs.map c, ∀ x ∈ e, x.flat = true := fun e he x hx => by
 obtain ⟨a, _, rfl⟩ := List.mem_map.1 he
 exact h a x hx

/-- a call that looks at own blocks and hands back a row of literals of its own -/
theorem Chain.callOF {P : Program} {ops : Array Oper} {o : Oper} {l : List Oper} {S : St} {Q' : St → Prop} {c : Call} {d : Nat} {f : FuncId} {caps args : List V} {v : V} {T n : Nat} {es : List (List D)} (hF : FunO P f args v (.arr T n es)) (hw : wantedV ops S o = some true) (ho : o.op = .call c) (hd : o.dst = some d)
  (hcal : calleeV S c = some (f, caps)) (hargs : mapO (viewV S.hp) (c.args.toList.map S.ev ++ caps) = some args) (hent : Rp.Enters P f) (hid : S.rts.contains d = false)
  (hv : ∀ r : V, r.ren 0 = v → r.flat = true) (hes : ∀ e ∈ es, ∀ x ∈ e, x.flat = true)
  (hrest : Chain false P ops l (((S.kill d).setH d (some (.arr T n es))).put (some d) (v.ren d)) Q') : Chain false P ops (o :: l) S Q' := by
 refine Chain.call hw ho hd hcal hargs hent hF hid (.inr fun r k hq => ⟨hv r hq.1, fun blk hb => ?_⟩) fun r k hq => ?_
 ·rw [hq.2] at hb
  injection hb with hb
  subst hb
  exact hes
 ·obtain ⟨h1, rfl⟩ := hq
  unfold St.got
  rw [← ren_ren (d := d) (e := 0) r, h1]
  exact hrest
theorem flat_of_ren {i a n : Nat} : ∀ (r : V), r.ren 0 = .ref i a n → r.flat = true
 | .ref .., _ => rfl
 | .d _, h => by cases h
 | .dx _, h => by cases h
 | .ptr .., h => by cases h
 | .mref _, h => by cases h
 | .agg _, h => by cases h
 | .tup _, h => by cases h
 | .fn .., h => by cases h
 | .hole, _ => rfl
 | .junk, _ => rfl

def posN (n : Nat) : Option Unit := if 0 < n then some () else none
end Go.Ab
end
section
namespace Go.Ab
open Go.RowKit Go.Sort

/-- a row after a call that has turned its elements alone -/
theorem Post.row {w w' : World} {E : Env} {T n : Nat} {es es' : List (List D)} {c c' : Array Value} {flat' : List Value} (g : GO E (hlook [(1000, some (.arr T n es))]) w) (ok : E.ok (hlook [(1000, some (.arr T n es))]) w) (hn : (E.loc 1000).nil = false) (hc : w.heap[(E.loc 1000).b]? = some (.cells c T (0, 0)))
  (hos : w'.os = w.os) (htp : w'.tape = w.tape) (hout : w'.output = w.output) (hsz : w.heap.size ≤ w'.heap.size)
  (hb : ∀ k, k < w.heap.size → k ≠ (E.loc 1000).b → w'.heap[k]? = w.heap[k]?) (hc' : w'.heap[(E.loc 1000).b]? = some (.cells c' T (0, 0))) (hcs : c'.size = c.size)
  (hlen : es'.length = es.length) (hel : ∀ e ∈ es', e.length = n) (hR : RDe w E.Z es' flat') (ht : c'.toList.take (es'.length * n) = flat') :
  Post (fxOf w E (hlook [(1000, some (.arr T n es))]) [1000] g) E (hlook [(1000, some (.arr T n es'))]) w' := by
 have hk : Keeps E.Z w w' := fun b hz => hb b (ok.zlt b hz) (fun e => ok.apart 1000 (by simp [hlook]) hn (e ▸ hz))
 have one : ∀ i, hlook [(1000, some (Blk.arr T n es'))] i ≠ none → i = 1000 := fun i hi => by
  by_cases h : i = 1000
  ·exact h
  ·simp [hlook, h] at hi
 obtain ⟨h1, h2, h3, h4, h5⟩ := ok.hold 1000 _ rfl
 rcases h5 with ⟨h6, _⟩ | ⟨_, c0, flat, h7, h8, h9, h10, h11, h12⟩
 ·rw [hn] at h6; cases h6
 rw [hc] at h7
 injection h7 with h7
 injection h7 with h7
 subst h7
 refine ⟨⟨?_, ?_, ?_, ?_⟩, ⟨hos, htp, hout, hsz, fun b hbl hL => hb b hbl (fun e => hL ⟨1000, by simp [hlook], hn, e.symm⟩)⟩, fun i hi hni => .inr ?_, fun b hz => .inl hz, ?_⟩
 ·intro i k hi
  obtain rfl := one i (by rw [hi]; simp)
  simp only [hlook, if_true, Option.some.injEq] at hi
  subst hi
  exact ⟨h1, h2, hel, h4, .inr ⟨hn, c', flat', hc', by omega, h9, hcs.trans h10, RDe.keep hk (fun _ h => h) _ _ hR, ht⟩⟩
 ·intro i j hi hj _ _ hij
  exact absurd ((one i hi).trans (one j hj).symm) hij
 ·intro i hi hni
  obtain rfl := one i hi
  exact ok.apart 1000 (by simp [hlook]) hn
 ·intro b hz
  exact Nat.lt_of_lt_of_le (ok.zlt b hz) hsz
 ·obtain rfl := one i hi
  exact ⟨1000, by simp [hlook], hn, rfl⟩
 ·intro r hr
  simp only [fxOf, List.map_cons, List.map_nil, List.mem_singleton] at hr
  subst hr
  rfl

/-- nothing has turned -/
theorem Post.same {w : World} {E : Env} {b : Blk} (g : GO E (hlook [(1000, some b)]) w) (ok : E.ok (hlook [(1000, some b)]) w) : Post (fxOf w E (hlook [(1000, some b)]) [1000] g) E (hlook [(1000, some b)]) w := by
 have one : ∀ i, hlook [(1000, some b)] i ≠ none → i = 1000 := fun i hi => by
  by_cases h : i = 1000
  ·exact h
  ·simp [hlook, h] at hi
 refine ⟨ok, ⟨rfl, rfl, rfl, Nat.le_refl _, fun _ _ _ => rfl⟩, fun i hi hni => .inr ⟨i, hi, hni, rfl⟩, fun b hz => .inl hz, ?_⟩
 intro r hr
 simp only [fxOf, List.map_cons, List.map_nil, List.mem_singleton] at hr
 subst hr
 rfl

theorem RDe_lits1 {w : World} {Z : Nat → Prop} {α : Type} (v : α → Value) (hp : ∀ x, plain (v x) = true) : ∀ (xs : List α) (flat : List Value), RDe w Z (xs.map fun x => [.lit (v x)]) flat ↔ flat = xs.map v
 | [], flat => by simp [RDe]
 | x :: xs, flat => by
  simp only [List.map_cons, RDe]
  constructor
  ·rintro ⟨a, r, rfl, ⟨y, z, rfl, ⟨rfl, _⟩, rfl⟩, h⟩
   rw [(RDe_lits1 v hp xs r).1 h]; rfl
  ·rintro rfl
   exact ⟨[v x], xs.map v, rfl, ⟨v x, [], rfl, ⟨rfl, hp x⟩, rfl⟩, (RDe_lits1 v hp xs _).2 rfl⟩

theorem FunC.of_calls {P : Program} {f : FuncId} {args : List V} {vals : List Value} {r : Value} (hv : ∀ E w vs, RVs E w args vs → vs = vals) (hr : plain r = true)
  (h : ∀ w, GW w → Calls P f vals.toArray w fun e w' => e = .returned r ∧ Grow w w') : FunC P f args (.d (.lit r)) :=
 ⟨rfl, fun w Z vs hgw hz hvs => by
  rw [hv _ _ _ hvs]
  refine (h w hgw).mono ?_
  rintro e w' ⟨rfl, hg⟩
  exact ⟨r, default, Z, .d (.lit r), none, rfl, ⟨rfl, rfl⟩, ⟨rfl, hr⟩, (fun blk hb => by cases hb), (fun b hb => ⟨.inl hb, Nat.lt_of_lt_of_le (hz b hb) hg.size⟩), hg⟩⟩
end Go.Ab
end
section
namespace Go.Ab
open Go.RowKit Go.Sort

/-- a comparison that the library's sort may call -/
def CmpW {α : Type} (P : Program) (g : Nat) (c : α → List D) (p : α → α → Option Int) : Prop :=
 ∀ x y r, p x y = some r → ∀ (W : World) (Z : Nat → Prop) (vx vy : List Value), RDs W Z (c x) vx → RDs W Z (c y) vy →
  Calls P g #[.agg vx.toArray, .agg vy.toArray] W fun e w' => e = .returned (.int .i64 r) ∧ ∃ q os', w' = grow (W.drewN q) os'

/-- what slices.SortFunc leaves -/
def sortO {α : Type} (p : α → α → Option Int) : List α → Option (List α)
 | [] => some []
 | x :: t =>
  let g : _root_.Fin (t.length + 1) → α := fun i => (x :: t).get i
  let cf : _root_.Fin (t.length + 1) → _root_.Fin (t.length + 1) → Int := fun i j => (p (g i) (g j)).getD 0
  if (∀ i j, (p (g i) (g j)).isSome = true) ∧ (∀ i, ¬ cf i i < 0) ∧ (∀ i j l, cf i j < 0 → cf j l < 0 → cf i l < 0) ∧ (∀ i j l, ¬ cf i j < 0 → ¬ cf j l < 0 → ¬ cf i l < 0) ∧ t.length + 1 < 4611686018427387904 then
   some ((pdq (Go.Proofs.ltOf cf) (Array.ofFn (n := t.length + 1) id) 0 (t.length + 1) (Lib.bitLen (t.length + 1)) true true).toList.map g)
  else none

end Go.Ab
end
section
namespace Go.Ab
open Go.RowKit

/-- nil slices among a row's elements seen as empty ones -/
theorem RDs.wk {w : World} {Z : Nat → Prop} : ∀ {ds : List D} {vs : List Value}, RDs w Z ds vs → RDs w Z (ds.map D.wk) vs
 | [], _, h => h
 | _ :: _, _, ⟨v, r, h1, h2, h3⟩ => ⟨v, r, h1, RD.wk h2, RDs.wk h3⟩
theorem RDe.wk {w : World} {Z : Nat → Prop} : ∀ {es : List (List D)} {vs : List Value}, RDe w Z es vs → RDe w Z (es.map fun e => e.map D.wk) vs
 | [], _, h => h
 | _ :: _, _, ⟨a, r, h1, h2, h3⟩ => ⟨a, r, h1, RDs.wk h2, RDe.wk h3⟩
/-! ### loops whose state hides how a row lies (g) -/
section
variable {P : Program} {S : St} {σ β ρ γ : Type}
def PostIG (I : γ → σ → St) (r : ρ) (Q : Exit → St → Prop) : σ ⊕ ρ → Exit → St → Prop
 | .inl s, e, S => e = .normal ∧ ∃ g, Sub S (I g s)
 | .inr r', e, S => e ≠ .normal ∧ (r' = r → Q e S)
def PostNG (J : γ → β → St) : β → Exit → St → Prop := fun b e S => e = .normal ∧ ∃ g, Sub S (J g b)
theorem PostIG.next {I : γ → σ → St} {r : ρ} {Q : Exit → St → Prop} {s : σ} (g : γ) (h : Sub S (I g s)) : PostIG I r Q (.inl s) .normal S := ⟨rfl, g, h⟩
theorem PostIG.out {I : γ → σ → St} {r r' : ρ} {Q : Exit → St → Prop} {e : Exit} (he : e ≠ .normal) (h : r' = r → Q e S) : PostIG I r Q (.inr r') e S := ⟨he, h⟩
theorem PostNG.next {J : γ → β → St} {b : β} (g : γ) (h : Sub S (J g b)) : PostNG J b .normal S := ⟨rfl, g, h⟩
end
end Go.Ab
end
section
namespace Go.Ab
open Go.RowKit

section
variable {P : Program} {ops : Array Oper} {md : Region.Mode} {C : World → Prop}
/-- whatever order the first n operations come up in -/
def headQ (P : Program) (md : Region.Mode) (ops : Array Oper) (C : World → Prop) (n : Nat) (L : Array Bool → Act → Prop) : Nat → Array Bool → Act → Prop
 | 0, done, a => L done a
 | f + 1, done, a => Region.ready md ops done ≠ [] ∧ ∀ i ∈ Region.ready md ops done, i < n ∧ qOp P ops C i (headQ P md ops C n L f (done.setIfInBounds i true)) a

end

theorem FunM.argsF {P : Program} {f : FuncId} {args args' : List V} {h0 : List (Nat × Option Blk)} {rts : List Nat} {v : V} {h1 : List (Nat × Blk)} (h : FunM P f args' h0 rts v h1) (ha : args' = args.map V.wf) : FunM P f args h0 rts v h1 :=
 fun w E vals g ok hx => h w E vals g ok (by subst ha; exact RVs.frz (fun _ _ h => RV.wf h) hx)
end Go.Ab
end
section
namespace Go.Ab
open Go.RowKit Go.Sort

/-- an error: only whether it is one -/
def cE (b : Bool) : List D := [.er b]
attribute [simp] cE

end Go.Ab
end
section
namespace Go.Ab
open Go.RowKit Go.MapKept

theorem REs_len {E : Env} {w : World} : ∀ {l : List (MKey × V)} {es : List MapEntry}, REs E w l es → es.length = l.length
 | [], _, h => by
  have : _ = [] := h
  simp [this]
 | (_, _) :: _, _, ⟨_, _, h, _, _, _, h2⟩ => by rw [h, List.length_cons, List.length_cons, REs_len h2]

/-- len of an own map -/
theorem pure_lenM {P : Program} {S : St} {c : Call} {x : Operand} {T k e : TypeId} {ti : TI} {id : Nat} {kd : TypeDesc} {l : List (MKey × V)} (hcal : c.callee = .builtin .len) (ha : c.args = #[x]) (hty : c.argTypes = #[T])
  (hT : tyOf P T = some ti) (hd : ti.desc = .map k e) (hx : S.ev x = .mref id) (hH : S.hp id = some (.mp kd l)) : Pure P (.call c) S (.d (.lit (.int .i64 (l.length : Int)))) := by
 intro E w ρ oo hoo ok hev
 unfold execOp
 rw [hoo]
 have h1 := hev x
 rw [hx] at h1
 have h1 : ρ x = .map (some (E.loc id).b) := h1
 obtain ⟨hn, _, es, clock, hb, _, hr⟩ := ok.hold _ _ hH
 have hl : es.size = l.length := by rw [← REs_len hr, Array.length_toList]
 refine ⟨_, ⟨rfl, rfl⟩, fun w' hg => ?_⟩
 have u1 := run_und hT w'
 rw [hd] at u1
 have hb' : w'.heap[(E.loc id).b]? = some (.map es clock) := (hg.block _ (Array.getElem?_eq_some_iff.1 hb).1).trans hb
 simp [resolve, hcal, ha, hty, invoke, builtin, Builtin.len_, u1, h1, goInt, MapKept.run_getObj_map hb', hl]

@[simp] theorem encM_length {κ α : Type} (kf : κ → MKey) (vf : α → V) (m : List (κ × α)) : (encM kf vf m).length = m.length := by simp [encM]
@[simp] theorem encM_fst {κ α : Type} (kf : κ → MKey) (vf : α → V) (m : List (κ × α)) : (encM kf vf m).map (·.1) = m.map (kf ∘ Prod.fst) := by simp [encM]
@[simp] theorem entsD_vI {κ : Type} (k : IntKind) (kf : κ → MKey) : ∀ (m : List (κ × Int)), entsD (encM kf (vI k) m) = some (m.map (cI k ∘ Prod.snd))
 | [] => rfl
 | (a, n) :: m => by
  show (entsD (encM kf (vI k) m)).map _ = _
  rw [entsD_vI k kf m]; rfl
@[simp] theorem entsD_vB {κ : Type} (kf : κ → MKey) : ∀ (m : List (κ × Bool)), entsD (encM kf vB m) = some (m.map (cB ∘ Prod.snd))
 | [] => rfl
 | (a, n) :: m => by
  show (entsD (encM kf vB m)).map _ = _
  rw [entsD_vB kf m]; rfl
@[simp] theorem entsD_vS {κ : Type} (kf : κ → MKey) : ∀ (m : List (κ × ByteArray)), entsD (encM kf vS m) = some (m.map (cS ∘ Prod.snd))
 | [] => rfl
 | (a, n) :: m => by
  show (entsD (encM kf vS m)).map _ = _
  rw [entsD_vS kf m]; rfl

/-! ### delete -/
theorem menc_inj : ∀ {a b : MKey}, a.enc = b.enc → a = b
 | .ik _, .ik _, h => by injection h with _ h; rw [h]
 | .sk _, .sk _, h => by injection h with h; rw [h]
 | .bk _, .bk _, h => by injection h with h; rw [h]
theorem REs_keep {E : Env} {w : World} {k : MKey} : ∀ {l : List (MKey × V)} {es : List MapEntry}, REs E w l es → (∀ x ∈ es, x.key ≠ k.enc) → kdel l k = l
 | [], _, _, _ => rfl
 | (q, v) :: l, es, ⟨e, r, h, h1, _, _, h2⟩, hn => by
  subst h
  have hq : ¬ q = k := fun e2 => hn e (.head _) (by rw [h1, e2])
  unfold kdel
  rw [List.filter_cons_of_pos (by simpa using hq)]
  congr 1
  exact REs_keep h2 fun x hx => hn x (.tail _ hx)
theorem REs_erase {E : Env} {w : World} {k : MKey} : ∀ {l : List (MKey × V)} {es : List MapEntry} {j : Nat} {e : MapEntry}, REs E w l es → (es.map (·.key)).Nodup → es[j]? = some e → e.key = k.enc → REs E w (kdel l k) (es.eraseIdx j)
 | [], es, j, e, h, _, hj, _ => by
  have h : es = [] := h
  subst h
  simp at hj
 | (q, v) :: l, es, j, e, ⟨e0, r, h, h1, h2, h3, h4⟩, hnd, hj, hk => by
  subst h
  rw [List.map_cons, List.nodup_cons] at hnd
  cases j with
  | zero =>
   simp only [List.getElem?_cons_zero, Option.some.injEq] at hj
   subst hj
   have hq : q = k := menc_inj (h1.symm.trans hk)
   have hn : ∀ x ∈ r, x.key ≠ k.enc := fun x hx e2 => hnd.1 (List.mem_map.2 ⟨x, hx, e2.trans hk.symm⟩)
   have := REs_keep h4 hn
   unfold kdel at this ⊢
   rw [List.filter_cons_of_neg (by simpa using hq), this]
   exact h4
  | succ j =>
   simp only [List.getElem?_cons_succ] at hj
   have hq : ¬ q = k := fun e2 => hnd.1 (List.mem_map.2 ⟨e, List.mem_of_getElem? hj, by rw [hk, h1, e2]⟩)
   have := REs_erase h4 hnd.2 hj hk
   unfold kdel at this ⊢
   rw [List.filter_cons_of_pos (by simpa using hq), List.eraseIdx_cons_succ]
   exact ⟨e0, _, rfl, h1, h2, h3, this⟩
/-- A DELETION from an own map -/
theorem Chain.mdel {P : Program} {ops : Array Oper} {o : Oper} {l : List Oper} {S : St} {Q : St → Prop} {c : Call} {T T2 : TypeId} {m i : Operand} {id : Nat} {kd : TypeDesc} {es : List (MKey × V)} {k : MKey} {kt et : TypeId} {ti tk : TI} (hw : wantedV ops S o = some true) (ho : o.op = .call c)
  (hcal : c.callee = .builtin .delete) (ha : c.args = #[m, i]) (hty : c.argTypes = #[T, T2])
  (hT : tyOf P T = some ti) (hd : ti.desc = .map kt et) (hkt : tyOf P kt = some tk) (hkd : tk.desc = kd) (hm : S.ev m = .mref id) (hH : S.hp id = some (.mp kd es)) (hk : keyV (S.ev i) = some k) (hkk : k.desc = kd)
  (h : Chain false P ops l ((S.setH id (some (.mp kd (kdel es k)))).put o.dst (.tup [])) Q) : Chain false P ops (o :: l) S Q := by
 intro fx a w Q' ⟨E, md⟩ hq
 unfold wpList
 rw [if_pos (wantedV_sound md hw)]
 refine .inl ?_
 have hmv := md.ev m
 rw [hm] at hmv
 have hmv : a.eval m = .map (some (E.loc id).b) := hmv
 have hiv := keyV_sound (md.ev i) hk
 obtain ⟨hn, hkeys, mes, clock, hb, hst, hre⟩ := md.ok.hold _ _ hH
 have hu : P.underlying T = some (.map kt et) := by rw [(tyOf_spec hT).1, hd]
 have huk : P.underlying kt = some k.desc := by rw [(tyOf_spec hkt).1, hkd, hkk]
 have hkeys' : ∀ p ∈ kdel es k, p.1.desc = kd := fun p hp => hkeys p ((List.mem_filter.1 hp).1)
 have fin : ∀ mes' clock', (Builtin.delete_ #[T, T2] o.type #[a.eval m, a.eval i]).run P w = .ok (.tuple #[]) { w with heap := w.heap.setIfInBounds (E.loc id).b (.map mes' clock') } → Stamped mes' clock' → REs E w (kdel es k) mes'.toList → o.wp P a w (wpList P ops Q' l) Q' := by
  intro mes' clock' hrun hst' hre'
  have hg := grownBy_set w (E.loc id).b (.map mes' clock')
  have hkp : Keeps E.Z w { w with heap := w.heap.setIfInBounds (E.loc id).b (.map mes' clock') } := Keeps.grown md.ok hg fun b hb => by injection hb with hb; rw [← hb]; exact md.ok.apart id (by rw [hH]; simp) hn
  have m' := md.wr hH hn hg (blk := .mp kd (kdel es k)) ⟨hn, hkeys', mes', clock', (heap_set hb).1, hst', REs.keep hkp (fun _ h => h) rfl _ _ hre'⟩
  unfold Oper.wp execOp
  simp only [ho, resolve, hcal, ha, hty, invoke, builtin, Sem.run_bind, Sem.run_pure, Result.andThen_ok, List.map_toArray, List.map_cons, List.map_nil, hrun, Oper.upon]
  exact h fx _ _ Q' ⟨E, m'.put o.dst ⟨[], rfl, rfl⟩⟩ hq
 rcases REs_find (k := k) hkk 0 hre hkeys with ⟨g1, g2, g3⟩ | ⟨j, e, u, g1, g2, g3, g4, g5, g6, q, g7, g8⟩
 ·refine fin mes clock ?_ hst ?_
  ·rw [← hkk] at g1
   rw [hmv, hiv]
   simp [Builtin.delete_, run_underlying hu, MapKept.run_getObj_map hb, MapKept.run_checkKey huk k.isKey, run_findKey huk g1, MapKept.run_setObj_map _ hb]
  ·rw [REs_keep hre g3]; exact hre
 ·rw [Nat.zero_add] at g1
  have hej : mes[j]? = some e := by simpa using g2
  have hjl : j < mes.size := (Array.getElem?_eq_some_iff.1 hej).1
  refine fin (mes.eraseIdxIfInBounds j) clock ?_ (stamped_erase hst j) ?_
  ·rw [← hkk] at g1
   rw [hmv, hiv]
   simp [Builtin.delete_, run_underlying hu, MapKept.run_getObj_map hb, MapKept.run_checkKey huk k.isKey, run_findKey huk g1, MapKept.run_setObj_map _ hb]
  ·have he : (mes.eraseIdxIfInBounds j).toList = mes.toList.eraseIdx j := by
    unfold Array.eraseIdxIfInBounds
    rw [dif_pos hjl]
    simp
   rw [he]
   exact REs_erase hre hst.2.2 g2 g3
theorem Chain.mdelE {κ α : Type} [DecidableEq κ] {P : Program} {ops : Array Oper} {o : Oper} {l : List Oper} {S : St} {Q : St → Prop} {c : Call} {T T2 : TypeId} {m i : Operand} {ti tk : TI} {kt et : TypeId} {id : Nat} {kd : TypeDesc} {kf : κ → MKey} {vf : α → V} (hi : ∀ a b, kf a = kf b → a = b) (mm : List (κ × α)) (k : κ)
  (hw : wantedV ops S o = some true) (ho : o.op = .call c) (hcal : c.callee = .builtin .delete) (ha : c.args = #[m, i]) (hty : c.argTypes = #[T, T2]) (hT : tyOf P T = some ti) (hd : ti.desc = .map kt et) (hk : tyOf P kt = some tk) (hkd : tk.desc = kd) (hm : S.ev m = .mref id)
  (hH : S.hp id = some (.mp kd (encM kf vf mm))) (hkey : keyV (S.ev i) = some (kf k)) (hkk : (kf k).desc = kd)
  (h : Chain false P ops l ((S.setH id (some (.mp kd (encM kf vf (Go.Ab.mdel mm k))))).put o.dst (.tup [])) Q) : Chain false P ops (o :: l) S Q := by
 refine Chain.mdel hw ho hcal ha hty hT hd hk hkd hm hH hkey hkk ?_
 rw [kdel_enc hi]
 exact h

end Go.Ab
end
section
namespace Go.Ab
open Go.RowKit Go.MapKept

/-- f hands back a map of its own -/
def FunOM (P : Program) (f : FuncId) (args : List V) (kd : TypeDesc) (l : List (MKey × V)) : Prop := Fun P f args (fun r k => r = .mref 0 ∧ k = some (.mp kd l))

/-- a call that hands back a map of its own -/
theorem Chain.callMo {P : Program} {ops : Array Oper} {o : Oper} {l : List Oper} {S : St} {Q' : St → Prop} {c : Call} {d : Nat} {f : FuncId} {caps args : List V} {kd : TypeDesc} {es : List (MKey × V)} (hF : FunOM P f args kd es) (hw : wantedV ops S o = some true) (ho : o.op = .call c) (hd : o.dst = some d)
  (hcal : calleeV S c = some (f, caps)) (hargs : mapO (viewV S.hp) (c.args.toList.map S.ev ++ caps) = some args) (hent : Rp.Enters P f) (hid : S.rts.contains d = false) (hes : ∀ p ∈ es, p.2.flat = true)
  (hrest : Chain false P ops l (((S.kill d).setH d (some (.mp kd es))).put (some d) (.mref d)) Q') : Chain false P ops (o :: l) S Q' := by
 refine Chain.call hw ho hd hcal hargs hent hF hid (.inr fun r k hq => ⟨by rw [hq.1]; rfl, fun blk hb => ?_⟩) fun r k hq => ?_
 ·rw [hq.2] at hb
  injection hb with hb
  subst hb
  exact hes
 ·obtain ⟨rfl, rfl⟩ := hq
  exact hrest
theorem flatM_vI {κ : Type} (k : IntKind) (kf : κ → MKey) (m : List (κ × Int)) : ∀ p ∈ encM kf (vI k) m, p.2.flat = true := fun p hp => by
 obtain ⟨q, _, rfl⟩ := List.mem_map.1 hp
 rfl
theorem REs_ofD {κ α : Type} {E : Env} {w : World} {kf : κ → MKey} {vf : α → V} {cf : α → List D} (hcf : ∀ a, ∃ x, cf a = [x] ∧ vf a = .d x) : ∀ {m : List (κ × α)} {es : List MapEntry}, es.map (·.key) = (m.map (kf ∘ Prod.fst)).map MKey.enc →
  RDx w E.Z false (m.map (cf ∘ Prod.snd)) (es.map (·.val)) → REs E w (encM kf vf m) es
 | [], [], _, _ => rfl
 | [], _ :: _, h, _ => by cases h
 | _ :: _, [], h, _ => by cases h
 | (a, x) :: m, e :: es, h1, ⟨v, cs, r, g1, g2, g3, g4⟩ => by
  obtain ⟨y, hy1, hy2⟩ := hcf x
  simp only [List.map_cons, List.cons.injEq, Function.comp] at h1 g1
  obtain ⟨gv, gr⟩ := g1
  have g3 : cs = [v] := g3
  subst g3
  have g2 : RDs w E.Z (cf x) [v] := g2
  rw [hy1] at g2
  obtain ⟨v', r', k1, k2, _⟩ := g2
  injection k1 with k1 _
  subst k1
  subst gr
  exact ⟨e, es, rfl, h1.1, by rw [gv, hy2]; exact k2, by rw [hy2]; rfl, REs_ofD hcf h1.2 g4⟩

/-- maps.Clone -/
theorem FunOM.clone {κ α : Type} {P : Program} {f : FuncId} (hc : ∀ b es clock w, w.heap[b]? = some (.map es clock) → Calls P f #[.map (some b)] w fun e w' => e = .returned (.map (some w.heap.size)) ∧ w' = w.alloc (.map es clock))
  (kd : TypeDesc) (kf : κ → MKey) (vf : α → V) (cf : α → List D) (hcf : ∀ a, ∃ x, cf a = [x] ∧ vf a = .d x) (m : List (κ × α)) : FunOM P f [.d (.mpi kd false (m.map (kf ∘ Prod.fst)) (m.map (cf ∘ Prod.snd)))] kd (encM kf vf m) := by
 intro w Z vals hg hz hv
 obtain ⟨v, r, rfl, hv, hr⟩ := hv
 have hr : r = [] := hr
 subst hr
 obtain ⟨b, es, clock, rfl, hb, hbl, hst, hkd, hkeys, hx⟩ := hv
 refine (hc b es clock w hbl).mono ?_
 rintro e w' ⟨rfl, rfl⟩
 have hgr : Grow w (w.alloc (.map es clock)) := grow_alloc w _
 have hk : Keeps Z w (w.alloc (.map es clock)) := fun b hb => hgr.block b (hz b hb)
 refine ⟨_, ⟨w.heap.size, 0, 0, 0, false⟩, Z, .mref 0, some (.mp kd (encM kf vf m)), rfl, ⟨rfl, rfl⟩, rfl, fun blk hblk => ?_, fun b hb => ⟨.inl hb, Nat.lt_of_lt_of_le (hz b hb) hgr.size⟩, hgr⟩
 injection hblk with hblk
 subst hblk
 refine ⟨⟨rfl, fun p hp => ?_, es, clock, (MapKept.heap_alloc w _).1, hst, REs_ofD hcf hkeys (RDx.keep hk (fun _ h => h) _ _ _ hx)⟩, fun _ => ⟨Nat.le_refl _, fun h => Nat.lt_irrefl _ (hz _ h)⟩⟩
 obtain ⟨q, hq, rfl⟩ := List.mem_map.1 hp
 exact hkd _ (List.mem_map.2 ⟨q, hq, rfl⟩)

/-- f, and g on what f hands back -/
def FunC2 (P : Program) (f g : FuncId) (args : List V) (v : V) : Prop := v.closed = true ∧
 ∀ (w : World) (Z : Nat → Prop) (vals : List Value), GW w → (∀ b, Z b → b < w.heap.size) → RVs (oneE default Z) w args vals → Calls P f vals.toArray w fun e w1 => ∃ v1, e = .returned v1 ∧
  Calls P g #[v1] w1 fun e w' => ∃ x Z', e = .returned x ∧ RV (oneE default Z') w' v x ∧ (∀ b, Z' b → (Z b ∨ w.heap.size ≤ b) ∧ b < w'.heap.size) ∧ Grow w w'

theorem Chain.callC2 {P : Program} {ops : Array Oper} {o o2 : Oper} {l : List Oper} {S : St} {Q' : St → Prop} {c c2 : Call} {d d2 : Nat} {f g : FuncId} {args : List V} {v : V} (hF : FunC2 P f g args v) (hw : wantedV ops S o = some true) (ho : o.op = .call c) (hd : o.dst = some d)
  (hcal : calleeV S c = some (f, [])) (hargs : mapO (viewV S.hp) (c.args.toList.map S.ev) = some args) (hent : Rp.Enters P f)
  (hw2 : wantedV ops (S.put (some d) .junk) o2 = some true) (ho2 : o2.op = .call c2) (hd2 : o2.dst = some d2) (hcal2 : calleeV (S.put (some d) .junk) c2 = some (g, [])) (ha2 : c2.args.toList = [.tmp d]) (hent2 : Rp.Enters P g) (hdn : d < S.nt) (hid2 : S.rts.contains d2 = false)
  (hrest : Chain false P ops l ((((S.put (some d) .junk).kill d2).setH d2 none).put (some d2) v) Q') (hflat : (c.args.toList.map S.ev = args ∧ closedL args = true) ∨ (∀ E E' w x, RV E w v x → RV E' w v x)) : Chain false P ops (o :: o2 :: l) S Q' := by
 have hid' : d2 ∉ (S.put (some d) .junk).rts := by
  have : (S.put (some d) .junk).rts = S.rts := rfl
  rw [this]; simpa using hid2
 intro fx a w Q'' ⟨E, m⟩ hq
 have hw' := wantedV_sound m hw
 unfold wpList
 rw [if_pos hw']
 refine .inl ?_
 obtain ⟨cv, hcv, hrun⟩ := calleeV_sound m.ev hcal hent ho
 have hcv : cv = [] := hcv
 subst hcv
 unfold Oper.wp
 rw [hrun w]
 simp only [Oper.upon, hd, List.append_nil]
 have hall := RVs_map m.ev c.args.toList
 have seen : ∀ b, (E.seen S.hp).Z b → b < w.heap.size := fun b hb => by
  rcases hb with hb | ⟨i, hi, hn, rfl⟩
  ·exact m.ok.zlt b hb
  ·cases hk : S.hp i with
   | none => exact absurd hk hi
   | some k => exact (m.ok.hold i k hk).block_lt hn
 have second : ∀ (v1 : Value) (w1 : World) (R : Ending → World → Prop), Calls P g #[v1] w1 R → (∀ e w', R e w' → ∃ x, e = .returned x ∧ wpList P ops Q'' l ((a.put (some d) v1).put (some d2) x) w') → wpList P ops Q'' (o2 :: l) (a.put (some d) v1) w1 := fun v1 w1 R h1 h2 => by
  have m1 := m.put (some d) (v := .junk) (x := v1) trivial
  have hw2' := wantedV_sound m1 hw2
  unfold wpList
  rw [if_pos hw2']
  refine .inl ?_
  obtain ⟨cv, hcv, hrun⟩ := calleeV_sound m1.ev hcal2 hent2 ho2
  have hcv : cv = [] := hcv
  subst hcv
  unfold Oper.wp
  rw [hrun w1]
  have e1 : (c2.args.toList.map (a.put (some d) v1).eval ++ []).toArray = #[v1] := by
   rw [ha2]
   have := getD_put a d v1 d
   rw [if_pos ⟨rfl, by rw [m.nt]; exact hdn⟩] at this
   simp [Act.eval, this]
  rw [e1]
  simp only [Oper.upon, hd2]
  refine h1.mono fun e w' hr => ?_
  obtain ⟨x, rfl, h3⟩ := h2 e w' hr
  exact h3
 have last : ∀ (v1 x : Value) (w' : World) (Z' : Nat → Prop), RV (oneE default Z') w' v x → (∀ b, Z' b → (E.Z b ∨ w.heap.size ≤ b) ∧ b < w'.heap.size) → Grow w w' → wpList P ops Q'' l ((a.put (some d) v1).put (some d2) x) w' := fun v1 x w' Z' hr hz hg => by
  have m1 := m.put (some d) (v := .junk) (x := v1) trivial
  refine hrest fx _ w' Q'' ?_ hq
  have := m1.got hg hid' (r := v) (k := none) hr (fun blk hb => by cases hb) hz
  unfold St.got at this
  rw [closed_ren _ hF.1] at this
  exact this
 rcases hflat with ⟨hsame, honly⟩ | hflat
 ·have hvs : RVs (oneE default E.Z) w args (c.args.toList.map a.eval) := by
   rw [hsame] at hall
   exact RVs.closed default _ _ honly hall
  refine (hF.2 w E.Z _ m.go.gw m.ok.zlt hvs).mono ?_
  rintro e w1 ⟨v1, rfl, h⟩
  refine second v1 w1 _ h fun e w' ⟨x, Z', h1, h2, h3, h4⟩ => ⟨x, h1, last v1 x w' Z' h2 h3 h4⟩
 ·have hvs := viewVs_sound m.ok (oneE default (E.seen S.hp).Z) rfl hall hargs
  refine (hF.2 w (E.seen S.hp).Z _ m.go.gw seen hvs).mono ?_
  rintro e w1 ⟨v1, rfl, h⟩
  refine second v1 w1 _ h fun e w' ⟨x, Z', h1, h2, h3, h4⟩ => ⟨x, h1, last v1 x w' (fun _ => False) (hflat _ _ _ _ h2) (fun b hb => hb.elim) h4⟩
end Go.Ab
end
