/- Functional programs: zeros appended to an own row. The abstract machine: ranges over slices.Backward's function. The abstract machine: the rule of a range over slices.Backward's function. The abstract machine: calls that look at own rows and hand back rows of literals. The abstract machine: the library's sorts on own rows (the kit's contracts, as contracts of functions that are lent a row). The abstract machine: slices.SortFunc on an own row (the kit's contract, as a contract of a function that is lent a row). The abstract machine: appends to a row whose first elements have been cut off; loops whose state hides how the row lies. The abstract machine: drawn regions whose first operations only look and call, and whose effects stand at the end. -/
import Derived.Test.YtdiekinmoklonaaA2
import Derived.Lib.AppendZerosOnto
import Derived.Laws.CopyRow
import Derived.RangeFuncSeq
import Derived.RangeFuncBox
import Derived.RangeFuncLeaves
import Derived.Shelf.Abstract
import Derived.WalkKit
import Derived.OwnWalkIn
import Derived.TacticsInMore
import Derived.LoopNIn
import Derived.LoopIn
import Derived.Shelf.Sort.Plain
import Derived.Shelf.Slices.In.SortNone
import Derived.Shelf.SlSortCmp.NoneTotal
section
namespace Go.Ab
open Go.RowKit

def natZ (i : Int) : Option Nat := if 0 ≤ i then some i.toNat else none
end Go.Ab
end
section
namespace Go.Ab
open Go.RowKit

mutual
theorem RV.relo {E E' : Env} {w : World} (hz : E'.Z = E.Z) : ∀ (c : V) (x : Value), (∀ id, c.has id = true → E'.loc id = E.loc id) → RV E w c x → RV E' w c x
 | .d x, v, _, h => by unfold RV at h ⊢; rw [hz]; exact h
 | .ref i off len, v, hh, h => by
  unfold RV at h ⊢
  rw [hh i (by simp [V.has])]
  exact h
 | .ptr i k off, v, hh, h => by
  unfold RV at h ⊢
  rw [hh i (by simp [V.has])]
  exact h
 | .mref i, v, hh, h => by
  unfold RV at h ⊢
  rw [hh i (by simp [V.has])]
  exact h
 | .agg cs, v, hh, ⟨vs, h1, h2, h3⟩ => ⟨vs, h1, h2, RVs.relo hz cs vs (fun id h => hh id (by simpa [V.has] using h)) h3⟩
 | .tup cs, v, hh, ⟨vs, h1, h2⟩ => ⟨vs, h1, RVs.relo hz cs vs (fun id h => hh id (by simpa [V.has] using h)) h2⟩
 | .fn f cs, v, hh, ⟨vs, h1, h2⟩ => ⟨vs, h1, RVs.relo hz cs vs (fun id h => hh id (by simpa [V.has] using h)) h2⟩
 | .dx es, v, _, h => by unfold RV at h ⊢; rw [hz]; exact h
 | .hole, _, _, h => h
 | .junk, _, _, _ => trivial
theorem RVs.relo {E E' : Env} {w : World} (hz : E'.Z = E.Z) : ∀ (cs : List V) (vs : List Value), (∀ id, hasL id cs = true → E'.loc id = E.loc id) → RVs E w cs vs → RVs E' w cs vs
 | [], vs, _, h => h
 | c :: cs, vs, hh, ⟨v, r, h1, h2, h3⟩ => ⟨v, r, h1, RV.relo hz c v (fun id h => hh id (by simp [hasL, h])) h2, RVs.relo hz cs r (fun id h => hh id (by simp [hasL, h])) h3⟩
end

/-- a block that is no one's -/
def Free (H : Heap) (E : Env) (D : Nat) : Prop := (∀ i, H i ≠ none → (E.loc i).nil = false → (E.loc i).b ≠ D) ∧ ¬ E.Z D
def Env.more (E : Env) (Z : Nat → Prop) : Env := ⟨E.loc, fun b => E.Z b ∨ Z b⟩

/-- a frame that begins here -/
def Fx.now (W : World) (E : Env) (H : Heap) (roots : List (Nat × Loc)) (d : List Deferred) (ro : Option Nat) (h : ∀ l, ro = some l → Free H E l ∧ ∃ r, W.heap[l]? = some (.loop r)) : Fx :=
 ⟨W, E.Z, lof E H, roots, d, ro, fun l e => by
  obtain ⟨⟨h1, h2⟩, r, h3⟩ := h l e
  exact ⟨(Array.getElem?_eq_some_iff.1 h3).1, fun ⟨i, a, b, c⟩ => h1 i a b c, h2, r, h3⟩⟩

theorem Mod.now {fx : Fx} {S : St} {E : Env} {a : Act} {W : World} (m : Mod fx S E a W) (roots : List (Nat × Loc)) (d : List Deferred) (ro : Option Nat) (h : ∀ l, ro = some l → Free S.hp E l ∧ ∃ r, W.heap[l]? = some (.loop r))
  (hr : ∀ r ∈ roots, r.1 ∈ S.rts ∧ E.loc r.1 = r.2) : Mod (Fx.now W E S.hp roots d ro h) S E { a with defers := d } W :=
 ⟨m.nt, m.slots, rfl, m.ok, ⟨rfl, rfl, rfl, Nat.le_refl _, fun _ _ _ => rfl⟩, fun i hi hn => .inr ⟨i, hi, hn, rfl⟩, fun _ h => .inl h, hr⟩

/-- what happened since W left the loop's frame as it must be -/
structure Since (W : World) (E : Env) (H : Heap) (lp : Nat) (W3 : World) (E3 : Env) (H3 : Heap) : Prop where
 os : W3.os = W.os
 tape : W3.tape = W.tape
 output : W3.output = W.output
 size : W.heap.size ≤ W3.heap.size
 block : ∀ b, b < W.heap.size → ¬ lof E H b → b ≠ lp → W3.heap[b]? = W.heap[b]?
 mine : ∀ i, H3 i ≠ none → (E3.loc i).nil = false → W.heap.size ≤ (E3.loc i).b ∨ lof E H (E3.loc i).b
 z : ∀ b, E3.Z b → E.Z b ∨ W.heap.size ≤ b ∨ lof E H b

theorem Mod.resume {fx : Fx} {nt : Nat} {rts : List Nat} {sl : Nat → V} {H : Heap} {E : Env} {a : Act} {W : World} (m : Mod fx ⟨nt, rts, sl, H⟩ E a W) {lp : Nat} (hlp : fx.w0.heap.size ≤ lp) (hlf : Free H E lp)
  {fx3 : Fx} {S3 : St} {E3 : Env} {a3 : Act} {W3 : World} (m3 : Mod fx3 S3 E3 a3 W3) (s : Since W E H lp W3 E3 S3.hp) (hids : ∀ t id, (sl t).has id = true → E3.loc id = E.loc id) (hroots : ∀ r ∈ fx.roots, E3.loc r.1 = E.loc r.1) :
  Mod fx ⟨nt, rts, sl, S3.hp⟩ (E3.more E.Z) a W3 := by
 have hk : Keeps E.Z W W3 := fun b hb => s.block b (m.ok.zlt b hb) (fun ⟨i, hi, hn, e⟩ => m.ok.apart i hi hn (e ▸ hb)) (fun e => hlf.2 (e ▸ hb))
 refine ⟨m.nt, fun t => ?_, m.dfr, ⟨fun id k hh => ?_, m3.ok.inj, fun i hi hn h => ?_, fun b hb => ?_⟩, ⟨s.os.trans m.frame.os, s.tape.trans m.frame.tape, s.output.trans m.frame.output, Nat.le_trans m.frame.size s.size, fun b h1 h2 => ?_⟩, fun i hi hn => ?_, fun b hb => ?_, fun r hr => ?_⟩
 ·have h1 : RV ⟨E.loc, (E3.more E.Z).Z⟩ W3 (sl t) (a.tmps.getD t undef) := RV.keep (E := E) (E' := ⟨E.loc, (E3.more E.Z).Z⟩) hk (fun b h => Or.inr h) rfl _ _ (m.slots t)
  exact RV.relo (E := ⟨E.loc, (E3.more E.Z).Z⟩) (E' := E3.more E.Z) rfl _ _ (fun id h => hids t id h) h1
 ·exact (m3.ok.hold id k hh).keep (E' := E3.more E.Z) (fun _ _ => rfl) (fun _ h => .inl h) rfl (fun _ => rfl) (Nat.le_refl _)
 ·rcases h with h | h
  ·exact m3.ok.apart i hi hn h
  ·rcases s.mine i hi hn with g | ⟨j, g1, g2, g3⟩
   ·exact absurd (m.ok.zlt _ h) (by simp only [Env.more] at *; omega)
   ·exact m.ok.apart j g1 g2 (by rw [g3]; exact h)
 ·rcases hb with h | h
  ·exact m3.ok.zlt b h
  ·exact Nat.lt_of_lt_of_le (m.ok.zlt b h) s.size
 ·have hs := m.frame.size
  refine (s.block b (by omega) (fun ⟨i, hi, hn, e⟩ => ?_) (by omega)).trans (m.frame.block b h1 h2)
  rcases m.mine i hi hn with g | g
  ·omega
  ·exact h2 (e ▸ g)
 ·have hs := m.frame.size
  rcases s.mine i hi hn with g | ⟨j, g1, g2, g3⟩
  ·exact .inl (by simp only [Env.more] at *; omega)
  ·show _ ∨ fx.L (E3.loc i).b
   rw [← g3]
   have := m.mine j g1 g2
   rcases this with g | g
   ·left; show fx.w0.heap.size ≤ (E3.loc i).b; rw [← g3]; exact g
   ·exact .inr g
 ·have hs := m.frame.size
  have hL : ∀ b, lof E H b → fx.w0.heap.size ≤ b ∨ fx.L b := fun b ⟨i, hi, hn, e⟩ => by subst e; exact m.mine i hi hn
  rcases hb with h | h
  ·rcases s.z b h with h | h | h
   ·exact m.z b h
   ·exact .inr (.inl (by omega))
   ·exact .inr (hL b h)
  ·exact m.z b h
 ·exact ⟨(m.roots r hr).1, (hroots r hr).trans (m.roots r hr).2⟩

theorem Since.free {W : World} {E : Env} {H : Heap} {lp : Nat} {W3 : World} {E3 : Env} {H3 : Heap} (s : Since W E H lp W3 E3 H3) {D : Nat} (hD : D < W.heap.size) (h : Free H E D) : Free H3 (E3.more E.Z) D := by
 refine ⟨fun i hi hn e => ?_, fun hz => ?_⟩
 ·have e : (E3.loc i).b = D := e
  rcases s.mine i hi hn with g | ⟨j, g1, g2, g3⟩
  ·omega
  ·exact h.1 j g1 g2 (by rw [g3]; exact e)
 ·rcases hz with hz | hz
  ·rcases s.z D hz with g | g | ⟨j, g1, g2, g3⟩
   ·exact h.2 g
   ·omega
   ·exact h.1 j g1 g2 g3
  ·exact h.2 hz

/-- turning the record at the end -/
theorem Since.turn {W : World} {E : Env} {H : Heap} {lp : Nat} {W3 : World} {E3 : Env} {H3 : Heap} (s : Since W E H lp W3 E3 H3) (o : Obj) : Since W E H lp (W3.putObj lp o) E3 H3 :=
 ⟨s.os, s.tape, s.output, by rw [World.putObj_size]; exact s.size, fun b h1 h2 h3 => (World.putObj_heap_other h3).trans (s.block b h1 h2 h3), s.mine, s.z⟩

theorem Mod.since {fx : Fx} {S : St} {E : Env} {a : Act} {W : World} (m : Mod fx S E a W) {W0 : World} {E0 : Env} {H0 : Heap} (lp : Nat) (h1 : ∃ o, fx.w0 = W0.putObj lp o) (h2 : fx.L = lof E0 H0) (h3 : fx.Z0 = E0.Z) : Since W0 E0 H0 lp W E S.hp := by
 obtain ⟨o, h1⟩ := h1
 have f := m.frame
 have mi := m.mine
 have mz := m.z
 rw [h1, h2] at mi
 rw [h1, h2, h3] at mz
 have hs : fx.w0.heap.size = W0.heap.size := by rw [h1, World.putObj_size]
 refine ⟨by rw [f.os, h1]; rfl, by rw [f.tape, h1]; rfl, by rw [f.output, h1]; rfl, by rw [← hs]; exact f.size, fun b hb hl hp => ?_, fun i hi hn => ?_, fun b hb => ?_⟩
 ·rw [f.block b (by omega) (by rw [h2]; exact hl), h1]; exact World.putObj_heap_other hp
 ·have := mi i hi hn; rw [World.putObj_size] at this; exact this
 ·have := mz b hb; rw [World.putObj_size] at this; exact this

theorem Mod.since0 {fx : Fx} {S : St} {E : Env} {a : Act} {W : World} (m : Mod fx S E a W) {W0 : World} {E0 : Env} {H0 : Heap} (lp : Nat) (h1 : fx.w0 = W0) (h2 : fx.L = lof E0 H0) (h3 : fx.Z0 = E0.Z) : Since W0 E0 H0 lp W E S.hp := by
 subst h1
 have f := m.frame
 have mi := m.mine
 have mz := m.z
 rw [h2] at mi
 rw [h2, h3] at mz
 exact ⟨f.os, f.tape, f.output, f.size, fun b hb hl _ => f.block b hb (by rw [h2]; exact hl), mi, mz⟩

theorem Free.less {H : Heap} {E : Env} {Z : Nat → Prop} {D : Nat} (h : Free H (E.more Z) D) : Free H E D := ⟨h.1, fun g => h.2 (.inl g)⟩
theorem Free.not {H : Heap} {E : Env} {D : Nat} (h : Free H E D) : ¬ lof E H D := fun ⟨i, a, b, c⟩ => h.1 i a b c

/-- a frame that begins with the turn of a free block -/
theorem Mod.fresh {fx : Fx} {S : St} {E : Env} {a : Act} {W : World} (m : Mod fx S E a W) {D : Nat} (hf : Free S.hp E D) (o : Obj) (roots : List (Nat × Loc)) (ro : Option Nat) (h : ∀ l, ro = some l → Free S.hp E l ∧ ∃ r, (W.putObj D o).heap[l]? = some (.loop r))
  (hr : ∀ r ∈ roots, r.1 ∈ S.rts ∧ E.loc r.1 = r.2) : Mod (Fx.now (W.putObj D o) E S.hp roots a.defers ro h) S E a (W.putObj D o) := by
 have hk : Keeps E.Z W (W.putObj D o) := fun b hb => World.putObj_heap_other (fun e => hf.2 (e ▸ hb))
 refine ⟨m.nt, fun t => RV.keep hk (fun _ h => h) rfl _ _ (m.slots t), rfl, ⟨fun id k hh => ?_, m.ok.inj, m.ok.apart, fun b hb => by rw [World.putObj_size]; exact m.ok.zlt b hb⟩, ⟨rfl, rfl, rfl, Nat.le_refl _, fun _ _ _ => rfl⟩, fun i hi hn => .inr ⟨i, hi, hn, rfl⟩, fun _ h => .inl h, hr⟩
 exact (m.ok.hold id k hh).keep hk (fun _ h => h) rfl (fun hn => World.putObj_heap_other (hf.1 id (by rw [hh]; simp) hn)) (by rw [World.putObj_size]; exact Nat.le_refl _)

theorem Since.trans {W1 W2 W3 : World} {E1 E2 E3 : Env} {H1 H2 H3 : Heap} {lp : Nat} (x : Since W1 E1 H1 lp W2 E2 H2) (y : Since W2 E2 H2 lp W3 E3 H3) : Since W1 E1 H1 lp W3 E3 H3 := by
 have hL : ∀ b, lof E2 H2 b → W1.heap.size ≤ b ∨ lof E1 H1 b := fun b ⟨i, hi, hn, e⟩ => by subst e; exact x.mine i hi hn
 have hs := x.size
 refine ⟨y.os.trans x.os, y.tape.trans x.tape, y.output.trans x.output, Nat.le_trans x.size y.size, fun b h1 h2 h3 => ?_, fun i hi hn => ?_, fun b hb => ?_⟩
 ·refine (y.block b (by omega) (fun h => ?_) h3).trans (x.block b h1 h2 h3)
  rcases hL b h with h | h
  ·omega
  ·exact h2 h
 ·rcases y.mine i hi hn with h | h
  ·exact .inl (by omega)
  ·exact hL _ h
 ·rcases y.z b hb with h | h | h
  ·exact x.z b h
  ·exact .inr (.inl (by omega))
  ·exact .inr (hL _ h)
end Go.Ab
end
section
namespace Go.Ab
open Go.RowKit

def rangeL {α β ρ : Type} (step : α → β → Option (Out β ρ)) : List α → β → Option (Out β ρ)
 | [], b => some (.go b)
 | x :: xs, b => match step x b with
  | some (.go b') => rangeL step xs b'
  | some (.ret r) => some (.ret r)
  | none => none

def elemV : List D → V
 | [c] => .d c
 | cs => .agg (cs.map .d)
def elemW : List Value → Value
 | [v] => v
 | vs => .agg vs.toArray
theorem elemV_sound {E : Env} {w : World} : ∀ {cs : List D} {vs : List Value}, RDs w E.Z cs vs → RV E w (elemV cs) (elemW vs)
 | [], vs, h => by
  obtain rfl : vs = [] := h
  exact ⟨[], rfl, fun c h => by simp at h, rfl⟩
 | [c], vs, h => by
  obtain ⟨v, r, rfl, h1, h2⟩ := h
  obtain rfl : r = [] := h2
  exact h1
 | c :: d :: cs, vs, h => by
  have h' := RVs_d.2 h
  obtain ⟨v, r, rfl, h1, v', r', rfl, h2, h3⟩ := h
  exact ⟨_, rfl, fun c h => by obtain ⟨x, _, rfl⟩ := List.mem_map.1 h; rfl, h'⟩

@[simp] theorem elemV_one (c : D) : elemV [c] = .d c := rfl
@[simp] theorem elemV_two (c d : D) (cs : List D) : elemV (c :: d :: cs) = .agg ((c :: d :: cs).map .d) := rfl

attribute [simp] V.wk1 D.wk

structure SrcOk (H : Heap) (src : V) (es : List (List D)) (m : Nat) : Prop where
 len : ∀ (E : Env) (w : World) (u : Value), E.ok H w → RV E w src u → es.length ≤ maxLen ∧ ∃ A cap, u = .slice A es.length cap
 get : ∀ (E : Env) (w : World) (u : Value), E.ok H w → RV E w src u → ∀ (j : Nat) (e : List D), es[j]? = some e → ∃ b off cap vs, u = .slice (some ⟨b, off, none⟩) es.length cap ∧ RDs w E.Z e vs ∧ w.rangeAt b (off + j * m) vs
theorem SrcOk.of {H : Heap} {src : V} {es : List (List D)} {m : Nat} (hl : lenV src = some es.length) (h1 : ∀ (E : Env) (w : World) (u : Value), E.ok H w → RV E w src u → es.length ≤ maxLen) (h2 : ∀ (j : Nat) (e : List D), es[j]? = some e → ∃ r, idxS H src (j : Int) m = some r ∧ cellsAt H r = some (e.map .d)) : SrcOk H src es m :=
 ⟨fun E w u ok h => ⟨h1 E w u ok h, lenV_sound h hl⟩, fun E w u ok h j e he => by
  obtain ⟨A, cap, hu⟩ := lenV_sound h hl
  obtain ⟨r, hr, hc⟩ := h2 j e he
  obtain ⟨b, o, len, cap', hu', _, _, hr'⟩ := idxS_sound ok h hr
  obtain ⟨b', o', vs, hp, g1, g2, _, _⟩ := cellsAt_sound ok hr' hc
  rw [hu] at hu'
  injection hu' with e1 e2 e3
  injection hp with hp
  injection hp with hp
  injection hp with q1 q2
  refine ⟨b, o, cap, vs, by rw [hu, e1], RVs_d.1 g1, ?_⟩
  rw [← q1, ← q2] at g2
  simpa using g2⟩
theorem SrcOk.data {H : Heap} {es : List (List D)} {m : Nat} (hm : ∀ e ∈ es, e.length = m) : SrcOk H (.d (.sl es)) es m :=
 SrcOk.of rfl (fun E w u ok h => by obtain ⟨A, cap, _, h1, h2, _⟩ := h; omega) fun j e he => ⟨.d (.pim e), by simp [idxS, he, hm e (List.mem_of_getElem? he)], rfl⟩
theorem SrcOk.own {H : Heap} {es : List (List D)} {m id T : Nat} (h : H id = some (.arr T m es)) : SrcOk H (.ref id 0 es.length) es m :=
 SrcOk.of rfl (fun E w u ok _ => by
  obtain ⟨_, _, _, _, h5⟩ := ok.hold _ _ h
  rcases h5 with ⟨_, h6⟩ | ⟨_, c, flat, _, h7, h8, _⟩
  ·rw [h6]; exact Nat.zero_le _
  ·omega) fun j e he => ⟨.ptr id j 0, by simp [idxS, h, (List.getElem?_eq_some_iff.1 he).1], by simp [cellsAt, h, he]⟩

/-- what the iterator hands over in round k: the elements from the last to the first -/
def BackArg (m : Nat) (p : Addr) (N k : Nat) (W : World) (args : Array Value) : Prop :=
 ∃ b off cap vs, W.cell? p = some (.slice (some ⟨b, off, none⟩) N cap) ∧ W.rangeAt b (off + (N - 1 - k) * m) vs ∧ vs.length = m ∧ args = #[.int .i64 ((N - 1 - k : Nat) : Int), elemW vs]
def BackC (P : Program) (gf m : Nat) : Prop :=
 ∀ (pb po l N : Nat) (J : Nat → World → Prop) (Jx : World → Prop) (W : World), N ≤ maxLen →
  (∀ k W, k ≤ N → J k W → ∃ A cap, W.cell? ⟨pb, po, none⟩ = some (.slice A N cap)) →
  (∀ k W, k < N → J k W → ∃ args, BackArg m ⟨pb, po, none⟩ N k W args ∧ YieldAt Fence.wide 6 P l args W fun e W' => (e = .returned (.bool true) ∧ J (k + 1) W') ∨ (e = .returned (.bool false) ∧ Jx W')) →
  J 0 W → CallsIn Fence.wide 7 P gf #[.func (.yield l) #[] #[], .pointer (some ⟨pb, po, none⟩)] W fun e W' => (∃ v, e = .returned v) ∧ (J N W' ∨ Jx W')

theorem callsIn_rd {ro : Option Nat} {n k : Nat} {P : Program} {f : FuncId} {args : Array Value} {w : World} {R : Ending → World → Prop} (h : CallsIn Fence.wide n P f args w R) : CallsIn (Rd ro) k P f args w R := rd_calls (callsIn_wide.1 h)
theorem wpIn_any {ro : Option Nat} {n k : Nat} {P : Program} {c : Code} {Q : Exit → Act → World → Prop} {a : Act} {w : World} (h : c.wpIn (Rd ro) n P Q a w) : c.wpIn (Rd ro) k P Q a w := fun b kk cs h1 h2 _ => h b kk cs h1 h2 (fun _ hd => by cases hd)

theorem run_enterLoop_inner {P : Program} {w : World} {l0 : Nat} {r0 : Loop} (h : w.heap[l0]? = some (.loop r0)) (fn : FuncId) (tmps : Array Value) (ps : Array Tmp) (assign body : Code) :
  (Instr.enterLoop fn tmps ps assign body (some l0)).run P w = .ok (w.heap.size, []) (w.alloc (.loop { state := .ready, pending := none, fn, tmps, params := ps, assign, body, defers := r0.defers })) := by
 unfold Instr.enterLoop
 simp only [Sem.run_bind, run_getLoop h, run_newObj_alloc, Result.andThen, Sem.run_pure]

theorem grow_alloc (w : World) (o : Obj) : Grow w (w.alloc o) := ⟨rfl, rfl, rfl, by simp, fun b hb => Below.heap_alloc _ _ _ hb⟩
theorem Grow.trans' {a b c : World} (h : Grow a b) (k : Grow b c) : Grow a c := ⟨k.os.trans h.os, k.tape.trans h.tape, k.output.trans h.output, Nat.le_trans h.size k.size, fun i hi => (k.block i (Nat.lt_of_lt_of_le hi h.size)).trans (h.block i hi)⟩

theorem enter_any {P : Program} {w : World} {ro : Option Nat} (h : ∀ l, ro = some l → ∃ r, w.heap[l]? = some (.loop r)) (fn : FuncId) (tmps : Array Value) (ps : Array Tmp) (assign body : Code) :
  ∃ (lp D : Nat) (ms : List Nat) (W1 : World), (Instr.enterLoop fn tmps ps assign body ro).run P w = .ok (lp, ms.map coll) W1 ∧ W1.heap[lp]? = some (.loop { state := .ready, pending := none, fn, tmps, params := ps, assign, body, defers := D }) ∧ Grow w W1 ∧ w.heap.size ≤ lp ∧ ms.Nodup ∧
   ∀ d ∈ ms, w.heap.size ≤ d ∧ d ≠ lp ∧ W1.heap[d]? = some (.deferred (some [])) := by
 cases ro with
 | none =>
  refine ⟨_, w.heap.size, [w.heap.size], _, run_enterLoop_outer fn tmps ps assign body, ?_, (grow_alloc _ _).trans' (grow_alloc _ _), by omega, by simp, fun d hd => ?_⟩
  ·have := World.alloc_heap_new (w.alloc (.deferred (some []))) (.loop { state := .ready, pending := none, fn, tmps, params := ps, assign, body, defers := w.heap.size })
   rwa [World.size_alloc] at this
  ·obtain rfl : d = w.heap.size := by simpa using hd
   exact ⟨Nat.le_refl _, by omega, (Below.heap_alloc _ _ _ (by simp)).trans (World.alloc_heap_new w _)⟩
 | some l0 =>
  obtain ⟨r0, h0⟩ := h l0 rfl
  exact ⟨_, r0.defers, [], _, run_enterLoop_inner h0 fn tmps ps assign body, World.alloc_heap_new w _, grow_alloc _ _, Nat.le_refl _, List.nodup_nil, fun d hd => by cases hd⟩

def jumpOf : Exit → Option Code
 | .ret => some .ret
 | .exit id => some (.exit id)
 | .goto t => some (.goto t)
 | _ => none

def PostR {β ρ : Type} (nt : Nat) (rts rts' : List Nat) (l : List (Nat × V)) (Hst : β → List (Nat × Option Blk)) (r : ρ) (Q : Exit → St → Prop) : Out β ρ → Exit → St → Prop
 | .go b, e, S => e = .normal ∧ Sub S (mk nt rts' [] (Hst b))
 | .ret r', e, S => jumpOf e ≠ none ∧ ∃ h', Sub S (mk nt rts' [] h') ∧ (r' = r → Q e (mk nt rts l h'))

theorem tlook_has {id : Nat} : ∀ {l : List (Nat × V)} {t : Nat}, (tlook l t).has id = true → ∃ p ∈ l, p.2.has id = true
 | [], _, h => by simp [tlook, V.has] at h
 | (k, v) :: l, t, h => by
  simp only [tlook] at h
  split at h
  ·exact ⟨_, List.mem_cons_self .., h⟩
  ·obtain ⟨p, h1, h2⟩ := tlook_has h
   exact ⟨p, List.mem_cons_of_mem _ h1, h2⟩

theorem Free.grow {H : Heap} {E : Env} {w : World} (ok : E.ok H w) {D : Nat} (h : w.heap.size ≤ D) : Free H E D :=
 ⟨fun i hi hn e => by
  cases hh : H i with
  | none => exact hi hh
  | some k =>
   have := (ok.hold i k hh).block_lt hn
   omega, fun hz => by have := ok.zlt D hz; omega⟩

theorem rangeL_drop {α β ρ : Type} {step : α → β → Option (Out β ρ)} {xs : List α} {k : Nat} {x : α} {b : β} {o : Out β ρ} (hx : xs[k]? = some x) (h : rangeL step (xs.drop k) b = some o) :
  (∃ b', step x b = some (.go b') ∧ rangeL step (xs.drop (k + 1)) b' = some o) ∨ ∃ r', step x b = some (.ret r') ∧ o = .ret r' := by
 obtain ⟨hlt, he⟩ := List.getElem?_eq_some_iff.1 hx
 rw [List.drop_eq_getElem_cons hlt, he] at h
 simp only [rangeL] at h
 split at h
 ·rename_i b' hb; exact .inl ⟨b', hb, h⟩
 ·rename_i r' hb; injection h with h; exact .inr ⟨r', hb, h.symm⟩
 ·cases h

section
variable {P : Program} {α β ρ : Type}
set_option maxHeartbeats 1000000 in
theorem AW.back {tg : Nat} {p0 p1 : Tmp} {assign body : Code} {S : St} {Q : Exit → St → Prop} {gf mz B : Nat} {src : V} {c : α → List D} {xs : List α} {step : α → β → Option (Out β ρ)} {b0 : β} {o : Out β ρ} {r : ρ} {nt : Nat} {rts : List Nat} {l : List (Nat × V)}
  (Hst : β → List (Nat × Option Blk)) (rts' : List Nat) (hC : BackC P gf mz) (hent : Rp.Enters P gf) (h0 : Sub S (mk nt rts l (Hst b0)))
  (hg : tlook l tg = .fn (.func gf) [.ptr B 0 0]) (hB : ∀ b, hlook (Hst b) B = some (.box [src])) (hsrc : ∀ b, SrcOk (hlook (Hst b)) src (xs.map c) mz) (hm : ∀ x, (c x).length = mz)
  (hrts : ∀ i ∈ rts, i ∈ rts') (hids : ∀ p ∈ l, ∀ id, p.2.has id = true → id ∈ rts')
  (hd : rangeL step xs.reverse b0 = some o)
  (round : ∀ b x o', step x b = some o' → AW P assign (((mk nt rts' l (Hst b)).put (some p0) .junk).put (some p1) (elemV (c x))) (thenQ (fun S1 => AW P body S1 (PostR nt rts rts' l Hst r Q o')) (fun _ _ => False))) :
  AW P (.rangeFunc (.tmp tg) #[p0, p1] assign body) S (PostJ (fun b => mk nt rts l (Hst b)) r Q o) := by
 intro fx a w m0
 obtain ⟨E0, m⟩ := h0 fx a w m0
 have hgv := m.ev (.tmp tg)
 rw [show (mk nt rts l (Hst b0)).ev (.tmp tg) = .fn (.func gf) [.ptr B 0 0] from hg] at hgv
 obtain ⟨vs, hval, v0, r0, rfl, hp, rfl⟩ := hgv
 obtain ⟨hBn, rfl⟩ := hp
 have hpin0 : ∀ t id, (tlook l t).has id = true → id ∈ rts' := fun t id h => by obtain ⟨p, h1, h2⟩ := tlook_has h; exact hids p h1 id h2
 refine wpIn_rangeFunc fun fn _ => ?_
 obtain ⟨lp, Dd, ms, W1, hrun, hL1, hgr, hlp, hnd, hms⟩ := enter_any (P := P) (w := w) (ro := fx.ro) (fun l0 e => by
  obtain ⟨g1, g2, _, r0, g4⟩ := fx.lrec l0 e
  exact ⟨r0, (m.frame.block l0 g1 g2).trans g4⟩) fn a.tmps #[p0, p1] assign body
 obtain ⟨rec, hrec⟩ : ∃ rec : LoopState → Option Code → Loop, rec = fun st pe => { state := st, pending := pe, fn, tmps := a.tmps, params := #[p0, p1], assign, body, defers := Dd } := ⟨_, rfl⟩
 have hL1 : W1.heap[lp]? = some (.loop (rec .ready none)) := by rw [hrec]; exact hL1
 have hlt1 : lp < W1.heap.size := (Array.getElem?_eq_some_iff.1 hL1).1
 obtain ⟨roots, hroots⟩ : ∃ roots : List (Nat × Loc), roots = rts'.map fun i => (i, E0.loc i) := ⟨_, rfl⟩
 obtain ⟨fxl, hfxl⟩ : ∃ fxl, fxl = Fx.now w E0 (hlook (Hst b0)) roots a.defers none (fun _ h => by cases h) := ⟨_, rfl⟩
 have ml : Mod fxl ⟨nt, rts', tlook l, hlook (Hst b0)⟩ E0 a w := by
  subst hfxl
  exact ⟨m.nt, m.slots, rfl, m.ok, ⟨rfl, rfl, rfl, Nat.le_refl _, fun _ _ _ => rfl⟩, fun i hi hn => .inr ⟨i, hi, hn, rfl⟩, fun _ h => .inl h, fun r hr => by
   rw [show (Fx.now w E0 (hlook (Hst b0)) roots a.defers none (fun _ h => by cases h)).roots = roots from rfl, hroots] at hr
   obtain ⟨i, hi, rfl⟩ := List.mem_map.1 hr
   exact ⟨hi, rfl⟩⟩
 have hw0 : fxl.w0 = w := by rw [hfxl]; rfl
 have hrr : fxl.roots = rts'.map fun i => (i, E0.loc i) := by rw [hfxl, ← hroots]; rfl
 -- where the pinned names lie
 have pin : ∀ {b : β} {h : List (Nat × Option Blk)} {E : Env} {W : World}, Mod fxl ⟨nt, rts', tlook l, hlook h⟩ E a W → ∀ i ∈ rts', E.loc i = E0.loc i := fun {b h E W} mm i hi =>
  (mm.roots (i, E0.loc i) (by rw [hrr]; exact List.mem_map.2 ⟨i, hi, rfl⟩)).2
 have hBin : B ∈ rts' := hpin0 tg B (by rw [hg]; simp [V.has, hasL])
 obtain ⟨J, hJ⟩ : ∃ J : Nat → World → Prop, J = fun k W => ∃ b E, rangeL step (xs.reverse.drop k) b = some o ∧ Mod fxl ⟨nt, rts', tlook l, hlook (Hst b)⟩ E a W ∧ W.heap[lp]? = some (.loop (rec .ready none)) ∧ (∀ d ∈ ms, W.heap[d]? = some (.deferred (some []))) ∧ (∀ d ∈ lp :: ms, Free (hlook (Hst b)) E d) := ⟨_, rfl⟩
 obtain ⟨Jx, hJx⟩ : ∃ Jx : World → Prop, Jx = fun W => ∃ e jc h' E r', jumpOf e = some jc ∧ o = .ret r' ∧ (r' = r → Q e (mk nt rts l h')) ∧ Mod fxl ⟨nt, rts', tlook l, hlook h'⟩ E a W ∧ W.heap[lp]? = some (.loop (rec .done (some jc))) ∧ (∀ d ∈ ms, W.heap[d]? = some (.deferred (some []))) ∧ (∀ d ∈ lp :: ms, Free (hlook h') E d) := ⟨_, rfl⟩
 have hm1 : ∀ d ∈ lp :: ms, w.heap.size ≤ d ∧ d < W1.heap.size := fun d hd => by
  rcases List.mem_cons.1 hd with rfl | h
  ·exact ⟨hlp, hlt1⟩
  ·obtain ⟨g1, _, g3⟩ := hms d h
   exact ⟨g1, (Array.getElem?_eq_some_iff.1 g3).1⟩
 have hJ0 : J 0 W1 := by
  rw [hJ]
  exact ⟨b0, E0, hd, ml.grow hgr, hL1, fun d hd => (hms d hd).2.2, fun d hd => Free.grow m.ok (hm1 d hd).1⟩
 -- the frame behind the loop
 have behind : ∀ (h : List (Nat × Option Blk)) (E : Env) (W : World), Mod fxl ⟨nt, rts', tlook l, hlook h⟩ E a W → (∀ d ∈ ms, W.heap[d]? = some (.deferred (some []))) → (∀ d ∈ lp :: ms, Free (hlook h) E d) →
   ∃ fx', Ext fx fx' ∧ Models fx' (mk nt rts l h) { a with defers := ms.map coll ++ a.defers } W := by
  intro h E W mm hmk hfree
  have hE : ∀ i ∈ rts', E.loc i = E0.loc i := pin (b := b0) mm
  have hLl : ∀ b, lof E0 (hlook (Hst b0)) b → fx.w0.heap.size ≤ b ∨ fx.L b := fun b ⟨i, hi, hn, e⟩ => by subst e; exact m.mine i hi hn
  have hfl : fxl.L = lof E0 (hlook (Hst b0)) := by rw [hfxl]; rfl
  have hzl : fxl.Z0 = E0.Z := by rw [hfxl]; rfl
  have hsw := m.frame.size
  have hfr : fx.frame W := by
   have f := mm.frame
   refine ⟨f.os.trans (hw0 ▸ m.frame.os), f.tape.trans (hw0 ▸ m.frame.tape), f.output.trans (hw0 ▸ m.frame.output), Nat.le_trans hsw (hw0 ▸ f.size), fun b h1 h2 => ?_⟩
   have := f.block b (by rw [hw0]; omega) (by rw [hfl]; intro h; rcases hLl b h with h | h; omega; exact h2 h)
   rw [hw0] at this
   exact this.trans (m.frame.block b h1 h2)
  have hmine : ∀ b, lof E (hlook h) b → fx.w0.heap.size ≤ b ∨ fx.L b := fun b ⟨i, hi, hn, e⟩ => by
   subst e
   rcases mm.mine i hi hn with g | g
   ·rw [hw0] at g; exact .inl (by omega)
   ·rw [hfl] at g; exact hLl _ g
  have hz : ∀ b, E.Z b → fx.Z0 b ∨ fx.w0.heap.size ≤ b ∨ fx.L b := fun b hb => by
   rcases mm.z b hb with g | g | g
   ·rw [hzl] at g; exact m.z b g
   ·rw [hw0] at g; exact .inr (.inl (by omega))
   ·rw [hfl] at g; exact .inr (hLl b g)
  have hrec' : ∀ l0, fx.ro = some l0 → Free (hlook h) E l0 ∧ ∃ r, W.heap[l0]? = some (.loop r) := fun l0 e => by
   obtain ⟨g1, g2, g3, r0, g4⟩ := fx.lrec l0 e
   refine ⟨⟨fun i hi hn e' => ?_, fun hz' => ?_⟩, r0, (hfr.block l0 g1 g2).trans g4⟩
   ·rcases hmine l0 ⟨i, hi, hn, e'⟩ with g | g
    ·omega
    ·exact g2 g
   ·rcases hz l0 hz' with g | g | g
    ·exact g3 g
    ·omega
    ·exact g2 g
  refine ⟨Fx.now W E (hlook h) fx.roots (ms.map coll ++ fx.dfr) fx.ro hrec', ⟨rfl, hfr, hmine, hz, rfl, ms, rfl, hnd, fun d hd => ?_⟩, E, ?_⟩
  ·have h1 := hm1 d (List.mem_cons_of_mem _ hd)
   have h2 := hfree d (List.mem_cons_of_mem _ hd)
   have h3 := hmk d hd
   exact ⟨by omega, (Array.getElem?_eq_some_iff.1 h3).1, h3, h2.2, fun ⟨i, a1, a2, a3⟩ => h2.1 i a1 a2 a3⟩
  ·refine ⟨mm.nt, mm.slots, by rw [m.dfr]; rfl, mm.ok, ⟨rfl, rfl, rfl, Nat.le_refl _, fun _ _ _ => rfl⟩, fun i hi hn => .inr ⟨i, hi, hn, rfl⟩, fun _ h => .inl h, fun r hr => ?_⟩
   obtain ⟨g1, g2⟩ := m.roots r hr
   exact ⟨g1, (hE r.1 (hrts _ g1)).trans g2⟩
 refine ⟨lp, ms.map coll, W1, { target := .fn (.func gf) [.pointer (some ⟨(E0.loc B).b, (E0.loc B).o + 0 * (E0.loc B).n + 0, none⟩)].toArray, args := #[.func (.yield lp) #[] #[]] }, W1, gf, #[.func (.yield lp) #[] #[], .pointer (some ⟨(E0.loc B).b, (E0.loc B).o + 0 * (E0.loc B).n + 0, none⟩)], W1, hrun, ?_, fun _ _ => trivial, ?_, (fun h => by cases h), ?_⟩
 ·simp only [resolve, hval]
  simp [go_sem]
 ·have := hent #[.func (.yield lp) #[] #[], .pointer (some ⟨(E0.loc B).b, (E0.loc B).o + 0 * (E0.loc B).n + 0, none⟩)] W1
  simp [invoke, go_sem] at this ⊢
  exact this
 ·-- the box
  have rd : ∀ {b : β} {E : Env} {W : World}, Mod fxl ⟨nt, rts', tlook l, hlook (Hst b)⟩ E a W → ∃ u, W.cell? ⟨(E0.loc B).b, (E0.loc B).o + 0 * (E0.loc B).n + 0, none⟩ = some u ∧ RV E W src u := fun {b E W} mm => by
   obtain ⟨_, _, vs, hv, hra, _, _⟩ := mm.ok.hold B _ (hB b)
   obtain ⟨u, r0, rfl, hu, hr0⟩ := hv
   refine ⟨u, ?_, hu⟩
   have := hra 0 u rfl
   rw [pin (b := b) mm B hBin] at this
   simpa using this
  have hlen : xs.length ≤ maxLen := by
   obtain ⟨u, _, hu⟩ := rd ml
   have := ((hsrc b0).len E0 w u ml.ok hu).1
   simpa using this
  have hw1 : fxl.w0.heap.size ≤ lp := by rw [hw0]; exact hlp
  refine (callsIn_rd (hC _ _ lp xs.length J Jx W1 hlen ?_ ?_ hJ0)).mono ?_
  ·intro k W _ hk
   rw [hJ] at hk
   obtain ⟨b, E, _, mm, _⟩ := hk
   obtain ⟨u, h1, hu⟩ := rd mm
   obtain ⟨_, A, cap, rfl⟩ := (hsrc b).len E W u mm.ok hu
   exact ⟨A, cap, by simpa using h1⟩
  ·intro k W hk hJk
   rw [hJ] at hJk
   obtain ⟨b, E, hr, mm, hl, hmk, hfree⟩ := hJk
   obtain ⟨x, hx⟩ : ∃ x, xs.reverse[k]? = some x := ⟨_, List.getElem?_eq_getElem (by simpa using hk)⟩
   have hx2 : (xs.map c)[xs.length - 1 - k]? = some (c x) := by
    rw [List.getElem?_reverse hk] at hx
    rw [List.getElem?_map, hx]; rfl
   obtain ⟨u, h1, hu⟩ := rd mm
   obtain ⟨bb, off, cap, vs, rfl, hvs, hra⟩ := (hsrc b).get E W u mm.ok hu _ _ hx2
   have hvl : vs.length = mz := by rw [RDs_length hvs, hm]
   have hstep : ∃ o', step x b = some o' ∧ ((∃ b', o' = .go b' ∧ rangeL step (xs.reverse.drop (k + 1)) b' = some o) ∨ ∃ r', o' = .ret r' ∧ o = .ret r') := by
    rcases rangeL_drop hx hr with ⟨b', h2, h3⟩ | ⟨r', h2, h3⟩
    ·exact ⟨_, h2, .inl ⟨b', rfl, h3⟩⟩
    ·exact ⟨_, h2, .inr ⟨r', rfl, h3⟩⟩
   obtain ⟨o', hst, hcont⟩ := hstep
   refine ⟨_, ⟨bb, off, cap, vs, by simpa using h1, hra, hvl, rfl⟩, ?_⟩
   have hy := run_yield (P := P) (args := #[.int .i64 ((xs.length - 1 - k : Nat) : Int), elemW vs]) hl (by rw [hrec]; rfl)
   rw [hrec] at hy
   refine ⟨fn, _, assign, body, hy, roundIn_of_wpIn trivial ?_⟩
   clear hy
   have hfl := hfree lp (List.mem_cons_self ..)
   have hltW : lp < W.heap.size := (Array.getElem?_eq_some_iff.1 hl).1
   have hpinE := pin (b := b) mm
   have hrts1 : ∀ r ∈ roots, r.1 ∈ rts' ∧ E.loc r.1 = r.2 := fun r hr => by
    rw [hroots] at hr
    obtain ⟨i, hi, rfl⟩ := List.mem_map.1 hr
    exact ⟨hi, hpinE i hi⟩
   have m0 := mm.now roots [] (some lp) (fun l' e => by injection e with e; subst e; exact ⟨hfl, _, hl⟩) hrts1
   have m1 := (m0.put (some p0) (v := .junk) (x := .int .i64 ((xs.length - 1 - k : Nat) : Int)) trivial).put (some p1) (elemV_sound hvs)
   have hA := round b x o' hst _ _ W ⟨E, m1⟩
   refine wpIn_any (ro := some lp) (n := 0) ?_
   refine Code.wpIn_mono ?_ (show assign.wpIn (Rd (some lp)) 0 P _ _ W from by simpa [Act.put, Fx.now] using hA)
   rintro e1 a1 Wa ⟨S1, fx1, hq, hx1, E1, m1'⟩
   cases e1 with
   | normal =>
    have hq : AW P body S1 (PostR nt rts rts' l Hst r Q o') := hq
    have m1b := m1'.back hx1
    have s1 := m1b.since0 (W0 := W) (E0 := E) (H0 := hlook (Hst b)) lp rfl rfl rfl
    have hla : Wa.heap[lp]? = some (.loop (rec .ready none)) := (m1b.frame.block lp hltW hfl.not).trans hl
    have hf1 : Free S1.hp E1 lp := (s1.free hltW hfl).less
    refine ⟨_, run_beginRound hla (by rw [hrec]), ?_⟩
    have hlb : (Wa.putObj lp (.loop { rec .ready none with state := .busy })).heap[lp]? = some (.loop { rec .ready none with state := .busy }) := World.putObj_heap_same (Array.getElem?_eq_some_iff.1 hla).1
    have m2 := m1'.fresh hf1 (.loop { rec .ready none with state := .busy }) roots (some lp) (fun l' e => by injection e with e; subst e; exact ⟨hf1, _, hlb⟩) (fun r hr => m1b.roots r hr)
    have hB2 := hq _ _ _ ⟨E1, m2⟩
    refine wpIn_any (ro := some lp) (n := 0) ?_
    refine Code.wpIn_mono ?_ hB2
    rintro e3 a3 W3 ⟨S3, fx3, hp3, hx3, hM3⟩
    -- the end of a round, whatever it leaves by
    have fin : ∀ (h' : List (Nat × Option Blk)) (jump : Option Code), Sub S3 (mk nt rts' [] h') → ∃ E4 W4, (Instr.endRound lp jump).run P W3 = .ok (.bool jump.isNone) W4 ∧ Mod fxl ⟨nt, rts', tlook l, hlook h'⟩ E4 a W4 ∧ W4.heap[lp]? = some (.loop (rec (if jump.isNone then .ready else .done) jump)) ∧ (∀ d ∈ ms, W4.heap[d]? = some (.deferred (some []))) ∧ (∀ d ∈ lp :: ms, Free (hlook h') E4 d) := fun h' jump hsub => by
     obtain ⟨E3, m3⟩ := hsub _ _ _ hM3
     have m3b := m3.back hx3
     have s2 := m3b.since (W0 := Wa) (E0 := E1) (H0 := S1.hp) lp ⟨_, rfl⟩ rfl rfl
     have s := s1.trans s2
     have hl3 : W3.heap[lp]? = some (.loop { rec .ready none with state := .busy }) := (m3b.frame.block lp (Array.getElem?_eq_some_iff.1 hlb).1 hf1.not).trans hlb
     have hro3 : ∀ i ∈ rts', E3.loc i = E.loc i := fun i hi => (m3b.roots (i, E0.loc i) (by show _ ∈ roots; rw [hroots]; exact List.mem_map.2 ⟨i, hi, rfl⟩)).2.trans (hpinE i hi).symm
     have mr := mm.resume hw1 hfl m3 s (fun t id h => hro3 id (hpin0 t id h)) (fun r hr => by
      rw [hrr] at hr
      obtain ⟨i, hi, rfl⟩ := List.mem_map.1 hr
      exact hro3 i hi)
     have hf4 := s.free hltW hfl
     refine ⟨_, _, run_endRound jump hl3, mr.turn _ hw1 hf4.1 hf4.2, ?_, fun d hd => ?_, fun d hd => ?_⟩
     ·rw [hrec]; exact World.putObj_heap_same (Array.getElem?_eq_some_iff.1 hl3).1
     ·have hfd := hfree d (List.mem_cons_of_mem _ hd)
      have hdl := (hms d hd).2.1
      exact (World.putObj_heap_other hdl).trans ((s.block d (Array.getElem?_eq_some_iff.1 (hmk d hd)).1 hfd.not hdl).trans (hmk d hd))
     ·refine s.free ?_ (hfree d hd)
      rcases List.mem_cons.1 hd with rfl | h
      ·exact hltW
      ·exact (Array.getElem?_eq_some_iff.1 (hmk d h)).1
    have stop : ∀ jc, jumpOf e3 = some jc → e3 ≠ .normal → ∃ v w', (Instr.endRound lp (some jc)).run P W3 = .ok v w' ∧ ((Ending.returned v = .returned (.bool true) ∧ J (k + 1) w') ∨ (Ending.returned v = .returned (.bool false) ∧ Jx w')) := fun jc hj hne => by
     rcases hcont with ⟨b', rfl, hr'⟩ | ⟨r', rfl, ho⟩
     ·exact absurd hp3.1 hne
     ·obtain ⟨_, h', hsub, hQ⟩ := hp3
      obtain ⟨E4, W4, h1, h2, h3, h4, h5⟩ := fin h' (some jc) hsub
      refine ⟨_, _, h1, .inr ⟨rfl, ?_⟩⟩
      rw [hJx]
      exact ⟨e3, jc, h', E4, r', hj, ho, hQ, h2, h3, h4, h5⟩
    cases e3 with
    | normal =>
     rcases hcont with ⟨b', rfl, hr'⟩ | ⟨r', rfl, ho⟩
     ·obtain ⟨_, hsub⟩ := hp3
      obtain ⟨E4, W4, h1, h2, h3, h4, h5⟩ := fin (Hst b') none hsub
      refine ⟨_, _, h1, .inl ⟨rfl, ?_⟩⟩
      rw [hJ]
      exact ⟨b', E4, hr', h2, h3, h4, h5⟩
     ·exact absurd rfl hp3.1
    | ret => exact stop _ rfl (by simp)
    | exit id => exact stop _ rfl (by simp)
    | goto t => exact stop _ rfl (by simp)
    | panic ch =>
     rcases hcont with ⟨b', rfl, hr'⟩ | ⟨r', rfl, ho⟩
     ·cases hp3.1
     ·exact absurd rfl hp3.1
    | outgrown =>
     rcases hcont with ⟨b', rfl, hr'⟩ | ⟨r', rfl, ho⟩
     ·cases hp3.1
     ·exact absurd rfl hp3.1
   | exit id => exact hq.elim
   | goto t => exact hq.elim
   | ret => exact hq.elim
   | panic ch => exact hq.elim
   | outgrown => exact hq.elim
  ·rintro e W2 ⟨⟨v, rfl⟩, h | h⟩
   ·rw [hJ] at h
    obtain ⟨b, E, hr, mm, hl, hmk, hfree⟩ := h
    have hfl := hfree lp (List.mem_cons_self ..)
    have ho : o = .go b := by
     rw [List.drop_of_length_le (by simp)] at hr
     injection hr with hr; exact hr.symm
    obtain ⟨ob, hob⟩ : ∃ ob, (Instr.endLoop lp).run P W2 = .ok none (W2.putObj lp ob) := ⟨_, by have := run_endLoop (P := P) hl (by rw [hrec]; simp); rw [show (rec .ready none).pending = none from by rw [hrec]] at this; exact this⟩
    obtain ⟨fx', hx', hM⟩ := behind (Hst b) E _ (mm.turn ob hw1 hfl.1 hfl.2) (fun d hd => (World.putObj_heap_other (hms d hd).2.1).trans (hmk d hd)) hfree
    refine ⟨none, _, hob, ?_⟩
    exact ⟨_, fx', by rw [ho]; exact ⟨rfl, Sub.refl _⟩, hx', hM⟩
   ·rw [hJx] at h
    obtain ⟨e, jc, h', E, r', hj, ho, hQ, mm, hl, hmk, hfree⟩ := h
    have hfl := hfree lp (List.mem_cons_self ..)
    obtain ⟨ob, hob⟩ : ∃ ob, (Instr.endLoop lp).run P W2 = .ok (some jc) (W2.putObj lp ob) := ⟨_, by have := run_endLoop (P := P) hl (by rw [hrec]; simp); rw [show (rec .done (some jc)).pending = some jc from by rw [hrec]] at this; exact this⟩
    obtain ⟨fx', hx', hM⟩ := behind h' E _ (mm.turn ob hw1 hfl.1 hfl.2) (fun d hd => (World.putObj_heap_other (hms d hd).2.1).trans (hmk d hd)) hfree
    refine ⟨some jc, _, hob, ?_⟩
    have hend : ∀ hne : e ≠ .normal, Aft fx (PostJ (fun b => mk nt rts l (Hst b)) r Q o) e { a with defers := ms.map coll ++ a.defers } (W2.putObj lp ob) := fun hne => ⟨_, fx', by rw [ho]; exact ⟨hne, hQ⟩, hx', hM⟩
    cases e with
    | ret => injection hj with hj; subst hj; exact wpIn_ret (hend (by simp))
    | exit id => injection hj with hj; subst hj; exact wpIn_exit (hend (by simp))
    | goto t => injection hj with hj; subst hj; exact wpIn_goto (hend (by simp))
    | normal => cases hj
    | panic ch => cases hj
    | outgrown => cases hj
end
end Go.Ab
end
section
namespace Go.Ab
open Go.RowKit

theorem flat_map {α : Type} {c : α → List D} (h : ∀ a, ∀ x ∈ c a, x.flat = true) (xs : List α) : ∀ e ∈ xs.map c, ∀ x ∈ e, x.flat = true := fun e he x hx => by
 obtain ⟨a, _, rfl⟩ := List.mem_map.1 he
 exact h a x hx

/-- a call that looks at own blocks and hands back a row of literals of its own -/
theorem Chain.callOF {P : Program} {ops : Array Oper} {o : Oper} {l : List Oper} {S : St} {Q' : St → Prop} {c : Call} {d : Nat} {f : FuncId} {caps args : List V} {v : V} {T n : Nat} {es : List (List D)} (hF : FunO P f args v (.arr T n es)) (hw : wantedV ops S o = some true) (ho : o.op = .call c) (hd : o.dst = some d)
  (hcal : calleeV S c = some (f, caps)) (hargs : mapO (viewV S.hp) (c.args.toList.map S.ev ++ caps) = some args) (hent : Rp.Enters P f) (hid : S.rts.contains d = false)
  (hv : ∀ r : V, r.ren 0 = v → r.flat = true) (hes : ∀ e ∈ es, ∀ x ∈ e, x.flat = true)
  (hrest : Chain false P ops l (((S.kill d).setH d (some (.arr T n es))).put (some d) (v.ren d)) Q') : Chain false P ops (o :: l) S Q' := by
 refine Chain.call hw ho hd hcal hargs hent hF hid (.inr fun r k hq => ⟨hv r hq.1, fun blk hb => ?_⟩) fun r k hq => ?_
 ·rw [hq.2] at hb
  injection hb with hb
  subst hb
  exact hes
 ·obtain ⟨h1, rfl⟩ := hq
  unfold St.got
  rw [← ren_ren (d := d) (e := 0) r, h1]
  exact hrest
theorem flat_of_ren {i a n : Nat} : ∀ (r : V), r.ren 0 = .ref i a n → r.flat = true
 | .ref .., _ => rfl
 | .d _, h => by cases h
 | .dx _, h => by cases h
 | .ptr .., h => by cases h
 | .mref _, h => by cases h
 | .agg _, h => by cases h
 | .tup _, h => by cases h
 | .fn .., h => by cases h
 | .hole, _ => rfl
 | .junk, _ => rfl

def posN (n : Nat) : Option Unit := if 0 < n then some () else none
theorem posN_some {n : Nat} {u : Unit} (h : posN n = some u) : 0 < n := by
 unfold posN at h
 split at h
 ·assumption
 ·cases h
end Go.Ab
end
section
namespace Go.Ab
open Go.RowKit Go.Sort

theorem heap_putRow {α : Type} [Inhabited α] (enc : α → Value) (w : World) (blk off : Nat) (d : Array α) (k : Nat) :
  (putRow enc w blk off d).heap[k]? = if k = blk then (w.heap[k]?).map (onCells (putCells enc off d)) else w.heap[k]? := by
 unfold putRow mapBlock
 simp only [Array.getElem?_modify]
 by_cases h : k = blk
 ·subst h; simp
 ·rw [if_neg h, if_neg (Ne.symm h)]

/-- a row after a call that has turned its elements alone -/
theorem Post.row {w w' : World} {E : Env} {T n : Nat} {es es' : List (List D)} {c c' : Array Value} {flat' : List Value} (ok : E.ok (hlook [(1000, some (.arr T n es))]) w) (hn : (E.loc 1000).nil = false) (hc : w.heap[(E.loc 1000).b]? = some (.cells c T (0, 0)))
  (hos : w'.os = w.os) (htp : w'.tape = w.tape) (hout : w'.output = w.output) (hsz : w.heap.size ≤ w'.heap.size)
  (hb : ∀ k, k < w.heap.size → k ≠ (E.loc 1000).b → w'.heap[k]? = w.heap[k]?) (hc' : w'.heap[(E.loc 1000).b]? = some (.cells c' T (0, 0))) (hcs : c'.size = c.size)
  (hlen : es'.length = es.length) (hel : ∀ e ∈ es', e.length = n) (hR : RDe w E.Z es' flat') (ht : c'.toList.take (es'.length * n) = flat') :
  Post (fxOf w E (hlook [(1000, some (.arr T n es))]) [1000]) E (hlook [(1000, some (.arr T n es'))]) w' := by
 have hk : Keeps E.Z w w' := fun b hz => hb b (ok.zlt b hz) (fun e => ok.apart 1000 (by simp [hlook]) hn (e ▸ hz))
 have one : ∀ i, hlook [(1000, some (Blk.arr T n es'))] i ≠ none → i = 1000 := fun i hi => by
  by_cases h : i = 1000
  ·exact h
  ·simp [hlook, h] at hi
 obtain ⟨h1, h2, h3, h4, h5⟩ := ok.hold 1000 _ rfl
 rcases h5 with ⟨h6, _⟩ | ⟨_, c0, flat, h7, h8, h9, h10, h11, h12⟩
 ·rw [hn] at h6; cases h6
 rw [hc] at h7
 injection h7 with h7
 injection h7 with h7
 subst h7
 refine ⟨⟨?_, ?_, ?_, ?_⟩, ⟨hos, htp, hout, hsz, fun b hbl hL => hb b hbl (fun e => hL ⟨1000, by simp [hlook], hn, e.symm⟩)⟩, fun i hi hni => .inr ?_, fun b hz => .inl hz, ?_⟩
 ·intro i k hi
  obtain rfl := one i (by rw [hi]; simp)
  simp only [hlook, if_true, Option.some.injEq] at hi
  subst hi
  exact ⟨h1, h2, hel, h4, .inr ⟨hn, c', flat', hc', by omega, h9, hcs.trans h10, RDe.keep hk (fun _ h => h) _ _ hR, ht⟩⟩
 ·intro i j hi hj _ _ hij
  exact absurd ((one i hi).trans (one j hj).symm) hij
 ·intro i hi hni
  obtain rfl := one i hi
  exact ok.apart 1000 (by simp [hlook]) hn
 ·intro b hz
  exact Nat.lt_of_lt_of_le (ok.zlt b hz) hsz
 ·obtain rfl := one i hi
  exact ⟨1000, by simp [hlook], hn, rfl⟩
 ·intro r hr
  simp only [fxOf, List.map_cons, List.map_nil, List.mem_singleton] at hr
  subst hr
  rfl

/-- nothing has turned -/
theorem Post.same {w : World} {E : Env} {b : Blk} (ok : E.ok (hlook [(1000, some b)]) w) : Post (fxOf w E (hlook [(1000, some b)]) [1000]) E (hlook [(1000, some b)]) w := by
 have one : ∀ i, hlook [(1000, some b)] i ≠ none → i = 1000 := fun i hi => by
  by_cases h : i = 1000
  ·exact h
  ·simp [hlook, h] at hi
 refine ⟨ok, ⟨rfl, rfl, rfl, Nat.le_refl _, fun _ _ _ => rfl⟩, fun i hi hni => .inr ⟨i, hi, hni, rfl⟩, fun b hz => .inl hz, ?_⟩
 intro r hr
 simp only [fxOf, List.map_cons, List.map_nil, List.mem_singleton] at hr
 subst hr
 rfl

theorem RDe_lits1 {w : World} {Z : Nat → Prop} {α : Type} (v : α → Value) (hp : ∀ x, plain (v x) = true) : ∀ (xs : List α) (flat : List Value), RDe w Z (xs.map fun x => [.lit (v x)]) flat ↔ flat = xs.map v
 | [], flat => by simp [RDe]
 | x :: xs, flat => by
  simp only [List.map_cons, RDe]
  constructor
  ·rintro ⟨a, r, rfl, ⟨y, z, rfl, ⟨rfl, _⟩, rfl⟩, h⟩
   rw [(RDe_lits1 v hp xs r).1 h]; rfl
  ·rintro rfl
   exact ⟨[v x], xs.map v, rfl, ⟨v x, [], rfl, ⟨rfl, hp x⟩, rfl⟩, (RDe_lits1 v hp xs _).2 rfl⟩

/-- a sort of a row of literals of one cell -/
theorem sort1_funM {P : Program} {f : FuncId} {T : TypeId} {α : Type} [Inhabited α] (v : α → Value) (hp : ∀ x, plain (v x) = true) (sorted : List α → List α) (hperm : ∀ xs, (sorted xs).length = xs.length)
  (hnone : ∀ (p : Option Addr) (cap : Nat) (w : World), Calls P f #[.slice p 0 cap] w fun e w' => e = .returned (.tuple #[]) ∧ w' = w) (hnil : sorted [] = [])
  (hsort : ∀ (blk off cap : Nat) (zs : List α) (w : World), Holds v w blk off zs.toArray → blk < w.heap.size → zs.length < 4611686018427387904 → Calls P f #[.slice (some ⟨blk, off, none⟩) zs.length cap] w fun e w' =>
   e = .returned (.tuple #[]) ∧ ∃ n os, w' = grow (putRow v (Sort.ahead w n) blk off (sorted zs).toArray) os)
  (xs r : List α) (h : (if xs.length < 4611686018427387904 then some (sorted xs) else none) = some r) :
  FunM P f [.ref 1000 0 xs.length] [(1000, some (.arr T 1 (xs.map fun x => [.lit (v x)])))] [1000] (.tup []) [(1000, .arr T 1 (r.map fun x => [.lit (v x)]))] := by
 split at h
 case isFalse => cases h
 rename_i hsz
 injection h with h
 subst h
 intro w E vals ok hv
 obtain ⟨x, r, rfl, hx, rfl⟩ := hv
 by_cases hxs : xs = []
 ·subst hxs
  have : ∃ p cap, x = .slice p 0 cap := by
   rcases hx with ⟨_, _, _, rfl⟩ | ⟨_, _, a, rfl, _⟩
   ·exact ⟨_, _, rfl⟩
   ·exact ⟨_, _, rfl⟩
  obtain ⟨p, cap, rfl⟩ := this
  refine (hnone p cap w).mono ?_
  rintro e w' ⟨rfl, rfl⟩
  rw [hnil]
  exact ⟨_, E, .tup [], _, rfl, ⟨rfl, by simp [hlook]⟩, ⟨[], rfl, rfl⟩, Post.same ok⟩
 ·have hpos : 0 < xs.length := List.length_pos_iff.2 hxs
  rcases hx with ⟨_, _, h0, _⟩ | ⟨hn, hcap, a, rfl, ha⟩
  ·omega
  ·have ha := ha (.inl rfl)
   obtain ⟨h1, h2, h3, h4, h5⟩ := ok.hold 1000 _ rfl
   rcases h5 with ⟨_, h6⟩ | ⟨_, c, flat, h7, h8, h9, h10, h11, h12⟩
   ·simp at h6; exact absurd h6 hxs
   ·rw [Nat.zero_mul, h2] at ha
    subst ha
    have hlt : (E.loc 1000).b < w.heap.size := (Array.getElem?_eq_some_iff.1 h7).1
    have e11 := (RDe_lits1 v hp xs flat).1 h11
    simp only [List.length_map, Nat.mul_one] at h12 h8
    rw [e11] at h12
    have hget : ∀ j (hj : j < xs.length), c[j]? = some (v xs[j]) := fun j hj => by
     have : (c.toList.take xs.length)[j]? = (xs.map v)[j]? := by rw [h12]
     rw [List.getElem?_take_of_lt hj] at this
     simpa [hj] using this
    have hH : Holds v w (E.loc 1000).b 0 xs.toArray := fun j hj => by
     have hj' : j < xs.length := by simpa using hj
     have := hget j hj'
     refine ⟨?_, ?_⟩
     ·simp only [World.cell?, h7, Nat.zero_add]
      simp [this, hj']
     ·simp only [World.frozen?, h7]
      simp
    refine (hsort (E.loc 1000).b 0 ((E.loc 1000).cap - 0) xs w hH hlt hsz).mono ?_
    rintro e w' ⟨rfl, n, os, rfl⟩
    have hcs : c.size = (E.loc 1000).cap := by rw [h10, Nat.mul_one]
    have hb : ∀ k, k < w.heap.size → (grow (putRow v (Sort.ahead w n) (E.loc 1000).b 0 (sorted xs).toArray) os).heap[k]? = if k = (E.loc 1000).b then (w.heap[k]?).map (onCells (putCells v 0 (sorted xs).toArray)) else w.heap[k]? := fun k hk => by
     rw [heap_grow_old _ _ (by simpa using hk), heap_putRow]
     rfl
    refine ⟨_, E, .tup [], _, rfl, ⟨rfl, ?_⟩, ⟨[], rfl, rfl⟩, Post.row (c := c) (c' := putCells v 0 (sorted xs).toArray c) (es' := (sorted xs).map fun x => [.lit (v x)]) ok hn h7 rfl rfl rfl (by rw [size_grow]; simp) ?_ ?_ ?_ ?_ ?_ ((RDe_lits1 v hp (sorted xs) _).2 rfl) ?_⟩
    ·simp [hlook]
    ·intro k hk hne
     rw [hb k hk, if_neg hne]
    ·rw [hb _ hlt, if_pos rfl, h7]
     rfl
    ·simp [putCells]
    ·simp [hperm]
    ·simp
    ·apply List.ext_getElem?
     intro j
     have hle : xs.length ≤ c.size := by omega
     simp only [List.length_map, Nat.mul_one, hperm]
     by_cases hj : j < xs.length
     ·rw [List.getElem?_take_of_lt hj]
      have hjc : j < c.size := by omega
      have hjs : j < (sorted xs).length := by rw [hperm]; exact hj
      simp [putCells, hjc, hj, hperm]
     ·rw [List.getElem?_eq_none (by simp; omega), List.getElem?_eq_none (by simp [hperm]; omega)]

theorem sortInt_funM {P : Program} {ρ : Go.Shelf.Ren} {T : TypeId} (L : Go.Proofs.Lays.n189 P ρ) (xs r : List Int) (h : (if xs.length < 4611686018427387904 then some (xs.mergeSort fun x y => decide (x ≤ y)) else none) = some r) :
  FunM P (ρ.f 189) [.ref 1000 0 xs.length] [(1000, some (.arr T 1 (xs.map (cI .i64))))] [1000] (.tup []) [(1000, .arr T 1 (r.map (cI .i64)))] :=
 sort1_funM (Value.int .i64) (fun _ => rfl) (fun xs => xs.mergeSort fun x y => decide (x ≤ y)) (fun xs => by simp) (fun p cap w => Go.Proofs.Any.slices_Sort_int_none L p cap w) (by simp)
  (fun blk off cap zs w h1 h2 h3 => Go.Proofs.Any.slices_Sort_int L blk off cap zs w h1 h2 h3) xs r h
theorem FunC.of_calls {P : Program} {f : FuncId} {args : List V} {vals : List Value} {r : Value} (hv : ∀ E w vs, RVs E w args vs → vs = vals) (hr : plain r = true)
  (h : ∀ w, Calls P f vals.toArray w fun e w' => e = .returned r ∧ Grow w w') : FunC P f args (.d (.lit r)) :=
 ⟨rfl, fun w Z vs hz hvs => by
  rw [hv _ _ _ hvs]
  refine (h w).mono ?_
  rintro e w' ⟨rfl, hg⟩
  exact ⟨r, default, Z, .d (.lit r), none, rfl, ⟨rfl, rfl⟩, ⟨rfl, hr⟩, (fun blk hb => by cases hb), (fun b hb => ⟨.inl hb, Nat.lt_of_lt_of_le (hz b hb) hg.size⟩), hg⟩⟩
end Go.Ab
end
section
namespace Go.Ab
open Go.RowKit Go.Sort

/-- a comparison that the library's sort may call -/
def CmpW {α : Type} (P : Program) (g : Nat) (c : α → List D) (p : α → α → Option Int) : Prop :=
 ∀ x y r, p x y = some r → ∀ (W : World) (Z : Nat → Prop) (vx vy : List Value), RDs W Z (c x) vx → RDs W Z (c y) vy →
  Calls P g #[.agg vx.toArray, .agg vy.toArray] W fun e w' => e = .returned (.int .i64 r) ∧ ∃ q os', w' = grow (W.drewN q) os'

/-- what slices.SortFunc leaves -/
def sortO {α : Type} (p : α → α → Option Int) : List α → Option (List α)
 | [] => some []
 | x :: t =>
  let g : _root_.Fin (t.length + 1) → α := fun i => (x :: t).get i
  let cf : _root_.Fin (t.length + 1) → _root_.Fin (t.length + 1) → Int := fun i j => (p (g i) (g j)).getD 0
  if (∀ i j, (p (g i) (g j)).isSome = true) ∧ (∀ i, ¬ cf i i < 0) ∧ (∀ i j l, cf i j < 0 → cf j l < 0 → cf i l < 0) ∧ (∀ i j l, ¬ cf i j < 0 → ¬ cf j l < 0 → ¬ cf i l < 0) ∧ t.length + 1 < 4611686018427387904 then
   some ((pdq (Go.Proofs.ltOf cf) (Array.ofFn (n := t.length + 1) id) 0 (t.length + 1) (Lib.bitLen (t.length + 1)) true true).toList.map g)
  else none

theorem sortO_some {α : Type} (p : α → α → Option Int) (xs : List α) (hd : ∀ x ∈ xs, ∀ y ∈ xs, (p x y).isSome = true) (hi : ∀ x ∈ xs, ¬ (p x x).getD 0 < 0) (ht : ∀ x ∈ xs, ∀ y ∈ xs, ∀ z ∈ xs, (p x y).getD 0 < 0 → (p y z).getD 0 < 0 → (p x z).getD 0 < 0)
  (hn : ∀ x ∈ xs, ∀ y ∈ xs, ∀ z ∈ xs, ¬ (p x y).getD 0 < 0 → ¬ (p y z).getD 0 < 0 → ¬ (p x z).getD 0 < 0) (hl : xs.length < 4611686018427387904) :
  ∃ r, sortO p xs = some r ∧ r.Perm xs ∧ r.Pairwise fun a b => ¬ (p b a).getD 0 < 0 := by
 match xs with
 | [] => exact ⟨[], rfl, List.Perm.refl _, List.Pairwise.nil⟩
 | x :: t =>
  have hm : ∀ i : _root_.Fin (t.length + 1), (x :: t).get i ∈ x :: t := fun i => List.get_mem _ _
  have hO : SWO (Go.Proofs.ltOf fun i j : _root_.Fin (t.length + 1) => (p ((x :: t).get i) ((x :: t).get j)).getD 0) :=
   ⟨fun i => by simpa [Go.Proofs.ltOf] using hi _ (hm i), fun i j l h1 h2 => by
    simp only [Go.Proofs.ltOf, decide_eq_true_eq] at h1 h2 ⊢
    exact ht _ (hm i) _ (hm j) _ (hm l) h1 h2, fun i j l h1 h2 => by
    simp only [Go.Proofs.ltOf, decide_eq_false_iff_not] at h1 h2 ⊢
    exact hn _ (hm i) _ (hm j) _ (hm l) h1 h2⟩
  have hs := pdq_sorts _ hO (Array.ofFn (n := t.length + 1) id) 0 (t.length + 1) (Lib.bitLen (t.length + 1)) true true (Nat.zero_le _) (by simp) (Or.inl rfl)
  refine ⟨_, if_pos ⟨fun i j => hd _ (hm i) _ (hm j), fun i => hi _ (hm i), fun i j l => ht _ (hm i) _ (hm j) _ (hm l), fun i j l => hn _ (hm i) _ (hm j) _ (hm l), hl⟩, ?_, ?_⟩
  ·obtain ⟨⟨h1, _, h3⟩, _⟩ := hs
   have e1 : ∀ A : Array (_root_.Fin (t.length + 1)), A.size = t.length + 1 → A.extract 0 (t.length + 1) = A := fun A h => by
    have := A.extract_size
    rw [h] at this
    exact this
   rw [e1 _ (by rw [h1]; simp), e1 _ (by simp)] at h3
   have := h3.map fun i => (x :: t).get i
   refine this.trans (List.Perm.of_eq ?_)
   apply List.ext_getElem
   ·simp
   ·intro i h5 h6
    simp only [List.getElem_map, Array.getElem_toList, Array.getElem_ofFn, id, List.get_eq_getElem]
  ·obtain ⟨⟨h1, _, _⟩, h2⟩ := hs
   rw [List.pairwise_map, List.pairwise_iff_getElem]
   intro i j hi' hj' hij
   have hsz := h1
   simp only [Array.size_ofFn] at hsz
   have hj2 : j < t.length + 1 := by rw [← hsz]; simpa using hj'
   have := h2 i j (Nat.zero_le _) hij hj2
   simp only [Array.length_toList] at hi' hj'
   rw [getElem!_pos _ j hj', getElem!_pos _ i hi'] at this
   simpa [Go.Proofs.ltOf] using this

theorem sortO_length {α : Type} (p : α → α → Option Int) {xs r : List α} (h : sortO p xs = some r) : r.length = xs.length := by
 match xs, h with
 | [], h =>
  simp only [sortO, Option.some.injEq] at h
  subst h; rfl
 | x :: t, h =>
  simp only [sortO] at h
  split at h
  ·rename_i hc
   obtain ⟨hd, hi, ht, hn, hl⟩ := hc
   injection h with h
   have hO : SWO (Go.Proofs.ltOf fun i j : _root_.Fin (t.length + 1) => (p ((x :: t).get i) ((x :: t).get j)).getD 0) :=
    ⟨fun i => by simpa [Go.Proofs.ltOf] using hi i, fun i j l a b => by
     simp only [Go.Proofs.ltOf, decide_eq_true_eq] at a b ⊢
     exact ht i j l a b, fun i j l a b => by
     simp only [Go.Proofs.ltOf, decide_eq_false_iff_not] at a b ⊢
     exact hn i j l a b⟩
   have hP := (pdq_sorts _ hO (Array.ofFn (n := t.length + 1) id) 0 (t.length + 1) (Lib.bitLen (t.length + 1)) true true (Nat.zero_le _) (by simp) (Or.inl rfl)).1.1
   rw [← h, List.length_map, Array.length_toList, hP]
   simp
  ·cases h
theorem flatten_get {k : Nat} : ∀ (ls : List (List Value)), (∀ e ∈ ls, e.length = k) → ∀ j, j < ls.length * k → ls.flatten[j]? = (ls[j / k]?).bind (·[j % k]?)
 | [], _, j, h => by simp at h
 | e :: ls, hk, j, h => by
  have he : e.length = k := hk e List.mem_cons_self
  have k0 : 0 < k := by
   rcases Nat.eq_zero_or_pos k with h0 | h0
   ·rw [h0] at h; simp at h
   ·exact h0
  rw [List.flatten_cons, List.getElem?_append]
  by_cases hj : j < k
  ·rw [if_pos (by omega), Nat.div_eq_of_lt hj, Nat.mod_eq_of_lt hj]; rfl
  ·rw [if_neg (by omega), he, flatten_get ls (fun e h => hk e (List.mem_cons_of_mem _ h)) (j - k) (by rw [List.length_cons, Nat.add_mul, Nat.one_mul] at h; omega)]
   have e1 : j / k = (j - k) / k + 1 := Nat.div_eq_sub_div k0 (by omega)
   have e2 : j % k = (j - k) % k := Nat.mod_eq_sub_mod (by omega)
   rw [e1, e2, List.getElem?_cons_succ]
theorem RDe_flatten {w : World} {Z : Nat → Prop} {β : Type} (c : β → List D) (enc : β → List Value) : ∀ (l : List β), (∀ x ∈ l, RDs w Z (c x) (enc x)) → RDe w Z (l.map c) (l.map enc).flatten
 | [], _ => rfl
 | x :: l, h => ⟨enc x, _, rfl, h x List.mem_cons_self, RDe_flatten c enc l fun y hy => h y (List.mem_cons_of_mem _ hy)⟩

theorem sortFunc_funM {P : Program} {ρ : Go.Shelf.Ren} (L : Go.Proofs.SlLaysF0.n6 P ρ) {T k : Nat} (aE : ∀ w, (isAgg (ρ.t 24)).run P w = .ok true w) (zE : ∀ w, (Go.sizeOf (ρ.t 24)).run P w = .ok k w) {α : Type} (c : α → List D) (hc : ∀ x, (c x).length = k) {g : Nat}
  (eg : ∀ args w, (callFunc g args).run P w = .ok (.enter g args) w) (p : α → α → Option Int) (hw : CmpW P g c p) (xs r : List α) (h : sortO p xs = some r) :
  FunM P (ρ.f 6) [.ref 1000 0 xs.length, .fn (.func g) []] [(1000, some (.arr T k (xs.map c)))] [1000] (.tup []) [(1000, .arr T k (r.map c))] := by
 intro w E vals ok hv
 obtain ⟨x, _, rfl, hx, fv, _, rfl, hf, rfl⟩ := hv
 obtain ⟨fcs, rfl, hfc⟩ := hf
 obtain rfl : fcs = [] := hfc
 match xs, h with
 | [], h =>
  simp only [sortO, Option.some.injEq] at h
  subst h
  have : ∃ q cap, x = .slice q 0 cap := by
   rcases hx with ⟨_, _, _, rfl⟩ | ⟨_, _, a, rfl, _⟩
   ·exact ⟨_, _, rfl⟩
   ·exact ⟨_, _, rfl⟩
  obtain ⟨q, cap, rfl⟩ := this
  refine (Go.Proofs.AnyF.slices_SortFunc_none L q cap _ w).mono ?_
  rintro e w' ⟨rfl, rfl⟩
  exact ⟨_, E, .tup [], _, rfl, ⟨rfl, by simp [hlook]⟩, ⟨[], rfl, rfl⟩, Post.same ok⟩
 | x0 :: t, h =>
  simp only [sortO] at h
  split at h
  case isFalse => cases h
  rename_i hchk
  obtain ⟨hd, hi, ht, hn', hl⟩ := hchk
  injection h with h
  rcases hx with ⟨_, _, h0, _⟩ | ⟨hn, hcap, a, rfl, ha⟩
  ·simp at h0
  ·have ha := ha (.inl rfl)
   obtain ⟨h1, h2, h3, h4, h5⟩ := ok.hold 1000 _ rfl
   rcases h5 with ⟨_, h6⟩ | ⟨_, cl, flat, h7, h8, h9, h10, h11, h12⟩
   ·simp at h6
   ·rw [Nat.zero_mul, h2] at ha
    subst ha
    have hlt : (E.loc 1000).b < w.heap.size := (Array.getElem?_eq_some_iff.1 h7).1
    have hfl : flat.length = (t.length + 1) * k := by simpa using RDe_length h11 h3
    simp only [List.length_map, List.length_cons] at h12 h8
    let enc : _root_.Fin (t.length + 1) → List Value := fun i => (flat.drop (i.val * k)).take k
    have hle : ∀ i : _root_.Fin (t.length + 1), i.val * k + k ≤ flat.length := fun i => by
     have := Nat.mul_le_mul_right k (show i.val + 1 ≤ t.length + 1 from i.isLt)
     rw [Nat.succ_mul] at this; omega
    have hk : ∀ i, (enc i).length = k := fun i => by
     have := hle i
     simp only [enc, List.length_take, List.length_drop]; omega
    have hRD : ∀ i : _root_.Fin (t.length + 1), RDs w E.Z (c ((x0 :: t).get i)) (enc i) := fun i => by
     have h13 := RDe_drop i.val h11 h3
     have h14 := RDe_take (n := k) 1 h13 (fun e he => h3 e (List.mem_of_mem_drop he))
     have e1 : ((x0 :: t).map c).drop i.val = c ((x0 :: t).get i) :: ((x0 :: t).map c).drop (i.val + 1) := by
      rw [List.drop_eq_getElem_cons (by simp), List.getElem_map, List.get_eq_getElem]
     rw [e1] at h14
     simp only [List.take_succ_cons, List.take_zero, Nat.one_mul] at h14
     obtain ⟨a, r', e2, h15, h16⟩ := h14
     obtain rfl : r' = [] := h16
     rw [List.append_nil] at e2
     show RDs w E.Z _ ((flat.drop (i.val * k)).take k)
     rw [e2]; exact h15
    have h1c : ∀ i, ∀ v ∈ enc i, v.oneCell' = true := fun i v hv => RDe_cell h11 v (List.mem_of_mem_drop (List.mem_of_mem_take hv))
    have hO : SWO (Go.Proofs.ltOf fun i j : _root_.Fin (t.length + 1) => (p ((x0 :: t).get i) ((x0 :: t).get j)).getD 0) :=
     ⟨fun i => by simpa [Go.Proofs.ltOf] using hi i, fun i j l a b => by
      simp only [Go.Proofs.ltOf, decide_eq_true_eq] at a b ⊢
      exact ht i j l a b, fun i j l a b => by
      simp only [Go.Proofs.ltOf, decide_eq_false_iff_not] at a b ⊢
      exact hn' i j l a b⟩
    have hH : HoldsK enc k w (E.loc 1000).b 0 (Array.ofFn (n := t.length + 1) id) := fun j hj => by
     have hj' : j < (t.length + 1) * k := by simpa using hj
     have hjf : j < flat.length := by omega
     have k0 : 0 < k := by
      rcases Nat.eq_zero_or_pos k with h0 | h0
      ·rw [h0] at hj'; simp at hj'
      ·exact h0
     have hdv : j / k < t.length + 1 := (Nat.div_lt_iff_lt_mul k0).2 hj'
     have hmod : j % k < k := Nat.mod_lt _ k0
     have hdm : j / k * k + j % k = j := by rw [Nat.mul_comm]; exact Nat.div_add_mod j k
     have hval : (flatK enc k (Array.ofFn (n := t.length + 1) id))[j]! = flat[j] := by
      rw [get_flatK enc k _ j (by simpa using hj')]
      rw [getElem!_pos (Array.ofFn (n := t.length + 1) id) (j / k) (by simpa using hdv)]
      simp only [Array.getElem_ofFn, id]
      rw [getElem!_pos _ _ (by rw [hk]; exact hmod)]
      simp only [enc, List.getElem_take, List.getElem_drop]
      simp only [hdm]
     have hcj : cl[j]? = some flat[j] := by
      have : (cl.toList.take ((t.length + 1) * k))[j]? = flat[j]? := by rw [h12]
      rw [List.getElem?_take_of_lt hj', List.getElem?_eq_getElem hjf] at this
      simpa using this
     rw [hval]
     refine ⟨?_, ?_⟩
     ·simp only [World.cell?, h7, Nat.zero_add]
      simp [hcj]
     ·simp only [World.frozen?, h7]
      simp
    have hheap : ∀ (n : Nat) (dk : Array (_root_.Fin (t.length + 1))) (os : Array Obj) (q : Nat), q < w.heap.size → (Go.Proofs.sortWorldK enc k w (E.loc 1000).b 0 n dk os).heap[q]? = if q = (E.loc 1000).b then (w.heap[q]?).map (onCells (putCells id 0 (flatK enc k dk))) else w.heap[q]? := fun n dk os q hq => by
     unfold Go.Proofs.sortWorldK
     rw [heap_grow_old _ _ (by unfold putRowK; simpa using hq)]
     unfold putRowK
     rw [heap_putRow]
     rfl
    have hcmp : Go.Proofs.CmpLays P g #[] enc k (fun i j : _root_.Fin (t.length + 1) => (p ((x0 :: t).get i) ((x0 :: t).get j)).getD 0) (E.loc 1000).b 0 (Array.ofFn (n := t.length + 1) id).size w := fun m os dk hdk i j => by
     obtain ⟨rr, hrr⟩ := Option.isSome_iff_exists.1 (hd i j)
     have hkeep : Keeps E.Z w (Go.Proofs.sortWorldK enc k w (E.loc 1000).b 0 m dk os) := fun b hb => by
      have hne : b ≠ (E.loc 1000).b := fun e => ok.apart 1000 (by simp [hlook]) hn (by rw [← e]; exact hb)
      rw [hheap _ _ _ _ (ok.zlt b hb), if_neg hne]
     have := hw _ _ rr hrr (Go.Proofs.sortWorldK enc k w (E.loc 1000).b 0 m dk os) E.Z (enc i) (enc j) (RDs.keep hkeep (fun _ h => h) _ _ (hRD i)) (RDs.keep hkeep (fun _ h => h) _ _ (hRD j))
     simp only [Array.append_empty]
     rw [hrr]
     exact this
    have hS := Go.Proofs.AnyQ.slices_SortFunc_eq L k aE zE enc hk h1c _ hO g #[] (E.loc 1000).b 0 ((E.loc 1000).cap - 0) (Array.ofFn (n := t.length + 1) id) w eg hcmp hH hlt (by simpa using hl)
    have hP := (pdq_sorts _ hO (Array.ofFn (n := t.length + 1) id) 0 (t.length + 1) (Lib.bitLen (t.length + 1)) true true (Nat.zero_le _) (by simp) (Or.inl rfl)).1.1
    simp only [Array.size_ofFn] at hS hP
    refine hS.mono ?_
    rintro e w' ⟨rfl, n, os, rfl⟩
    subst h
    generalize pdq (Go.Proofs.ltOf fun i j : _root_.Fin (t.length + 1) => (p ((x0 :: t).get i) ((x0 :: t).get j)).getD 0) (Array.ofFn (n := t.length + 1) id) 0 (t.length + 1) (Lib.bitLen (t.length + 1)) true true = d' at hP ⊢
    have hcs : cl.size = (E.loc 1000).cap * k := h10
    have hflat : ∀ e ∈ d'.toList.map enc, e.length = k := by
     intro e he
     obtain ⟨i, _, rfl⟩ := List.mem_map.1 he
     exact hk i
    refine ⟨_, E, .tup [], _, rfl, ⟨rfl, ?_⟩, ⟨[], rfl, rfl⟩, Post.row (c := cl) (c' := putCells id 0 (flatK enc k d') cl) (es' := (d'.toList.map fun i => (x0 :: t).get i).map c) (flat' := (d'.toList.map enc).flatten) ok hn h7 rfl rfl rfl ?_ ?_ ?_ ?_ ?_ ?_ ?_ ?_⟩
    ·simp [hlook]
    ·unfold Go.Proofs.sortWorldK putRowK
     rw [size_grow, size_putRow]
     exact Nat.le_add_right _ _
    ·intro q hq hne
     rw [hheap _ _ _ _ hq, if_neg hne]
    ·rw [hheap _ _ _ _ hlt, if_pos rfl, h7]
     rfl
    ·simp [putCells]
    ·simp [hP]
    ·intro e he
     simp only [List.mem_map] at he
     obtain ⟨y, _, rfl⟩ := he
     exact hc y
    ·rw [List.map_map]
     exact RDe_flatten (fun i => c ((x0 :: t).get i)) enc d'.toList fun i _ => hRD i
    ·have hll : (d'.toList.map enc).length = t.length + 1 := by simp [hP]
     have hfl' : (d'.toList.map enc).flatten.length = (t.length + 1) * k := by
      have := RDe_length (n := k) (RDe_flatten (fun i => c ((x0 :: t).get i)) enc d'.toList fun i _ => hRD i) (by
       intro e he
       obtain ⟨y, _, rfl⟩ := List.mem_map.1 he
       exact hc _)
      simpa [hP] using this
     apply List.ext_getElem?
     intro j
     simp only [List.length_map, Array.length_toList, hP]
     by_cases hj : j < (t.length + 1) * k
     ·rw [List.getElem?_take_of_lt hj, flatten_get _ hflat j (by rw [hll]; exact hj)]
      have k0 : 0 < k := by
       rcases Nat.eq_zero_or_pos k with h0 | h0
       ·rw [h0] at hj; simp at hj
       ·exact h0
      have hdv : j / k < d'.size := by rw [hP]; exact (Nat.div_lt_iff_lt_mul k0).2 hj
      have hmod : j % k < k := Nat.mod_lt _ k0
      have hcl : j < cl.size := by
       rw [hcs]
       exact Nat.lt_of_lt_of_le hj (Nat.mul_le_mul_right k h8)
      have hjd : j < d'.size * k := by rw [hP]; exact hj
      have e1 : (putCells id 0 (flatK enc k d') cl).toList[j]? = some (flatK enc k d')[j]! := by
       simp [putCells, hcl, hjd]
      rw [e1, get_flatK enc k d' j hjd, getElem!_pos d' (j / k) hdv, getElem!_pos _ _ (by rw [hk]; exact hmod)]
      simp [hdv, hk, hmod]
     ·rw [List.getElem?_eq_none (by simp; omega), List.getElem?_eq_none (by omega)]
end Go.Ab
end
section
namespace Go.Ab
open Go.RowKit

theorem run_append_zero {P : Program} {w : World} {t ty e : TypeId} {i : TypeInfo} (ht : P.underlying t = some (.slice e)) (hi : P.info? e = some i) (A : Addr) (n c : Nat) (h : n ≤ c) :
  (Builtin.append_ #[t, t] ty #[.slice (some A) n c, .slice none 0 0]).run P w = .ok (.slice (some A) n c) w := by
 simp [Builtin.append_, run_underlying ht, sizeOf, typeInfo, hi, Builtin.lenOf, Builtin.firstCells, loadCells, h, storeCells]

theorem Chain.appOff {P : Program} {ops : Array Oper} {o : Oper} {l : List Oper} {S : St} {Q : St → Prop} {c : Call} {s x : Operand} {t e : TypeId} {tt te : TI} {id off len : Nat} {es ys : List (List D)} (hw : wantedV ops S o = some true) (ho : o.op = .call c)
  (hc : c.callee = .builtin .append) (hca : c.args = #[s, x]) (hct : c.argTypes = #[t, t]) (hT : tyOf P t = some tt) (hd : tt.desc = .slice e) (he : tyOf P e = some te)
  (hs : S.ev s = .ref id off len) (hid : id ∉ S.rts) (hH : S.hp id = some (.arr e te.size es)) (hx : srcV S.hp (S.ev x) = some ys) (hall : ∀ y ∈ ys, y.length = te.size) (hle : off + len = es.length) (hpos : 0 < te.size) (hpb : 0 < te.bytes) (hzc : te.zero.cells.size = te.size)
  (hbytes : (len + ys.length) * te.bytes ≤ Rp.reach)
  (h1 : Chain false P ops l (((S.kill id).setH id (some (.arr e te.size (es ++ ys)))).put o.dst (.ref id off (len + ys.length))) Q)
  (h2 : Chain false P ops l (((S.kill id).setH id (some (.arr e te.size (es.drop off ++ ys)))).put o.dst (.ref id 0 (len + ys.length))) Q) : Chain false P ops (o :: l) S Q := by
 intro fx a w Q' ⟨E, md⟩ hq
 unfold wpList
 rw [if_pos (wantedV_sound md hw)]
 refine .inl ?_
 have hsv := md.ev s
 rw [hs] at hsv
 have hxv := md.ev x
 obtain ⟨g1, g2, g3, g4, g5⟩ := md.ok.hold _ _ hH
 obtain ⟨hu, i0, hi0, hi1, hi2, hi3⟩ := tyOf_spec he
 have htu : P.underlying t = some (.slice e) := by rw [(tyOf_spec hT).1, hd]
 suffices H : ∃ u w' E' S' r, (Builtin.append_ #[t, t] o.type #[a.eval s, a.eval x]).run P w = .ok u w' ∧ Mod fx S' E' a w' ∧ RV E' w' r u ∧ Chain false P ops l (S'.put o.dst r) Q by
  obtain ⟨u, w', E', S', r, hrun, m', hr, hch⟩ := H
  unfold Oper.wp execOp
  simp only [ho, resolve, hc, hca, hct, invoke, builtin, Sem.run_bind, Sem.run_pure, Result.andThen_ok, List.map_toArray, List.map_cons, List.map_nil, hrun, Oper.upon]
  exact hch fx _ _ Q' ⟨E', m'.put o.dst hr⟩ hq
 have hz0 : ∀ b, some (E.loc id).b = some b → (E.loc id).nil = false → ¬ E.Z b := fun b hb hn => by
  injection hb with hb
  rw [← hb]; exact md.ok.apart id (by rw [hH]; simp) hn
 -- a new row
 have anew : ∀ u w' olds news, w'.ownsRow w.heap.size e te.size u (len + ys.length) (olds ++ news) → w.grownBy w' none → RDe w E.Z (es.drop off) olds → RDe w E.Z ys news →
   ∃ E', Mod fx ((S.kill id).setH id (some (.arr e te.size (es.drop off ++ ys)))) E' a w' ∧ RV E' w' (.ref id 0 (len + ys.length)) u := by
  intro u w' olds news hown hg ho1 hn1
  have hk : Keeps E.Z w w' := Keeps.grown md.ok hg fun b hb => by cases hb
  have hall2 : ∀ y ∈ es.drop off ++ ys, y.length = te.size := fun y hy => (List.mem_append.1 hy).elim (fun h => g3 y (List.mem_of_mem_drop h)) (hall y)
  have hlen : (es.drop off ++ ys).length = len + ys.length := by rw [List.length_append, List.length_drop]; omega
  have hcat := RDe.keep hk (fun _ h => h) _ _ (RDe_append ho1 hn1)
  rcases hown.2 with ⟨rfl, h0⟩ | ⟨g, cap, cur, rfl, hgb, hgc, hnc, hcm, hcs, htake⟩
  ·have he0 : es.drop off ++ ys = [] := List.eq_nil_of_length_eq_zero (by rw [hlen]; exact h0)
   exact ⟨_, md.re hid hg (fun b hb => by cases hb) ⟨0, 0, te.size, 0, true⟩ ⟨by simp [Env.at], by simp [Env.at], hall2, hpos, .inl ⟨by simp [Env.at], he0⟩⟩ (fun h => by cases h), .inl ⟨by simp [Env.at], rfl, h0, rfl⟩⟩
  ·refine ⟨_, md.re hid hg (fun b hb => by cases hb) ⟨g, 0, te.size, cap, false⟩ ⟨by simp [Env.at], by simp [Env.at], hall2, hpos, .inr ⟨by simp [Env.at], cur, _, by simpa [Env.at] using hgc, by simp only [Env.at, if_true]; rw [hlen]; exact hnc, by simpa [Env.at] using hcm, by simpa [Env.at] using hcs, hcat, by rw [hlen]; exact htake⟩⟩ (fun _ => .inr hgb),
    .inr ⟨by simp [Env.at], by simp [Env.at]; exact hnc, 0, by simp [Env.at], fun _ => by simp [Env.at]⟩⟩
 rcases g5 with ⟨g6, g7⟩ | ⟨hn, cc, flat, k1, k2, k3, k4, k5, k6⟩
 ·-- nil
  subst g7
  rcases hsv with ⟨_, q1, q2, q3⟩ | ⟨q1, _⟩
  ·subst q1; subst q2
   rcases srcV_sound md.ok hxv hx te.size with ⟨r1, rfl⟩ | ⟨ax, cap, news, r1, r2, r3⟩
   ·have hrun := run_append_owned_none (P := P) (w := w) w.heap.size t o.type e i0 te.size htu hi0 (.slice none 0 0) 0 [] (World.ownsRow_nil _ _ _ _)
    obtain ⟨E', m1, m2⟩ := anew (.slice none 0 0) w [] [] (World.ownsRow_nil _ _ _ _) ⟨rfl, rfl, rfl, Nat.le_refl _, fun _ _ _ => rfl⟩ rfl rfl
    exact ⟨_, _, E', _, _, by rw [q3, r1]; exact hrun, m1, m2, h2⟩
   ·obtain ⟨u, w', hrun, n1, n2, n3⟩ := run_append_where (P := P) w w.heap.size t o.type e i0 te.zero te.size te.bytes htu hi0 hi3 hi1 hi2 hzc hpos (.slice none 0 0) 0 [] (World.ownsRow_nil _ _ _ _) ax ys.length cap news
     (RDe_length r2 hall) r3 (RDe_cell r2) hbytes hpb (Nat.le_refl _)
    obtain ⟨E', m1, m2⟩ := anew u w' [] news n1 n2 rfl r2
    exact ⟨_, _, E', _, _, by rw [q3, r1]; exact hrun, m1, m2, h2⟩
  ·rw [g6] at q1; cases q1
 rcases hsv with ⟨q1, _⟩ | ⟨_, q2, aa, q3, q4⟩
 ·rw [hn] at q1; cases q1
 have hcs : es.length * te.size ≤ cc.size := by rw [k4]; exact Nat.mul_le_mul_right _ k2
 have hfl : flat.length = es.length * te.size := RDe_length k5 g3
 have asame : ∀ (w' : World) (c' : Array Value) (news : List Value), w.grownBy w' (some (E.loc id).b) → w'.heap[(E.loc id).b]? = some (.cells c' e (0, 0)) → c'.size = cc.size → RDe w E.Z ys news → c'.toList.take ((es ++ ys).length * te.size) = flat ++ news → es.length + ys.length ≤ (E.loc id).cap →
   ∃ E', Mod fx ((S.kill id).setH id (some (.arr e te.size (es ++ ys)))) E' a w' ∧ RV E' w' (.ref id off (len + ys.length)) (.slice (some ⟨(E.loc id).b, aa, none⟩) (len + ys.length) ((E.loc id).cap - off)) := by
  intro w' c' news hg hc1 hc2 hn1 ht hcap
  have hk : Keeps E.Z w w' := Keeps.grown md.ok hg fun b hb => hz0 b (by rw [hb]) hn
  refine ⟨_, md.re hid hg (fun b hb => ⟨by rw [hH]; simp, hn, by injection hb⟩) (E.loc id) ⟨by simp [Env.at, g1], by simp [Env.at, g2], fun y hy => (List.mem_append.1 hy).elim (g3 y) (hall y), hpos, .inr ⟨by simp [Env.at, hn], c', flat ++ news, by simpa [Env.at] using hc1, by simp [Env.at]; exact hcap, by simpa [Env.at] using k3, by simp [Env.at]; rw [hc2]; exact k4,
   RDe.keep hk (fun _ h => h) _ _ (RDe_append k5 hn1), ht⟩⟩ (fun _ => .inl rfl), .inr ⟨by simp [Env.at, hn], by simp [Env.at]; omega, aa, by simp [Env.at], fun h => by simp only [Env.at, if_true] at h ⊢; exact q4 h⟩⟩
 rcases srcV_sound md.ok hxv hx te.size with ⟨r1, rfl⟩ | ⟨ax, cap, news, r1, r2, r3⟩
 ·-- nothing comes
  have hrun := run_append_zero (P := P) (w := w) (ty := o.type) htu hi0 ⟨(E.loc id).b, aa, none⟩ len ((E.loc id).cap - off) (by omega)
  obtain ⟨E', m1, m2⟩ := asame w cc [] ⟨rfl, rfl, rfl, Nat.le_refl _, fun _ _ _ => rfl⟩ k1 rfl rfl (by simpa using k6) (by simpa using k2)
  exact ⟨_, _, E', _, _, by rw [q3, r1]; exact hrun, m1, m2, h1⟩
 ·have hnl : news.length = ys.length * te.size := RDe_length r2 hall
  by_cases hroom : len + ys.length ≤ (E.loc id).cap - off
  ·by_cases hoc : off = 0 ∨ off < (E.loc id).cap
   ·have ha := q4 hoc
    rw [g2, g1, Nat.zero_add] at ha
    subst ha
    have hend : (off + len) * te.size + news.length ≤ cc.size := by rw [hnl, ← Nat.add_mul, k4]; exact Nat.mul_le_mul_right _ (by omega)
    have eoff : off * te.size + len * te.size = (off + len) * te.size := (Nat.add_mul _ _ _).symm
    have hrun := run_append_room_cells (P := P) (w := w) t o.type e i0 htu hi0 (E.loc id).b (off * te.size) len ((E.loc id).cap - off) ax ys.length cap news (by rw [hi1]; exact hnl) r3 (RDe_cell r2) hroom
     (fun j hj => by
      rw [hi1, eoff]
      have : (off + len) * te.size + j < cc.size := by omega
      simp [World.cell?, k1, this])
     (fun j hj => by simp [World.frozen?, k1])
    rw [hi1, eoff] at hrun
    obtain ⟨c', z1, z2⟩ := heap_setCells (E.loc id).b news ((off + len) * te.size) w cc k1 (by omega)
    have hgb := grownBy_setCells (E.loc id).b news ((off + len) * te.size) w
    rw [hle] at z2 hend
    have hl1 : (cc.toList.take (es.length * te.size)).length = es.length * te.size := by rw [k6]; exact hfl
    have hcl : cc.toList.length = cc.size := Array.length_toList
    obtain ⟨E', m1, m2⟩ := asame _ c' news hgb z1 (by
     rw [← Array.length_toList, z2]
     simp only [List.length_append, List.length_drop, hl1, hcl]; omega) r2 (by
     rw [z2, k6, List.length_append, Nat.add_mul, ← hnl, ← hfl, ← List.append_assoc, ← List.length_append]
     exact List.take_left) (by omega)
    exact ⟨_, _, E', _, _, by rw [q3, r1]; exact hrun, m1, m2, h1⟩
   ·have hy0 : ys.length = 0 := by omega
    obtain rfl : ys = [] := List.eq_nil_of_length_eq_zero hy0
    obtain rfl : news = [] := List.eq_nil_of_length_eq_zero (by rw [hnl]; simp)
    have hrun := run_append_room_cells (P := P) (w := w) t o.type e i0 htu hi0 (E.loc id).b aa len ((E.loc id).cap - off) ax 0 cap [] (by simp) r3 (fun _ h => by cases h) hroom (fun j hj => by simp at hj) (fun j hj => by simp at hj)
    obtain ⟨E', m1, m2⟩ := asame w cc [] ⟨rfl, rfl, rfl, Nat.le_refl _, fun _ _ _ => rfl⟩ k1 rfl rfl (by simpa using k6) (by simpa using k2)
    exact ⟨_, _, E', _, _, by rw [q3, r1]; exact hrun, m1, m2, h1⟩
  ·have hlen1 : (es.drop off).length = len := by rw [List.length_drop]; omega
   have holds : ∀ j u, (flat.drop (off * te.size))[j]? = some u → w.cell? ((⟨(E.loc id).b, aa, none⟩ : Addr).add j) = some u := by
    intro j u hj
    by_cases hoc : off = 0 ∨ off < (E.loc id).cap
    ·have ha := q4 hoc
     rw [g2, g1, Nat.zero_add] at ha
     subst ha
     have := rangeAt_drop (arr_range k1 ⟨_, k6⟩) (off * te.size)
     rw [Nat.zero_add] at this
     rw [add_addr]; exact this j u hj
    ·have : flat.length ≤ off * te.size := by rw [hfl]; exact Nat.mul_le_mul_right _ (by omega)
     rw [List.drop_eq_nil_of_le this] at hj
     simp at hj
   have hb2 : (len + ys.length) * te.bytes ≤ 140737488355328 := by unfold Rp.reach at hbytes; omega
   have h63 : len + ys.length ≤ maxLen := by
    have h3 : (len + ys.length) * 1 ≤ (len + ys.length) * te.bytes := Nat.mul_le_mul_left _ hpb
    unfold Rp.reach at hbytes
    unfold maxLen
    omega
   have hdl : (flat.drop (off * te.size)).length = len * te.size := by
    rw [List.length_drop, hfl, ← hle, Nat.add_mul]; omega
   obtain ⟨u, w', hrun, n1, n2⟩ := run_append_arg_grows (P := P) w t o.type e i0 te.zero te.size te.bytes htu hi0 hi3 hi1 hi2 hzc hpos ⟨(E.loc id).b, aa, none⟩ len ((E.loc id).cap - off) (flat.drop (off * te.size)) hdl holds ax ys.length cap news hnl r3 (by omega) h63 hb2
   obtain ⟨E', m1, m2⟩ := anew u w' _ news n1 n2 (RDe_drop off k5 g3) r2
   exact ⟨_, _, E', _, _, by rw [q3, r1]; exact hrun, m1, m2, h2⟩

/-- nil slices among a row's elements seen as empty ones -/
theorem RDs.wk {w : World} {Z : Nat → Prop} : ∀ {ds : List D} {vs : List Value}, RDs w Z ds vs → RDs w Z (ds.map D.wk) vs
 | [], _, h => h
 | _ :: _, _, ⟨v, r, h1, h2, h3⟩ => ⟨v, r, h1, RD.wk h2, RDs.wk h3⟩
theorem RDe.wk {w : World} {Z : Nat → Prop} : ∀ {es : List (List D)} {vs : List Value}, RDe w Z es vs → RDe w Z (es.map fun e => e.map D.wk) vs
 | [], _, h => h
 | _ :: _, _, ⟨a, r, h1, h2, h3⟩ => ⟨a, r, h1, RDs.wk h2, RDe.wk h3⟩
theorem Sub.wkRow {S : St} (id : Nat) {T n : Nat} {es : List (List D)} (hH : S.hp id = some (.arr T n es)) : Sub S (S.setH id (some (.arr T n (es.map fun e => e.map D.wk)))) := .of fun fx a w E md => by
 obtain ⟨g1, g2, g3, g4, g5⟩ := md.ok.hold _ _ hH
 have g3' : ∀ e ∈ es.map (fun e => e.map D.wk), e.length = n := fun e he => by
  obtain ⟨e', he', rfl⟩ := List.mem_map.1 he
  rw [List.length_map]; exact g3 e' he'
 rcases g5 with ⟨g6, rfl⟩ | ⟨hn, c, flat, k1, k2, k3, k4, k5, k6⟩
 ·have : S.setH id (some (.arr T n (([] : List (List D)).map fun e => e.map D.wk))) = S := by
   unfold St.setH
   congr 1
   funext i
   by_cases hi : i = id
   ·subst hi; rw [if_pos rfl, hH]; rfl
   ·rw [if_neg hi]
  rw [this]
  exact ⟨E, md⟩
 ·exact ⟨E, md.wr hH hn ⟨rfl, rfl, rfl, Nat.le_refl _, fun _ _ _ => rfl⟩ ⟨g1, g2, g3', g4, .inr ⟨hn, c, flat, k1, by rw [List.length_map]; exact k2, k3, k4, RDe.wk k5, by rw [List.length_map]; exact k6⟩⟩⟩

/-! ### loops whose state hides how a row lies (g) -/
section
variable {P : Program} {S : St} {σ β ρ γ : Type}
def PostIG (I : γ → σ → St) (r : ρ) (Q : Exit → St → Prop) : σ ⊕ ρ → Exit → St → Prop
 | .inl s, e, S => e = .normal ∧ ∃ g, Sub S (I g s)
 | .inr r', e, S => e ≠ .normal ∧ (r' = r → Q e S)
def PostNG (J : γ → β → St) : β → Exit → St → Prop := fun b e S => e = .normal ∧ ∃ g, Sub S (J g b)
theorem PostIG.next {I : γ → σ → St} {r : ρ} {Q : Exit → St → Prop} {s : σ} (g : γ) (h : Sub S (I g s)) : PostIG I r Q (.inl s) .normal S := ⟨rfl, g, h⟩
theorem PostIG.out {I : γ → σ → St} {r r' : ρ} {Q : Exit → St → Prop} {e : Exit} (he : e ≠ .normal) (h : r' = r → Q e S) : PostIG I r Q (.inr r') e S := ⟨he, h⟩
theorem PostNG.next {J : γ → β → St} {b : β} (g : γ) (h : Sub S (J g b)) : PostNG J b .normal S := ⟨rfl, g, h⟩
theorem AW.iterG {c : Code} {step : σ → Option (σ ⊕ ρ)} {n : Nat} {s0 : σ} {r : ρ} {Q : Exit → St → Prop} (I : γ → σ → St) (h : iterN step n s0 = some r) (g0 : γ) (hs : Sub S (I g0 s0))
  (round : ∀ g s x, step s = some x → AW P c (I g s) (PostIG I r Q x)) : AW P (.loop c) S Q := by
 refine AW.loop (fun m S0 => ∃ g s, iterN step m s = some r ∧ S0 = I g s) hs ⟨g0, s0, h, rfl⟩ ?_
 rintro m S0 ⟨g, s, hm, rfl⟩
 cases m with
 | zero => cases hm
 | succ m =>
  rw [iterN_succ] at hm
  cases hx : step s with
  | none => rw [hx] at hm; cases hm
  | some x =>
   rw [hx] at hm
   refine (round g s x hx).mono fun e S' hp => ?_
   cases x with
   | inl s' =>
    obtain ⟨rfl, g', hp⟩ := hp
    exact ⟨m, _, Nat.lt_succ_self _, hp, g', s', hm, rfl⟩
   | inr r' =>
    injection hm with hm
    obtain ⟨he, hp⟩ := hp
    have hp := hp hm
    cases e with
    | normal => exact absurd rfl he
    | exit id => exact hp
    | goto l => exact hp
    | ret => exact hp
    | panic ch => exact hp
    | outgrown => exact hp
theorem AW.lastNG {x : Code} {d : Option β} {k : β → Option ρ} {r : ρ} {Q : Exit → St → Prop} (J : γ → β → St) (h : d.bind k = some r) (h1 : ∀ o, d = some o → AW P x S (PostNG J o))
  (h2 : ∀ g b, k b = some r → Q .normal (J g b)) : AW P x S Q := by
 obtain ⟨b, hd, hk⟩ := bsome h
 refine (h1 b hd).mono2 fun e S' hp => ?_
 obtain ⟨rfl, g, hp⟩ := hp
 exact ⟨_, hp, h2 g b hk⟩
end
end Go.Ab
end
section
namespace Go.Ab
open Go.RowKit

section
variable {P : Program} {ops : Array Oper} {md : Region.Mode} {C : World → Prop}
/-- whatever order the first n operations come up in -/
def headQ (P : Program) (md : Region.Mode) (ops : Array Oper) (C : World → Prop) (n : Nat) (L : Array Bool → Act → Prop) : Nat → Array Bool → Act → Prop
 | 0, done, a => L done a
 | f + 1, done, a => Region.ready md ops done ≠ [] ∧ ∀ i ∈ Region.ready md ops done, i < n ∧ qOp P ops C i (headQ P md ops C n L f (done.setIfInBounds i true)) a

theorem headQ_any {n g : Nat} {L : Array Bool → Act → Prop} {Q : Exit → Act → World → Prop} (hL : ∀ done a w, C w → L done a → wpAny P md ops Q g done a w) :
  ∀ (f : Nat) (done : Array Bool) (a : Act) (w : World), C w → headQ P md ops C n L f done a → wpAny P md ops Q (f + g) done a w
 | 0, done, a, w, hw, h => by rw [Nat.zero_add]; exact hL _ _ _ hw h
 | f + 1, done, a, w, hw, h => by
  have e : f + 1 + g = (f + g) + 1 := by omega
  rw [e]
  exact ⟨fun h0 => absurd h0 h.1, fun i hi => wpOp_of_qOp hw (fun a' w' hw' h' => headQ_any hL f _ a' w' hw' h') (h.2 i hi).2⟩

theorem headQ_first {n i : Nat} {oi : Oper} {v : Value} {L : Array Bool → Act → Prop} (hi : ops[i]? = some oi) (hsel : ∀ (j : Nat) (o : Oper) cs b, ops[j]? = some o → o.op ≠ .select cs b)
  (hs : Region.sinkB md ops n = true) (hc : Region.chainB md ops n = true) (hn : n < ops.size) (hin : i < n) (hend : ∀ done a, L done a → ∀ j ∈ Region.ready md ops done, n ≤ j) :
  ∀ (f : Nat) (done : Array Bool) (a : Act), HeadInv md ops n done →
   (∀ j oj, ops[j]? = some oj → j ≠ i → done.getD j true = false → (∀ e ∈ oj.after, Region.binds md e = true → e.on ≠ i) → oi.apart ops oj = true) →
   i ∈ Region.ready md ops done → YieldsIn P ops C oi v a → headQ P md ops C n L f (done.setIfInBounds i true) (a.put oi.dst v) → headQ P md ops C n L (f + 1) done a
 | f, done, a, inv, hfree, hr, hy, H => by
  have hun := (mem_ready.1 hr).1
  refine ⟨fun h => (by rw [h] at hr; cases hr), fun j hj => ?_⟩
  have hjn : j < n := by
   rcases Nat.lt_or_ge j n with h | h
   ·exact h
   ·exact absurd hj (tail_waits hs hc hn inv _ i rfl hin hun j h)
  refine ⟨hjn, ?_⟩
  by_cases hji : j = i
  ·subst hji; exact hy.qOp hi H
  ·match f, H with
   | 0, H => exact absurd (hend _ _ H j (ready_mono hj hji)) (by omega)
   | f + 1, H =>
    have h1 := (H.2 j (ready_mono hj hji)).2
    obtain ⟨hjun, oj, hoj, hall⟩ := mem_ready.1 hj
    have hnot : ∀ e ∈ oj.after, Region.binds md e = true → e.on ≠ i := fun e he hb heq => by
     have h2 := hall e he hb
     rw [heq, getD_both hun] at h2
     cases h2
    have h2 := qOp_put hoj (hfree j oj hoj hji hjun hnot) (fun cs b => hsel i oi cs b hi) (fun cs b => hsel j oj cs b hoj) hy h1
    refine qOp_mono (fun a' h3 => headQ_first hi hsel hs hc hn hin hend f (done.setIfInBounds j true) a' (inv.set hj hjn) (fun k ok hk hki hku hno => hfree k ok hk hki ?_ hno) (ready_mono hr (Ne.symm hji)) h3.1 ?_) h2
    ·by_cases hjk : j = k
     ·subst hjk; exact hjun
     ·rwa [getD_set_ne true hjk] at hku
    ·rw [Array.setIfInBounds_comm _ _ hji]
     exact h3.2

theorem headQ_lex {n g : Nat} {Lq : Act → Prop} (hsel : Region.noSelect ops = true) (hs : Region.sinkB md ops n = true) (hc : Region.chainB md ops n = true) (hn : n < ops.size) :
  ∀ (l : List Oper) (k : Nat) (done : Array Bool) (a : Act), (∀ j, j < l.length → l[j]? = ops[k + j]?) → k + l.length = n → HeadInv md ops n done → Region.lexHead md ops g l.length k done = true → wpQuiet P ops C Lq l a →
   headQ P md ops C n (fun done' a' => Region.seqB md ops g n done' = true ∧ Lq a') l.length done a
 | [], k, done, a, _, hk, _, hB, h => by
  obtain rfl : k = n := by simpa using hk
  exact ⟨by simpa [Region.lexHead] using hB, h⟩
 | o :: l, k, done, a, hl, hk, inv, hB, h => by
  have h0 : ops[k]? = some o := by simpa using (hl 0 (by simp)).symm
  simp only [List.length_cons, Region.lexHead, Bool.and_eq_true] at hB
  obtain ⟨⟨hr, hf⟩, hB'⟩ := hB
  have hkn : k < n := by simp only [List.length_cons] at hk; omega
  have hr' : k ∈ Region.ready md ops done := by simpa using hr
  have hst : qOp P ops C k (wpQuiet P ops C Lq l) a := by unfold qOp; simp only [h0]; exact h
  obtain ⟨v, hy, hK⟩ := yieldsIn_of_qOp h0 hst
  refine headQ_first h0 (Region.noSelect_spec hsel) hs hc hn hkn (fun _ _ hL => seqB_ready hL.1) l.length done a inv (Region.free_spec h0 hf) hr' hy (headQ_lex hsel hs hc hn l (k + 1) _ _ (fun j hj => ?_) ?_ (inv.set hr' hkn) hB' hK)
  ·have := hl (j + 1) (by simp; omega)
   simpa [Nat.add_assoc, Nat.add_comm 1 j] using this
  ·simp only [List.length_cons] at hk; omega
end

theorem rd_region_quiet_tail {ro : Option Nat} {k : Nat} {P : Program} {id : Nat} {Q : Act → World → Prop} {C : World → Prop} {a : Act} {w : World} {l : List Oper} (n : Nat) (hd : noDefer l = true) (hm : P.follows .mixedOrders = true) (hB : Region.lexTailB .any l.toArray n = true)
  (hC : C { w with drawn := w.drawn + 1 }) (h : wpQuiet P l.toArray C (fun a' => ∀ w', C w' → wpList P l.toArray (NQ Q) (l.drop n) a' w') (l.take n) a) : (Code.region id l.toArray true).wpIn (Rd ro) k P (NQ Q) a w := by
 simp only [Region.lexTailB, Bool.and_eq_true, decide_eq_true_eq] at hB
 obtain ⟨⟨⟨⟨hsel, hn⟩, hs⟩, hc⟩, hlex⟩ := hB
 have hn' : n < l.length := by simpa using hn
 have htl : (l.take n).length = n := by simp; omega
 have hdl : (l.drop n).length = l.toArray.size - n := by simp
 have hrf : ∀ j, (Array.replicate l.toArray.size false).getD j false = false := fun j => by
  rw [Array.getD_eq_getD_getElem?, Array.getElem?_replicate]; split <;> rfl
 have inv0 : HeadInv .any l.toArray n (Array.replicate l.toArray.size false) :=
  ⟨by simp, fun j oj _ hl => (by rw [hrf] at hl; cases hl), fun t _ ht => getD_in (by simpa using ht) (hrf _)⟩
 have H := headQ_lex (C := C) (md := .any) (g := l.toArray.size - n) hsel hs hc hn (l.take n) 0 _ a (fun j hj => by
  have hj' : j < n := by rw [htl] at hj; exact hj
  simp [hj']) (by simpa using htl) inv0 (by rw [htl]; exact hlex) h
 refine rd_region_any hd hm ?_
 have := headQ_any (Q := NQ Q) (g := l.toArray.size - n) (fun done a' w' hw' hL => by
  have := wpAny_of_seq (md := .any) (Q' := NQ Q) (l.drop n) n done a' w' (fun j => by simp [List.getElem?_drop]) (by rw [hdl]; exact hL.1) (hL.2 w' hw')
  rwa [hdl] at this) _ _ _ _ hC H
 rw [htl, show n + (l.toArray.size - n) = l.toArray.size by omega] at this
 exact this

theorem AW.regionQT {P : Program} {S : St} {Q : Exit → St → Prop} {id : Nat} {l : List Oper} (n : Nat) (hm : P.follows .mixedOrders = true) (hB : Region.lexTailB .any l.toArray n = true)
  (h : Chain true P l.toArray (l.take n) S (fun S' => Chain false P l.toArray (l.drop n) S' (Q .normal))) (hd : noDefer l = true := by rfl) : AW P (.region id l.toArray true) S Q := fun fx a w m => by
 refine Code.wpIn_mono (fun e a w h => by obtain ⟨rfl, h⟩ := h; exact h) (rd_region_quiet_tail (Q := Aft fx Q .normal) (C := Grow w) n hd hm hB ⟨rfl, rfl, rfl, Nat.le_refl _, fun _ _ => rfl⟩
  (h fx a w _ m fun S' a' hc ⟨E, m'⟩ w' hg => hc fx a' w' _ ⟨E, m'.grow hg⟩ fun S2 a2 w2 hq m2 => ⟨rfl, Aft.one hq m2⟩))
theorem FunM.argsF {P : Program} {f : FuncId} {args args' : List V} {h0 : List (Nat × Option Blk)} {rts : List Nat} {v : V} {h1 : List (Nat × Blk)} (h : FunM P f args' h0 rts v h1) (ha : args' = args.map V.wf) : FunM P f args h0 rts v h1 :=
 fun w E vals ok hx => h w E vals ok (by subst ha; exact RVs.frz (fun _ _ h => RV.wf h) hx)
end Go.Ab
end
