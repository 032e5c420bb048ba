/- An abstract machine over the model: data, values, states, and how they lie in memory. -/
import Derived.Test.YtabjbkdlacibjaaRep
import Derived.Deep.MidRow
import Derived.MapKept
namespace Go.Ab
open Go.RowKit

inductive D where
  | lit (v : Value)
  | sl (es : List (List D))
  | pim (cs : List D)
  | ifc (t : TypeId) (x : D)
  | fn (f : Fn) (caps : List D)
  deriving Inhabited

def plain : Value → Bool
  | .bool _ | .int _ _ | .float _ _ | .complex _ _ _ | .string _ | .pointer none | .slice none 0 0 | .map none | .chan none | .nilFunc | .nilIface => true
  | .func _ a b => a.isEmpty && b.isEmpty
  | _ => false
mutual
def RD (w : World) (Z : Nat → Prop) : D → Value → Prop
  | .lit v, x => x = v ∧ plain v = true
  | .sl es, x => ∃ (A : Option Addr) (cap : Nat), x = .slice A es.length cap ∧ es.length ≤ cap ∧ cap ≤ maxLen ∧ (A = none → cap = 0) ∧
      (es ≠ [] → ∃ (b o n : Nat) (flat : List Value), A = some ⟨b, o, none⟩ ∧ Z b ∧ (∀ e ∈ es, e.length = n) ∧ RDe w Z es flat ∧ w.rangeAt b o flat)
  | .pim cs, x => ∃ (b o : Nat) (vs : List Value), x = .pointer (some ⟨b, o, none⟩) ∧ Z b ∧ RDs w Z cs vs ∧ w.rangeAt b o vs
  | .ifc t d, x => ∃ v, x = .iface t v ∧ RD w Z d v
  | .fn f caps, x => ∃ vs : List Value, x = .func f #[] vs.toArray ∧ RDs w Z caps vs
def RDs (w : World) (Z : Nat → Prop) : List D → List Value → Prop
  | [], vs => vs = []
  | d :: ds, vs => ∃ v r, vs = v :: r ∧ RD w Z d v ∧ RDs w Z ds r
def RDe (w : World) (Z : Nat → Prop) : List (List D) → List Value → Prop
  | [], vs => vs = []
  | e :: es, vs => ∃ a r, vs = a ++ r ∧ RDs w Z e a ∧ RDe w Z es r
end

/-- later worlds -/
def Keeps (Z : Nat → Prop) (w w' : World) : Prop := ∀ b, Z b → w'.heap[b]? = w.heap[b]?

theorem rangeAt_block {w w' : World} {b o : Nat} {vs : List Value} (h : w.rangeAt b o vs) (hb : w'.heap[b]? = w.heap[b]?) : w'.rangeAt b o vs := fun j v hv => by
  rw [World.cell?_of_block (w := w) (by exact hb)]; exact h j v hv

mutual
theorem RD.keep {w w' : World} {Z Z' : Nat → Prop} (hk : Keeps Z w w') (hz : ∀ b, Z b → Z' b) : ∀ (d : D) (x : Value), RD w Z d x → RD w' Z' d x
  | .lit v, x, h => h
  | .sl es, x, ⟨A, cap, h1, h2, h3, h4, h5⟩ => ⟨A, cap, h1, h2, h3, h4, fun hne => by
      obtain ⟨b, o, n, flat, e1, e2, e3, e4, e5⟩ := h5 hne
      exact ⟨b, o, n, flat, e1, hz _ e2, e3, RDe.keep hk hz es flat e4, rangeAt_block e5 (hk _ e2)⟩⟩
  | .pim cs, x, ⟨b, o, vs, h1, h2, h3, h4⟩ => ⟨b, o, vs, h1, hz _ h2, RDs.keep hk hz cs vs h3, rangeAt_block h4 (hk _ h2)⟩
  | .ifc t d, x, ⟨v, h1, h2⟩ => ⟨v, h1, RD.keep hk hz d v h2⟩
  | .fn f caps, x, ⟨vs, h1, h2⟩ => ⟨vs, h1, RDs.keep hk hz caps vs h2⟩
theorem RDs.keep {w w' : World} {Z Z' : Nat → Prop} (hk : Keeps Z w w') (hz : ∀ b, Z b → Z' b) : ∀ (ds : List D) (vs : List Value), RDs w Z ds vs → RDs w' Z' ds vs
  | [], vs, h => h
  | d :: ds, vs, ⟨v, r, h1, h2, h3⟩ => ⟨v, r, h1, RD.keep hk hz d v h2, RDs.keep hk hz ds r h3⟩
theorem RDe.keep {w w' : World} {Z Z' : Nat → Prop} (hk : Keeps Z w w') (hz : ∀ b, Z b → Z' b) : ∀ (es : List (List D)) (vs : List Value), RDe w Z es vs → RDe w' Z' es vs
  | [], vs, h => h
  | e :: es, vs, ⟨a, r, h1, h2, h3⟩ => ⟨a, r, h1, RDs.keep hk hz e a h2, RDe.keep hk hz es r h3⟩
end

/-! ### values and states -/
structure Loc where
  b : Nat
  o : Nat
  n : Nat
  cap : Nat
  nil : Bool
  deriving Inhabited

inductive V where
  | d (x : D)
  | ref (id off len : Nat)
  | ptr (id i off : Nat)
  | mref (id : Nat)
  | agg (cs : List V)
  | tup (cs : List V)
  | fn (f : Fn) (caps : List V)
  | dx (es : List (List D))
  | hole
  | junk
  deriving Inhabited

/-- keys of maps -/
inductive MKey where
  | ik (n : Int)
  | sk (s : ByteArray)
  | bk (x : Bool)
def MKey.enc : MKey → Value
  | .ik n => .int .i64 n
  | .sk s => .string s
  | .bk x => .bool x
def MKey.desc : MKey → TypeDesc
  | .ik _ => .int .i64
  | .sk _ => .string
  | .bk _ => .bool

inductive Blk where
  | arr (T : TypeId) (n : Nat) (es : List (List D))
  | box (cs : List V)
  | mp (kd : TypeDesc) (l : List (MKey × V))

structure Env where
  loc : Nat → Loc
  Z : Nat → Prop

/-- a value of one cell -/
def V.cell : V → Bool
  | .d _ | .ref .. | .ptr .. | .mref _ | .fn .. | .hole => true
  | _ => false

mutual
def RV (E : Env) (w : World) : V → Value → Prop
  | .d x, v => RD w E.Z x v
  | .ref id off len, v => ((E.loc id).nil = true ∧ off = 0 ∧ len = 0 ∧ v = .slice none 0 0) ∨
      ((E.loc id).nil = false ∧ off + len ≤ (E.loc id).cap ∧ ∃ a, v = .slice (some ⟨(E.loc id).b, a, none⟩) len ((E.loc id).cap - off) ∧ (off = 0 ∨ off < (E.loc id).cap → a = (E.loc id).o + off * (E.loc id).n))
  | .ptr id i off, v => (E.loc id).nil = false ∧ v = .pointer (some ⟨(E.loc id).b, (E.loc id).o + i * (E.loc id).n + off, none⟩)
  | .mref id, v => v = .map (some (E.loc id).b)
  | .agg cs, v => ∃ vs : List Value, v = .agg vs.toArray ∧ (∀ c ∈ cs, c.cell = true) ∧ RVs E w cs vs
  | .tup cs, v => ∃ vs : List Value, v = .tuple vs.toArray ∧ RVs E w cs vs
  | .fn f caps, v => ∃ vs : List Value, v = .func f #[] vs.toArray ∧ RVs E w caps vs
  | .dx es, v => RD w E.Z (.sl es) v ∧ ∃ A, v = .slice A es.length es.length
  | .hole, v => v.oneCell' = true
  | .junk, _ => True
def RVs (E : Env) (w : World) : List V → List Value → Prop
  | [], vs => vs = []
  | c :: cs, vs => ∃ v r, vs = v :: r ∧ RV E w c v ∧ RVs E w cs r
end

mutual
/-- no names at all -/
def V.closed : V → Bool
  | .ref .. | .ptr .. | .mref _ => false
  | .agg cs => closedL cs
  | .tup cs => closedL cs
  | .fn _ cs => closedL cs
  | .d _ | .dx _ => true
  | .hole => false
  | .junk => false
def closedL : List V → Bool
  | [] => true
  | c :: cs => c.closed && closedL cs
end

/-- the entries of a map -/
def REs (E : Env) (w : World) : List (MKey × V) → List MapEntry → Prop
  | [], es => es = []
  | (k, v) :: l, es => ∃ e r, es = e :: r ∧ e.key = k.enc ∧ RV E w v e.val ∧ v.closed = true ∧ REs E w l r

def Hold (E : Env) (w : World) (id : Nat) : Blk → Prop
  | .mp kd l => (E.loc id).nil = false ∧ (∀ p ∈ l, p.1.desc = kd) ∧ ∃ es clock, w.heap[(E.loc id).b]? = some (.map es clock) ∧ Go.MapKept.Stamped es clock ∧ REs E w l es.toList
  | .arr T n es => (E.loc id).n = n ∧ (E.loc id).o = 0 ∧ (∀ e ∈ es, e.length = n) ∧ 0 < n ∧
      (((E.loc id).nil = true ∧ es = []) ∨ ((E.loc id).nil = false ∧ ∃ c flat, w.heap[(E.loc id).b]? = some (.cells c T (0, 0)) ∧ es.length ≤ (E.loc id).cap ∧ (E.loc id).cap ≤ maxLen ∧
        c.size = (E.loc id).cap * n ∧ RDe w E.Z es flat ∧ c.toList.take (es.length * n) = flat))
  | .box cs => (E.loc id).nil = false ∧ (∀ c ∈ cs, c.cell = true) ∧ ∃ vs, RVs E w cs vs ∧ w.rangeAt (E.loc id).b (E.loc id).o vs ∧
      (∀ j, j < vs.length → w.frozen? ⟨(E.loc id).b, (E.loc id).o + j, none⟩ = false) ∧ (E.loc id).b < w.heap.size

abbrev Heap := Nat → Option Blk

structure Env.ok (E : Env) (H : Heap) (w : World) : Prop where
  hold : ∀ id k, H id = some k → Hold E w id k
  inj : ∀ i j, H i ≠ none → H j ≠ none → (E.loc i).nil = false → (E.loc j).nil = false → i ≠ j → (E.loc i).b ≠ (E.loc j).b
  apart : ∀ i, H i ≠ none → (E.loc i).nil = false → ¬ E.Z (E.loc i).b
  zlt : ∀ b, E.Z b → b < w.heap.size

structure St where
  nt : Nat
  rts : List Nat
  sl : Nat → V
  hp : Heap

/-- what a call may touch: blocks of L and new ones -/
structure Fx where
  w0 : World
  Z0 : Nat → Prop
  L : Nat → Prop
  roots : List (Nat × Loc)

structure Fx.frame (fx : Fx) (w : World) : Prop where
  os : w.os = fx.w0.os
  tape : w.tape = fx.w0.tape
  output : w.output = fx.w0.output
  size : fx.w0.heap.size ≤ w.heap.size
  block : ∀ b, b < fx.w0.heap.size → ¬ fx.L b → w.heap[b]? = fx.w0.heap[b]?

structure Mod (fx : Fx) (S : St) (E : Env) (a : Act) (w : World) : Prop where
  nt : a.tmps.size = S.nt
  slots : ∀ t, RV E w (S.sl t) (a.tmps.getD t undef)
  dfr : a.defers = []
  ok : E.ok S.hp w
  frame : fx.frame w
  mine : ∀ i, S.hp i ≠ none → (E.loc i).nil = false → fx.w0.heap.size ≤ (E.loc i).b ∨ fx.L (E.loc i).b
  z : ∀ b, E.Z b → fx.Z0 b ∨ fx.w0.heap.size ≤ b ∨ fx.L b
  roots : ∀ r ∈ fx.roots, r.1 ∈ S.rts ∧ E.loc r.1 = r.2

def Models (fx : Fx) (S : St) (a : Act) (w : World) : Prop := ∃ E, Mod fx S E a w

mutual
theorem RV.keep {E E' : Env} {w w' : World} (hk : Keeps E.Z w w') (hz : ∀ b, E.Z b → E'.Z b) (hl : E'.loc = E.loc) : ∀ (c : V) (x : Value), RV E w c x → RV E' w' c x
  | .d x, v, h => RD.keep hk hz x v h
  | .ref id off len, v, h => by
    unfold RV at h ⊢
    rw [hl]; exact h
  | .ptr id i off, v, h => by
    unfold RV at h ⊢
    rw [hl]; exact h
  | .mref id, v, h => by
    unfold RV at h ⊢
    rw [hl]; exact h
  | .agg cs, v, ⟨vs, h1, h2, h3⟩ => ⟨vs, h1, h2, RVs.keep hk hz hl cs vs h3⟩
  | .tup cs, v, ⟨vs, h1, h2⟩ => ⟨vs, h1, RVs.keep hk hz hl cs vs h2⟩
  | .fn f cs, v, ⟨vs, h1, h2⟩ => ⟨vs, h1, RVs.keep hk hz hl cs vs h2⟩
  | .dx es, v, ⟨h1, h2⟩ => ⟨RD.keep hk hz (.sl es) v h1, h2⟩
  | .hole, _, h => h
  | .junk, _, _ => trivial
theorem RVs.keep {E E' : Env} {w w' : World} (hk : Keeps E.Z w w') (hz : ∀ b, E.Z b → E'.Z b) (hl : E'.loc = E.loc) : ∀ (cs : List V) (vs : List Value), RVs E w cs vs → RVs E' w' cs vs
  | [], vs, h => h
  | c :: cs, vs, ⟨v, r, h1, h2, h3⟩ => ⟨v, r, h1, RV.keep hk hz hl c v h2, RVs.keep hk hz hl cs r h3⟩
end

theorem REs.keep {E E' : Env} {w w' : World} (hk : Keeps E.Z w w') (hz : ∀ b, E.Z b → E'.Z b) (hl : E'.loc = E.loc) : ∀ (l : List (MKey × V)) (es : List MapEntry), REs E w l es → REs E' w' l es
  | [], es, h => h
  | (k, v) :: l, es, ⟨e, r, h1, h2, h3, h4, h5⟩ => ⟨e, r, h1, h2, RV.keep hk hz hl v _ h3, h4, REs.keep hk hz hl l r h5⟩

/-- later worlds: blocks have come, none has turned -/
abbrev Grow (w w' : World) : Prop := Below w.heap.size w w'

theorem Grow.keeps {w w' : World} (h : Grow w w') {E : Env} {H : Heap} (ok : E.ok H w) : Keeps E.Z w w' := fun b hb => h.block b (ok.zlt b hb)

theorem Hold.block_lt {E : Env} {w : World} {id : Nat} {k : Blk} (h : Hold E w id k) (hn : (E.loc id).nil = false) : (E.loc id).b < w.heap.size := by
  cases k with
  | arr T n es =>
    obtain ⟨_, _, _, _, h5⟩ := h
    rcases h5 with ⟨h6, _⟩ | ⟨_, c, flat, h7, _⟩
    · rw [hn] at h6; cases h6
    · exact (Array.getElem?_eq_some_iff.1 h7).1
  | box cs =>
    obtain ⟨_, _, _, _, _, _, h⟩ := h
    exact h
  | mp kd l =>
    obtain ⟨_, _, es, clock, h, _⟩ := h
    exact (Array.getElem?_eq_some_iff.1 h).1

theorem Hold.keep {E E' : Env} {w w' : World} {id : Nat} {k : Blk} (h : Hold E w id k) (hk : Keeps E.Z w w') (hz : ∀ b, E.Z b → E'.Z b) (hl : E'.loc = E.loc) (hb : (E.loc id).nil = false → w'.heap[(E.loc id).b]? = w.heap[(E.loc id).b]?) (hsz : w.heap.size ≤ w'.heap.size) : Hold E' w' id k := by
  cases k with
  | arr T n es =>
    obtain ⟨h1, h2, h3, h4, h5⟩ := h
    unfold Hold
    rw [hl]
    refine ⟨h1, h2, h3, h4, ?_⟩
    rcases h5 with h6 | ⟨hn, c, flat, h7, h8, h9, h10, h11, h12⟩
    · exact .inl h6
    · exact .inr ⟨hn, c, flat, (hb hn).trans h7, h8, h9, h10, RDe.keep hk hz es flat h11, h12⟩
  | box cs =>
    obtain ⟨hn, h1, vs, h2, h3, h4, h5⟩ := h
    unfold Hold
    rw [hl]
    refine ⟨hn, h1, vs, RVs.keep hk hz hl cs vs h2, rangeAt_block h3 (hb hn), fun j hj => ?_, by omega⟩
    rw [World.frozen?_of_block (w := w) (by exact hb hn)]
    exact h4 j hj
  | mp kd l =>
    obtain ⟨hn, h1, es, clock, h2, h3, h4⟩ := h
    unfold Hold
    rw [hl]
    exact ⟨hn, h1, es, clock, (hb hn).trans h2, h3, REs.keep hk hz hl l _ h4⟩

theorem Env.ok.grow {E : Env} {H : Heap} {w w' : World} (ok : E.ok H w) (h : Grow w w') : E.ok H w' where
  hold id k hk := (ok.hold id k hk).keep (h.keeps ok) (fun _ h => h) rfl (fun hn => h.block _ ((ok.hold id k hk).block_lt hn)) h.size
  inj := ok.inj
  apart := ok.apart
  zlt b hb := Nat.lt_of_lt_of_le (ok.zlt b hb) h.size

theorem Fx.frame.grow {fx : Fx} {w w' : World} (f : fx.frame w) (h : Grow w w') : fx.frame w' where
  os := h.os.trans f.os
  tape := h.tape.trans f.tape
  output := h.output.trans f.output
  size := Nat.le_trans f.size h.size
  block b hb hl := (h.block b (Nat.lt_of_lt_of_le hb f.size)).trans (f.block b hb hl)

theorem Mod.grow {fx : Fx} {S : St} {E : Env} {a : Act} {w w' : World} (m : Mod fx S E a w) (h : Grow w w') : Mod fx S E a w' where
  nt := m.nt
  slots t := RV.keep (h.keeps m.ok) (fun _ h => h) rfl _ _ (m.slots t)
  dfr := m.dfr
  ok := m.ok.grow h
  frame := m.frame.grow h
  mine := m.mine
  z := m.z
  roots := m.roots

/-- a slot is set -/
def St.put (S : St) (t : Option Tmp) (v : V) : St :=
  match t with
  | some d => { S with sl := fun i => if i = d ∧ d < S.nt then v else S.sl i }
  | none => S

theorem getD_put (a : Act) (d : Tmp) (x : Value) (t : Nat) : (a.put (some d) x).tmps.getD t undef = if t = d ∧ d < a.tmps.size then x else a.tmps.getD t undef := by
  simp only [Act.put, Array.getD_eq_getD_getElem?, Array.getElem?_setIfInBounds]
  by_cases h : d = t
  · subst h
    by_cases h2 : d < a.tmps.size
    · simp [h2]
    · simp [h2]
  · have : ¬ t = d := fun e => h e.symm
    simp [h, this]

theorem Mod.put {fx : Fx} {S : St} {E : Env} {a : Act} {w : World} (m : Mod fx S E a w) (t : Option Tmp) {v : V} {x : Value} (h : RV E w v x) : Mod fx (S.put t v) E (a.put t x) w := by
  cases t with
  | none => exact m
  | some d =>
    refine ⟨by simp [Act.put, m.nt, St.put], fun t => ?_, m.dfr, m.ok, m.frame, m.mine, m.z, m.roots⟩
    rw [getD_put]
    show RV E w (if t = d ∧ d < S.nt then v else S.sl t) _
    rw [m.nt]
    by_cases hc : t = d ∧ d < S.nt
    · rw [if_pos hc, if_pos hc]; exact h
    · rw [if_neg hc, if_neg hc]; exact m.slots t
end Go.Ab
