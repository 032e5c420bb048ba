/- An abstract machine over the model: data, values, states, and how they lie in memory. The abstract machine: what the pure operations yield. The abstract machine: the pure operations evaluated. The abstract machine: all pure operations. The abstract machine: the pure operations evaluated, sound. The abstract machine: chains of operations, regions, code. The abstract machine: contracts, entering a function, calls. The abstract machine: own blocks that come and turn. The abstract machine: writes into own blocks. The abstract machine: new blocks, appends. -/
import Derived.Test.YtfdhaigfonolpaaRep
import Derived.Deep.MidRow
import Derived.MapKept
import Derived.Deep.Quiet
import Derived.OrdersIn
import Derived.TacticsIn
import Derived.RangeFuncLeaves
import Derived.RangeFuncRecord
import Derived.Test.YtfdhaigfonolpaaOwn
import Derived.Laws.OwnMore
import Derived.Laws.AppendOwnNone
import Derived.Laws.MakeOwn
section
namespace Go.Ab
open Go.RowKit
inductive MKey where
 | ik (n : Int)
 | sk (s : ByteArray)
 | bk (x : Bool)
def MKey.enc : MKey → Value
 | .ik n => .int .i64 n
 | .sk s => .string s
 | .bk x => .bool x
def MKey.desc : MKey → TypeDesc
 | .ik _ => .int .i64
 | .sk _ => .string
 | .bk _ => .bool
inductive D where
 | er (b : Bool)
 | lit (v : Value)
 | sl (es : List (List D))
 | pim (cs : List D)
 | ifc (t : TypeId) (x : D)
 | fn (f : Fn) (caps : List D)
 | mpi (kd : TypeDesc) (ag : Bool) (ks : List MKey) (vs : List (List D))
 deriving Inhabited
def plain : Value → Bool
 | .bool _ | .int _ _ | .float _ _ | .complex _ _ _ | .string _ | .pointer _ | .slice _ _ _ | .map none | .chan none | .nilFunc | .nilIface => true
 | .func _ a b => a.isEmpty && b.isEmpty
 | _ => false
mutual
def RD (w : World) (Z : Nat → Prop) : D → Value → Prop
 | .er b, x => if b = true then ∃ t v, x = .iface t v else x = .nilIface
 | .lit v, x => x = v ∧ plain v = true
 | .sl es, x => ∃ (A : Option Addr) (cap : Nat), x = .slice A es.length cap ∧ es.length ≤ cap ∧ cap ≤ maxLen ∧ (A = none → cap = 0) ∧
   (es ≠ [] → ∃ (b o n : Nat) (flat : List Value), A = some ⟨b, o, none⟩ ∧ Z b ∧ (∀ e ∈ es, e.length = n) ∧ RDe w Z es flat ∧ w.rangeAt b o flat)
 | .pim cs, x => ∃ (b o : Nat) (vs : List Value), x = .pointer (some ⟨b, o, none⟩) ∧ Z b ∧ RDs w Z cs vs ∧ w.rangeAt b o vs
 | .ifc t d, x => ∃ v, x = .iface t v ∧ RD w Z d v
 | .fn f caps, x => ∃ vs : List Value, x = .func f #[] vs.toArray ∧ RDs w Z caps vs
 | .mpi kd ag ks vs, x => (x = .map none ∧ ks = [] ∧ vs = []) ∨ ∃ (b : Nat) (es : Array MapEntry) (clock : Nat), x = .map (some b) ∧ Z b ∧ w.heap[b]? = some (.map es clock) ∧ Go.MapKept.Stamped es clock ∧ (∀ k ∈ ks, k.desc = kd) ∧
   ∃ es' : List MapEntry, es'.Perm es.toList ∧ es'.map (·.key) = ks.map MKey.enc ∧ RDx w Z ag vs (es'.map (·.val))
def RDs (w : World) (Z : Nat → Prop) : List D → List Value → Prop
 | [], vs => vs = []
 | d :: ds, vs => ∃ v r, vs = v :: r ∧ RD w Z d v ∧ RDs w Z ds r
def RDe (w : World) (Z : Nat → Prop) : List (List D) → List Value → Prop
 | [], vs => vs = []
 | e :: es, vs => ∃ a r, vs = a ++ r ∧ RDs w Z e a ∧ RDe w Z es r
def RDx (w : World) (Z : Nat → Prop) (ag : Bool) : List (List D) → List Value → Prop
 | [], vs => vs = []
 | e :: es, vs => ∃ v cs r, vs = v :: r ∧ RDs w Z e cs ∧ (if ag = true then v = .agg cs.toArray else cs = [v]) ∧ RDx w Z ag es r
end
def Keeps (Z : Nat → Prop) (w w' : World) : Prop := ∀ b, Z b → w'.heap[b]? = w.heap[b]?
theorem rangeAt_block {w w' : World} {b o : Nat} {vs : List Value} (h : w.rangeAt b o vs) (hb : w'.heap[b]? = w.heap[b]?) : w'.rangeAt b o vs := fun j v hv => by
 rw [World.cell?_of_block (w := w) (by exact hb)]; exact h j v hv
mutual
theorem RD.keep {w w' : World} {Z Z' : Nat → Prop} (hk : Keeps Z w w') (hz : ∀ b, Z b → Z' b) : ∀ (d : D) (x : Value), RD w Z d x → RD w' Z' d x
 | .er _, _, h => h
 | .lit v, x, h => h
 | .sl es, x, ⟨A, cap, h1, h2, h3, h4, h5⟩ => ⟨A, cap, h1, h2, h3, h4, fun hne => by
   obtain ⟨b, o, n, flat, e1, e2, e3, e4, e5⟩ := h5 hne
   exact ⟨b, o, n, flat, e1, hz _ e2, e3, RDe.keep hk hz es flat e4, rangeAt_block e5 (hk _ e2)⟩⟩
 | .pim cs, x, ⟨b, o, vs, h1, h2, h3, h4⟩ => ⟨b, o, vs, h1, hz _ h2, RDs.keep hk hz cs vs h3, rangeAt_block h4 (hk _ h2)⟩
 | .ifc t d, x, ⟨v, h1, h2⟩ => ⟨v, h1, RD.keep hk hz d v h2⟩
 | .fn f caps, x, ⟨vs, h1, h2⟩ => ⟨vs, h1, RDs.keep hk hz caps vs h2⟩
 | .mpi _kd ag _ks vs, _x, h => h.imp (fun h => h) fun ⟨b, es, clock, h1, h2, h3, h4, h5, es', hp, h6, h7⟩ => ⟨b, es, clock, h1, hz _ h2, (hk _ h2).trans h3, h4, h5, es', hp, h6, RDx.keep hk hz ag vs _ h7⟩
theorem RDs.keep {w w' : World} {Z Z' : Nat → Prop} (hk : Keeps Z w w') (hz : ∀ b, Z b → Z' b) : ∀ (ds : List D) (vs : List Value), RDs w Z ds vs → RDs w' Z' ds vs
 | [], _vs, h => h
 | d :: ds, _vs, ⟨v, r, h1, h2, h3⟩ => ⟨v, r, h1, RD.keep hk hz d v h2, RDs.keep hk hz ds r h3⟩
theorem RDe.keep {w w' : World} {Z Z' : Nat → Prop} (hk : Keeps Z w w') (hz : ∀ b, Z b → Z' b) : ∀ (es : List (List D)) (vs : List Value), RDe w Z es vs → RDe w' Z' es vs
 | [], _vs, h => h
 | e :: es, _vs, ⟨a, r, h1, h2, h3⟩ => ⟨a, r, h1, RDs.keep hk hz e a h2, RDe.keep hk hz es r h3⟩
theorem RDx.keep {w w' : World} {Z Z' : Nat → Prop} (hk : Keeps Z w w') (hz : ∀ b, Z b → Z' b) (ag : Bool) : ∀ (es : List (List D)) (vs : List Value), RDx w Z ag es vs → RDx w' Z' ag es vs
 | [], _vs, h => h
 | e :: es, _vs, ⟨v, cs, r, h1, h2, h3, h4⟩ => ⟨v, cs, r, h1, RDs.keep hk hz e cs h2, h3, RDx.keep hk hz ag es r h4⟩
end
structure Loc where
 b : Nat
 o : Nat
 n : Nat
 cap : Nat
 nil : Bool
 xs : Nat → Prop
 deriving Inhabited
def Loc.own (ℓ : Loc) (b : Nat) : Prop := (ℓ.nil = false ∧ ℓ.b = b) ∨ ℓ.xs b
theorem Loc.here {ℓ : Loc} (h : ℓ.nil = false) : ℓ.own ℓ.b := .inl ⟨h, rfl⟩
inductive V where
 | d (x : D)
 | ref (id off len : Nat)
 | ptr (id i off : Nat)
 | mref (id : Nat)
 | agg (cs : List V)
 | tup (cs : List V)
 | fn (f : Fn) (caps : List V)
 | dx (es : List (List D))
 | hole
 | junk
 deriving Inhabited
inductive Blk where
 | arr (T : TypeId) (n : Nat) (es : List (List D))
 | box (cs : List V)
 | mp (kd : TypeDesc) (l : List (MKey × V))
 | nest (T : TypeId) (n : Nat) (sh : List (Option (TypeId × Nat))) (es : List (List D)) (fo : List (Nat × List V))
 | hid (p : (Nat → Prop) → Loc → World → Prop)
structure Env where
 loc : Nat → Loc
 Z : Nat → Prop
def V.cell : V → Bool
 | .d _ | .ref .. | .ptr .. | .mref _ | .fn .. | .hole => true
 | _ => false
def fnVal : Fn → List Value → Value
 | .methodOf t _, vs => .iface t (vs.headD .nilIface)
 | f, vs => .func f #[] vs.toArray
@[simp] theorem fnVal_func (g : FuncId) (vs : List Value) : fnVal (.func g) vs = .func (.func g) #[] vs.toArray := rfl
mutual
def RV (E : Env) (w : World) : V → Value → Prop
 | .d x, v => RD w E.Z x v
 | .ref id off len, v => ((E.loc id).nil = true ∧ off = 0 ∧ len = 0 ∧ v = .slice none 0 0) ∨
   ((E.loc id).nil = false ∧ off + len ≤ (E.loc id).cap ∧ ∃ a, v = .slice (some ⟨(E.loc id).b, a, none⟩) len ((E.loc id).cap - off) ∧ (off = 0 ∨ off < (E.loc id).cap → a = (E.loc id).o + off * (E.loc id).n))
 | .ptr id i off, v => (E.loc id).nil = false ∧ v = .pointer (some ⟨(E.loc id).b, (E.loc id).o + i * (E.loc id).n + off, none⟩)
 | .mref id, v => v = .map (some (E.loc id).b)
 | .agg cs, v => ∃ vs : List Value, v = .agg vs.toArray ∧ (∀ c ∈ cs, c.cell = true) ∧ RVs E w cs vs
 | .tup cs, v => ∃ vs : List Value, v = .tuple vs.toArray ∧ RVs E w cs vs
 | .fn f caps, v => ∃ vs : List Value, v = fnVal f vs ∧ RVs E w caps vs
 | .dx es, v => RD w E.Z (.sl es) v ∧ ∃ A, v = .slice A es.length es.length
 | .hole, v => v.oneCell' = true
 | .junk, _ => True
def RVs (E : Env) (w : World) : List V → List Value → Prop
 | [], vs => vs = []
 | c :: cs, vs => ∃ v r, vs = v :: r ∧ RV E w c v ∧ RVs E w cs r
end
mutual
def V.closed : V → Bool
 | .ref .. | .ptr .. | .mref _ => false
 | .agg cs => closedL cs
 | .tup cs => closedL cs
 | .fn _ cs => closedL cs
 | .d _ | .dx _ => true
 | .hole => false
 | .junk => false
def closedL : List V → Bool
 | [] => true
 | c :: cs => c.closed && closedL cs
end
def REs (E : Env) (w : World) : List (MKey × V) → List MapEntry → Prop
 | [], es => es = []
 | (k, v) :: l, es => ∃ e r, es = e :: r ∧ e.key = k.enc ∧ RV E w v e.val ∧ v.closed = true ∧ REs E w l r
theorem REs_permL {E : Env} {w : World} {l' l : List (MKey × V)} (hp : l'.Perm l) : ∀ {es : List MapEntry}, REs E w l' es → ∃ es', es'.Perm es ∧ REs E w l es' := by
 induction hp with
 | nil => exact fun {es} h => ⟨es, .refl _, h⟩
 | cons p _ ih =>
  rintro es ⟨e, r, rfl, h1, h2, h3, h4⟩
  obtain ⟨es', hl, h5⟩ := ih h4
  exact ⟨e :: es', .cons _ hl, _, _, rfl, h1, h2, h3, h5⟩
 | swap a b r =>
  rintro es ⟨e, r, rfl, h1, h2, h3, e2, r2, rfl, g1, g2, g3, g4⟩
  exact ⟨e2 :: e :: r2, .swap _ _ _, _, _, rfl, g1, g2, g3, _, _, rfl, h1, h2, h3, g4⟩
 | trans _ _ ih1 ih2 =>
  intro es h
  obtain ⟨l1, p1, h1⟩ := ih1 h
  obtain ⟨l2, p2, h2⟩ := ih2 h1
  exact ⟨l2, p2.trans p1, h2⟩
def HArr (ℓ : Loc) (Z : Nat → Prop) (w : World) (T n : Nat) (es : List (List D)) : Prop :=
 ℓ.n = n ∧ ℓ.o = 0 ∧ (∀ e ∈ es, e.length = n) ∧ 0 < n ∧
   ((ℓ.nil = true ∧ es = []) ∨ (ℓ.nil = false ∧ ∃ c flat, w.heap[ℓ.b]? = some (.cells c T (0, 0)) ∧ es.length ≤ ℓ.cap ∧ ℓ.cap ≤ maxLen ∧
    c.size = ℓ.cap * n ∧ RDe w Z es flat ∧ c.toList.take (es.length * n) = flat))
def NCell (ℓ : Loc) (Z : Nat → Prop) (w : World) (T n : Nat) (es : List (List D)) (v : Value) : Prop :=
 RV ⟨fun _ => ℓ, Z⟩ w (.ref 0 0 es.length) v ∧ HArr ℓ Z w T n es
def RNs (w : World) (Z : Nat → Prop) : List (Option (TypeId × Nat)) → List D → List Value → List Loc → Prop
 | [], ds, vs, ls => ds = [] ∧ vs = [] ∧ ls = []
 | none :: sh, ds, vs, ls => ∃ d ds' v r, ds = d :: ds' ∧ vs = v :: r ∧ RD w Z d v ∧ RNs w Z sh ds' r ls
 | some (T, n) :: sh, ds, vs, ls => ∃ es ds' v r ℓ ls', ds = .sl es :: ds' ∧ vs = v :: r ∧ ls = ℓ :: ls' ∧ NCell ℓ Z w T n es v ∧ RNs w Z sh ds' r ls'
def flook : List (Nat × List V) → Nat → Option (List V)
 | [], _ => none
 | (k, cs) :: fo, i => if i = k then some cs else flook fo i
def RNe (E : Env) (w : World) (sh : List (Option (TypeId × Nat))) (fo : List (Nat × List V)) : Nat → List (List D) → List Value → List Loc → Prop
 | _, [], vs, ls => vs = [] ∧ ls = []
 | k, e :: es, vs, ls => ∃ a r la lr, vs = a ++ r ∧ ls = la ++ lr ∧ (match flook fo k with
   | none => RNs w E.Z sh e a la
   | some cs => la = [] ∧ cs.length = e.length ∧ (∀ c ∈ cs, c.cell = true) ∧ RVs E w cs a) ∧ RNe E w sh fo (k + 1) es r lr
def blks (ls : List Loc) : List Nat := ls.filterMap fun ℓ => if ℓ.nil = true then none else some ℓ.b
def NDis (ℓ0 : Loc) (ls : List Loc) : Prop := (blks ls).Nodup ∧ ∀ b ∈ blks ls, ℓ0.xs b ∧ (ℓ0.nil = false → ℓ0.b ≠ b)
def Stab (p : (Nat → Prop) → Loc → World → Prop) : Prop := ∀ (Z Z' : Nat → Prop) (ℓ : Loc) (w w' : World), Keeps Z w w' → (∀ b, Z b → Z' b) → (∀ b, ℓ.own b → w'.heap[b]? = w.heap[b]?) → w.heap.size ≤ w'.heap.size → p Z ℓ w → p Z' ℓ w'
def Hold (E : Env) (w : World) (id : Nat) : Blk → Prop
 | .hid p => (E.loc id).nil = false ∧ (E.loc id).b < w.heap.size ∧ Stab p ∧ p E.Z (E.loc id) w
 | .nest T n sh es fo => (E.loc id).n = n ∧ (E.loc id).o = 0 ∧ (∀ e ∈ es, e.length = n) ∧ 0 < n ∧ sh.length = n ∧ (∀ p ∈ fo, p.1 < es.length) ∧
   (((E.loc id).nil = true ∧ es = []) ∨ ((E.loc id).nil = false ∧ ∃ c flat ls, w.heap[(E.loc id).b]? = some (.cells c T (0, 0)) ∧ es.length ≤ (E.loc id).cap ∧ (E.loc id).cap ≤ maxLen ∧
    c.size = (E.loc id).cap * n ∧ RNe E w sh fo 0 es flat ls ∧ c.toList.take (es.length * n) = flat ∧ NDis (E.loc id) ls))
 | .mp kd l => (E.loc id).nil = false ∧ (∀ p ∈ l, p.1.desc = kd) ∧ ∃ es clock, w.heap[(E.loc id).b]? = some (.map es clock) ∧ Go.MapKept.Stamped es clock ∧ ∃ l' : List (MKey × V), l'.Perm l ∧ REs E w l' es.toList
 | .arr T n es => (E.loc id).n = n ∧ (E.loc id).o = 0 ∧ (∀ e ∈ es, e.length = n) ∧ 0 < n ∧
   (((E.loc id).nil = true ∧ es = []) ∨ ((E.loc id).nil = false ∧ ∃ c flat, w.heap[(E.loc id).b]? = some (.cells c T (0, 0)) ∧ es.length ≤ (E.loc id).cap ∧ (E.loc id).cap ≤ maxLen ∧
    c.size = (E.loc id).cap * n ∧ RDe w E.Z es flat ∧ c.toList.take (es.length * n) = flat))
 | .box cs => (E.loc id).nil = false ∧ (∀ c ∈ cs, c.cell = true) ∧ ∃ vs, RVs E w cs vs ∧ w.rangeAt (E.loc id).b (E.loc id).o vs ∧
   (∀ j, j < vs.length → w.frozen? ⟨(E.loc id).b, (E.loc id).o + j, none⟩ = false) ∧ (E.loc id).b < w.heap.size
abbrev Heap := Nat → Option Blk
/- G -/
def gN : Nat := 0
def gcond (_ : World) : Prop := True
theorem gcond_keep {w w' : World} (_ : gcond w) (_ : ∀ b, b < gN → w'.heap[b]? = w.heap[b]?) : gcond w' := trivial
/- /G -/
structure GW (w : World) : Prop where
 c : gcond w
 lt : gN ≤ w.heap.size
theorem GW.keep {w w' : World} (h : GW w) (hk : ∀ b, b < gN → w'.heap[b]? = w.heap[b]?) (hs : w.heap.size ≤ w'.heap.size) : GW w' := ⟨gcond_keep h.c hk, Nat.le_trans h.lt hs⟩
def lof (E : Env) (H : Heap) (b : Nat) : Prop := ∃ i, H i ≠ none ∧ (E.loc i).own b
structure GO (E : Env) (H : Heap) (w : World) : Prop where
 gw : GW w
 own : ∀ b, lof E H b → gN ≤ b
theorem GW.go0 {w : World} (h : GW w) (E : Env) {H : Heap} (hH : ∀ i, H i = none) : GO E H w := ⟨h, fun _ ⟨i, hi, _⟩ => absurd (hH i) hi⟩
structure Env.ok (E : Env) (H : Heap) (w : World) : Prop where
 hold : ∀ id k, H id = some k → Hold E w id k
 inj : ∀ i j, H i ≠ none → H j ≠ none → i ≠ j → ∀ b, (E.loc i).own b → ¬ (E.loc j).own b
 apart : ∀ i, H i ≠ none → ∀ b, (E.loc i).own b → ¬ E.Z b
 zlt : ∀ b, E.Z b → b < w.heap.size
 xlt : ∀ i, H i ≠ none → ∀ b, (E.loc i).xs b → b < w.heap.size
theorem Env.ok.inj1 {E : Env} {H : Heap} {w : World} (ok : E.ok H w) (i j : Nat) (hi : H i ≠ none) (hj : H j ≠ none) (ni : (E.loc i).nil = false) (nj : (E.loc j).nil = false) (hij : i ≠ j) : (E.loc i).b ≠ (E.loc j).b :=
 fun e => ok.inj i j hi hj hij _ (Loc.here ni) (e ▸ Loc.here nj)
theorem Env.ok.apart1 {E : Env} {H : Heap} {w : World} (ok : E.ok H w) (i : Nat) (hi : H i ≠ none) (ni : (E.loc i).nil = false) : ¬ E.Z (E.loc i).b := ok.apart i hi _ (Loc.here ni)
structure St where
 nt : Nat
 rts : List Nat
 sl : Nat → V
 hp : Heap
structure Fx where
 w0 : World
 Z0 : Nat → Prop
 L : Nat → Prop
 roots : List (Nat × Loc)
 dfr : List Deferred
 ro : Option Nat
 lrec : ∀ l, ro = some l → l < w0.heap.size ∧ ¬ L l ∧ ¬ Z0 l ∧ ∃ r, w0.heap[l]? = some (.loop r)
 gw : GW w0
 gl : ∀ b, L b → gN ≤ b
structure Fx.frame (fx : Fx) (w : World) : Prop where
 os : w.os = fx.w0.os
 tape : w.tape = fx.w0.tape
 output : w.output = fx.w0.output
 size : fx.w0.heap.size ≤ w.heap.size
 block : ∀ b, b < fx.w0.heap.size → ¬ fx.L b → w.heap[b]? = fx.w0.heap[b]?
structure Mod (fx : Fx) (S : St) (E : Env) (a : Act) (w : World) : Prop where
 nt : a.tmps.size = S.nt
 slots : ∀ t, RV E w (S.sl t) (a.tmps.getD t undef)
 dfr : a.defers = fx.dfr
 ok : E.ok S.hp w
 frame : fx.frame w
 mine : ∀ i, S.hp i ≠ none → ∀ b, (E.loc i).own b → fx.w0.heap.size ≤ b ∨ fx.L b
 z : ∀ b, E.Z b → fx.Z0 b ∨ fx.w0.heap.size ≤ b ∨ fx.L b
 roots : ∀ r ∈ fx.roots, r.1 ∈ S.rts ∧ E.loc r.1 = r.2
theorem Mod.mine1 {fx : Fx} {S : St} {E : Env} {a : Act} {w : World} (m : Mod fx S E a w) (i : Nat) (hi : S.hp i ≠ none) (ni : (E.loc i).nil = false) : fx.w0.heap.size ≤ (E.loc i).b ∨ fx.L (E.loc i).b := m.mine i hi _ (Loc.here ni)
theorem Mod.go {fx : Fx} {S : St} {E : Env} {a : Act} {w : World} (m : Mod fx S E a w) : GO E S.hp w where
 gw := fx.gw.keep (fun b hb => m.frame.block b (Nat.lt_of_lt_of_le hb fx.gw.lt) (fun h => Nat.lt_irrefl _ (Nat.lt_of_lt_of_le hb (fx.gl b h)))) m.frame.size
 own := fun b ⟨i, hi, hn⟩ => by
  rcases m.mine i hi b hn with h | h
  ·exact Nat.le_trans fx.gw.lt h
  ·exact fx.gl _ h
def Models (fx : Fx) (S : St) (a : Act) (w : World) : Prop := ∃ E, Mod fx S E a w
mutual
theorem RV.keep {E E' : Env} {w w' : World} (hk : Keeps E.Z w w') (hz : ∀ b, E.Z b → E'.Z b) (hl : E'.loc = E.loc) : ∀ (c : V) (x : Value), RV E w c x → RV E' w' c x
 | .d x, v, h => RD.keep hk hz x v h
 | .ref id off len, v, h => by
  unfold RV at h ⊢
  rw [hl]; exact h
 | .ptr id i off, v, h => by
  unfold RV at h ⊢
  rw [hl]; exact h
 | .mref id, v, h => by
  unfold RV at h ⊢
  rw [hl]; exact h
 | .agg cs, v, ⟨vs, h1, h2, h3⟩ => ⟨vs, h1, h2, RVs.keep hk hz hl cs vs h3⟩
 | .tup cs, v, ⟨vs, h1, h2⟩ => ⟨vs, h1, RVs.keep hk hz hl cs vs h2⟩
 | .fn f cs, v, ⟨vs, h1, h2⟩ => ⟨vs, h1, RVs.keep hk hz hl cs vs h2⟩
 | .dx es, v, ⟨h1, h2⟩ => ⟨RD.keep hk hz (.sl es) v h1, h2⟩
 | .hole, _, h => h
 | .junk, _, _ => trivial
theorem RVs.keep {E E' : Env} {w w' : World} (hk : Keeps E.Z w w') (hz : ∀ b, E.Z b → E'.Z b) (hl : E'.loc = E.loc) : ∀ (cs : List V) (vs : List Value), RVs E w cs vs → RVs E' w' cs vs
 | [], _vs, h => h
 | c :: cs, _vs, ⟨v, r, h1, h2, h3⟩ => ⟨v, r, h1, RV.keep hk hz hl c v h2, RVs.keep hk hz hl cs r h3⟩
end
theorem REs.keep {E E' : Env} {w w' : World} (hk : Keeps E.Z w w') (hz : ∀ b, E.Z b → E'.Z b) (hl : E'.loc = E.loc) : ∀ (l : List (MKey × V)) (es : List MapEntry), REs E w l es → REs E' w' l es
 | [], _es, h => h
 | (_k, v) :: l, _es, ⟨e, r, h1, h2, h3, h4, h5⟩ => ⟨e, r, h1, h2, RV.keep hk hz hl v _ h3, h4, REs.keep hk hz hl l r h5⟩
abbrev Grow (w w' : World) : Prop := Below w.heap.size w w'
theorem Grow.keeps {w w' : World} (h : Grow w w') {E : Env} {H : Heap} (ok : E.ok H w) : Keeps E.Z w w' := fun b hb => h.block b (ok.zlt b hb)
theorem RNs.keep {w w' : World} {Z Z' : Nat → Prop} (hk : Keeps Z w w') (hz : ∀ b, Z b → Z' b) : ∀ (sh : List (Option (TypeId × Nat))) (ds : List D) (vs : List Value) (ls : List Loc), (∀ b ∈ blks ls, w'.heap[b]? = w.heap[b]?) → RNs w Z sh ds vs ls → RNs w' Z' sh ds vs ls
 | [], _, _, _, _, h => h
 | none :: sh, _, _, ls, hb, ⟨d, ds', v, r, h1, h2, h3, h4⟩ => ⟨d, ds', v, r, h1, h2, RD.keep hk hz d v h3, RNs.keep hk hz sh ds' r ls hb h4⟩
 | some (T, n) :: sh, _, _, _, hb, ⟨es, ds', v, r, ℓ, ls', h1, h2, h3, ⟨h4, h5⟩, h6⟩ => by
  subst h3
  refine ⟨es, ds', v, r, ℓ, ls', h1, h2, rfl, ⟨?_, ?_⟩, RNs.keep hk hz sh ds' r ls' (fun b h => hb b ?_) h6⟩
  ·unfold RV at h4 ⊢; exact h4
  ·obtain ⟨k1, k2, k3, k4, k5⟩ := h5
   refine ⟨k1, k2, k3, k4, k5.imp (fun h => h) ?_⟩
   rintro ⟨hn, c, flat, q1, q2, q3, q4, q5, q6⟩
   exact ⟨hn, c, flat, (hb _ (by simp [blks, hn])).trans q1, q2, q3, q4, RDe.keep hk hz es flat q5, q6⟩
  ·unfold blks at h ⊢
   rw [List.filterMap_cons]
   split
   ·exact h
   ·exact List.mem_cons_of_mem _ h
theorem blks_append (a b : List Loc) : blks (a ++ b) = blks a ++ blks b := by simp [blks]
theorem RNe.keep {E E' : Env} {w w' : World} (hk : Keeps E.Z w w') (hz : ∀ b, E.Z b → E'.Z b) (hl : E'.loc = E.loc) {sh : List (Option (TypeId × Nat))} {fo : List (Nat × List V)} : ∀ (k : Nat) (es : List (List D)) (vs : List Value) (ls : List Loc), (∀ b ∈ blks ls, w'.heap[b]? = w.heap[b]?) → RNe E w sh fo k es vs ls → RNe E' w' sh fo k es vs ls
 | _, [], _, _, _, h => h
 | k, e :: es, _, _, hb, ⟨a, r, la, lr, h1, h2, h3, h4⟩ => by
  subst h2
  rw [blks_append] at hb
  refine ⟨a, r, la, lr, h1, rfl, ?_, RNe.keep hk hz hl (k + 1) es r lr (fun b h => hb b (List.mem_append_right _ h)) h4⟩
  split at h3
  ·exact RNs.keep hk hz sh e a la (fun b h => hb b (List.mem_append_left _ h)) h3
  ·exact ⟨h3.1, h3.2.1, h3.2.2.1, RVs.keep hk hz hl _ _ h3.2.2.2⟩
theorem Hold.block_lt {E : Env} {w : World} {id : Nat} {k : Blk} (h : Hold E w id k) (hn : (E.loc id).nil = false) : (E.loc id).b < w.heap.size := by
 cases k with
 | arr T n es =>
  obtain ⟨_, _, _, _, h5⟩ := h
  rcases h5 with ⟨h6, _⟩ | ⟨_, c, flat, h7, _⟩
  ·rw [hn] at h6; cases h6
  ·exact (Array.getElem?_eq_some_iff.1 h7).1
 | nest T n sh es fo =>
  obtain ⟨_, _, _, _, _, _, h5⟩ := h
  rcases h5 with ⟨h6, _⟩ | ⟨_, c, flat, ls, h7, _⟩
  ·rw [hn] at h6; cases h6
  ·exact (Array.getElem?_eq_some_iff.1 h7).1
 | box cs =>
  obtain ⟨_, _, _, _, _, _, h⟩ := h
  exact h
 | mp kd l =>
  obtain ⟨_, _, es, clock, h, _⟩ := h
  exact (Array.getElem?_eq_some_iff.1 h).1
 | hid p => exact h.2.1
theorem Env.ok.own_lt {E : Env} {H : Heap} {w : World} (ok : E.ok H w) {i : Nat} (hi : H i ≠ none) {b : Nat} (hb : (E.loc i).own b) : b < w.heap.size := by
 rcases hb with ⟨hn, rfl⟩ | hb
 ·cases hk : H i with
  | none => exact absurd hk hi
  | some k => exact (ok.hold i k hk).block_lt hn
 ·exact ok.xlt i hi b hb
theorem Env.ok.lof_lt {E : Env} {H : Heap} {w : World} (ok : E.ok H w) {b : Nat} (h : lof E H b) : b < w.heap.size := by
 obtain ⟨i, hi, hb⟩ := h
 exact ok.own_lt hi hb
theorem Hold.keep {E E' : Env} {w w' : World} {id : Nat} {k : Blk} (h : Hold E w id k) (hk : Keeps E.Z w w') (hz : ∀ b, E.Z b → E'.Z b) (hl : E'.loc = E.loc) (hb : ∀ b, (E.loc id).own b → w'.heap[b]? = w.heap[b]?) (hsz : w.heap.size ≤ w'.heap.size) : Hold E' w' id k := by
 cases k with
 | arr T n es =>
  obtain ⟨h1, h2, h3, h4, h5⟩ := h
  unfold Hold
  rw [hl]
  refine ⟨h1, h2, h3, h4, ?_⟩
  rcases h5 with h6 | ⟨hn, c, flat, h7, h8, h9, h10, h11, h12⟩
  ·exact .inl h6
  ·exact .inr ⟨hn, c, flat, (hb _ (Loc.here hn)).trans h7, h8, h9, h10, RDe.keep hk hz es flat h11, h12⟩
 | nest T n sh es fo =>
  obtain ⟨h1, h2, h3, h4, hs, hfo, h5⟩ := h
  unfold Hold
  rw [hl]
  refine ⟨h1, h2, h3, h4, hs, hfo, ?_⟩
  rcases h5 with h6 | ⟨hn, c, flat, ls, h7, h8, h9, h10, h11, h12, h13⟩
  ·exact .inl h6
  ·exact .inr ⟨hn, c, flat, ls, (hb _ (Loc.here hn)).trans h7, h8, h9, h10, RNe.keep hk hz hl _ _ _ _ (fun b h => hb b (.inr (h13.2 b h).1)) h11, h12, h13⟩
 | box cs =>
  obtain ⟨hn, h1, vs, h2, h3, h4, h5⟩ := h
  unfold Hold
  rw [hl]
  refine ⟨hn, h1, vs, RVs.keep hk hz hl cs vs h2, rangeAt_block h3 (hb _ (Loc.here hn)), fun j hj => ?_, by omega⟩
  rw [World.frozen?_of_block (w := w) (by exact hb _ (Loc.here hn))]
  exact h4 j hj
 | mp kd l =>
  obtain ⟨hn, h1, es, clock, h2, h3, l', hp, h4⟩ := h
  unfold Hold
  rw [hl]
  exact ⟨hn, h1, es, clock, (hb _ (Loc.here hn)).trans h2, h3, l', hp, REs.keep hk hz hl l' _ h4⟩
 | hid p =>
  obtain ⟨h1, h2, h3, h4⟩ := h
  unfold Hold
  rw [hl]
  exact ⟨h1, by omega, h3, h3 _ _ _ _ _ hk hz hb hsz h4⟩
theorem Env.ok.grow {E : Env} {H : Heap} {w w' : World} (ok : E.ok H w) (h : Grow w w') : E.ok H w' where
 hold id k hk := (ok.hold id k hk).keep (h.keeps ok) (fun _ h => h) rfl (fun b hb => h.block _ (ok.own_lt (by rw [hk]; simp) hb)) h.size
 inj := ok.inj
 apart := ok.apart
 zlt b hb := Nat.lt_of_lt_of_le (ok.zlt b hb) h.size
 xlt i hi b hb := Nat.lt_of_lt_of_le (ok.xlt i hi b hb) h.size
theorem Fx.frame.grow {fx : Fx} {w w' : World} (f : fx.frame w) (h : Grow w w') : fx.frame w' where
 os := h.os.trans f.os
 tape := h.tape.trans f.tape
 output := h.output.trans f.output
 size := Nat.le_trans f.size h.size
 block b hb hl := (h.block b (Nat.lt_of_lt_of_le hb f.size)).trans (f.block b hb hl)
theorem Mod.grow {fx : Fx} {S : St} {E : Env} {a : Act} {w w' : World} (m : Mod fx S E a w) (h : Grow w w') : Mod fx S E a w' where
 nt := m.nt
 slots t := RV.keep (h.keeps m.ok) (fun _ h => h) rfl _ _ (m.slots t)
 dfr := m.dfr
 ok := m.ok.grow h
 frame := m.frame.grow h
 mine := m.mine
 z := m.z
 roots := m.roots
def St.put (S : St) (t : Option Tmp) (v : V) : St :=
 match t with
 | some d => { S with sl := fun i => if i = d ∧ d < S.nt then v else S.sl i }
 | none => S
theorem getD_put (a : Act) (d : Tmp) (x : Value) (t : Nat) : (a.put (some d) x).tmps.getD t undef = if t = d ∧ d < a.tmps.size then x else a.tmps.getD t undef := by
 simp only [Act.put, Array.getD_eq_getD_getElem?, Array.getElem?_setIfInBounds]
 by_cases h : d = t
 ·subst h
  by_cases h2 : d < a.tmps.size
  ·simp [h2]
  ·simp [h2]
 ·have : ¬ t = d := fun e => h e.symm
  simp [h, this]
theorem Mod.put {fx : Fx} {S : St} {E : Env} {a : Act} {w : World} (m : Mod fx S E a w) (t : Option Tmp) {v : V} {x : Value} (h : RV E w v x) : Mod fx (S.put t v) E (a.put t x) w := by
 cases t with
 | none => exact m
 | some d =>
  refine ⟨by simp [Act.put, m.nt, St.put], fun t => ?_, m.dfr, m.ok, m.frame, m.mine, m.z, m.roots⟩
  rw [getD_put]
  show RV E w (if t = d ∧ d < S.nt then v else S.sl t) _
  rw [m.nt]
  by_cases hc : t = d ∧ d < S.nt
  ·rw [if_pos hc, if_pos hc]; exact h
  ·rw [if_neg hc, if_neg hc]; exact m.slots t
end Go.Ab
end
section
namespace Go.Ab
open Go.RowKit
def litV (v : Value) : V :=
 if plain v then .d (.lit v) else
 match v with
 | .agg cs => if cs.toList.all plain then .agg (cs.toList.map fun c => .d (.lit c)) else .junk
 | _ => .junk
theorem RVs_lits {E : Env} {w : World} : ∀ {cs : List Value}, cs.all plain = true → RVs E w (cs.map fun c => V.d (.lit c)) cs
 | [], _ => rfl
 | c :: cs, h => by
  rw [List.all_cons, Bool.and_eq_true] at h
  exact ⟨c, cs, rfl, ⟨rfl, h.1⟩, RVs_lits h.2⟩
theorem litV_sound (E : Env) (w : World) (v : Value) : RV E w (litV v) v := by
 unfold litV
 split
 ·rename_i h; exact ⟨rfl, h⟩
 ·split
  ·rename_i cs _
   split
   ·rename_i h
    refine ⟨cs.toList, by simp, fun c hc => ?_, RVs_lits h⟩
    obtain ⟨x, _, rfl⟩ := List.mem_map.1 hc
    rfl
   ·trivial
  ·trivial
def St.ev (S : St) : Operand → V
 | .tmp t => S.sl t
 | .const v => litV v
 | .func f => .d (.lit (.func (.func f) #[] #[]))
 | .global _ => .junk
theorem Mod.ev {fx : Fx} {S : St} {E : Env} {a : Act} {w : World} (m : Mod fx S E a w) (x : Operand) : RV E w (S.ev x) (a.eval x) := by
 cases x with
 | tmp t => exact m.slots t
 | const v => exact litV_sound E w v
 | global g => trivial
 | func f => exact ⟨rfl, rfl⟩
def Pure (P : Program) (o : Op) (S : St) (v : V) : Prop :=
 ∀ (E : Env) (w : World) (ρ : Operand → Value) (oo : Oper), oo.op = o → E.ok S.hp w → (∀ x, RV E w (S.ev x) (ρ x)) → ∃ x, RV E w v x ∧ ∀ w', Grow w w' → (execOp ρ oo).run P w' = .ok (.value x) w'
structure TI where
 desc : TypeDesc
 size : Nat
 bytes : Nat
 zero : Value
def tyOf (P : Program) (t : TypeId) : Option TI :=
 match P.info? t, P.underlying t with
 | some i, some d => match i.zero with
  | some z => some ⟨d, i.size, i.bytes, z⟩
  | none => none
 | _, _ => none
theorem tyOf_spec {P : Program} {t : TypeId} {ti : TI} (h : tyOf P t = some ti) : P.underlying t = some ti.desc ∧ ∃ i, P.info? t = some i ∧ i.size = ti.size ∧ i.bytes = ti.bytes ∧ i.zero = some ti.zero := by
 unfold tyOf at h
 split at h
 ·rename_i i d hi hd
  split at h
  ·rename_i z hz
   injection h with h
   subst h
   exact ⟨hd, i, hi, rfl, rfl, hz⟩
  ·cases h
 ·cases h
theorem run_sizeOf {P : Program} {t : TypeId} {ti : TI} (h : tyOf P t = some ti) (w : World) : (sizeOf t).run P w = .ok ti.size w := by
 obtain ⟨_, i, hi, hs, _⟩ := tyOf_spec h
 simp [sizeOf, typeInfo, hi, hs]
theorem run_und {P : Program} {t : TypeId} {ti : TI} (h : tyOf P t = some ti) (w : World) : (underlying t).run P w = .ok ti.desc w := run_underlying (tyOf_spec h).1 w
theorem run_zero {P : Program} {t : TypeId} {ti : TI} (h : tyOf P t = some ti) (w : World) : (zeroValue t).run P w = .ok ti.zero w := by
 obtain ⟨_, i, hi, _, _, hz⟩ := tyOf_spec h
 simp [zeroValue, typeInfo, hi, hz]
theorem RVs_length {E : Env} {w : World} : ∀ {cs : List V} {vs : List Value}, RVs E w cs vs → vs.length = cs.length
 | [], _, h => by
  have : _ = [] := h
  simp [this]
 | _ :: _, _, ⟨v, r, h, _, h2⟩ => by subst h; simp [RVs_length h2]
theorem RVs_get {E : Env} {w : World} : ∀ {cs : List V} {vs : List Value}, RVs E w cs vs → ∀ {i : Nat} {c : V}, cs[i]? = some c → ∃ v, vs[i]? = some v ∧ RV E w c v
 | [], _, _, i, c, hc => by simp at hc
 | _ :: _, _, ⟨v, r, h, h1, h2⟩, 0, c, hc => by subst h; simp at hc; subst hc; exact ⟨v, rfl, h1⟩
 | _ :: _, _, ⟨v, r, h, h1, h2⟩, i + 1, c, hc => by subst h; simpa using RVs_get h2 (by simpa using hc)
theorem RVs_drop {E : Env} {w : World} : ∀ {cs : List V} {vs : List Value} (k : Nat), RVs E w cs vs → RVs E w (cs.drop k) (vs.drop k)
 | [], _, k, h => by
  have : _ = [] := h
  subst this
  simp [RVs]
 | _ :: _, _, 0, h => h
 | _ :: _, _, k + 1, ⟨v, r, h, h1, h2⟩ => by subst h; exact RVs_drop k h2
theorem RVs_take {E : Env} {w : World} : ∀ {cs : List V} {vs : List Value} (k : Nat), RVs E w cs vs → RVs E w (cs.take k) (vs.take k)
 | [], _, k, h => by
  have : _ = [] := h
  subst this
  simp [RVs]
 | _ :: _, _, 0, h => by simp [RVs]
 | _ :: _, _, k + 1, ⟨v, r, h, h1, h2⟩ => by subst h; exact ⟨v, r.take k, rfl, h1, RVs_take k h2⟩
theorem RVs_append {E : Env} {w : World} : ∀ {cs ds : List V} {vs us : List Value}, RVs E w cs vs → RVs E w ds us → RVs E w (cs ++ ds) (vs ++ us)
 | [], _, _, _, h, h2 => by
  have : _ = [] := h
  subst this
  exact h2
 | _ :: _, _, _, _, ⟨v, r, h, h1, h2⟩, g => by subst h; exact ⟨v, r ++ _, rfl, h1, RVs_append h2 g⟩
theorem RVs_d {E : Env} {w : World} : ∀ {cs : List D} {vs : List Value}, RVs E w (cs.map V.d) vs ↔ RDs w E.Z cs vs
 | [], vs => Iff.rfl
 | c :: cs, vs => by
  constructor
  ·rintro ⟨v, r, h, h1, h2⟩; exact ⟨v, r, h, h1, RVs_d.1 h2⟩
  ·rintro ⟨v, r, h, h1, h2⟩; exact ⟨v, r, h, h1, RVs_d.2 h2⟩
theorem RDs_length {w : World} {Z : Nat → Prop} : ∀ {cs : List D} {vs : List Value}, RDs w Z cs vs → vs.length = cs.length
 | [], _, h => by
  have : _ = [] := h
  simp [this]
 | _ :: _, _, ⟨v, r, h, _, h2⟩ => by subst h; simp [RDs_length h2]
theorem RDs_drop {w : World} {Z : Nat → Prop} : ∀ {cs : List D} {vs : List Value} (k : Nat), RDs w Z cs vs → RDs w Z (cs.drop k) (vs.drop k)
 | [], _, k, h => by
  have : _ = [] := h
  subst this
  simp [RDs]
 | _ :: _, _, 0, h => h
 | _ :: _, _, k + 1, ⟨v, r, h, h1, h2⟩ => by subst h; exact RDs_drop k h2
theorem RDs_append {w : World} {Z : Nat → Prop} : ∀ {cs ds : List D} {vs us : List Value}, RDs w Z cs vs → RDs w Z ds us → RDs w Z (cs ++ ds) (vs ++ us)
 | [], _, _, _, h, h2 => by
  have : _ = [] := h
  subst this
  exact h2
 | _ :: _, _, _, _, ⟨v, r, h, h1, h2⟩, g => by subst h; exact ⟨v, r ++ _, rfl, h1, RDs_append h2 g⟩
theorem RDe_get {w : World} {Z : Nat → Prop} {n : Nat} : ∀ {es : List (List D)} {flat : List Value}, RDe w Z es flat → (∀ e ∈ es, e.length = n) → ∀ {i : Nat} {e : List D}, es[i]? = some e →
  ∃ c1 vs c2, flat = c1 ++ (vs ++ c2) ∧ c1.length = i * n ∧ RDs w Z e vs
 | [], _, _, _, i, e, he => by simp at he
 | _ :: _, _, ⟨a, r, h, h1, h2⟩, hn, 0, e, he => by
  simp only [List.getElem?_cons_zero, Option.some.injEq] at he
  subst he; subst h
  exact ⟨[], a, r, rfl, by simp, h1⟩
 | x :: es, _, ⟨a, r, h, h1, h2⟩, hn, i + 1, e, he => by
  subst h
  obtain ⟨c1, vs, c2, h3, h4, h5⟩ := RDe_get h2 (fun e he => hn e (.tail _ he)) (i := i) (e := e) (by simpa using he)
  refine ⟨a ++ c1, vs, c2, by rw [h3]; simp, ?_, h5⟩
  rw [List.length_append, h4, RDs_length h1, hn x (.head _), Nat.add_mul, Nat.one_mul, Nat.add_comm]
theorem RDe_length {w : World} {Z : Nat → Prop} {n : Nat} : ∀ {es : List (List D)} {flat : List Value}, RDe w Z es flat → (∀ e ∈ es, e.length = n) → flat.length = es.length * n
 | [], _, h, _ => by
  have : _ = [] := h
  simp [this]
 | x :: es, _, ⟨a, r, h, h1, h2⟩, hn => by
  subst h
  rw [List.length_append, RDs_length h1, hn x (.head _), RDe_length h2 (fun e he => hn e (.tail _ he)), List.length_cons, Nat.add_mul, Nat.one_mul, Nat.add_comm]
theorem RDe_append {w : World} {Z : Nat → Prop} : ∀ {es fs : List (List D)} {vs us : List Value}, RDe w Z es vs → RDe w Z fs us → RDe w Z (es ++ fs) (vs ++ us)
 | [], _, _, _, h, h2 => by
  have : _ = [] := h
  subst this
  exact h2
 | _ :: _, _, _, _, ⟨a, r, h, h1, h2⟩, g => by subst h; exact ⟨a, r ++ _, by simp, h1, RDe_append h2 g⟩
theorem RD_cell {w : World} {Z : Nat → Prop} {d : D} {v : Value} (h : RD w Z d v) : v.oneCell' = true := by
 cases d with
 | er b => cases b with | true => obtain ⟨_, _, rfl⟩ := h; rfl | false => have : _ = _ := h; rw [this]; rfl
 | lit u => obtain ⟨rfl, hp⟩ := h; cases v <;> first | rfl | (simp [plain] at hp)
 | sl es => obtain ⟨A, cap, rfl, _⟩ := h; rfl
 | pim cs => obtain ⟨b, o, vs, rfl, _⟩ := h; rfl
 | ifc t x => obtain ⟨v, rfl, _⟩ := h; rfl
 | fn f caps => obtain ⟨vs, rfl, _⟩ := h; rfl
 | mpi kd ag ks vs => rcases h with ⟨rfl, _⟩ | ⟨b, es, clock, rfl, _⟩ <;> rfl
theorem RV_cell {E : Env} {w : World} {c : V} {v : Value} (h : RV E w c v) (hc : c.cell = true) : v.oneCell' = true := by
 cases c with
 | d x => exact RD_cell h
 | ref id off len => rcases h with ⟨_, _, _, rfl⟩ | ⟨_, _, a, rfl, _⟩ <;> rfl
 | ptr id i off => obtain ⟨_, rfl⟩ := h; rfl
 | mref id => have : _ = _ := h; rw [this]; rfl
 | fn f caps => obtain ⟨vs, rfl, _⟩ := h; cases f <;> rfl
 | agg cs => cases hc
 | tup cs => cases hc
 | dx es => cases hc
 | hole => exact h
 | junk => cases hc
theorem RVs_cell {E : Env} {w : World} : ∀ {cs : List V} {vs : List Value}, RVs E w cs vs → (∀ c ∈ cs, c.cell = true) → ∀ v ∈ vs, v.oneCell' = true
 | [], _, h, _, v, hv => by
  have : _ = [] := h
  rw [this] at hv; cases hv
 | _ :: _, _, ⟨v, r, h, h1, h2⟩, hc, u, hu => by
  subst h
  rcases List.mem_cons.1 hu with rfl | hu
  ·exact RV_cell h1 (hc _ (.head _))
  ·exact RVs_cell h2 (fun c h => hc c (.tail _ h)) u hu
theorem rangeAt_mid {w : World} {b o : Nat} {c1 vs c2 : List Value} (h : w.rangeAt b o (c1 ++ (vs ++ c2))) : w.rangeAt b (o + c1.length) vs := fun j v hv => by
 have := h (c1.length + j) v (by rw [List.getElem?_append_right (by omega), Nat.add_sub_cancel_left, List.getElem?_append_left (List.getElem?_eq_some_iff.1 hv).1]; exact hv)
 rwa [← Nat.add_assoc] at this
theorem rangeAt_drop {w : World} {b o : Nat} {vs : List Value} (h : w.rangeAt b o vs) (k : Nat) : w.rangeAt b (o + k) (vs.drop k) := fun j v hv => by
 rw [List.getElem?_drop] at hv
 have := h _ v hv
 rwa [← Nat.add_assoc] at this
theorem rangeAt_take {w : World} {b o : Nat} {vs : List Value} (h : w.rangeAt b o vs) (k : Nat) : w.rangeAt b o (vs.take k) := fun j v hv => by
 rw [List.getElem?_take] at hv
 split at hv
 ·exact h j v hv
 ·cases hv
def cellsAt (H : Heap) : V → Option (List V)
 | .d (.pim cs) => some (cs.map .d)
 | .ptr id i off => match H id with
  | some (.box cs) => if i = 0 then some (cs.drop off) else none
  | some (.arr _ _ es) => match es[i]? with
   | some e => some ((e.drop off).map .d)
   | none => none
  | some (.nest _ _ _ _ fo) => match flook fo i with
   | some cs => some (cs.drop off)
   | none => none
  | _ => none
 | _ => none
theorem arr_range {w : World} {b T : Nat} {c : Array Value} {flat : List Value} (h : w.heap[b]? = some (.cells c T (0, 0))) (ht : ∃ k, c.toList.take k = flat) : w.rangeAt b 0 flat := by
 intro j v hv
 obtain ⟨k, rfl⟩ := ht
 rw [List.getElem?_take] at hv
 split at hv
 ·simp only [World.cell?, h, Nat.zero_add]
  simpa using hv
 ·cases hv
theorem flook_range {E : Env} {w : World} {sh : List (Option (TypeId × Nat))} {fo : List (Nat × List V)} {n i : Nat} {cs : List V} (hf : flook fo i = some cs) : ∀ (k : Nat) (es : List (List D)) (vs : List Value) (ls : List Loc), (∀ e ∈ es, e.length = n) → RNe E w sh fo k es vs ls → sh.length = n → k ≤ i → i < k + es.length →
  ∃ c1 a c2, vs = c1 ++ (a ++ c2) ∧ c1.length = (i - k) * n ∧ cs.length = n ∧ (∀ c ∈ cs, c.cell = true) ∧ RVs E w cs a
 | k, [], _, _, _, _, _, h1, h2 => by simp at h2; omega
 | k, e :: es, _, _, hn, ⟨a, r, la, lr, h1, h2, h3, h4⟩, hs, hk, hlt => by
  subst h1
  by_cases hik : i = k
  ·subst hik
   rw [hf] at h3
   exact ⟨[], a, r, rfl, by simp, h3.2.1.trans (hn e (.head _)), h3.2.2.1, h3.2.2.2⟩
  ·obtain ⟨c1, a', c2, g1, g2, g3⟩ := flook_range hf (k + 1) es r lr (fun e he => hn e (.tail _ he)) h4 hs (by omega) (by simp at hlt; omega)
   have hal : a.length = n := by
    have hrs : ∀ (sh : List (Option (TypeId × Nat))) (ds : List D) (vs : List Value) (ls : List Loc), RNs w E.Z sh ds vs ls → vs.length = ds.length := by
     intro sh
     induction sh with
     | nil => rintro ds vs ls ⟨rfl, rfl, rfl⟩; rfl
     | cons x sh ih =>
      intro ds vs ls h
      cases x with
      | none => obtain ⟨d, ds', v, r, rfl, rfl, _, h⟩ := h; simp [ih _ _ _ h]
      | some p => obtain ⟨es, ds', v, r, ℓ, ls', rfl, rfl, rfl, _, h⟩ := h; simp [ih _ _ _ h]
    split at h3
    ·rw [hrs _ _ _ _ h3]; exact hn e (.head _)
    ·rw [RVs_length h3.2.2.2, h3.2.1]; exact hn e (.head _)
   refine ⟨a ++ c1, a', c2, by rw [g1]; simp, ?_, g3⟩
   rw [List.length_append, g2, hal, show i - k = (i - (k + 1)) + 1 by omega, Nat.add_mul, Nat.one_mul, Nat.add_comm]
theorem flook_lt {fo : List (Nat × List V)} {i m : Nat} {cs : List V} (h : flook fo i = some cs) (hm : ∀ p ∈ fo, p.1 < m) : i < m := by
 induction fo with
 | nil => cases h
 | cons p fo ih =>
  simp only [flook] at h
  split at h
  ·rename_i e; subst e; exact hm p (.head _)
  ·exact ih h (fun p hp => hm p (.tail _ hp))
theorem cellsAt_sound {E : Env} {H : Heap} {w : World} (ok : E.ok H w) {p : V} {v : Value} (h : RV E w p v) {cs : List V} (hc : cellsAt H p = some cs) :
  ∃ b o vs, v = .pointer (some ⟨b, o, none⟩) ∧ RVs E w cs vs ∧ w.rangeAt b o vs ∧ (∀ c ∈ cs, c.cell = true) ∧ b < w.heap.size := by
 unfold cellsAt at hc
 split at hc
 ·rename_i ds
  injection hc with hc
  subst hc
  obtain ⟨b, o, vs, rfl, hz, h1, h2⟩ := h
  exact ⟨b, o, vs, rfl, RVs_d.2 h1, h2, fun c hc => by obtain ⟨x, _, rfl⟩ := List.mem_map.1 hc; rfl, ok.zlt _ hz⟩
 ·rename_i id i off
  obtain ⟨hn, rfl⟩ := h
  split at hc
  ·rename_i ds hH
   split at hc
   ·rename_i hi
    injection hc with hc
    subst hc; subst hi
    obtain ⟨_, h1, vs, h2, h3, h4, h5⟩ := ok.hold _ _ hH
    refine ⟨_, _, vs.drop off, rfl, RVs_drop off h2, ?_, fun c hc => h1 c (List.mem_of_mem_drop hc), h5⟩
    have := rangeAt_drop h3 off
    simpa using this
   ·cases hc
  ·rename_i T n es hH
   split at hc
   ·rename_i e he
    injection hc with hc
    subst hc
    obtain ⟨h1, h2, h3, h4, h5⟩ := ok.hold _ _ hH
    rcases h5 with ⟨h6, _⟩ | ⟨_, c, flat, h7, h8, h9, h10, h11, h12⟩
    ·rw [hn] at h6; cases h6
    ·obtain ⟨c1, vs, c2, h13, h14, h15⟩ := RDe_get h11 h3 he
     have hr := arr_range h7 ⟨_, h12⟩
     rw [h13] at hr
     have hr2 := rangeAt_drop (rangeAt_mid hr) off
     refine ⟨_, _, vs.drop off, rfl, RVs_d.2 (RDs_drop off h15), ?_, fun c hc => by obtain ⟨x, _, rfl⟩ := List.mem_map.1 hc; rfl, (Array.getElem?_eq_some_iff.1 h7).1⟩
     rw [h2, h1]
     rw [h14, Nat.zero_add] at hr2
     rw [Nat.zero_add]
     exact hr2
   ·cases hc
  ·rename_i T n sh es fo hH
   split at hc
   ·rename_i e he
    injection hc with hc
    subst hc
    obtain ⟨h1, h2, h3, h4, hs, hfo, h5⟩ := ok.hold _ _ hH
    rcases h5 with ⟨h6, _⟩ | ⟨_, c, flat, ls, h7, h8, h9, h10, h11, h12, _⟩
    ·rw [hn] at h6; cases h6
    ·obtain ⟨c1, vs, c2, h13, h14, h15, h16, h17⟩ := flook_range he 0 es flat ls h3 h11 hs (Nat.zero_le _) (by rw [Nat.zero_add]; exact flook_lt he hfo)
     have hr := arr_range h7 ⟨_, h12⟩
     rw [h13] at hr
     have hr2 := rangeAt_drop (rangeAt_mid hr) off
     refine ⟨_, _, vs.drop off, rfl, RVs_drop off h17, ?_, fun c hc => h16 c (List.mem_of_mem_drop hc), (Array.getElem?_eq_some_iff.1 h7).1⟩
     rw [h2, h1]
     rw [h14, Nat.zero_add, Nat.sub_zero] at hr2
     rw [Nat.zero_add]
     exact hr2
   ·cases hc
  ·cases hc
 ·cases hc
def TypeDesc.row : TypeDesc → Bool
 | .struct _ | .array _ _ => true
 | _ => false
def ldV (ti : TI) (cs : List V) : Option V :=
 if TypeDesc.row ti.desc then (if ti.size ≤ cs.length then some (.agg (cs.take ti.size)) else none) else cs[0]?
theorem run_loadAt {P : Program} {T : TypeId} {ti : TI} (ht : tyOf P T = some ti) {E : Env} {w w' : World} {b o : Nat} {cs : List V} {vs : List Value} (h1 : RVs E w cs vs) (_h2 : w'.rangeAt b o vs) (hc : ∀ c ∈ cs, c.cell = true) {v : V} (hv : ldV ti cs = some v) :
  ∃ x, RV E w v x ∧ (∀ w'', w''.rangeAt b o vs → (Instr.loadAt T (.pointer (some ⟨b, o, none⟩))).run P w'' = .ok x w'') := by
 have hl := RVs_length h1
 obtain ⟨hu, i, hi, hs, _⟩ := tyOf_spec ht
 unfold ldV at hv
 split at hv
 ·rename_i hr
  split at hv
  ·rename_i hle
   injection hv with hv
   subst hv
   refine ⟨.agg (vs.take ti.size).toArray, ⟨_, rfl, fun c h => hc c (List.mem_of_mem_take h), RVs_take _ h1⟩, fun w'' hw => ?_⟩
   exact run_loadAt_mid w'' b o T (vs.take ti.size) ti.desc (rangeAt_take hw _) hu (by cases hd : ti.desc <;> simp_all [TypeDesc.row, TypeDesc.isRow]) (by rw [hi]; simp [hs]; omega)
  ·cases hv
 ·rename_i hr
  obtain ⟨x, hx, hrx⟩ := RVs_get h1 hv
  refine ⟨x, hrx, fun w'' hw => ?_⟩
  have hcell := hw 0 x hx
  have hagg : (isAgg T).run P w'' = .ok false w'' := by
   unfold isAgg
   rw [Sem.run_bind, run_und ht w'']
   cases hd : ti.desc <;> simp_all [TypeDesc.row]
  rw [Nat.add_zero] at hcell
  simp [Instr.loadAt, Instr.sureAddr, loadVar, hagg, load, Sem.run, hcell]
end Go.Ab
end
section
namespace Go.Ab
open Go.RowKit
def offP (p : V) (k : Nat) : Option V :=
 match p with
 | .d (.pim cs) => some (.d (.pim (cs.drop k)))
 | .ptr id i off => some (.ptr id i (off + k))
 | _ => none
theorem offP_sound {E : Env} {w : World} {p p' : V} {v : Value} {k : Nat} (h : RV E w p v) (hp : offP p k = some p') : ∃ b o, v = .pointer (some ⟨b, o, none⟩) ∧ RV E w p' (.pointer (some ⟨b, o + k, none⟩)) := by
 unfold offP at hp
 split at hp
 ·injection hp with hp
  subst hp
  obtain ⟨b, o, vs, rfl, hz, h1, h2⟩ := h
  exact ⟨b, o, rfl, b, o + k, vs.drop k, rfl, hz, RDs_drop k h1, rangeAt_drop h2 k⟩
 ·injection hp with hp
  subst hp
  obtain ⟨hn, rfl⟩ := h
  exact ⟨_, _, rfl, hn, by rw [Nat.add_assoc]⟩
 ·cases hp
theorem add_addr (b o k : Nat) : (⟨b, o, none⟩ : Addr).add k = ⟨b, o + k, none⟩ := Addr.add_mid b o k
def idxS (H : Heap) (s : V) (i : Int) (size : Nat) : Option V :=
 match s with
 | .d (.sl es) | .dx es => if 0 ≤ i then (match es[i.toNat]? with | some e => if e.length = size then some (.d (.pim e)) else none | none => none) else none
 | .ref id off len => if 0 ≤ i ∧ i < len then (match H id with | some (.arr _ n _) => if n = size then some (.ptr id (off + i.toNat) 0) else none | some (.nest _ n _ _ _) => if n = size then some (.ptr id (off + i.toNat) 0) else none | _ => none) else none
 | _ => none
theorem sl_elem {w : World} {Z : Nat → Prop} {es : List (List D)} {v : Value} {i : Nat} {e : List D} (h : RD w Z (.sl es) v) (he : es[i]? = some e) :
  ∃ b o cap, v = .slice (some ⟨b, o, none⟩) es.length cap ∧ es.length ≤ cap ∧ RD w Z (.pim e) (.pointer (some ⟨b, o + i * e.length, none⟩)) := by
 obtain ⟨A, cap, rfl, h1, h2, h3, h4⟩ := h
 have hi : i < es.length := (List.getElem?_eq_some_iff.1 he).1
 ·obtain ⟨b, o, n, flat, rfl, hz, h5, h6, h7⟩ := h4 (fun e0 => by rw [e0] at hi; simp at hi)
  obtain ⟨c1, vs, c2, h8, h9, h10⟩ := RDe_get h6 h5 he
  have hn : e.length = n := h5 e (List.mem_of_getElem? he)
  rw [h8] at h7
  have := rangeAt_mid h7
  rw [h9] at this
  exact ⟨b, o, cap, rfl, h1, b, _, vs, by rw [hn], hz, h10, this⟩
theorem idxS_sound {E : Env} {H : Heap} {w : World} (ok : E.ok H w) {s r : V} {v : Value} {i : Int} {size : Nat} (h : RV E w s v) (hr : idxS H s i size = some r) :
  ∃ b o len cap, v = .slice (some ⟨b, o, none⟩) len cap ∧ 0 ≤ i ∧ i < len ∧ RV E w r (.pointer (some ⟨b, o + i.toNat * size, none⟩)) := by
 have key : ∀ es : List (List D), RD w E.Z (.sl es) v → (if 0 ≤ i then (match es[i.toNat]? with | some e => if e.length = size then some (V.d (.pim e)) else none | none => none) else none) = some r →
   ∃ b o len cap, v = .slice (some ⟨b, o, none⟩) len cap ∧ 0 ≤ i ∧ i < len ∧ RV E w r (.pointer (some ⟨b, o + i.toNat * size, none⟩)) := by
  intro es h hr
  split at hr
  ·rename_i h0
   split at hr
   ·rename_i e he
    split at hr
    ·rename_i hs
     injection hr with hr
     subst hr; subst hs
     obtain ⟨b, o, cap, rfl, h1, h2⟩ := sl_elem h he
     have hi : i.toNat < es.length := (List.getElem?_eq_some_iff.1 he).1
     exact ⟨b, o, _, cap, rfl, h0, by omega, h2⟩
    ·cases hr
   ·cases hr
  ·cases hr
 unfold idxS at hr
 split at hr
 ·exact key _ h hr
 ·exact key _ h.1 hr
 ·rename_i id off len
  split at hr
  ·rename_i hi
   split at hr
   ·rename_i T n es hH
    split at hr
    ·rename_i hs
     injection hr with hr
     subst hr; subst hs
     have hn := (ok.hold _ _ hH).1
     rcases h with ⟨_, _, hl, _⟩ | ⟨hnil, hcap, a, rfl, ha⟩
     ·omega
     ·have ha' := ha (.inr (by omega))
      refine ⟨_, a, len, _, rfl, hi.1, hi.2, hnil, ?_⟩
      rw [ha', hn, Nat.add_mul]
      simp [Nat.add_assoc]
    ·cases hr
   ·rename_i T n sh es fo hH
    split at hr
    ·rename_i hs
     injection hr with hr
     subst hr; subst hs
     have hn := (ok.hold _ _ hH).1
     rcases h with ⟨_, _, hl, _⟩ | ⟨hnil, hcap, a, rfl, ha⟩
     ·omega
     ·have ha' := ha (.inr (by omega))
      refine ⟨_, a, len, _, rfl, hi.1, hi.2, hnil, ?_⟩
      rw [ha', hn, Nat.add_mul]
      simp [Nat.add_assoc]
    ·cases hr
   ·cases hr
  ·cases hr
 ·cases hr
def shrI (a b : Int) : Int := a.fdiv (2 ^ b.toNat)
def shlI (k : IntKind) (a b : Int) : Int := k.wrap (a * 2 ^ b.toNat)
def bitI (op : BinOp) (k : IntKind) (x y : Int) : Int :=
 match op with
 | .and => k.wrap (BitVec.ofInt k.bits x &&& BitVec.ofInt k.bits y).toNat
 | .or => k.wrap (BitVec.ofInt k.bits x ||| BitVec.ofInt k.bits y).toNat
 | .xor => k.wrap (BitVec.ofInt k.bits x ^^^ BitVec.ofInt k.bits y).toNat
 | _ => k.wrap (BitVec.ofInt k.bits x &&& ~~~BitVec.ofInt k.bits y).toNat
def litOp (op : BinOp) (x y : Value) : Option Value :=
 match x, y with
 | .int k a, .int k' b => if k = k' then (match op with
   | .add => some (.int k (k.wrap (a + b)))
   | .sub => some (.int k (k.wrap (a - b)))
   | .mul => some (.int k (k.wrap (a * b)))
   | .quo => if b = 0 then none else some (.int k (k.wrap (a.tdiv b)))
   | .rem => if b = 0 then none else some (.int k (a.tmod b))
   | .eql => some (.bool (a == b))
   | .neq => some (.bool (a != b))
   | .lss => some (.bool (decide (a < b)))
   | .leq => some (.bool (decide (a ≤ b)))
   | .gtr => some (.bool (decide (a > b)))
   | .geq => some (.bool (decide (a ≥ b)))
   | .shr => if 0 ≤ b ∧ b.toNat ≤ k.bits then some (.int k (shrI a b)) else none
   | .shl => if 0 ≤ b ∧ b.toNat ≤ k.bits then some (.int k (shlI k a b)) else none
   | .and => some (.int k (bitI .and k a b))
   | .or => some (.int k (bitI .or k a b))
   | .xor => some (.int k (bitI .xor k a b))
   | .andNot => some (.int k (bitI .andNot k a b))) else none
 | .string a, .string b => match op with
   | .add => if ((a.size + b.size : Nat) : Int) > IntKind.i64.max then none else some (.string (a ++ b))
   | .eql => some (.bool (a.toList == b.toList))
   | .neq => some (.bool !(a.toList == b.toList))
   | .lss => some (.bool (Op.bytesLess a.toList b.toList))
   | .leq => some (.bool (Op.bytesLess a.toList b.toList || a.toList == b.toList))
   | .gtr => some (.bool !(Op.bytesLess a.toList b.toList || a.toList == b.toList))
   | .geq => some (.bool !(Op.bytesLess a.toList b.toList))
   | _ => none
 | _, _ => none
theorem litOp_sound {P : Program} {op : BinOp} {T : TypeId} {xo yo : Operand} {x y r : Value} (h : litOp op x y = some r) (w : World) :
  ((do eqGuard op T xo yo x y; binOp op T x y : Sem Value)).run P w = .ok r w ∧ plain r = true := by
 unfold litOp at h
 split at h
 ·rename_i k a k' b
  split at h
  ·rename_i hk
   subst hk
   cases op <;> simp only [Option.some.injEq] at h
   case quo =>
    split at h
    ·cases h
    ·rename_i hb; injection h with h; subst h; exact ⟨by simp [eqGuard, binOp, Op.intDiv, hb], rfl⟩
   case rem =>
    split at h
    ·cases h
    ·rename_i hb; injection h with h; subst h; exact ⟨by simp [eqGuard, binOp, Op.intDiv, hb], rfl⟩
   case shr =>
    split at h
    ·rename_i hb
     injection h with h; subst h
     have e1 : ¬ b < 0 := by omega
     have e2 : min b.toNat k.bits = b.toNat := by omega
     exact ⟨by simp [eqGuard, binOp, Op.shift, e1, e2, shrI], rfl⟩
    ·cases h
   case shl =>
    split at h
    ·rename_i hb
     injection h with h; subst h
     have e1 : ¬ b < 0 := by omega
     have e2 : min b.toNat k.bits = b.toNat := by omega
     exact ⟨by simp [eqGuard, binOp, Op.shift, e1, e2, shlI], rfl⟩
    ·cases h
   case and => subst h; exact ⟨by simp [eqGuard, binOp, Op.intBits, bitI], rfl⟩
   case or => subst h; exact ⟨by simp [eqGuard, binOp, Op.intBits, bitI], rfl⟩
   case xor => subst h; exact ⟨by simp [eqGuard, binOp, Op.intBits, bitI], rfl⟩
   case andNot => subst h; exact ⟨by simp [eqGuard, binOp, Op.intBits, bitI], rfl⟩
   all_goals (subst h; exact ⟨by simp [eqGuard, binOp, Op.intArith, Op.intCmp], rfl⟩)
  ·cases h
 ·rename_i a b
  cases op <;> simp only [Option.some.injEq, reduceCtorEq] at h
  case add =>
   split at h
   ·cases h
   ·rename_i hb; injection h with h; subst h; exact ⟨by simp only [eqGuard, binOp, Op.stringOp, hb, if_false]; simp, rfl⟩
  all_goals (subst h; exact ⟨by simp [eqGuard, binOp, Op.stringOp], rfl⟩)
 ·cases h
def nilSl : V → Option Bool
 | .d (.lit (.slice none 0 0)) => some true
 | .d (.sl es) | .dx es => if es.isEmpty then none else some false
 | .ref _ _ len => if len = 0 then none else some false
 | _ => none
def nilPt : V → Option Bool
 | .d (.lit (.pointer none)) => some true
 | .ptr .. | .d (.pim _) => some false
 | _ => none
def nilMp : V → Option Bool
 | .d (.lit (.map none)) => some true
 | .mref _ => some false
 | _ => none
theorem nilSl_sound {E : Env} {w : World} {x : V} {v : Value} (h : RV E w x v) {b : Bool} (hb : nilSl x = some b) : ∃ A l c, v = .slice A l c ∧ A.isNone = b := by
 have key : ∀ es : List (List D), RD w E.Z (.sl es) v → ¬ es.isEmpty = true → ∃ A l c, v = .slice A l c ∧ A.isNone = false := by
  rintro es ⟨A, cap, rfl, h1, _, h3, _⟩ he
  refine ⟨A, _, _, rfl, ?_⟩
  cases A with
  | none => have := h3 rfl; exfalso; apply he; rw [List.isEmpty_iff]; exact List.eq_nil_of_length_eq_zero (by omega)
  | some a => rfl
 unfold nilSl at hb
 split at hb
 ·injection hb with hb; subst hb; obtain ⟨rfl, _⟩ := h; exact ⟨_, _, _, rfl, rfl⟩
 ·split at hb
  ·cases hb
  ·rename_i es he; injection hb with hb; subst hb; exact key _ h he
 ·split at hb
  ·cases hb
  ·rename_i es he; injection hb with hb; subst hb; exact key _ h.1 he
 ·split at hb
  ·cases hb
  ·rename_i hl; injection hb with hb; subst hb
   rcases h with ⟨_, _, h0, _⟩ | ⟨_, _, a, rfl, _⟩
   ·exact absurd h0 hl
   ·exact ⟨_, _, _, rfl, rfl⟩
 ·cases hb
theorem nilPt_sound {E : Env} {w : World} {x : V} {v : Value} (h : RV E w x v) {b : Bool} (hb : nilPt x = some b) : ∃ A, v = .pointer A ∧ A.isNone = b := by
 unfold nilPt at hb
 split at hb
 ·injection hb with hb; subst hb; obtain ⟨rfl, _⟩ := h; exact ⟨_, rfl, rfl⟩
 ·injection hb with hb; subst hb; obtain ⟨_, rfl⟩ := h; exact ⟨_, rfl, rfl⟩
 ·injection hb with hb; subst hb; obtain ⟨b, o, vs, rfl, _⟩ := h; exact ⟨_, rfl, rfl⟩
 ·cases hb
theorem nilMp_sound {E : Env} {w : World} {x : V} {v : Value} (h : RV E w x v) {b : Bool} (hb : nilMp x = some b) : ∃ A, v = .map A ∧ A.isNone = b := by
 unfold nilMp at hb
 split at hb
 ·injection hb with hb; subst hb; obtain ⟨rfl, _⟩ := h; exact ⟨_, rfl, rfl⟩
 ·injection hb with hb; subst hb
  have h' : _ = _ := h
  subst h'
  exact ⟨_, rfl, rfl⟩
 ·cases hb
def eqNil (d : TypeDesc) (x : V) (y : Value) : Option Bool :=
 match d, y with
 | .slice _, .slice none 0 0 => nilSl x
 | .pointer _, .pointer none => nilPt x
 | .map _ _, .map none => nilMp x
 | _, _ => none
theorem equal_of {P : Program} {T : TypeId} {x y : Value} {r : Bool} {w : World} (h : ∀ d, (Op.equalIn (d + 1) T x y).run P w = .ok r w) : (Op.equal T x y).run P w = .ok r w := h 9999
theorem run_eq_of {P : Program} {T : TypeId} {x y : Value} {r : Bool} {w : World} (h : (Op.equal T x y).run P w = .ok r w) (xo yo : Operand) (hg : (eqGuard .eql T xo yo x y).run P w = .ok () w ∧ (eqGuard .neq T xo yo x y).run P w = .ok () w)
  (hb : binOp .eql T x y = (do pure (.bool (← Op.equal T x y))) ∧ binOp .neq T x y = (do pure (.bool (!(← Op.equal T x y))))) :
  ((do eqGuard .eql T xo yo x y; binOp .eql T x y : Sem Value)).run P w = .ok (.bool r) w ∧ ((do eqGuard .neq T xo yo x y; binOp .neq T x y : Sem Value)).run P w = .ok (.bool !r) w := by
 rw [hb.1, hb.2]
 constructor
 ·rw [Sem.run_bind, hg.1]; simp [h]
 ·rw [Sem.run_bind, hg.2]; simp [h]
theorem eqNil_sound {P : Program} {E : Env} {w w' : World} {x : V} {v y : Value} {T : TypeId} {ti : TI} (ht : tyOf P T = some ti) (h : RV E w x v) {b : Bool} (hb : eqNil ti.desc x y = some b) (xo yo : Operand) :
  ((do eqGuard .eql T xo yo v y; binOp .eql T v y : Sem Value)).run P w' = .ok (.bool b) w' ∧ ((do eqGuard .neq T xo yo v y; binOp .neq T v y : Sem Value)).run P w' = .ok (.bool !b) w' := by
 have hu := run_und ht w'
 unfold eqNil at hb
 split at hb
 ·rename_i e hd
  obtain ⟨A, l, c, rfl, rfl⟩ := nilSl_sound h hb
  rw [hd] at hu
  refine run_eq_of (equal_of fun d => ?_) xo yo ⟨rfl, rfl⟩ ⟨rfl, rfl⟩
  cases A <;> simp [Op.equalIn, hu]
 ·rename_i e hd
  obtain ⟨A, rfl, rfl⟩ := nilPt_sound h hb
  rw [hd] at hu
  refine run_eq_of (equal_of fun d => ?_) xo yo ⟨rfl, rfl⟩ ⟨rfl, rfl⟩
  cases A <;> simp [Op.equalIn, hu]
 ·rename_i e k hd
  obtain ⟨A, rfl, rfl⟩ := nilMp_sound h hb
  rw [hd] at hu
  refine run_eq_of (equal_of fun d => ?_) xo yo ⟨rfl, rfl⟩ ⟨rfl, rfl⟩
  cases A <;> simp [Op.equalIn, hu]
 ·cases hb
theorem eqBool_sound {P : Program} {w' : World} {T : TypeId} {ti : TI} (ht : tyOf P T = some ti) (hd : ti.desc = .bool) (a b : Bool) (xo yo : Operand) :
  ((do eqGuard .eql T xo yo (.bool a) (.bool b); binOp .eql T (.bool a) (.bool b) : Sem Value)).run P w' = .ok (.bool (a == b)) w' ∧ ((do eqGuard .neq T xo yo (.bool a) (.bool b); binOp .neq T (.bool a) (.bool b) : Sem Value)).run P w' = .ok (.bool !(a == b)) w' := by
 have hu := run_und ht w'
 rw [hd] at hu
 refine run_eq_of (equal_of fun d => ?_) xo yo ⟨rfl, rfl⟩ ⟨rfl, rfl⟩
 simp [Op.equalIn, hu]
def bnd (x : Option V) (dflt hi : Nat) : Option Nat :=
 match x with
 | none => some dflt
 | some (.d (.lit (.int _ i))) => if 0 ≤ i ∧ i ≤ hi then some i.toNat else none
 | some _ => none
def sliceStr (b : ByteArray) (lo hi mx : Option V) : Option V := if mx.isSome then none else
   (bnd hi b.size b.size).bind fun h => (bnd lo 0 h).bind fun l => some (.d (.lit (.string (b.extract l h))))
def sliceSl (es : List (List D)) (lo hi mx : Option V) : Option V :=
 match mx with
 | none => (bnd hi es.length es.length).bind fun h => (bnd lo 0 h).bind fun l => some (.d (.sl ((es.take h).drop l)))
 | some m => if hi.isNone then none else (bnd (some m) 0 es.length).bind fun m => (bnd hi 0 m).bind fun h => (bnd lo 0 h).bind fun l => if h = m then some (.dx ((es.take h).drop l)) else some (.d (.sl ((es.take h).drop l)))
def sliceRef (id off len : Nat) (lo hi mx : Option V) : Option V := if mx.isSome then none else
   (bnd hi len len).bind fun h => (bnd lo 0 h).bind fun l => some (.ref id (off + l) (h - l))
theorem bnd_none {dflt hi n : Nat} (h : bnd none dflt hi = some n) : n = dflt := by injection h with h; exact h.symm
theorem bnd_some {P : Program} {E : Env} {w w' : World} {c : V} {u : Value} (hu : RV E w c u) {dflt hi n : Nat} (hb : bnd (some c) dflt hi = some n) {top : Nat} (ht : hi ≤ top) (code : BoundsCode) :
  (Instr.sliceBound u top code).run P w' = .ok n w' ∧ n ≤ hi := by
 unfold bnd at hb
 split at hb
 ·rename_i h0; cases h0
 ·rename_i k i h0
  injection h0 with h0
  subst h0
  obtain ⟨rfl, _⟩ := hu
  split at hb
  ·rename_i hi'
   injection hb with hb
   subst hb
   refine ⟨?_, by omega⟩
   have h1 : 0 ≤ i ∧ i ≤ (top : Int) := by omega
   simp [Instr.sliceBound, asIntOf, h1]
  ·cases hb
 ·cases hb
theorem RDe_take {w : World} {Z : Nat → Prop} {n : Nat} : ∀ {es : List (List D)} {flat : List Value} (k : Nat), RDe w Z es flat → (∀ e ∈ es, e.length = n) → RDe w Z (es.take k) (flat.take (k * n))
 | [], _, k, h, _ => by
  have : _ = [] := h
  subst this
  simp [RDe]
 | x :: es, _, 0, h, _ => by simp [RDe]
 | x :: es, _, k + 1, ⟨a, r, h, h1, h2⟩, hn => by
  subst h
  have hl : a.length = n := by rw [RDs_length h1, hn x (.head _)]
  refine ⟨a, r.take (k * n), ?_, h1, RDe_take k h2 (fun e he => hn e (.tail _ he))⟩
  rw [Nat.add_mul, Nat.one_mul, Nat.add_comm, ← hl, List.take_length_add_append]
theorem RDe_drop {w : World} {Z : Nat → Prop} {n : Nat} : ∀ {es : List (List D)} {flat : List Value} (k : Nat), RDe w Z es flat → (∀ e ∈ es, e.length = n) → RDe w Z (es.drop k) (flat.drop (k * n))
 | [], _, k, h, _ => by
  have : _ = [] := h
  subst this
  simp [RDe]
 | x :: es, _, 0, h, _ => by simpa using h
 | x :: es, _, k + 1, ⟨a, r, h, h1, h2⟩, hn => by
  subst h
  have hl : a.length = n := by rw [RDs_length h1, hn x (.head _)]
  have e : (a ++ r).drop ((k + 1) * n) = r.drop (k * n) := by
   rw [Nat.add_mul, Nat.one_mul, Nat.add_comm (k * n), ← List.drop_drop, ← hl, List.drop_left]
  rw [e]
  exact RDe_drop k h2 (fun e he => hn e (.tail _ he))
theorem sl_part {w : World} {Z : Nat → Prop} {es : List (List D)} {A : Option Addr} {len cap : Nat} (h : RD w Z (.sl es) (.slice A len cap)) {size : Nat} (hs : ∀ e ∈ es, e.length = size) {l k m : Nat} (hlk : l ≤ k) (hk : k ≤ es.length) (hkm : k ≤ m) (hm : m ≤ cap) :
  RD w Z (.sl ((es.take k).drop l)) (.slice (if m = l then A else A.map (·.add (l * size))) (k - l) (m - l)) := by
 obtain ⟨A', cap', hv, h1, h2, h3, h4⟩ := h
 injection hv with e1 e2 e3
 subst e1; subst e2; subst e3
 have hl : ((es.take k).drop l).length = k - l := by rw [List.length_drop, List.length_take, Nat.min_eq_left hk]
 refine ⟨_, m - l, by rw [hl], by rw [hl]; omega, by omega, fun hn => ?_, fun hne => ?_⟩
 ·have : A = none := by
   by_cases hml : m = l
   ·rw [if_pos hml] at hn; exact hn
   ·rw [if_neg hml] at hn; simpa using hn
  have := h3 this; omega
 ·have hlt : 0 < ((es.take k).drop l).length := List.length_pos_iff.2 hne
  have hes : es ≠ [] := fun e => by rw [e] at hlt; simp at hlt
  obtain ⟨b, o, n, flat, rfl, hz, h5, h6, h7⟩ := h4 hes
  have hp : RDe w Z ((es.take k).drop l) ((flat.take (k * n)).drop (l * n)) := RDe_drop l (RDe_take k h6 h5) (fun e he => h5 e (List.mem_of_mem_take he))
  have hr := rangeAt_drop (rangeAt_take h7 (k * n)) (l * n)
  have hml : ¬ m = l := by omega
  rw [if_neg hml]
  obtain ⟨e0, he⟩ : ∃ e0, e0 ∈ es := by cases es with | nil => exact absurd rfl hes | cons x r => exact ⟨x, .head _⟩
  have hn : n = size := by rw [← h5 e0 he, hs e0 he]
  subst hn
  exact ⟨b, o + l * n, n, _, by simp [add_addr], hz, fun e he => h5 e (List.mem_of_mem_take (List.mem_of_mem_drop he)), hp, hr⟩
end Go.Ab
end
section
namespace Go.Ab
open Go.RowKit
def lenV : V → Option Nat
 | .d (.sl es) | .dx es => some es.length
 | .ref _ _ len => some len
 | .d (.lit (.slice none 0 0)) => some 0
 | _ => none
theorem lenV_sound {E : Env} {w : World} {x : V} {v : Value} (h : RV E w x v) {n : Nat} (hn : lenV x = some n) : ∃ A c, v = .slice A n c := by
 unfold lenV at hn
 split at hn
 ·injection hn with hn; subst hn; obtain ⟨A, cap, rfl, _⟩ := h; exact ⟨A, cap, rfl⟩
 ·injection hn with hn; subst hn; obtain ⟨⟨A, cap, rfl, _⟩, _⟩ := h; exact ⟨A, cap, rfl⟩
 ·injection hn with hn; subst hn
  rcases h with ⟨_, _, rfl, rfl⟩ | ⟨_, _, a, rfl, _⟩
  ·exact ⟨_, _, rfl⟩
  ·exact ⟨_, _, rfl⟩
 ·injection hn with hn; subst hn; obtain ⟨rfl, _⟩ := h; exact ⟨_, _, rfl⟩
 ·cases hn
def cellsV : V → List V
 | .agg cs => cs
 | v => [v]
def setL (cs : List V) (off : Nat) (vs : List V) : List V := cs.take off ++ (vs ++ cs.drop (off + vs.length))
def fillV (place : Nat → Option (Nat × Nat)) (cs : List V) : List (Nat × V) → Option (List V)
 | [] => some cs
 | (i, v) :: rest =>
  match place i with
  | none => none
  | some (off, size) => if (cellsV v).all V.cell = true ∧ (cellsV v).length = size ∧ off + size ≤ cs.length then fillV place (setL cs off (cellsV v)) rest else none
theorem cellsV_sound {E : Env} {w : World} {x : V} {v : Value} (h : RV E w x v) (hc : (cellsV x).all V.cell = true) : RVs E w (cellsV x) v.cells.toList := by
 cases x with
 | agg cs => obtain ⟨vs, rfl, _, h2⟩ := h; simpa [Value.cells, cellsV] using h2
 | tup cs => simp [cellsV, V.cell] at hc
 | junk => simp [cellsV, V.cell] at hc
 | hole =>
  have h1 := RV_cell h rfl
  have : v.cells = #[v] := by cases v <;> first | rfl | (cases h1)
  rw [this]; exact ⟨v, [], rfl, h, rfl⟩
 | dx es => simp [cellsV, V.cell] at hc
 | d x =>
  have h1 := RD_cell h
  have : v.cells = #[v] := by cases v <;> first | rfl | (cases h1)
  rw [this]; exact ⟨v, [], rfl, h, rfl⟩
 | ref id off len =>
  have h1 := RV_cell h rfl
  have : v.cells = #[v] := by cases v <;> first | rfl | (cases h1)
  rw [this]; exact ⟨v, [], rfl, h, rfl⟩
 | ptr id i off =>
  have h1 := RV_cell h rfl
  have : v.cells = #[v] := by cases v <;> first | rfl | (cases h1)
  rw [this]; exact ⟨v, [], rfl, h, rfl⟩
 | mref id =>
  have h1 := RV_cell h rfl
  have : v.cells = #[v] := by cases v <;> first | rfl | (cases h1)
  rw [this]; exact ⟨v, [], rfl, h, rfl⟩
 | fn f caps =>
  have h1 := RV_cell h rfl
  have : v.cells = #[v] := by cases v <;> first | rfl | (cases h1)
  rw [this]; exact ⟨v, [], rfl, h, rfl⟩
theorem foldl_set (c : Array Value) : ∀ (vs : List Value) (k off : Nat) (cs : Array Value), ((vs.zipIdx k).foldl (fun cs (x : Value × Nat) => cs.setIfInBounds (off + x.2) x.1) cs).toList = cs.toList.take (off + k) ++ ((vs.take (cs.size - (off + k))) ++ cs.toList.drop (off + k + vs.length))
 | [], k, off, cs => by simp
 | v :: vs, k, off, cs => by
  rw [List.zipIdx_cons, List.foldl_cons, foldl_set c vs (k + 1) off]
  have hs : (cs.setIfInBounds (off + k) v).size = cs.size := by simp
  rw [hs]
  by_cases h : off + k < cs.size
  ·apply List.ext_getElem?
   intro j
   simp only [List.getElem?_append, List.length_take, List.getElem?_take, List.getElem?_drop, Array.toList_setIfInBounds, List.getElem?_set, List.length_set, Array.length_toList, List.length_cons]
   have e1 : min (off + (k + 1)) cs.size = off + k + 1 := by omega
   have e2 : min (off + k) cs.size = off + k := by omega
   rw [e1, e2]
   by_cases hj : j < off + k
   ·rw [if_pos (by omega), if_pos hj, if_pos (by omega), if_neg (by omega), if_pos hj]
   ·by_cases hj2 : j = off + k
    ·subst hj2
     rw [if_pos (by omega), if_neg hj, if_pos (by omega), if_pos rfl, if_pos h]
     have : cs.size - (off + k) = (cs.size - (off + k) - 1) + 1 := by omega
     rw [if_pos (by simp; omega), Nat.sub_self, if_pos (by omega)]
     rfl
    ·rw [if_neg (by omega), if_neg hj]
     have e3 : min (cs.size - (off + k)) (vs.length + 1) = min (cs.size - (off + (k + 1))) vs.length + 1 := by omega
     rw [e3]
     have e4 : j - (off + k) = (j - (off + k + 1)) + 1 := by omega
     rw [e4]
     by_cases hj3 : j - (off + k + 1) < min (cs.size - (off + (k + 1))) vs.length
     ·rw [if_pos hj3, if_pos (by omega), if_pos (by omega), if_pos (by omega)]
      rfl
     ·rw [if_neg hj3, if_neg (by omega), if_neg (by omega)]
      congr 1
      omega
  ·have e : cs.setIfInBounds (off + k) v = cs := by simp [Array.setIfInBounds, h]
   rw [e]
   have e1 : cs.size - (off + k) = 0 := by omega
   have e2 : cs.size - (off + (k + 1)) = 0 := by omega
   have e3 : cs.toList.take (off + (k + 1)) = cs.toList.take (off + k) := by
    rw [List.take_of_length_le (by simp; omega), List.take_of_length_le (by simp; omega)]
   rw [e1, e2, e3, List.drop_eq_nil_of_le (by simp; omega), List.drop_eq_nil_of_le (by simp; omega)]
   simp
theorem RVs_set {E : Env} {w : World} {cs ds : List V} {vs us : List Value} (h : RVs E w cs vs) (g : RVs E w ds us) {off : Nat} (_hle : off + ds.length ≤ cs.length) :
  RVs E w (setL cs off ds) (vs.take off ++ (us ++ vs.drop (off + us.length))) := by
 unfold setL
 rw [RVs_length g]
 exact RVs_append (RVs_take _ h) (RVs_append g (RVs_drop _ h))
theorem fillV_sound {E : Env} {w : World} {place : Nat → Option (Nat × Nat)} {ρ : Operand → Value} {ev : Operand → V} (hev : ∀ x, RV E w (ev x) (ρ x)) : ∀ (parts : List (Nat × Operand)) (cs : List V) (c : Array Value) (r : List V), RVs E w cs c.toList → (∀ x ∈ cs, x.cell = true) →
  fillV place cs (parts.map fun p => (p.1, ev p.2)) = some r → ∃ c', Instr.fill place c (parts.map fun p => (p.1, ρ p.2)) = some c' ∧ RVs E w r c'.toList ∧ (∀ x ∈ r, x.cell = true)
 | [], cs, c, r, h, hc, hr => by
  injection hr with hr
  subst hr
  exact ⟨c, rfl, h, hc⟩
 | (i, o) :: rest, cs, c, r, h, hc, hr => by
  simp only [List.map_cons, fillV] at hr
  cases hp : place i with
  | none => rw [hp] at hr; cases hr
  | some p =>
   obtain ⟨off, size⟩ := p
   rw [hp] at hr
   simp only at hr
   split at hr
   ·rename_i hcond
    obtain ⟨h1, h2, h3⟩ := hcond
    have hv := cellsV_sound (hev o) h1
    have hlen := RVs_length h
    have hlen2 := RVs_length hv
    have hcell : ∀ x ∈ setL cs off (cellsV (ev o)), x.cell = true := by
     intro x hx
     unfold setL at hx
     rcases List.mem_append.1 hx with hx | hx
     ·exact hc x (List.mem_of_mem_take hx)
     ·rcases List.mem_append.1 hx with hx | hx
      ·exact List.all_eq_true.1 h1 x hx
      ·exact hc x (List.mem_of_mem_drop hx)
    have hsz : c.size = cs.length := by rw [← hlen]; simp
    have hvs : (ρ o).cells.size = size := by rw [← h2, ← hlen2]; simp
    have hfold := foldl_set c (ρ o).cells.toList 0 off c
    have hstep := RVs_set h hv (off := off) (by omega)
    obtain ⟨c', h4, h5, h6⟩ := fillV_sound hev rest (setL cs off (cellsV (ev o))) ((ρ o).cells.zipIdx.foldl (fun cs x => cs.setIfInBounds (off + x.2) x.1) c) r (by
     have e : ((ρ o).cells.zipIdx.foldl (fun cs (x : Value × Nat) => cs.setIfInBounds (off + x.2) x.1) c) = ((ρ o).cells.toList.zipIdx 0).foldl (fun cs (x : Value × Nat) => cs.setIfInBounds (off + x.2) x.1) c := by
      rw [← Array.foldl_toList]; simp
     rw [e, hfold]
     have e2 : (ρ o).cells.toList.take (c.size - (off + 0)) = (ρ o).cells.toList := List.take_of_length_le (by simp; omega)
     rw [e2, Nat.add_zero]
     exact hstep) hcell hr
    refine ⟨c', ?_, h5, h6⟩
    simp only [List.map_cons, Instr.fill, hp]
    rw [if_neg]
    ·exact h4
    ·simp; omega
   ·cases hr
end Go.Ab
end
section
namespace Go.Ab
open Go.RowKit
def placesOf (ty : TypeId → Option TI) (fs : List Field) : Option (List (Nat × Nat)) := fs.mapM fun f => (ty f.type).map fun ti => (f.offset, ti.size)
theorem places_info {P : Program} : ∀ {fs : List Field} {r : List (Nat × Nat)}, placesOf (tyOf P) fs = some r → fs.mapM (fun f => (P.info? f.type).map fun i => (f.offset, i.size)) = some r
 | [], r, h => h
 | f :: fs, r, h => by
  unfold placesOf at h
  simp only [List.mapM_cons, Option.bind_eq_bind, Option.pure_def] at h ⊢
  cases ht : tyOf P f.type with
  | none => simp [ht] at h
  | some ti =>
   cases hr : fs.mapM (fun f => (tyOf P f.type).map fun ti => (f.offset, ti.size)) with
   | none => simp [ht, hr] at h
   | some rest =>
    obtain ⟨_, i, hi, hs, _⟩ := tyOf_spec ht
    have := places_info (P := P) (fs := fs) hr
    simp only [ht, hr, Option.map_some, Option.bind_some] at h
    simp [hi, hs, this, h]
def isRow (d : TypeDesc) : Bool := TypeDesc.row d
def buildV (ty : TypeId → Option TI) (ti : TI) (parts : List (Nat × V)) : Option V :=
 match ti.desc with
 | .struct fs => (placesOf ty fs.toList).bind fun places => if ti.zero.cells.toList.all plain then (fillV (places[·]?) (ti.zero.cells.toList.map fun c => V.d (.lit c)) parts).map .agg else none
 | .array _ e => (ty e).bind fun te => if ti.zero.cells.toList.all plain then (fillV (fun i => some (i * te.size, te.size)) (ti.zero.cells.toList.map fun c => V.d (.lit c)) parts).map .agg else none
 | _ => none
def minV (mx : Bool) (k : IntKind) (x : Int) : List V → Option V
 | [] => some (.d (.lit (.int k x)))
 | .d (.lit (.int k' y)) :: r => if k = k' then minV mx k (if mx then (if y > x then y else x) else (if y < x then y else x)) r else none
 | _ => none
def minL (mx : Bool) : List V → Option V
 | .d (.lit (.int k x)) :: r => minV mx k x r
 | _ => none
def constB : Operand → Bool
 | .const _ => true
 | _ => false
def pureV (ty : TypeId → Option TI) (S : St) : Op → Option V
 | .move x | .assign x => some (S.ev x)
 | .pick c a b => match S.ev c with
  | .d (.lit (.bool t)) => some (if t then S.ev a else S.ev b)
  | _ => none
 | .load T a => (ty T).bind fun ti => (cellsAt S.hp (S.ev a)).bind fun cs => ldV ti cs
 | .binOp op T x y _ => match S.ev x, S.ev y with
  | .d (.lit (.bool a)), .d (.lit (.bool b)) => (ty T).bind fun ti => match ti.desc, op with
    | .bool, .eql => some (.d (.lit (.bool (a == b))))
    | .bool, .neq => some (.d (.lit (.bool !(a == b))))
    | _, _ => none
  | .d (.er b), .d (.lit .nilIface) => if constB y then (ty T).bind fun ti => match ti.desc, op with
    | .interface _, .eql => some (.d (.lit (.bool (!b))))
    | .interface _, .neq => some (.d (.lit (.bool b)))
    | _, _ => none else none
  | .d (.lit a), .d (.lit b) => match litOp op a b with
    | some r => some (.d (.lit r))
    | none => (ty T).bind fun ti => match op with
      | .eql => (eqNil ti.desc (.d (.lit a)) b).map fun r => .d (.lit (.bool r))
      | .neq => (eqNil ti.desc (.d (.lit a)) b).map fun r => .d (.lit (.bool !r))
      | _ => none
  | a, .d (.lit b) => (ty T).bind fun ti => match op with
    | .eql => (eqNil ti.desc a b).map fun r => .d (.lit (.bool r))
    | .neq => (eqNil ti.desc a b).map fun r => .d (.lit (.bool !r))
    | _ => none
  | _, _ => none
 | .unOp op _ x => match op, S.ev x with
  | .not, .d (.lit (.bool b)) => some (.d (.lit (.bool !b)))
  | .neg, .d (.lit (.int k n)) => some (.d (.lit (.int k (k.wrap (0 - n)))))
  | _, _ => none
 | .convert src dst x => (ty src).bind fun ts => (ty dst).bind fun td => match ts.desc, td.desc, S.ev x with
  | .int _, .int k, .d (.lit (.int _ n)) => some (.d (.lit (.int k (k.wrap n))))
  | .string, .string, .d (.lit (.string s)) => some (.d (.lit (.string s)))
  | _, _, _ => none
 | .fieldAddr T x f => (ty T).bind fun ti => match ti.desc with
  | .struct fs => match fs[f]? with
   | some fd => (ty fd.type).bind fun tf => if tf.size = 0 then none else offP (S.ev x) fd.offset
   | none => none
  | _ => none
 | .field T x f => (ty T).bind fun ti => match ti.desc with
  | .struct fs => match fs[f]?, S.ev x with
   | some fd, .agg cs => (ty fd.type).bind fun tf => if isRow tf.desc then (if fd.offset + tf.size ≤ cs.length then some (.agg ((cs.drop fd.offset).take tf.size)) else none) else cs[fd.offset]?
   | _, _ => none
  | _ => none
 | .indexAddr T x i => (ty T).bind fun ti => match ti.desc, S.ev i with
  | .slice e, .d (.lit (.int _ n)) => (ty e).bind fun te => idxS S.hp (S.ev x) n te.size
  | .array len e, .d (.lit (.int _ n)) => (ty e).bind fun te => if 0 ≤ n ∧ n < len then offP (S.ev x) (n.toNat * te.size) else none
  | _, _ => none
 | .index T x i => (ty T).bind fun ti => match ti.desc, S.ev x, S.ev i with
  | .string, .d (.lit (.string s)), .d (.lit (.int _ n)) => if 0 ≤ n then (match s[n.toNat]? with | some b => some (.d (.lit (.int .u8 b.toNat))) | none => none) else none
  | .array len e, .agg cs, .d (.lit (.int _ n)) => (ty e).bind fun te => if 0 ≤ n ∧ n < len then (if isRow te.desc then (if n.toNat * te.size + te.size ≤ cs.length then some (.agg ((cs.drop (n.toNat * te.size)).take te.size)) else none) else cs[n.toNat * te.size]?) else none
  | _, _, _ => none
 | .extract t i => match S.ev t with
  | .tup cs => cs[i]?
  | _ => none
 | .slice T x lo hi mx => (ty T).bind fun ti => match ti.desc with
  | .string => match S.ev x with
   | .d (.lit (.string s)) => sliceStr s (lo.map S.ev) (hi.map S.ev) (mx.map S.ev)
   | _ => none
  | .slice e => (ty e).bind fun te => match S.ev x with
   | .d (.sl es) => if es.all (fun e => e.length = te.size) then sliceSl es (lo.map S.ev) (hi.map S.ev) (mx.map S.ev) else none
   | .ref id off len => match S.hp id with
    | some (.arr _ n _) => if n = te.size then sliceRef id off len (lo.map S.ev) (hi.map S.ev) (mx.map S.ev) else none
    | _ => none
   | _ => none
  | _ => none
 | .build T parts => (ty T).bind fun ti => buildV ty ti (parts.toList.map fun p => (p.1, S.ev p.2))
 | .makeFunc f first caps => match f with
  | .func g => if first.isEmpty then some (.fn (.func g) (caps.toList.map S.ev)) else none
  | _ => none
 | .typeAssert x _ T ok => if ok then none else (ty T).bind fun ti => match ti.desc, S.ev x with
  | .interface _, _ => none
  | _, .fn (.methodOf t _) [v] => if t = T then some v else none
  | _, _ => none
 | .makeInterface T x => (ty T).bind fun ti => match ti.desc, S.ev x with
  | .interface _, _ => none
  | _, .d x => some (.d (.ifc T x))
  | _, .ptr id i off => some (.fn (.methodOf T "") [.ptr id i off])
  | _, .agg cs => some (.fn (.methodOf T "") [.agg cs])
  | _, _ => none
 | .nilCheck x => match S.ev x with
  | .ptr id i off => some (.ptr id i off)
  | .d (.pim cs) => some (.d (.pim cs))
  | .fn (.func f) caps => some (.fn (.func f) caps)
  | _ => none
 | .call c => match c.callee with
  | .builtin .len => match c.args.toList, c.argTypes.toList with
   | [x], [T] => (ty T).bind fun ti => match ti.desc with
    | .slice _ => (lenV (S.ev x)).map fun (n : Nat) => V.d (.lit (.int .i64 (n : Int)))
    | .string => match S.ev x with | .d (.lit (.string s)) => some (.d (.lit (.int .i64 s.size))) | _ => none
    | .array n _ => some (.d (.lit (.int .i64 n)))
    | _ => none
   | _, _ => none
  | .builtin .min => minL false (c.args.toList.map S.ev)
  | .builtin .max => minL true (c.args.toList.map S.ev)
  | _ => none
 | _ => none
theorem run_part {P : Program} {T : TypeId} {ti : TI} (ht : tyOf P T = some ti) {E : Env} {w _w' : World} {cs : List V} {vs : List Value} (h : RVs E w cs vs) (hc : ∀ c ∈ cs, c.cell = true) {off : Nat} {r : V}
  (hr : (if isRow ti.desc then (if off + ti.size ≤ cs.length then some (V.agg ((cs.drop off).take ti.size)) else none) else cs[off]?) = some r) : ∃ x, RV E w r x ∧ ∀ w', (part T vs.toArray off).run P w' = .ok x w' := by
 have hl := RVs_length h
 unfold isRow at hr
 split at hr
 ·rename_i hrow
  split at hr
  ·injection hr with hr
   subst hr
   refine ⟨.agg ((vs.drop off).take ti.size).toArray, ⟨_, rfl, fun c h => hc c (List.mem_of_mem_drop (List.mem_of_mem_take h)), RVs_take _ (RVs_drop _ h)⟩, fun w'' => ?_⟩
   have hagg : (isAgg T).run P w'' = .ok true w'' := by
    unfold isAgg
    rw [Sem.run_bind, run_und ht w'']
    cases hd : ti.desc <;> simp_all [TypeDesc.row]
   simp [part, hagg, run_sizeOf ht w'']
  ·cases hr
 ·rename_i hrow
  obtain ⟨x, hx, hrx⟩ := RVs_get h hr
  refine ⟨x, hrx, fun w'' => ?_⟩
  have hagg : (isAgg T).run P w'' = .ok false w'' := by
   unfold isAgg
   rw [Sem.run_bind, run_und ht w'']
   cases hd : ti.desc <;> simp_all [TypeDesc.row]
  simp [part, hagg, hx]
theorem RD_lit {E : Env} {w : World} {v x : Value} (h : RV E w (.d (.lit v)) x) : x = v := h.1
theorem minV_cons {mx : Bool} {k : IntKind} {x : Int} {c : V} {r : List V} {v : V} (h : minV mx k x (c :: r) = some v) : ∃ y, c = .d (.lit (.int k y)) ∧ minV mx k (if mx then (if y > x then y else x) else (if y < x then y else x)) r = some v := by
 unfold minV at h
 split at h
 ·rename_i heq
  cases heq
 ·rename_i heq
  injection heq with h1 h2
  subst h1; subst h2
  split at h
  ·rename_i hk
   subst hk
   exact ⟨_, rfl, h⟩
  ·cases h
 ·cases h
theorem run_min {P : Program} {E : Env} {w : World} (mx : Bool) : ∀ (r : List V) (vs : List Value) (k : IntKind) (x : Int) (v : V), RVs E w r vs → minV mx k x r = some v → ∃ u, RV E w v u ∧ ∀ w', (vs.foldlM (if mx then Builtin.max2 else Builtin.min2) (.int k x)).run P w' = .ok u w'
 | [], vs, k, x, v, h, hv => by
  have : vs = [] := h
  subst this
  injection hv with hv
  subst hv
  exact ⟨_, ⟨rfl, rfl⟩, fun w' => rfl⟩
 | c :: r, vs, k, x, v, ⟨u, us, hvs, h1, h2⟩, hv => by
  subst hvs
  obtain ⟨y, rfl, hv2⟩ := minV_cons hv
  have hu := RD_lit h1
  subst hu
  obtain ⟨z, hz, hrun⟩ := run_min mx r us k _ v h2 hv2
  refine ⟨z, hz, fun w' => ?_⟩
  have := hrun w'
  cases mx <;> simpa [List.foldlM_cons, Builtin.min2, Builtin.max2] using this
theorem bounds_none {P : Program} {E : Env} {w w' : World} {ρ : Operand → Value} {ev : Operand → V} (hev : ∀ x, RV E w (ev x) (ρ x)) {lo hi : Option Operand} {b : Bool} {len cap h l : Nat} (hlc : len ≤ cap)
  (hh : bnd (hi.map ev) len len = some h) (hl : bnd (lo.map ev) 0 h = some l) : (Instr.sliceBounds b len cap (lo.map ρ) (hi.map ρ) none).run P w' = .ok (l, h, cap) w' ∧ l ≤ h ∧ h ≤ len := by
 have hlow : ∀ code, ((match lo.map ρ with | some v => Instr.sliceBound v h code | none => pure 0 : Sem Nat)).run P w' = .ok l w' ∧ l ≤ h := fun code => by
  cases lo with
  | none => have := bnd_none hl; subst this; exact ⟨rfl, Nat.zero_le _⟩
  | some o => exact bnd_some (P := P) (hev o) hl (Nat.le_refl _) code
 cases hi with
 | none =>
  have := bnd_none hh; subst this
  refine ⟨?_, (hlow .index).2, Nat.le_refl _⟩
  cases lo with
  | none => have := bnd_none hl; subst this; simp [Instr.sliceBounds]
  | some o => simp [Instr.sliceBounds, (bnd_some (P := P) (hev o) hl (Nat.le_refl _) _).1]
 | some o2 =>
  have h2 := fun code => bnd_some (P := P) (w' := w') (hev o2) hh hlc code
  refine ⟨?_, (hlow .index).2, (h2 .index).2⟩
  cases lo with
  | none => have := bnd_none hl; subst this; simp [Instr.sliceBounds, (h2 _).1]
  | some o => simp [Instr.sliceBounds, (h2 _).1, (bnd_some (P := P) (hev o) hl (Nat.le_refl _) _).1]
theorem bounds_some {P : Program} {E : Env} {w w' : World} {ρ : Operand → Value} {ev : Operand → V} (hev : ∀ x, RV E w (ev x) (ρ x)) {lo : Option Operand} {hi mx : Operand} {b : Bool} {len cap m h l : Nat} (hlc : len ≤ cap)
  (hm : bnd (some (ev mx)) 0 len = some m) (hh : bnd (some (ev hi)) 0 m = some h) (hl : bnd (lo.map ev) 0 h = some l) : (Instr.sliceBounds b len cap (lo.map ρ) (some (ρ hi)) (some (ρ mx))).run P w' = .ok (l, h, m) w' ∧ l ≤ h ∧ h ≤ m ∧ m ≤ len := by
 have h1 := fun code => bnd_some (P := P) (w' := w') (hev mx) hm hlc code
 have h2 := fun code => bnd_some (P := P) (w' := w') (hev hi) hh (Nat.le_refl _) code
 cases lo with
 | none =>
  have := bnd_none hl; subst this
  exact ⟨by simp [Instr.sliceBounds, (h1 _).1, (h2 _).1], Nat.zero_le _, (h2 .index).2, (h1 .index).2⟩
 | some o =>
  have h3 := fun code => bnd_some (P := P) (w' := w') (hev o) hl (Nat.le_refl _) code
  exact ⟨by simp [Instr.sliceBounds, (h1 _).1, (h2 _).1, (h3 _).1], (h3 .index).2, (h2 .index).2, (h1 .index).2⟩
theorem sliceAt_sound {P : Program} {S : St} {E : Env} {w : World} {ρ : Operand → Value} (ok : E.ok S.hp w) (hev : ∀ x, RV E w (S.ev x) (ρ x)) {T : TypeId} {x : Operand} {lo hi mx : Option Operand} {v : V} {ti : TI} (hT : tyOf P T = some ti)
  (h : (match ti.desc with
  | .string => match S.ev x with
   | .d (.lit (.string s)) => sliceStr s (lo.map S.ev) (hi.map S.ev) (mx.map S.ev)
   | _ => none
  | .slice e => (tyOf P e).bind fun te => match S.ev x with
   | .d (.sl es) => if es.all (fun e => e.length = te.size) then sliceSl es (lo.map S.ev) (hi.map S.ev) (mx.map S.ev) else none
   | .ref id off len => match S.hp id with
    | some (.arr _ n _) => if n = te.size then sliceRef id off len (lo.map S.ev) (hi.map S.ev) (mx.map S.ev) else none
    | _ => none
   | _ => none
  | _ => none) = some v) : ∃ u, RV E w v u ∧ ∀ w', (Instr.sliceAt T (ρ x) (lo.map ρ) (hi.map ρ) (mx.map ρ)).run P w' = .ok u w' := by
 have hx := hev x
 split at h
 ·rename_i hd
  split at h
  ·rename_i s hs
   rw [hs] at hx
   have hx := RD_lit hx
   unfold sliceStr at h
   split at h
   ·cases h
   ·rename_i hmx
    have hmx' : mx = none := by cases mx <;> simp_all
    subst hmx'
    cases hh : bnd (hi.map S.ev) s.size s.size with
    | none => simp [hh] at h
    | some hq =>
     cases hl : bnd (lo.map S.ev) 0 hq with
     | none => simp [hh, hl] at h
     | some lq =>
      simp only [hh, hl, Option.bind_some, Option.some.injEq] at h
      subst h
      refine ⟨_, ⟨rfl, rfl⟩, fun w' => ?_⟩
      have u1 := run_und hT w'
      rw [hd] at u1
      have hb := (bounds_none (P := P) (w' := w') hev (b := false) (Nat.le_refl _) hh hl).1
      simp [Instr.sliceAt, Instr.slice, u1, hx, hb]
  ·cases h
 ·rename_i e hd
  cases hE : tyOf P e with
  | none => simp [hE] at h
  | some te =>
   simp only [hE, Option.bind_some] at h
   split at h
   ·rename_i es hes
    rw [hes] at hx
    split at h
    ·rename_i hall
     have hsz : ∀ e ∈ es, e.length = te.size := fun e he => of_decide_eq_true (List.all_eq_true.1 hall e he)
     have hx' := hx
     obtain ⟨A, cap, hp, h1, h2, h3, h4⟩ := hx
     rw [hp] at hx'
     unfold sliceSl at h
     cases mx with
     | none =>
      simp only [Option.map_none] at h
      cases hh : bnd (hi.map S.ev) es.length es.length with
      | none => simp [hh] at h
      | some hq =>
       cases hl : bnd (lo.map S.ev) 0 hq with
       | none => simp [hh, hl] at h
       | some lq =>
        simp only [hh, hl, Option.bind_some, Option.some.injEq] at h
        subst h
        obtain ⟨_, hb1, hb2⟩ := bounds_none (P := P) (w' := w) hev (b := true) h1 hh hl
        refine ⟨_, sl_part hx' hsz hb1 hb2 (Nat.le_trans hb2 h1) (Nat.le_refl cap), fun w' => ?_⟩
        have u1 := run_und hT w'
        rw [hd] at u1
        have hb := (bounds_none (P := P) (w' := w') hev (b := true) h1 hh hl).1
        simp [Instr.sliceAt, Instr.slice, u1, hp, hb, run_sizeOf hE w']
     | some m =>
      cases hi with
      | none => simp at h
      | some hio =>
       simp only [Option.map_some, Option.isNone_some, Bool.false_eq_true, if_false] at h
       cases hm : bnd (some (S.ev m)) 0 es.length with
       | none => simp [hm] at h
       | some mq =>
        cases hh : bnd (some (S.ev hio)) 0 mq with
        | none => simp [hm, hh] at h
        | some hq =>
         cases hl : bnd (lo.map S.ev) 0 hq with
         | none => simp [hm, hh, hl] at h
         | some lq =>
          simp only [hm, hh, hl, Option.bind_some] at h
          obtain ⟨_, hb1, hb2, hb3⟩ := bounds_some (P := P) (w' := w) hev (b := true) h1 hm hh hl
          have hpart := sl_part hx' hsz hb1 (Nat.le_trans hb2 hb3) hb2 (Nat.le_trans hb3 h1)
          have hlen : ((es.take hq).drop lq).length = hq - lq := by rw [List.length_drop, List.length_take]; omega
          have hrun : ∀ w', (Instr.sliceAt T (ρ x) (lo.map ρ) (some (ρ hio)) (some (ρ m))).run P w' = .ok (.slice (if mq = lq then A else A.map (·.add (lq * te.size))) (hq - lq) (mq - lq)) w' := fun w' => by
           have u1 := run_und hT w'
           rw [hd] at u1
           have hb := (bounds_some (P := P) (w' := w') hev (b := true) h1 hm hh hl).1
           simp [Instr.sliceAt, Instr.slice, u1, hp, hb, run_sizeOf hE w']
          split at h
          ·rename_i hhm
           injection h with h
           subst h
           exact ⟨_, ⟨hpart, (if mq = lq then A else A.map (·.add (lq * te.size))), by rw [hlen, hhm]⟩, hrun⟩
          ·injection h with h
           subst h
           exact ⟨_, hpart, hrun⟩
    ·cases h
   ·rename_i id off len hes
    rw [hes] at hx
    split at h
    ·rename_i T' n es hH
     split at h
     ·rename_i hn
      unfold sliceRef at h
      split at h
      ·cases h
      ·rename_i hmx
       have hmx' : mx = none := by cases mx <;> simp_all
       subst hmx'
       have hnn := (ok.hold _ _ hH).1
       have key : ∃ A cap, ρ x = .slice A len cap ∧ len ≤ cap ∧ ∀ l h, l ≤ h → h ≤ len → RV E w (.ref id (off + l) (h - l)) (.slice (if cap = l then A else A.map (·.add (l * te.size))) (h - l) (cap - l)) := by
        rcases hx with ⟨h1, h2, h3, h4⟩ | ⟨h1, h2, a, h4, h5⟩
        ·refine ⟨none, 0, by rw [h4, h3], by omega, fun l h hl hh => .inl ⟨h1, by omega, by omega, ?_⟩⟩
         have : l = 0 := by omega
         subst this
         have : h = 0 := by omega
         subst this
         simp
        ·refine ⟨_, _, h4, by omega, fun l h hl hh => .inr ⟨h1, by omega, ?_⟩⟩
         by_cases hc : (E.loc id).cap - off = l
         ·refine ⟨a, by rw [if_pos hc]; congr 1; omega, fun hlt => ?_⟩
          have hl0 : l = 0 := by omega
          have ho0 : off = 0 := by omega
          subst hl0; subst ho0
          exact h5 (.inl rfl)
         ·refine ⟨a + l * te.size, ?_, fun hlt => ?_⟩
          ·rw [if_neg hc]
           simp only [Option.map_some, add_addr]
           congr 1; omega
          ·by_cases ho : off < (E.loc id).cap
           ·rw [h5 (.inr ho), hnn, hn, Nat.add_mul, Nat.add_assoc]
           ·have ho0 : off = 0 := by omega
            subst ho0
            rw [h5 (.inl rfl), hnn, hn, Nat.add_mul, Nat.add_assoc]
       obtain ⟨A, cap, hp, hlc, hk⟩ := key
       cases hh : bnd (hi.map S.ev) len len with
       | none => simp [hh] at h
       | some hq =>
        cases hl : bnd (lo.map S.ev) 0 hq with
        | none => simp [hh, hl] at h
        | some lq =>
         simp only [hh, hl, Option.bind_some, Option.some.injEq] at h
         subst h
         obtain ⟨_, hb1, hb2⟩ := bounds_none (P := P) (w' := w) hev (b := true) hlc hh hl
         refine ⟨_, hk lq hq hb1 hb2, fun w' => ?_⟩
         have u1 := run_und hT w'
         rw [hd] at u1
         have hb := (bounds_none (P := P) (w' := w') hev (b := true) hlc hh hl).1
         simp [Instr.sliceAt, Instr.slice, u1, hp, hb, run_sizeOf hE w']
     ·cases h
    ·cases h
   ·cases h
 ·cases h
def isLoad : Op → Bool
 | .load _ _ => true
 | _ => false
set_option maxHeartbeats 1000000 in
theorem pureV_any {P : Program} {S : St} {o : Op} {v : V} (h : pureV (tyOf P) S o = some v) : ∀ (E : Env) (w : World) (ρ : Operand → Value) (oo : Oper), oo.op = o → E.ok S.hp w → (∀ x, RV E w (S.ev x) (ρ x)) → ∃ x, RV E w v x ∧ ∀ w', (isLoad o = true → Grow w w') → (execOp ρ oo).run P w' = .ok (.value x) w' := by
 intro E w ρ oo hoo ok hev
 unfold execOp
 rw [hoo]
 unfold pureV at h
 split at h
 all_goals dsimp only
 ·injection h with h; subst h
  exact ⟨_, hev _, fun w' _ => rfl⟩
 ·injection h with h; subst h
  exact ⟨_, hev _, fun w' _ => rfl⟩
 ·-- pick
  rename_i c a b
  split at h
  ·rename_i t ht
   injection h with h; subst h
   have hc := hev c
   rw [ht] at hc
   have hc := RD_lit hc
   refine ⟨if t then ρ a else ρ b, ?_, fun w' _ => ?_⟩
   ·cases t
    ·exact hev b
    ·exact hev a
   ·simp [hc, asBool]
  ·cases h
 ·-- load
  rename_i T a
  cases hT : tyOf P T with
  | none => simp [hT] at h
  | some ti =>
   cases hc : cellsAt S.hp (S.ev a) with
   | none => simp [hT, hc] at h
   | some cs =>
    simp only [hT, hc, Option.bind_some] at h
    obtain ⟨b, o, vs, hp, h1, h2, h3, h4⟩ := cellsAt_sound ok (hev a) hc
    obtain ⟨x, hx, hrun⟩ := run_loadAt (P := P) hT h1 h2 h3 h
    refine ⟨x, hx, fun w' hg => ?_⟩
    simp only [hp, Sem.run_bind, hrun w' (rangeAt_block h2 ((hg rfl).block _ h4)), Result.andThen_ok, Sem.run_pure]
 ·-- binOp
  rename_i op T x y yt
  have hx := hev x
  have hy := hev y
  split at h
  ·rename_i a b ha hb
   rw [ha] at hx; rw [hb] at hy
   have hx := RD_lit hx
   have hy := RD_lit hy
   cases hT : tyOf P T with
   | none => simp [hT] at h
   | some ti =>
    simp only [hT, Option.bind_some] at h
    split at h
    ·rename_i hd
     injection h with h; subst h
     refine ⟨_, ⟨rfl, rfl⟩, fun w' _ => ?_⟩
     have := (eqBool_sound (P := P) (w' := w') hT hd a b x y).1
     rw [hx, hy]
     simp only [Sem.run_bind] at this ⊢
     simp [this]
    ·rename_i hd
     injection h with h; subst h
     refine ⟨_, ⟨rfl, rfl⟩, fun w' _ => ?_⟩
     have := (eqBool_sound (P := P) (w' := w') hT hd a b x y).2
     rw [hx, hy]
     simp only [Sem.run_bind] at this ⊢
     simp [this]
    ·cases h
  ·rename_i b ha hb
   split at h
   case isFalse => cases h
   rename_i hcy
   rw [ha] at hx; rw [hb] at hy
   have hy := RD_lit hy
   obtain ⟨yv, rfl⟩ : ∃ yv, y = .const yv := by cases y with | const v => exact ⟨v, rfl⟩ | _ => cases hcy
   cases hT : tyOf P T with
   | none => simp [hT] at h
   | some ti =>
    simp only [hT, Option.bind_some] at h
    split at h
    ·rename_i ms hd
     injection h with h; subst h
     refine ⟨_, ⟨rfl, rfl⟩, fun w' _ => ?_⟩
     have hu := run_und hT w'
     rw [hd] at hu
     rw [hy]
     cases b with
     | true =>
      obtain ⟨t, v, hv⟩ := hx
      have := (run_eq_of (P := P) (T := T) (x := .iface t v) (y := .nilIface) (r := false) (w := w') (equal_of fun d => by simp [Op.equalIn, hu]) x (.const yv) ⟨rfl, rfl⟩ ⟨rfl, rfl⟩).1
      rw [hv]
      simp only [Sem.run_bind] at this ⊢
      simp [this]
     | false =>
      have hv : _ = _ := hx
      have := (run_eq_of (P := P) (T := T) (x := .nilIface) (y := .nilIface) (r := true) (w := w') (equal_of fun d => by simp [Op.equalIn, hu]) x (.const yv) ⟨by simp [eqGuard], by simp [eqGuard]⟩ ⟨rfl, rfl⟩).1
      rw [hv]
      simp only [Sem.run_bind] at this ⊢
      simp [this]
    ·rename_i ms hd
     injection h with h; subst h
     refine ⟨_, ⟨rfl, rfl⟩, fun w' _ => ?_⟩
     have hu := run_und hT w'
     rw [hd] at hu
     rw [hy]
     cases b with
     | true =>
      obtain ⟨t, v, hv⟩ := hx
      have := (run_eq_of (P := P) (T := T) (x := .iface t v) (y := .nilIface) (r := false) (w := w') (equal_of fun d => by simp [Op.equalIn, hu]) x (.const yv) ⟨rfl, rfl⟩ ⟨rfl, rfl⟩).2
      rw [hv]
      simp only [Sem.run_bind] at this ⊢
      simp [this]
     | false =>
      have hv : _ = _ := hx
      have := (run_eq_of (P := P) (T := T) (x := .nilIface) (y := .nilIface) (r := true) (w := w') (equal_of fun d => by simp [Op.equalIn, hu]) x (.const yv) ⟨by simp [eqGuard], by simp [eqGuard]⟩ ⟨rfl, rfl⟩).2
      rw [hv]
      simp only [Sem.run_bind] at this ⊢
      simp [this]
    ·cases h
  ·rename_i a b _ ha hb
   have hx0 := hx
   rw [ha] at hx hx0; rw [hb] at hy
   have hx := RD_lit hx
   have hy := RD_lit hy
   split at h
   ·rename_i r hr
    injection h with h; subst h
    refine ⟨r, ⟨rfl, (litOp_sound (P := P) (T := T) (xo := x) (yo := y) hr w).2⟩, fun w' _ => ?_⟩
    have := (litOp_sound (P := P) (T := T) (xo := x) (yo := y) hr w').1
    rw [hx, hy]
    simp only [Sem.run_bind] at this ⊢
    simp [this]
   ·cases hT : tyOf P T with
    | none => simp [hT] at h
    | some ti =>
     simp only [hT, Option.bind_some] at h
     split at h
     ·cases hq : eqNil ti.desc (.d (.lit a)) b with
      | none => simp [hq] at h
      | some r =>
       simp only [hq, Option.map_some, Option.some.injEq] at h
       subst h
       refine ⟨_, ⟨rfl, rfl⟩, fun w' _ => ?_⟩
       have := (eqNil_sound (P := P) (w' := w') hT hx0 hq x y).1
       rw [hy]
       simp only [Sem.run_bind] at this ⊢
       simp [this]
     ·cases hq : eqNil ti.desc (.d (.lit a)) b with
      | none => simp [hq] at h
      | some r =>
       simp only [hq, Option.map_some, Option.some.injEq] at h
       subst h
       refine ⟨_, ⟨rfl, rfl⟩, fun w' _ => ?_⟩
       have := (eqNil_sound (P := P) (w' := w') hT hx0 hq x y).2
       rw [hy]
       simp only [Sem.run_bind] at this ⊢
       simp [this]
     ·cases h
  ·rename_i b hb _ _ _
   rw [hb] at hy
   have hy := RD_lit hy
   cases hT : tyOf P T with
   | none => simp [hT] at h
   | some ti =>
    simp only [hT, Option.bind_some] at h
    split at h
    ·cases hq : eqNil ti.desc (S.ev x) b with
     | none => simp [hq] at h
     | some r =>
      simp only [hq, Option.map_some, Option.some.injEq] at h
      subst h
      refine ⟨_, ⟨rfl, rfl⟩, fun w' _ => ?_⟩
      have := (eqNil_sound (P := P) (w' := w') hT hx hq x y).1
      rw [hy]
      simp only [Sem.run_bind] at this ⊢
      simp [this]
    ·cases hq : eqNil ti.desc (S.ev x) b with
     | none => simp [hq] at h
     | some r =>
      simp only [hq, Option.map_some, Option.some.injEq] at h
      subst h
      refine ⟨_, ⟨rfl, rfl⟩, fun w' _ => ?_⟩
      have := (eqNil_sound (P := P) (w' := w') hT hx hq x y).2
      rw [hy]
      simp only [Sem.run_bind] at this ⊢
      simp [this]
    ·cases h
  ·cases h
 ·-- unOp
  rename_i op yt x
  have hx := hev x
  split at h
  ·rename_i b hb
   rw [hb] at hx
   have hx := RD_lit hx
   injection h with h; subst h
   exact ⟨_, ⟨rfl, rfl⟩, fun w' _ => by simp [hx, Op.unary]⟩
  ·rename_i k n hb
   rw [hb] at hx
   have hx := RD_lit hx
   injection h with h; subst h
   exact ⟨_, ⟨rfl, rfl⟩, fun w' _ => by simp [hx, Op.unary, Op.intArith]⟩
  ·cases h
 ·-- convert
  rename_i src dst x
  have hx := hev x
  cases hs : tyOf P src with
  | none => simp [hs] at h
  | some ts =>
   cases hd : tyOf P dst with
   | none => simp [hs, hd] at h
   | some td =>
    simp only [hs, hd, Option.bind_some] at h
    split at h
    ·rename_i k1 k k2 n h1 h2 h3
     rw [h3] at hx
     have hx := RD_lit hx
     injection h with h; subst h
     refine ⟨_, ⟨rfl, rfl⟩, fun w' _ => ?_⟩
     have u1 := run_und hs w'
     have u2 := run_und hd w'
     rw [h1] at u1; rw [h2] at u2
     simp [hx, convert, u1, u2, Conv.intToInt]
    ·rename_i s h1 h2 h3
     rw [h3] at hx
     have hx := RD_lit hx
     injection h with h; subst h
     refine ⟨_, ⟨rfl, rfl⟩, fun w' _ => ?_⟩
     have u1 := run_und hs w'
     have u2 := run_und hd w'
     rw [h1] at u1; rw [h2] at u2
     simp [hx, convert, u1, u2]
    ·cases h
 ·-- fieldAddr
  rename_i T x f
  cases hT : tyOf P T with
  | none => simp [hT] at h
  | some ti =>
   simp only [hT, Option.bind_some] at h
   split at h
   ·rename_i fs hd
    split at h
    ·rename_i fd hf
     cases hF : tyOf P fd.type with
     | none => simp [hF] at h
     | some tf =>
      simp only [hF, Option.bind_some] at h
      split at h
      ·cases h
      ·rename_i hz
       obtain ⟨b, o, hp, hr⟩ := offP_sound (hev x) h
       refine ⟨_, hr, fun w' _ => ?_⟩
       have u1 := run_und hT w'
       rw [hd] at u1
       simp [hp, Instr.fieldAt, u1, hf, Instr.sureAddr, fieldPlace, run_sizeOf hF w', hz, add_addr]
    ·cases h
   ·cases h
 ·-- field
  rename_i T x f
  cases hT : tyOf P T with
  | none => simp [hT] at h
  | some ti =>
   simp only [hT, Option.bind_some] at h
   split at h
   ·rename_i fs hd
    split at h
    ·rename_i fd cs hf hx
     have hv := hev x
     rw [hx] at hv
     obtain ⟨vs, hp, hc, hvs⟩ := hv
     cases hF : tyOf P fd.type with
     | none => simp [hF] at h
     | some tf =>
      simp only [hF, Option.bind_some] at h
      obtain ⟨u, hu, hrun⟩ := run_part (P := P) (_w' := w) hF hvs hc h
      refine ⟨u, hu, fun w' _ => ?_⟩
      have u1 := run_und hT w'
      rw [hd] at u1
      simp [hp, Instr.field, u1, hf, asAgg, hrun w']
    ·cases h
   ·cases h
 ·-- indexAddr
  rename_i T x i
  have hi := hev i
  cases hT : tyOf P T with
  | none => simp [hT] at h
  | some ti =>
   simp only [hT, Option.bind_some] at h
   split at h
   ·rename_i e k n hd hin
    rw [hin] at hi
    have hi := RD_lit hi
    cases hE : tyOf P e with
    | none => simp [hE] at h
    | some te =>
     simp only [hE, Option.bind_some] at h
     obtain ⟨b, o, len, cap, hp, h0, h1, hr⟩ := idxS_sound ok (hev x) h
     refine ⟨_, hr, fun w' _ => ?_⟩
     have u1 := run_und hT w'
     rw [hd] at u1
     simp [hp, hi, Instr.indexAt, asIntOf, u1, h0, h1, run_sizeOf hE w', add_addr]
   ·rename_i len e k n hd hin
    rw [hin] at hi
    have hi := RD_lit hi
    cases hE : tyOf P e with
    | none => simp [hE] at h
    | some te =>
     simp only [hE, Option.bind_some] at h
     split at h
     ·rename_i hb
      obtain ⟨b, o, hp, hr⟩ := offP_sound (hev x) h
      refine ⟨_, hr, fun w' _ => ?_⟩
      have u1 := run_und hT w'
      rw [hd] at u1
      simp [hp, hi, Instr.indexAt, asIntOf, Instr.sureAddr, u1, hb, run_sizeOf hE w', add_addr]
     ·cases h
   ·cases h
 ·-- index
  rename_i T x i
  have hi := hev i
  have hx := hev x
  cases hT : tyOf P T with
  | none => simp [hT] at h
  | some ti =>
   simp only [hT, Option.bind_some] at h
   split at h
   ·rename_i s k n hd hs hin
    rw [hin] at hi; rw [hs] at hx
    have hi := RD_lit hi
    have hx := RD_lit hx
    split at h
    ·rename_i h0
     split at h
     ·rename_i b hb
      injection h with h; subst h
      refine ⟨_, ⟨rfl, rfl⟩, fun w' _ => ?_⟩
      have u1 := run_und hT w'
      rw [hd] at u1
      simp [hx, hi, Instr.index, asIntOf, u1, h0, hb]
     ·cases h
    ·cases h
   ·rename_i len e cs k n hd hs hin
    rw [hin] at hi; rw [hs] at hx
    have hi := RD_lit hi
    obtain ⟨vs, hp, hc, hvs⟩ := hx
    cases hE : tyOf P e with
    | none => simp [hE] at h
    | some te =>
     simp only [hE, Option.bind_some] at h
     split at h
     ·rename_i hb
      obtain ⟨u, hu, hrun⟩ := run_part (P := P) (_w' := w) hE hvs hc h
      refine ⟨u, hu, fun w' _ => ?_⟩
      have u1 := run_und hT w'
      rw [hd] at u1
      simp [hp, hi, Instr.index, asIntOf, u1, hb, run_sizeOf hE w', hrun w']
     ·cases h
   ·cases h
 ·-- extract
  rename_i x i
  have hx := hev x
  split at h
  ·rename_i cs hc
   rw [hc] at hx
   obtain ⟨vs, hp, hvs⟩ := hx
   obtain ⟨u, hu, hru⟩ := RVs_get hvs h
   exact ⟨u, hru, fun w' _ => by simp [hp, Instr.extract, hu]⟩
  ·cases h
 ·-- slice
  rename_i T x lo hi mx
  cases hT : tyOf P T with
  | none => simp [hT] at h
  | some ti =>
   simp only [hT, Option.bind_some] at h
   obtain ⟨u, hu, hrun⟩ := sliceAt_sound ok hev hT h
   exact ⟨u, hu, fun w' _ => by simp [hrun w']⟩
 ·-- build
  rename_i T parts
  cases hT : tyOf P T with
  | none => simp [hT] at h
  | some ti =>
   simp only [hT, Option.bind_some] at h
   obtain ⟨hu, it, hit, hs, hb, hz⟩ := tyOf_spec hT
   have hm : (parts.map fun x => match x with | (i, x) => (i, ρ x)).toList = parts.toList.map fun p => (p.1, ρ p.2) := by simp
   unfold buildV at h
   split at h
   ·rename_i fs hd
    cases hpl : placesOf (tyOf P) fs.toList with
    | none => simp [hpl] at h
    | some places =>
     simp only [hpl, Option.bind_some] at h
     split at h
     ·rename_i hpz
      cases hf : fillV (fun x => places[x]?) (ti.zero.cells.toList.map fun c => V.d (.lit c)) (parts.toList.map fun p => (p.1, S.ev p.2)) with
      | none => simp [hf] at h
      | some r =>
       simp only [hf, Option.map_some, Option.some.injEq] at h
       subst h
       obtain ⟨c', h1, h2, h3⟩ := fillV_sound hev parts.toList _ ti.zero.cells r (RVs_lits hpz) (fun x hx => by obtain ⟨y, _, rfl⟩ := List.mem_map.1 hx; rfl) hf
       refine ⟨.agg c', ⟨c'.toList, by simp, h3, h2⟩, fun w' _ => ?_⟩
       have hbt : P.built T (parts.map fun x => match x with | (i, x) => (i, ρ x)).toList = some c' := by
        unfold Program.built
        rw [hit, hu, hd]
        simp only [hz, places_info hpl]
        rw [hm]
        simpa using h1
       simp only [Sem.run_bind, run_build w' T _ _ hbt, Result.andThen_ok, Sem.run_pure]
     ·cases h
   ·rename_i n e hd
    cases hE : tyOf P e with
    | none => simp [hE] at h
    | some te =>
     simp only [hE, Option.bind_some] at h
     obtain ⟨_, ie, hie, hes, _⟩ := tyOf_spec hE
     split at h
     ·rename_i hpz
      cases hf : fillV (fun i => some (i * te.size, te.size)) (ti.zero.cells.toList.map fun c => V.d (.lit c)) (parts.toList.map fun p => (p.1, S.ev p.2)) with
      | none => simp [hf] at h
      | some r =>
       simp only [hf, Option.map_some, Option.some.injEq] at h
       subst h
       obtain ⟨c', h1, h2, h3⟩ := fillV_sound hev parts.toList _ ti.zero.cells r (RVs_lits hpz) (fun x hx => by obtain ⟨y, _, rfl⟩ := List.mem_map.1 hx; rfl) hf
       refine ⟨.agg c', ⟨c'.toList, by simp, h3, h2⟩, fun w' _ => ?_⟩
       have hbt : P.built T (parts.map fun x => match x with | (i, x) => (i, ρ x)).toList = some c' := by
        unfold Program.built
        rw [hit, hu, hd]
        simp only [hz, hie]
        rw [hm, hes]
        exact h1
       simp only [Sem.run_bind, run_build w' T _ _ hbt, Result.andThen_ok, Sem.run_pure]
     ·cases h
   ·cases h
 ·-- makeFunc
  rename_i f first caps
  split at h
  ·split at h
   ·rename_i hf
    injection h with h; subst h
    have hf' : first = #[] := by simpa using hf
    subst hf'
    have key : ∀ l : List Operand, RVs E w (l.map S.ev) (l.map ρ) := by
     intro l
     induction l with
     | nil => exact rfl
     | cons x l ih => exact ⟨_, _, rfl, hev x, ih⟩
    refine ⟨.func (.func _) #[] (caps.map ρ), ⟨caps.toList.map ρ, by rw [fnVal_func, ← Array.toList_map], key _⟩, fun w' _ => by simp [Instr.makeFunc]⟩
   ·cases h
  ·cases h
 ·-- typeAssert
  rename_i x xt T ok
  have hx := hev x
  split at h
  ·cases h
  ·rename_i hok
   cases hT : tyOf P T with
   | none => simp [hT] at h
   | some ti =>
    simp only [hT, Option.bind_some] at h
    split at h
    ·cases h
    ·rename_i t nm v0 hd hni
     split at h
     ·rename_i ht
      injection h with h; subst h; subst ht
      rw [hd] at hx
      obtain ⟨vs, hv, v1, r, rfl, h1, rfl⟩ := hx
      refine ⟨v1, h1, fun w' _ => ?_⟩
      have u1 := run_und hT w'
      have hok' : ok = false := by simpa using hok
      subst hok'
      rw [hv]
      cases hdd : ti.desc <;> first | (exact absurd hdd (hni _)) | (rw [hdd] at u1; simp [Instr.typeAssert, u1, fnVal])
     ·cases h
    ·cases h
 ·-- makeInterface
  rename_i T x
  have hx := hev x
  cases hT : tyOf P T with
  | none => simp [hT] at h
  | some ti =>
   simp only [hT, Option.bind_some] at h
   split at h
   ·cases h
   ·rename_i d hd hni
    injection h with h; subst h
    rw [hd] at hx
    refine ⟨.iface T (ρ x), ⟨_, rfl, hx⟩, fun w' _ => ?_⟩
    have u1 := run_und hT w'
    cases hdd : ti.desc <;> first | (exact absurd hdd (hni _)) | (rw [hdd] at u1; simp [Instr.makeInterface, u1])
   ·rename_i id i off hd hni
    injection h with h; subst h
    rw [hd] at hx
    refine ⟨.iface T (ρ x), ⟨[ρ x], rfl, _, _, rfl, hx, rfl⟩, fun w' _ => ?_⟩
    have u1 := run_und hT w'
    cases hdd : ti.desc <;> first | (exact absurd hdd (hni _)) | (rw [hdd] at u1; simp [Instr.makeInterface, u1])
   ·rename_i cs hd hni
    injection h with h; subst h
    rw [hd] at hx
    refine ⟨.iface T (ρ x), ⟨[ρ x], rfl, _, _, rfl, hx, rfl⟩, fun w' _ => ?_⟩
    have u1 := run_und hT w'
    cases hdd : ti.desc <;> first | (exact absurd hdd (hni _)) | (rw [hdd] at u1; simp [Instr.makeInterface, u1])
   ·cases h
 ·-- nilCheck
  rename_i x
  have hx := hev x
  split at h
  ·rename_i id i off hd
   injection h with h; subst h
   rw [hd] at hx
   obtain ⟨hn, hp⟩ := hx
   exact ⟨_, ⟨hn, rfl⟩, fun w' _ => by simp [hp]⟩
  ·rename_i cs hd
   injection h with h; subst h
   rw [hd] at hx
   obtain ⟨b, o, vs, hp, hr⟩ := hx
   exact ⟨_, ⟨b, o, vs, rfl, hr⟩, fun w' _ => by simp [hp]⟩
  ·rename_i f caps hd
   injection h with h; subst h
   rw [hd] at hx
   obtain ⟨vs, hp, hr⟩ := hx
   exact ⟨_, ⟨vs, rfl, hr⟩, fun w' _ => by simp [hp]⟩
  ·cases h
 ·-- call
  rename_i c
  have hmap : ∀ l : List Operand, RVs E w (l.map S.ev) (l.map ρ) := by
   intro l
   induction l with
   | nil => exact rfl
   | cons x l ih => exact ⟨_, _, rfl, hev x, ih⟩
  have hmin : ∀ mx (v : V), minL mx (c.args.toList.map S.ev) = some v → ∃ u, RV E w v u ∧ ∀ w', ((if mx then Builtin.max_ else Builtin.min_) c.argTypes oo.type (c.args.map ρ)).run P w' = .ok u w' := by
   intro mx v h
   have hm := hmap c.args.toList
   unfold minL at h
   split at h
   ·rename_i k x r hr
    rw [hr] at hm
    obtain ⟨u0, us, h1, h2, h3⟩ := hm
    have h2 := RD_lit h2
    subst h2
    obtain ⟨u, hu, hrun⟩ := run_min (P := P) mx r us k x v h3 h
    refine ⟨u, hu, fun w' => ?_⟩
    have e : (c.args.map ρ).toList = .int k x :: us := by rw [Array.toList_map, h1]
    have := hrun w'
    cases mx <;> simp only [Builtin.max_, Builtin.min_, e, if_true, if_false, Bool.false_eq_true] at this ⊢ <;> exact this
   ·cases h
  split at h
  ·rename_i hcal
   split at h
   ·rename_i x T hargs htys
    have ha : c.args = #[x] := Array.ext' hargs
    have hty : c.argTypes = #[T] := Array.ext' htys
    have hx := hev x
    cases hT : tyOf P T with
    | none => simp [hT] at h
    | some ti =>
     simp only [hT, Option.bind_some] at h
     split at h
     ·rename_i e hd
      cases hl : lenV (S.ev x) with
      | none => simp [hl] at h
      | some n =>
       simp only [hl, Option.map_some, Option.some.injEq] at h
       subst h
       obtain ⟨A, cp, hp⟩ := lenV_sound hx hl
       refine ⟨_, ⟨rfl, rfl⟩, fun w' _ => ?_⟩
       have u1 := run_und hT w'
       rw [hd] at u1
       simp [resolve, hcal, ha, hty, invoke, builtin, Builtin.len_, u1, hp, goInt]
     ·rename_i hd
      split at h
      ·rename_i s hs
       rw [hs] at hx
       have hx := RD_lit hx
       injection h with h; subst h
       refine ⟨_, ⟨rfl, rfl⟩, fun w' _ => ?_⟩
       have u1 := run_und hT w'
       rw [hd] at u1
       simp [resolve, hcal, ha, hty, invoke, builtin, Builtin.len_, u1, hx, goInt]
      ·cases h
     ·rename_i n e hd
      injection h with h; subst h
      refine ⟨_, ⟨rfl, rfl⟩, fun w' _ => ?_⟩
      have u1 := run_und hT w'
      rw [hd] at u1
      simp [resolve, hcal, ha, hty, invoke, builtin, Builtin.len_, u1, goInt]
     ·cases h
   ·cases h
  ·rename_i hcal
   obtain ⟨u, hu, hrun⟩ := hmin false v h
   refine ⟨u, hu, fun w' _ => ?_⟩
   have := hrun w'
   simp only [Bool.false_eq_true, if_false] at this
   simp [resolve, hcal, invoke, builtin, this]
  ·rename_i hcal
   obtain ⟨u, hu, hrun⟩ := hmin true v h
   refine ⟨u, hu, fun w' _ => ?_⟩
   have := hrun w'
   simp only [if_true] at this
   simp [resolve, hcal, invoke, builtin, this]
  ·cases h
 ·cases h
theorem pureV_sound {P : Program} {S : St} {o : Op} {v : V} (h : pureV (tyOf P) S o = some v) : Pure P o S v := fun E w ρ oo hoo ok hev =>
 let ⟨x, h1, h2⟩ := pureV_any h E w ρ oo hoo ok hev
 ⟨x, h1, fun w' hg => h2 w' fun _ => hg⟩
end Go.Ab
end
section
namespace Go.Ab
open Go.RowKit
def wantedV (ops : Array Oper) (S : St) (o : Oper) : Option Bool :=
 match o.guard with
 | none => some true
 | some (j, want) => match (ops[j]?).bind (·.dst) with
  | some t => match S.sl t with
   | .d (.lit (.bool b)) => some (b == want)
   | .tup [] => some false
   | _ => none
  | none => none
theorem wantedV_sound {fx : Fx} {S : St} {E : Env} {a : Act} {w : World} (m : Mod fx S E a w) {ops : Array Oper} {o : Oper} {b : Bool} (h : wantedV ops S o = some b) : Region.wanted o (yielded ops a.tmps) = b := by
 unfold wantedV at h
 unfold Region.wanted
 split at h
 ·rename_i hg
  injection h with h; subst h
  simp [hg]
 ·rename_i j want hg
  simp only [hg]
  split at h
  ·rename_i t ht
   have hs := m.slots t
   split at h
   ·rename_i c hc
    injection h with h; subst h
    rw [hc] at hs
    have hs := RD_lit hs
    have : a.tmps[t]? = some (.bool c) := by
     rw [Array.getD_eq_getD_getElem?] at hs
     cases hq : a.tmps[t]? with
     | none => rw [hq] at hs; cases hs
     | some v => rw [hq] at hs; simp at hs; rw [hs]
    simp [yielded, ht, this]
   ·rename_i hc
    injection h with h; subst h
    rw [hc] at hs
    obtain ⟨vs, h1, h2⟩ := hs
    have h2 : vs = [] := h2
    subst h2
    rw [Array.getD_eq_getD_getElem?] at h1
    cases hq : a.tmps[t]? with
    | none => simp [yielded, ht, hq]
    | some v => rw [hq] at h1; simp at h1; subst h1; simp [yielded, ht, hq]
   ·cases h
  ·cases h
def Chain (q : Bool) (P : Program) (ops : Array Oper) (l : List Oper) (S : St) (Q : St → Prop) : Prop :=
 match q with
 | false => ∀ fx a w (Q' : Exit → Act → World → Prop), Models fx S a w → (∀ S' a' w', Q S' → Models fx S' a' w' → Q' .normal a' w') → wpList P ops Q' l a w
 | true => ∀ fx a w (Q' : Act → Prop), Models fx S a w → (∀ S' a', Q S' → Models fx S' a' w → Q' a') → wpQuiet P ops (Grow w) Q' l a
theorem Chain.nil {q : Bool} {P : Program} {ops : Array Oper} {S : St} {Q : St → Prop} (h : Q S) : Chain q P ops [] S Q := by
 cases q with
 | false => exact fun fx a w Q' m hq => hq _ _ _ h m
 | true => exact fun fx a w Q' m hq => hq _ _ h m
theorem Chain.skip {q : Bool} {P : Program} {ops : Array Oper} {o : Oper} {l : List Oper} {S : St} {Q : St → Prop} (hw : wantedV ops S o = some false) (h : Chain q P ops l (S.put o.dst (.tup [])) Q) : Chain q P ops (o :: l) S Q := by
 have hu : ∀ E w, RV E w (.tup []) undef := fun E w => ⟨[], rfl, rfl⟩
 cases q with
 | false =>
  intro fx a w Q' ⟨E, m⟩ hq
  have hw' := wantedV_sound m hw
  unfold wpList
  rw [if_neg (by rw [hw']; decide)]
  exact h fx _ w Q' ⟨E, m.put o.dst (hu E w)⟩ hq
 | true =>
  intro fx a w Q' ⟨E, m⟩ hq
  have hw' := wantedV_sound m hw
  unfold wpQuiet
  rw [if_neg (by rw [hw']; decide)]
  exact h fx _ w Q' ⟨E, m.put o.dst (hu E w)⟩ hq
theorem Chain.pure {q : Bool} {P : Program} {ops : Array Oper} {o : Oper} {l : List Oper} {S : St} {Q : St → Prop} (hw : wantedV ops S o = some true) {v : V} (hv : pureV (tyOf P) S o.op = some v) (h : Chain q P ops l (S.put o.dst v) Q) : Chain q P ops (o :: l) S Q := by
 have hp := pureV_sound hv
 cases q with
 | false =>
  intro fx a w Q' ⟨E, m⟩ hq
  have hw' := wantedV_sound m hw
  obtain ⟨x, hx, hrun⟩ := hp E w a.eval o rfl m.ok m.ev
  unfold wpList
  rw [if_pos hw']
  refine .inl ?_
  unfold Oper.wp
  rw [hrun w (Below.refl _ _)]
  exact h fx _ w Q' ⟨E, m.put o.dst hx⟩ hq
 | true =>
  intro fx a w Q' ⟨E, m⟩ hq
  have hw' := wantedV_sound m hw
  obtain ⟨x, hx, hrun⟩ := hp E w a.eval o rfl m.ok m.ev
  unfold wpQuiet
  rw [if_pos hw']
  refine ⟨x, fun w' hg => ?_, h fx _ w Q' ⟨E, m.put o.dst hx⟩ hq⟩
  unfold Oper.quietAt
  rw [hrun w' hg]
  exact ⟨rfl, rfl⟩
def runN (ty : TypeId → Option TI) (ops : Array Oper) : Nat → List Oper → St → Option (List Oper × St)
 | 0, l, S => some (l, S)
 | n + 1, o :: l, S => match wantedV ops S o with
  | some true => match pureV ty S o.op with
   | some v => runN ty ops n l (S.put o.dst v)
   | none => none
  | some false => runN ty ops n l (S.put o.dst (.tup []))
  | none => none
 | _ + 1, [], _ => none
theorem Chain.run {q : Bool} {P : Program} {ops : Array Oper} {Q : St → Prop} : ∀ (n : Nat) {l l' : List Oper} {S S' : St}, runN (tyOf P) ops n l S = some (l', S') → Chain q P ops l' S' Q → Chain q P ops l S Q
 | 0, l, l', S, S', h, hc => by
  simp only [runN, Option.some.injEq, Prod.mk.injEq] at h
  obtain ⟨rfl, rfl⟩ := h
  exact hc
 | n + 1, [], l', S, S', h, hc => by simp [runN] at h
 | n + 1, o :: l, l', S, S', h, hc => by
  simp only [runN] at h
  split at h
  ·rename_i hw
   split at h
   ·rename_i v hv
    exact .pure hw hv (Chain.run n h hc)
   ·cases h
  ·rename_i hw
   exact .skip hw (Chain.run n h hc)
  ·cases h
def Sub (S S' : St) : Prop := ∀ fx a w, Models fx S a w → Models fx S' a w
theorem Sub.refl (S : St) : Sub S S := fun _ _ _ h => h
theorem Sub.trans {S S' S'' : St} (h : Sub S S') (h' : Sub S' S'') : Sub S S'' := fun fx a w m => h' fx a w (h fx a w m)
theorem Chain.sub {q : Bool} {P : Program} {ops : Array Oper} {l : List Oper} {S S' : St} {Q : St → Prop} (hs : Sub S S') (h : Chain q P ops l S' Q) : Chain q P ops l S Q := by
 cases q with
 | false => exact fun fx a w Q' m hq => h fx a w Q' (hs fx a w m) hq
 | true => exact fun fx a w Q' m hq => h fx a w Q' (hs fx a w m) hq
def Rd (ro : Option Nat) : Fence := { Fence.wide with round := ro }
theorem rd_calls {ro : Option Nat} {n : Nat} {P : Program} {f : FuncId} {args : Array Value} {w : World} {R : Ending → World → Prop} (h : Calls P f args w R) : CallsIn (Rd ro) n P f args w R :=
 (callsIn_wide (n := n)).2 h
theorem rd_rows {ro : Option Nat} {n : Nat} {P : Program} {row : String} {args : Array Value} {w : World} {R : Value → World → Prop} (h : Rows P row args w R) : RowsIn (Rd ro) n P row args w R :=
 fun c cs _ => let ⟨v, w', r, s⟩ := h c cs; ⟨v, w', r, stepsIn_wide.2 s⟩
def noDefer (l : List Oper) : Bool := l.all fun o => match o.op with
 | .defer _ => false
 | _ => true
theorem noDefer_spec {o : Oper} (h : (match o.op with | .defer _ => false | _ => true) = true) : ∀ c, o.op ≠ .defer c := fun c e => by rw [e] at h; cases h
theorem Oper.rd {ro : Option Nat} {n : Nat} {P : Program} {o : Oper} {a : Act} {w : World} {K K' : Act → World → Prop} {Q : Exit → Act → World → Prop} (hd : ∀ c, o.op ≠ .defer c) (hK : ∀ a w, K a w → K' a w) (h : o.wp P a w K Q) : o.wpIn (Rd ro) n P a w K' Q := by
 refine ⟨fun _ _ => trivial, ?_⟩
 have e : o.semAt (Rd ro).round a.eval = execOp a.eval o := Oper.semAt_eq _ _ _ hd
 rw [e]
 unfold Oper.wp at h
 generalize (execOp a.eval o).run P w = r at *
 cases r with
 | ok x w' =>
  cases x <;> simp only [Oper.upon, Oper.uponIn] at h ⊢ <;>
   first
    | exact hK _ _ h
    | exact h
    | exact ⟨(fun h => by cases h), (rd_calls h).mono (fun e w'' he => by
      cases e with
      | returned v => exact hK _ _ he
      | panicked c => exact he
      | outgrown => exact he)⟩
    | exact ⟨(fun h => by cases h), (rd_rows h).mono (fun v w'' he => hK _ _ he)⟩
 | halt x w' => cases x <;> simp only [Oper.upon, Oper.uponIn] at h ⊢ <;> exact h
def NQ (Q : Act → World → Prop) : Exit → Act → World → Prop := fun e a w => e = .normal ∧ Q a w
theorem NQ.keep {Q : Act → World → Prop} : ¬ LetsOut (NQ Q) := fun ⟨_, _, h⟩ => by cases h.1
theorem wpList_rd {ro : Option Nat} {n : Nat} {P : Program} {ops : Array Oper} {Q : Act → World → Prop} : ∀ (l : List Oper) (a : Act) (w : World), noDefer l = true → wpList P ops (NQ Q) l a w → wpListIn (Rd ro) n P ops (NQ Q) l a w
 | [], a, w, _, h => h
 | o :: l, a, w, hd, h => by
  simp only [noDefer, List.all_cons, Bool.and_eq_true] at hd
  unfold wpList at h
  unfold wpListIn
  split
  ·rename_i hw
   rw [if_pos hw] at h
   rcases h with h | h
   ·exact Oper.rd (noDefer_spec hd.1) (fun a' w' => wpList_rd l a' w' hd.2) h
   ·exact absurd h.2 NQ.keep
  ·rename_i hw
   rw [if_neg hw] at h
   exact ⟨fun _ _ => trivial, wpList_rd l _ w hd.2 h⟩
theorem wpAny_rd {ro : Option Nat} {n : Nat} {P : Program} {md : Region.Mode} {ops : Array Oper} {Q : Act → World → Prop} (hd : noDefer ops.toList = true) : ∀ (k : Nat) (ls : Array Bool) (a : Act) (w : World), wpAny P md ops (NQ Q) k ls a w → wpAnyIn (Rd ro) n P md ops (NQ Q) k ls a w
 | 0, ls, a, w, h => h
 | k + 1, ls, a, w, h => ⟨h.1, fun i hi => by
   have := h.2 i hi
   unfold wpOp at this
   unfold wpOpIn
   split
   ·rename_i e
    simp only [e] at this
    exact wpAny_rd hd k _ _ _ this
   ·rename_i o e
    simp only [e] at this
    have hdo : ∀ c, o.op ≠ .defer c := noDefer_spec (List.all_eq_true.1 hd o (List.mem_of_getElem? (by rw [Array.getElem?_toList]; exact e)))
    split
    ·rename_i hw
     rw [if_pos hw] at this
     rcases this with h | h
     ·exact Oper.rd hdo (fun a' w' => wpAny_rd hd k _ a' w') h
     ·exact absurd h.2 NQ.keep
    ·rename_i hw
     rw [if_neg hw] at this
     exact ⟨fun _ _ => trivial, wpAny_rd hd k _ _ _ this⟩⟩
theorem rd_region {ro : Option Nat} {n : Nat} {P : Program} {id : Nat} {l : List Oper} {Q : Act → World → Prop} {a : Act} {w : World} (hd : noDefer l = true) (h : wpList P l.toArray (NQ Q) l a w) : (Code.region id l.toArray false).wpIn (Rd ro) n P (NQ Q) a w :=
 wpIn_region_lit (wpList_rd l a w hd h)
theorem rd_region_any {ro : Option Nat} {n : Nat} {P : Program} {id : Nat} {l : List Oper} {Q : Act → World → Prop} {a : Act} {w : World} (hd : noDefer l = true) (hm : P.follows .mixedOrders = true)
  (h : wpAny P .any l.toArray (NQ Q) l.toArray.size (Array.replicate l.toArray.size false) a { w with drawn := w.drawn + 1 }) : (Code.region id l.toArray true).wpIn (Rd ro) n P (NQ Q) a w :=
 wpIn_region_any hm (wpAny_rd (by simpa using hd) _ _ _ _ h)
theorem rd_region_quiet {ro : Option Nat} {n : Nat} {P : Program} {id : Nat} {l : List Oper} {Q : Act → World → Prop} {C : World → Prop} {a : Act} {w : World} (hd : noDefer l = true) (hm : P.follows .mixedOrders = true) (hB : Region.lexB .any l.toArray = true) (hC : C { w with drawn := w.drawn + 1 })
  (h : wpQuiet P l.toArray C (fun a' => ∀ w', C w' → Q a' w') l a) : (Code.region id l.toArray true).wpIn (Rd ro) n P (NQ Q) a w := by
 simp only [Region.lexB, Bool.and_eq_true] at hB
 refine rd_region_any hd hm (wpAny_of_quiet (Q := fun a' => ∀ w', C w' → Q a' w') (fun _ w' hw' h => ⟨rfl, h w' hw'⟩) _ _ _ _ hC ?_)
 have := wpAnyQ_lex (C := C) (md := .any) hB.1 l 0 (Array.replicate l.toArray.size false) a (by simp) (by simpa using hB.2) h
 simpa using this
def coll (D : Nat) : Deferred := { target := .collected D, args := #[] }
structure Ext (fx fx' : Fx) : Prop where
 ro : fx'.ro = fx.ro
 frame : fx.frame fx'.w0
 mine : ∀ b, fx'.L b → fx.w0.heap.size ≤ b ∨ fx.L b
 z : ∀ b, fx'.Z0 b → fx.Z0 b ∨ fx.w0.heap.size ≤ b ∨ fx.L b
 roots : fx'.roots = fx.roots
 dfr : ∃ l : List Nat, fx'.dfr = l.map coll ++ fx.dfr ∧ l.Nodup ∧ ∀ D ∈ l, fx.w0.heap.size ≤ D ∧ D < fx'.w0.heap.size ∧ fx'.w0.heap[D]? = some (.deferred (some [])) ∧ ¬ fx'.Z0 D ∧ ¬ fx'.L D
theorem Ext.refl (fx : Fx) : Ext fx fx :=
 ⟨rfl, ⟨rfl, rfl, rfl, Nat.le_refl _, fun _ _ _ => rfl⟩, fun _ h => .inr h, fun _ h => .inl h, rfl, [], rfl, List.nodup_nil, fun _ h => by cases h⟩
theorem Fx.frame.back {fx fx' : Fx} (x : Ext fx fx') {w : World} (f : fx'.frame w) : fx.frame w := by
 refine ⟨f.os.trans x.frame.os, f.tape.trans x.frame.tape, f.output.trans x.frame.output, Nat.le_trans x.frame.size f.size, fun b h1 h2 => ?_⟩
 refine (f.block b (Nat.lt_of_lt_of_le h1 x.frame.size) fun h => ?_).trans (x.frame.block b h1 h2)
 rcases x.mine b h with h | h
 ·omega
 ·exact h2 h
theorem Ext.z2 {fx fx' : Fx} (x : Ext fx fx') {b : Nat} (h : fx'.Z0 b ∨ fx'.w0.heap.size ≤ b ∨ fx'.L b) : fx.Z0 b ∨ fx.w0.heap.size ≤ b ∨ fx.L b := by
 rcases h with h | h | h
 ·exact x.z b h
 ·exact .inr (.inl (Nat.le_trans x.frame.size h))
 ·exact .inr (x.mine b h)
theorem Ext.mine2 {fx fx' : Fx} (x : Ext fx fx') {b : Nat} (h : fx'.w0.heap.size ≤ b ∨ fx'.L b) : fx.w0.heap.size ≤ b ∨ fx.L b := by
 rcases h with h | h
 ·exact .inl (Nat.le_trans x.frame.size h)
 ·exact x.mine b h
theorem Ext.trans {fx fx' fx'' : Fx} (x : Ext fx fx') (y : Ext fx' fx'') : Ext fx fx'' := by
 obtain ⟨l, hl, hn, hD⟩ := x.dfr
 obtain ⟨m, hm, hk, hE⟩ := y.dfr
 refine ⟨y.ro.trans x.ro, y.frame.back x, fun b h => x.mine2 (y.mine b h), fun b h => x.z2 (y.z b h), y.roots.trans x.roots, m ++ l, by rw [hm, hl, List.map_append, List.append_assoc], ?_, fun D h => ?_⟩
 ·refine List.nodup_append.2 ⟨hk, hn, fun a ha b hb e => ?_⟩
  have h1 := (hE a ha).1
  have h2 := (hD b hb).2.1
  omega
 ·rcases List.mem_append.1 h with h | h
  ·obtain ⟨h1, h2⟩ := hE D h
   exact ⟨Nat.le_trans x.frame.size h1, h2⟩
  ·obtain ⟨h1, h2, h3, h4, h5⟩ := hD D h
   refine ⟨h1, Nat.lt_of_lt_of_le h2 y.frame.size, (y.frame.block D h2 h5).trans h3, fun h => ?_, fun h => ?_⟩
   ·rcases y.z D h with h | h | h
    ·exact h4 h
    ·omega
    ·exact h5 h
   ·rcases y.mine D h with h | h
    ·omega
    ·exact h5 h
def Aft (fx : Fx) (Q : Exit → St → Prop) (e : Exit) (a : Act) (w : World) : Prop := ∃ S' fx', Q e S' ∧ Ext fx fx' ∧ Models fx' S' a w
def AW (P : Program) (c : Code) (S : St) (Q : Exit → St → Prop) : Prop :=
 ∀ fx a w, Models fx S a w → c.wpIn (Rd fx.ro) 0 P (Aft fx Q) a w
def thenQ (K : St → Prop) (Q : Exit → St → Prop) : Exit → St → Prop
 | .normal, S => K S
 | e, S => Q e S
def blockQ (id : Nat) (Q : Exit → St → Prop) : Exit → St → Prop
 | .exit id', S => if id' = id then Q .normal S else Q (.exit id') S
 | e, S => Q e S
variable {P : Program} {S : St} {Q : Exit → St → Prop}
theorem Aft.one {fx : Fx} {e : Exit} {a : Act} {w : World} {S' : St} (h : Q e S') (m : Models fx S' a w) : Aft fx Q e a w := ⟨S', fx, h, Ext.refl fx, m⟩
theorem Aft.back {fx fx' : Fx} (x : Ext fx fx') {e : Exit} {a : Act} {w : World} (h : Aft fx' Q e a w) : Aft fx Q e a w :=
 let ⟨S', fx'', h, y, m⟩ := h; ⟨S', fx'', h, x.trans y, m⟩
theorem Aft.mono {fx : Fx} {Q' : Exit → St → Prop} {e : Exit} {a : Act} {w : World} (hq : ∀ S, Q e S → Q' e S) (h : Aft fx Q e a w) : Aft fx Q' e a w :=
 let ⟨S', fx', h, x, m⟩ := h; ⟨S', fx', hq _ h, x, m⟩
theorem AW.at {c : Code} (h : AW P c S Q) {fx fx' : Fx} (x : Ext fx fx') {a : Act} {w : World} (m : Models fx' S a w) : c.wpIn (Rd fx.ro) 0 P (Aft fx Q) a w := by
 have := Code.wpIn_mono (fun e a w h => Aft.back x h) (h fx' a w m)
 rw [x.ro] at this
 exact this
theorem AW.sub {c : Code} {S' : St} (hs : Sub S S') (h : AW P c S' Q) : AW P c S Q := fun fx a w m => h fx a w (hs fx a w m)
theorem AW.mono {c : Code} {Q' : Exit → St → Prop} (h : AW P c S Q) (hq : ∀ e S, Q e S → Q' e S) : AW P c S Q' := fun fx a w m => Code.wpIn_mono (fun e _ _ h => Aft.mono (hq e) h) (h fx a w m)
theorem AW.region {id : Nat} {l : List Oper} (h : Chain false P l.toArray l S (Q .normal)) (hd : noDefer l = true := by rfl) : AW P (.region id l.toArray false) S Q := fun fx a w m =>
 Code.wpIn_mono (fun e a w h => by obtain ⟨rfl, h⟩ := h; exact h) (rd_region (Q := Aft fx Q .normal) hd (h fx a w _ m fun S' _a' _w' hq m' => ⟨rfl, Aft.one hq m'⟩))
theorem AW.regionQ {id : Nat} {l : List Oper} (hm : P.follows .mixedOrders = true) (hB : Region.lexB .any l.toArray = true) (h : Chain true P l.toArray l S (Q .normal)) (hd : noDefer l = true := by rfl) : AW P (.region id l.toArray true) S Q := fun fx a w m =>
 Code.wpIn_mono (fun e a w h => by obtain ⟨rfl, h⟩ := h; exact h) (rd_region_quiet (Q := Aft fx Q .normal) (C := Grow w) hd hm hB ⟨rfl, rfl, rfl, Nat.le_refl _, fun _ _ => rfl⟩
  (h fx a w (fun a' => ∀ w', Grow w w' → Aft fx Q .normal a' w') m (fun S' a' hq ⟨E, m'⟩ w' hg => Aft.one hq ⟨E, m'.grow hg⟩)))
theorem AW.seq {x y : Code} (h : AW P x S (thenQ (fun S' => AW P y S' Q) Q)) : AW P (.seq x y) S Q := fun fx a w m => by
 refine wpIn_seq (Code.wpIn_mono ?_ (h fx a w m))
 rintro e a' w' ⟨S', fx', hq, hx, m'⟩
 cases e with
 | normal => exact AW.at hq hx m'
 | exit id => exact ⟨S', fx', hq, hx, m'⟩
 | goto l => exact ⟨S', fx', hq, hx, m'⟩
 | ret => exact ⟨S', fx', hq, hx, m'⟩
 | panic ch => exact ⟨S', fx', hq, hx, m'⟩
 | outgrown => exact ⟨S', fx', hq, hx, m'⟩
theorem AW.seqR {id : Nat} {l : List Oper} {y : Code} (h : Chain false P l.toArray l S (fun S' => AW P y S' Q)) (hd : noDefer l = true := by rfl) : AW P (.seq (.region id l.toArray false) y) S Q := .seq (.region h hd)
theorem AW.seqQ {id : Nat} {l : List Oper} {y : Code} (hm : P.follows .mixedOrders = true) (hB : Region.lexB .any l.toArray = true) (h : Chain true P l.toArray l S (fun S' => AW P y S' Q)) (hd : noDefer l = true := by rfl) : AW P (.seq (.region id l.toArray true) y) S Q := .seq (.regionQ hm hB h hd)
theorem AW.skip (h : Q .normal S) : AW P .skip S Q := fun _ _ _ m => wpIn_skip (Aft.one h m)
theorem AW.ret (h : Q .ret S) : AW P .ret S Q := fun _ _ _ m => wpIn_ret (Aft.one h m)
theorem AW.exit {id : Nat} (h : Q (.exit id) S) : AW P (.exit id) S Q := fun _ _ _ m => wpIn_exit (Aft.one h m)
theorem AW.block {id : Nat} {c : Code} (h : AW P c S (blockQ id Q)) : AW P (.block id c) S Q := fun fx a w m => by
 refine wpIn_block (Code.wpIn_mono ?_ (h fx a w m))
 rintro e a' w' ⟨S', fx', hq, hx, m'⟩
 cases e with
 | exit id' =>
  simp only [blockQ] at hq
  simp only [Exit.inBlock]
  split
  ·rename_i h; rw [if_pos h] at hq; exact ⟨S', fx', hq, hx, m'⟩
  ·rename_i h; rw [if_neg h] at hq; exact ⟨S', fx', hq, hx, m'⟩
 | normal => exact ⟨S', fx', hq, hx, m'⟩
 | goto l => exact ⟨S', fx', hq, hx, m'⟩
 | ret => exact ⟨S', fx', hq, hx, m'⟩
 | panic ch => exact ⟨S', fx', hq, hx, m'⟩
 | outgrown => exact ⟨S', fx', hq, hx, m'⟩
theorem AW.cond {c : Operand} {x y : Code} {b : Bool} (hc : S.ev c = .d (.lit (.bool b))) (ht : b = true → AW P x S Q) (hf : b = false → AW P y S Q) : AW P (.cond c x y) S Q := fun fx a w m => by
 obtain ⟨E, m'⟩ := m
 have h := m'.ev c
 rw [hc] at h
 exact wpIn_cond_split (RD_lit h) (fun hb => ht hb fx a w ⟨E, m'⟩) (fun hb => hf hb fx a w ⟨E, m'⟩)
theorem exists_least (p : Nat → Prop) (h : ∃ n, p n) : ∃ n, p n ∧ ∀ m, p m → n ≤ m := by
 obtain ⟨n, hn⟩ := h
 induction n using Nat.strongRecOn with
 | _ n ih =>
  by_cases hc : ∃ m, m < n ∧ p m
  ·obtain ⟨m, hm, hp⟩ := hc
   exact ih m hm hp
  ·exact ⟨n, hn, fun m hm => by
    rcases Nat.lt_or_ge m n with h | h
    ·exact absurd ⟨m, h, hm⟩ hc
    ·exact h⟩
open Classical in
theorem AW.loop {c : Code} (R : Nat → St → Prop) {n0 : Nat} {S0 : St} (hs : Sub S S0) (h0 : R n0 S0)
  (round : ∀ n S0, R n S0 → AW P c S0 (thenQ (fun S' => ∃ n' S1, n' < n ∧ Sub S' S1 ∧ R n' S1) Q)) : AW P (.loop c) S Q := fun fx a w m => by
 let I : Nat → Act → World → Prop := fun n a w => ∃ S0 fx', R n S0 ∧ Ext fx fx' ∧ Models fx' S0 a w
 let μ : Act → World → Nat := fun a w => if h : ∃ n, I n a w then Classical.choose (exists_least _ h) else 0
 refine wpIn_loop (fun a w => ∃ n, I n a w) μ ⟨n0, S0, fx, h0, Ext.refl fx, hs fx a w m⟩ fun a w hI => ?_
 have hμ : μ a w = Classical.choose (exists_least _ hI) := dif_pos hI
 obtain ⟨S1, fx1, hR, hx1, m1⟩ := (Classical.choose_spec (exists_least _ hI)).1
 refine Code.wpIn_mono ?_ (AW.at (round _ S1 hR) hx1 m1)
 rintro e a' w' ⟨S', fx', hq, hx, m'⟩
 cases e with
 | normal =>
  obtain ⟨n', S2, hlt, hsub, hR2⟩ := hq
  have hI' : ∃ n, I n a' w' := ⟨n', S2, fx', hR2, hx, hsub fx' a' w' m'⟩
  refine ⟨hI', ?_⟩
  have : μ a' w' = Classical.choose (exists_least _ hI') := dif_pos hI'
  rw [this, hμ]
  exact Nat.lt_of_le_of_lt ((Classical.choose_spec (exists_least _ hI')).2 _ ⟨S2, fx', hR2, hx, hsub fx' a' w' m'⟩) hlt
 | exit id => exact ⟨S', fx', hq, hx, m'⟩
 | goto l => exact ⟨S', fx', hq, hx, m'⟩
 | ret => exact ⟨S', fx', hq, hx, m'⟩
 | panic ch => exact ⟨S', fx', hq, hx, m'⟩
 | outgrown => exact ⟨S', fx', hq, hx, m'⟩
end Go.Ab
end
section
namespace Go.Ab
open Go.RowKit
def tlook : List (Nat × V) → Nat → V
 | [], _ => .junk
 | (k, v) :: r, i => if i = k then v else tlook r i
def hlook : List (Nat × Option Blk) → Heap
 | [], _ => none
 | (k, b) :: r, i => if i = k then b else hlook r i
def mk (nt : Nat) (rts : List Nat) (l : List (Nat × V)) (h : List (Nat × Option Blk)) : St := ⟨nt, rts, tlook l, hlook h⟩
def upd : List (Nat × V) → Nat → V → List (Nat × V)
 | [], d, v => [(d, v)]
 | (k, u) :: r, d, v => if k = d then (d, v) :: r else (k, u) :: upd r d v
theorem look_upd (l : List (Nat × V)) (d : Nat) (v : V) (i : Nat) : tlook (upd l d v) i = if i = d then v else tlook l i := by
 induction l with
 | nil => rfl
 | cons p r ih =>
  obtain ⟨k, u⟩ := p
  simp only [upd]
  by_cases hk : k = d
  ·subst hk
   rw [if_pos rfl]
   simp only [tlook]
   split <;> simp_all
  ·rw [if_neg hk]
   simp only [tlook, ih]
   by_cases hi : i = k
   ·subst hi; rw [if_pos rfl, if_neg hk, if_pos rfl]
   ·rw [if_neg hi, if_neg hi]
theorem mk_put {nt : Nat} {rts : List Nat} {l : List (Nat × V)} {h : List (Nat × Option Blk)} {d : Nat} {v : V} (hd : d < nt) : (mk nt rts l h).put (some d) v = mk nt rts (upd l d v) h := by
 simp only [mk, St.put]
 congr 1
 funext i
 rw [look_upd]
 by_cases hi : i = d
 ·simp [hi, hd]
 ·simp [hi]
theorem mk_put_none {nt : Nat} {rts : List Nat} {l : List (Nat × V)} {h : List (Nat × Option Blk)} {v : V} : (mk nt rts l h).put none v = mk nt rts l h := rfl
theorem mk_sl {nt : Nat} {rts : List Nat} {l : List (Nat × V)} {h : List (Nat × Option Blk)} {i : Nat} : (mk nt rts l h).sl i = tlook l i := rfl
theorem mk_hp {nt : Nat} {rts : List Nat} {l : List (Nat × V)} {h : List (Nat × Option Blk)} : (mk nt rts l h).hp = hlook h := rfl
def fxOf (w : World) (E : Env) (H : Heap) (rts : List Nat) (g : GO E H w) : Fx := ⟨w, E.Z, lof E H, rts.map fun r => (r, E.loc r), [], none, (fun _ h => by cases h), g.gw, g.own⟩
structure Post (fx : Fx) (E : Env) (H : Heap) (w : World) : Prop where
 ok : E.ok H w
 frame : fx.frame w
 mine : ∀ i, H i ≠ none → ∀ b, (E.loc i).own b → fx.w0.heap.size ≤ b ∨ fx.L b
 z : ∀ b, E.Z b → fx.Z0 b ∨ fx.w0.heap.size ≤ b ∨ fx.L b
 roots : ∀ r ∈ fx.roots, E.loc r.1 = r.2
def Ctr (P : Program) (f : FuncId) (args : List V) (H0 : Heap) (rts : List Nat) (Q : V → Heap → Prop) : Prop :=
 ∀ (w : World) (E : Env) (vals : List Value) (g : GO E H0 w), E.ok H0 w → RVs E w args vals →
  Calls P f vals.toArray w fun e w' => ∃ v E' r H1, e = .returned v ∧ Q r H1 ∧ RV E' w' r v ∧ Post (fxOf w E H0 rts g) E' H1 w'
def resV (ty : TypeId → Option TI) (S : St) : ResultVar → Option V
 | .tmp t => some (S.sl t)
 | .cell a t => (ty t).bind fun ti => (cellsAt S.hp (S.sl a)).bind fun cs => ldV ti cs
def resL (ty : TypeId → Option TI) (S : St) : List ResultVar → Option (List V)
 | [] => some []
 | r :: rs => (resV ty S r).bind fun v => (resL ty S rs).map fun vs => v :: vs
def outV (ty : TypeId → Option TI) (rs : List ResultVar) (S : St) : Option V :=
 (resL ty S rs).map fun vs => match vs with
  | [v] => v
  | vs => .tup vs
def resS (tmps : Array Value) : ResultVar → Sem Value
 | .tmp t => pure (tmps.getD t undef)
 | .cell a t => do loadVar t (← asAddr (tmps.getD a undef))
theorem resL_sound {P : Program} {fx : Fx} {S : St} {E : Env} {a : Act} {w : World} (m : Mod fx S E a w) : ∀ (rs : List ResultVar) (vs : List V), resL (tyOf P) S rs = some vs →
  ∃ us, RVs E w vs us ∧ (rs.mapM (resS a.tmps)).run P w = .ok us w
 | [], vs, h => by
  injection h with h; subst h
  exact ⟨[], rfl, by simp⟩
 | r :: rs, vs, h => by
  simp only [resL] at h
  cases hr : resV (tyOf P) S r with
  | none => simp [hr] at h
  | some v =>
   cases hrs : resL (tyOf P) S rs with
   | none => simp [hr, hrs] at h
   | some vs' =>
    simp only [hr, hrs, Option.bind_some, Option.map_some, Option.some.injEq] at h
    subst h
    obtain ⟨us, h1, h2⟩ := resL_sound (P := P) m rs vs' hrs
    have one : ∃ u, RV E w v u ∧ (resS a.tmps r).run P w = .ok u w := by
     cases r with
     | tmp t =>
      injection hr with hr; subst hr
      exact ⟨_, m.slots t, rfl⟩
     | cell b t =>
      simp only [resV] at hr
      cases ht : tyOf P t with
      | none => simp [ht] at hr
      | some ti =>
       cases hc : cellsAt S.hp (S.sl b) with
       | none => simp [ht, hc] at hr
       | some cs =>
        simp only [ht, hc, Option.bind_some] at hr
        obtain ⟨b', o, us', hp, g1, g2, g3, g4⟩ := cellsAt_sound m.ok (m.slots b) hc
        obtain ⟨x, hx, hrun⟩ := run_loadAt (P := P) (w' := w) ht g1 g2 g3 hr
        refine ⟨x, hx, ?_⟩
        have := hrun w g2
        simp only [Instr.loadAt, Instr.sureAddr, Sem.run_bind, Sem.run_pure, Result.andThen_ok] at this
        simp [resS, hp, asAddr, this]
    obtain ⟨u, hu, hrun⟩ := one
    refine ⟨u :: us, ⟨u, us, rfl, hu, h1⟩, ?_⟩
    rw [List.mapM_cons]
    simp only [Sem.run_bind, hrun, Result.andThen_ok, h2, Sem.run_pure]
theorem outV_sound {P : Program} {fx : Fx} {S : St} {E : Env} {a : Act} {w : World} (m : Mod fx S E a w) {fn : Func} {r : V} (h : outV (tyOf P) fn.results.toList S = some r) : ∃ v, RV E w r v ∧ (results fn a.tmps).run P w = .ok v w := by
 unfold outV at h
 cases hl : resL (tyOf P) S fn.results.toList with
 | none => simp [hl] at h
 | some vs =>
  simp only [hl, Option.map_some, Option.some.injEq] at h
  obtain ⟨us, h1, h2⟩ := resL_sound (P := P) m _ _ hl
  have hrun : (results fn a.tmps).run P w = .ok (if h : us.toArray.size = 1 then us.toArray[0] else .tuple us.toArray) w := by
   have e : results fn a.tmps = (do let vs ← fn.results.mapM (resS a.tmps); pure (if h : vs.size = 1 then vs[0] else .tuple vs)) := by
    unfold results
    congr 1
   rw [e, Array.mapM_eq_mapM_toList]
   simp only [Sem.run_bind, map_eq_pure_bind, h2, Result.andThen_ok, Sem.run_pure]
  refine ⟨_, ?_, hrun⟩
  have hlen := RVs_length h1
  split at h
  ·rename_i v
   subst h
   obtain ⟨u, r', hu, hv, hr'⟩ := h1
   have : r' = [] := hr'
   subst this; subst hu
   simpa using hv
  ·rename_i hne
   subst h
   have hn1 : ¬ us.toArray.size = 1 := by
    intro h
    have hl1 : vs.length = 1 := by rw [← hlen]; simpa using h
    match vs, hl1 with
    | [v], _ => exact hne v rfl
   rw [dif_neg hn1]
   exact ⟨us, rfl, h1⟩
def enterL : List V → Nat → List (Nat × V)
 | [], _ => []
 | v :: vs, k => (k, v) :: enterL vs (k + 1)
theorem look_enter {E : Env} {w : World} : ∀ {args : List V} {vals : List Value} (k : Nat), RVs E w args vals → ∀ t, RV E w (tlook (enterL args k) t) (if k ≤ t then vals.getD (t - k) undef else undef)
 | [], _, k, h, t => trivial
 | v :: vs, _, k, ⟨u, r, h, h1, h2⟩, t => by
  subst h
  simp only [enterL, tlook]
  by_cases ht : t = k
  ·subst ht; simpa using h1
  ·rw [if_neg ht]
   have := look_enter (k + 1) h2 t
   by_cases hk : k + 1 ≤ t
   ·rw [if_pos hk] at this
    rw [if_pos (by omega)]
    have e : t - k = (t - (k + 1)) + 1 := by omega
    rw [e]; simpa using this
   ·rw [if_neg hk] at this
    rw [if_neg (by omega)]
    exact this
theorem Mod.back {fx fx' : Fx} (x : Ext fx fx') {S : St} {E : Env} {a : Act} {w : World} (m : Mod fx' S E a w) : Mod fx S E { a with defers := fx.dfr } w where
 nt := m.nt
 slots := m.slots
 dfr := rfl
 ok := m.ok
 frame := m.frame.back x
 mine i hi b hn := x.mine2 (m.mine i hi b hn)
 z b hb := x.z2 (m.z b hb)
 roots r hr := m.roots r (by rw [x.roots]; exact hr)
theorem Mod.turn {fx : Fx} {S : St} {E : Env} {a : Act} {w : World} (m : Mod fx S E a w) {D : Nat} (o : Obj) (h1 : fx.w0.heap.size ≤ D) (h2 : ∀ i, S.hp i ≠ none → ¬ (E.loc i).own D) (h3 : ¬ E.Z D) : Mod fx S E a (w.putObj D o) := by
 have hk : Keeps E.Z w (w.putObj D o) := fun b hb => World.putObj_heap_other (fun e => h3 (e ▸ hb))
 refine ⟨m.nt, fun t => RV.keep hk (fun _ h => h) rfl _ _ (m.slots t), m.dfr, ⟨fun id k hh => ?_, m.ok.inj, m.ok.apart, fun b hb => by rw [World.putObj_size]; exact m.ok.zlt b hb, fun i hi b hb => by rw [World.putObj_size]; exact m.ok.xlt i hi b hb⟩, ⟨m.frame.os, m.frame.tape, m.frame.output, by rw [World.putObj_size]; exact m.frame.size, fun b hb hl => (World.putObj_heap_other (by omega)).trans (m.frame.block b hb hl)⟩, m.mine, m.z, m.roots⟩
 exact (m.ok.hold id k hh).keep hk (fun _ h => h) rfl (fun b hn => World.putObj_heap_other (fun e => h2 id (by rw [hh]; simp) (e ▸ hn))) (by rw [World.putObj_size]; exact Nat.le_refl _)
theorem Mod.apart {fx : Fx} {S : St} {E : Env} {a : Act} {w : World} (m : Mod fx S E a w) {D : Nat} (h1 : D < fx.w0.heap.size) (h2 : ¬ fx.L D) (h3 : ¬ fx.Z0 D) : (∀ i, S.hp i ≠ none → ¬ (E.loc i).own D) ∧ ¬ E.Z D := by
 refine ⟨fun i hi hn => ?_, fun h => ?_⟩
 ·rcases m.mine i hi D hn with h | h
  ·omega
  ·exact h2 h
 ·rcases m.z D h with h | h | h
  ·exact h3 h
  ·omega
  ·exact h2 h
theorem leaves_marks {P : Program} {fn : Func} {tmps : Array Value} {R : Ending → World → Prop} (J : World → Prop) : ∀ (l : List Nat) (w : World), l.Nodup → (∀ D ∈ l, w.heap[D]? = some (.deferred (some []))) → (∀ w D, D ∈ l → J w → J (w.putObj D (.deferred none))) →
  J w → (∀ w, J w → ∃ v, (results fn tmps).run P w = .ok v w ∧ R (.returned v) w) → LeavesInM Fence.wide 0 P fn tmps R (l.map coll) .returning w
 | [], w, _, _, _, hJ, hR => hR w hJ
 | D :: l, w, hn, hD, ht, hJ, hR => by
  obtain ⟨hn1, hn2⟩ := List.nodup_cons.1 hn
  refine ⟨by simp, .inl ⟨D, _, rfl, run_takeDeferred (hD D (List.mem_cons_self ..)), ?_⟩⟩
  refine leaves_marks J l _ hn2 (fun D' h => ?_) (fun w D' h => ht w D' (List.mem_cons_of_mem _ h)) (ht w D (List.mem_cons_self ..) hJ) hR
  exact (World.putObj_heap_other (r := D) (k := D') (fun e => by subst e; exact hn1 h)).trans (hD D' (List.mem_cons_of_mem _ h))
theorem Ctr.of {P : Program} {f : FuncId} {fn : Func} {c : Code} {args : List V} {h0 : List (Nat × Option Blk)} {rts : List Nat} {Q : V → Heap → Prop} (hf : P.funcs[f]? = some fn) (hb : fn.body = some c) (hle : args.length ≤ fn.ntmps)
  (h : AW P c (mk fn.ntmps rts (enterL args 0) h0) fun e S' => (e = .normal ∨ e = .ret) ∧ ∃ r, outV (tyOf P) fn.results.toList S' = some r ∧ Q r S'.hp) : Ctr P f args (hlook h0) rts Q := by
 intro w E vals g ok hv
 have hlen := RVs_length hv
 refine callsIn_wide.1 (callsIn_of_wp_marks (n := 0) hf hb trivial ?_ rfl)
 have m : Mod (fxOf w E (hlook h0) rts g) (mk fn.ntmps rts (enterL args 0) h0) E { tmps := vals.toArray ++ Array.replicate (fn.ntmps - vals.toArray.size) undef, defers := [] } w := by
  refine ⟨by simp [mk]; omega, fun t => ?_, rfl, ok, ⟨rfl, rfl, rfl, Nat.le_refl _, fun _ _ _ => rfl⟩, fun i hi b hn => .inr ⟨i, hi, hn⟩, fun b hb => .inl hb, fun r hr => ?_⟩
  ·have := look_enter 0 hv t
   simp only [Nat.zero_le, if_true, Nat.sub_zero] at this
   have e : (vals.toArray ++ Array.replicate (fn.ntmps - vals.toArray.size) undef).getD t undef = vals.getD t undef := by
    rw [Array.getD_eq_getD_getElem?, Array.getElem?_append]
    by_cases ht : t < vals.toArray.size
    ·rw [if_pos ht]; simp [List.getD]
    ·rw [if_neg ht, Array.getElem?_replicate]
     have : vals.getD t undef = undef := by simp [List.getD, List.getElem?_eq_none (by simpa using ht)]
     rw [this]
     split <;> rfl
   show RV E w (tlook (enterL args 0) t) ((vals.toArray ++ Array.replicate (fn.ntmps - vals.toArray.size) undef).getD t undef)
   rw [e]; exact this
  ·obtain ⟨i, hi, rfl⟩ := List.mem_map.1 hr
   exact ⟨hi, rfl⟩
 refine Code.wpIn_mono ?_ (h _ _ _ ⟨E, m⟩)
 rintro e a' w' ⟨S', fx', ⟨he, r, hr, hq⟩, hx, E', m'⟩
 have key : LeavesInM Fence.wide 0 P fn a'.tmps (fun e w' => ∃ v E' r H1, e = .returned v ∧ Q r H1 ∧ RV E' w' r v ∧ Post (fxOf w E (hlook h0) rts g) E' H1 w') a'.defers .returning w' := by
  obtain ⟨l, hl, hn, hD⟩ := hx.dfr
  rw [m'.dfr, hl]
  rw [show (fxOf w E (hlook h0) rts g).dfr = [] from rfl, List.append_nil]
  refine leaves_marks (fun w' => Mod (fxOf w E (hlook h0) rts g) S' E' { a' with defers := (fxOf w E (hlook h0) rts g).dfr } w') l w' hn (fun D h => ?_) (fun w1 D h hm => ?_) (m'.back hx) fun w1 hm => ?_
  ·obtain ⟨_, h2, h3, _, h5⟩ := hD D h
   exact (m'.frame.block D h2 h5).trans h3
  ·obtain ⟨h1, h2, h3, h4, h5⟩ := hD D h
   obtain ⟨g1, g2⟩ := m'.apart h2 h5 h4
   exact hm.turn _ h1 g1 g2
  ·obtain ⟨v, hv', hrun⟩ := outV_sound hm hr
   exact ⟨v, hrun, v, E', r, S'.hp, rfl, hq, hv', hm.ok, hm.frame, hm.mine, hm.z, fun r hr => (hm.roots r hr).2⟩
 rcases he with rfl | rfl
 ·exact key
 ·exact key
end Go.Ab
end
section
namespace Go.Ab
open Go.RowKit
mutual
def V.has (id : Nat) : V → Bool
 | .ref i _ _ => i == id
 | .ptr i _ _ => i == id
 | .mref i => i == id
 | .agg cs => hasL id cs
 | .tup cs => hasL id cs
 | .fn _ cs => hasL id cs
 | .d _ | .dx _ | .junk | .hole => false
def hasL (id : Nat) : List V → Bool
 | [] => false
 | c :: cs => c.has id || hasL id cs
end
def killC (id : Nat) : List V → List V
 | [] => []
 | c :: cs => (if c.has id then .hole else c) :: killC id cs
def Blk.killed (id : Nat) : Blk → Blk
 | .box cs => .box (killC id cs)
 | .nest T n sh es fo => .nest T n sh es (fo.map fun p => (p.1, killC id p.2))
 | b => b
def St.kill (S : St) (id : Nat) : St :=
 { S with
  sl := fun t => if (S.sl t).has id then .junk else S.sl t
  hp := fun i => if i = id then none else (S.hp i).map (Blk.killed id) }
def St.setH (S : St) (id : Nat) (k : Option Blk) : St := { S with hp := fun i => if i = id then k else S.hp i }
def Env.at (E : Env) (id : Nat) (ℓ : Loc) : Env := { E with loc := fun i => if i = id then ℓ else E.loc i }
mutual
theorem RV.upd {E : Env} {w : World} {id : Nat} {ℓ : Loc} : ∀ (c : V) (x : Value), c.has id = false → RV E w c x → RV (E.at id ℓ) w c x
 | .d x, v, _, h => h
 | .ref i off len, v, hh, h => by
  have : i ≠ id := by simpa [V.has] using hh
  unfold RV at h ⊢
  simp only [Env.at, if_neg this]
  exact h
 | .ptr i k off, v, hh, h => by
  have : i ≠ id := by simpa [V.has] using hh
  unfold RV at h ⊢
  simp only [Env.at, if_neg this]
  exact h
 | .mref i, v, hh, h => by
  have : i ≠ id := by simpa [V.has] using hh
  unfold RV at h ⊢
  simp only [Env.at, if_neg this]
  exact h
 | .agg cs, v, hh, ⟨vs, h1, h2, h3⟩ => ⟨vs, h1, h2, RVs.upd cs vs hh h3⟩
 | .tup cs, v, hh, ⟨vs, h1, h2⟩ => ⟨vs, h1, RVs.upd cs vs hh h2⟩
 | .fn f cs, v, hh, ⟨vs, h1, h2⟩ => ⟨vs, h1, RVs.upd cs vs hh h2⟩
 | .dx es, v, _, h => h
 | .hole, _, _, h => h
 | .junk, _, _, _ => trivial
theorem RVs.upd {E : Env} {w : World} {id : Nat} {ℓ : Loc} : ∀ (cs : List V) (vs : List Value), hasL id cs = false → RVs E w cs vs → RVs (E.at id ℓ) w cs vs
 | [], vs, _, h => h
 | c :: cs, vs, hh, ⟨v, r, h1, h2, h3⟩ => by
  simp only [hasL, Bool.or_eq_false_iff] at hh
  exact ⟨v, r, h1, RV.upd c v hh.1 h2, RVs.upd cs r hh.2 h3⟩
end
mutual
theorem closed_has {id : Nat} : ∀ (c : V), c.closed = true → c.has id = false
 | .d _, _ => rfl
 | .dx _, _ => rfl
 | .ref .., h => by cases h
 | .ptr .., h => by cases h
 | .mref _, h => by cases h
 | .junk, h => by cases h
 | .hole, h => by cases h
 | .agg cs, h => closedL_has cs h
 | .tup cs, h => closedL_has cs h
 | .fn _ cs, h => closedL_has cs h
theorem closedL_has {id : Nat} : ∀ (cs : List V), closedL cs = true → hasL id cs = false
 | [], _ => rfl
 | c :: cs, h => by
  simp only [closedL, Bool.and_eq_true] at h
  simp only [hasL, closed_has c h.1, closedL_has cs h.2, Bool.or_self]
end
theorem REs.upd {E : Env} {w : World} {id : Nat} {ℓ : Loc} : ∀ (l : List (MKey × V)) (es : List MapEntry), REs E w l es → REs (E.at id ℓ) w l es
 | [], _es, h => h
 | (_k, v) :: l, _es, ⟨e, r, h1, h2, h3, h4, h5⟩ => ⟨e, r, h1, h2, RV.upd v _ (closed_has v h4) h3, h4, REs.upd l r h5⟩
theorem killC_cell {id : Nat} : ∀ {cs : List V}, (∀ c ∈ cs, c.cell = true) → ∀ c ∈ killC id cs, c.cell = true
 | [], _, c, hc => by cases hc
 | x :: cs, h, c, hc => by
  rcases List.mem_cons.1 hc with rfl | hc
  ·split
   ·rfl
   ·exact h x (.head _)
  ·exact killC_cell (fun c h' => h c (.tail _ h')) c hc
theorem RVs.killC {E : Env} {w : World} {id : Nat} {ℓ : Loc} : ∀ {cs : List V} {vs : List Value}, (∀ c ∈ cs, c.cell = true) → RVs E w cs vs → RVs (E.at id ℓ) w (killC id cs) vs
 | [], vs, _, h => h
 | c :: cs, vs, hc, ⟨v, r, h1, h2, h3⟩ => by
  refine ⟨v, r, h1, ?_, RVs.killC (fun c h' => hc c (.tail _ h')) h3⟩
  split
  ·exact RV_cell h2 (hc c (.head _))
  ·rename_i hh
   exact RV.upd c v (by simpa using hh) h2
theorem killC_length {id : Nat} : ∀ (cs : List V), (killC id cs).length = cs.length
 | [] => rfl
 | _ :: cs => by simp only [Ab.killC, List.length_cons, killC_length cs]
theorem flook_map {g : List V → List V} : ∀ (fo : List (Nat × List V)) (k : Nat), flook (fo.map fun p => (p.1, g p.2)) k = (flook fo k).map g
 | [], _ => rfl
 | (i, cs) :: fo, k => by
  simp only [List.map_cons, flook]
  split
  ·rfl
  ·exact flook_map fo k
theorem RNs.z {w : World} {Z Z' : Nat → Prop} (hz : ∀ b, Z b → Z' b) (sh : List (Option (TypeId × Nat))) (ds : List D) (vs : List Value) (ls : List Loc) (h : RNs w Z sh ds vs ls) : RNs w Z' sh ds vs ls := RNs.keep (fun _ _ => rfl) hz sh ds vs ls (fun _ _ => rfl) h
theorem RNe.to {E E' : Env} {w : World} {sh : List (Option (TypeId × Nat))} {fo fo' : List (Nat × List V)} (hz : ∀ b, E.Z b → E'.Z b)
  (hs : ∀ k cs, flook fo k = some cs → ∃ cs', flook fo' k = some cs' ∧ cs'.length = cs.length ∧ ((∀ c ∈ cs, c.cell = true) → ∀ c ∈ cs', c.cell = true) ∧ ∀ vs, (∀ c ∈ cs, c.cell = true) → RVs E w cs vs → RVs E' w cs' vs)
  (hn : ∀ k, flook fo k = none → flook fo' k = none) : ∀ (k : Nat) (es : List (List D)) (vs : List Value) (ls : List Loc), RNe E w sh fo k es vs ls → RNe E' w sh fo' k es vs ls
 | _, [], _, _, h => h
 | k, e :: es, _, _, ⟨a, r, la, lr, h1, h2, h3, h4⟩ => by
  refine ⟨a, r, la, lr, h1, h2, ?_, RNe.to hz hs hn (k + 1) es r lr h4⟩
  cases hf : flook fo k with
  | none => rw [hf] at h3; rw [hn k hf]; exact RNs.z hz _ _ _ _ h3
  | some cs =>
   rw [hf] at h3
   obtain ⟨cs', g1, g2, g3, g4⟩ := hs k cs hf
   rw [g1]
   exact ⟨h3.1, g2.trans h3.2.1, g3 h3.2.2.1, g4 _ h3.2.2.1 h3.2.2.2⟩
theorem RNe.upd {E : Env} {w : World} {id : Nat} {ℓ : Loc} {sh : List (Option (TypeId × Nat))} {fo : List (Nat × List V)} (k : Nat) (es : List (List D)) (vs : List Value) (ls : List Loc) (h : RNe E w sh fo k es vs ls) : RNe (E.at id ℓ) w sh (fo.map fun p => (p.1, Ab.killC id p.2)) k es vs ls :=
 RNe.to (E := E) (E' := E.at id ℓ) (fun _ h => h) (fun k cs hk => ⟨Ab.killC id cs, by rw [flook_map, hk]; rfl, killC_length cs, killC_cell, fun vs hc h => RVs.killC hc h⟩) (fun k hk => by rw [flook_map, hk]; rfl) k es vs ls h
theorem Hold.upd {E : Env} {w : World} {i id : Nat} {ℓ : Loc} {k : Blk} (hi : i ≠ id) (h : Hold E w i k) : Hold (E.at id ℓ) w i (k.killed id) := by
 cases k with
 | arr T n es =>
  show Hold (E.at id ℓ) w i (.arr T n es)
  unfold Hold at h ⊢
  simp only [Env.at, if_neg hi]
  exact h
 | nest T n sh es fo =>
  obtain ⟨h1, h2, h3, h4, h5, h7, h6⟩ := h
  show Hold (E.at id ℓ) w i (.nest T n sh es (fo.map fun p => (p.1, Ab.killC id p.2)))
  unfold Hold
  simp only [Env.at, if_neg hi]
  refine ⟨h1, h2, h3, h4, h5, fun p hp => ?_, h6.imp (fun h => h) ?_⟩
  ·obtain ⟨q, hq, rfl⟩ := List.mem_map.1 hp
   exact h7 q hq
  rintro ⟨hn, c, flat, ls, k1, k2, k3, k4, k5, k6, k7⟩
  exact ⟨hn, c, flat, ls, k1, k2, k3, k4, RNe.upd _ _ _ _ k5, k6, k7⟩
 | box cs =>
  obtain ⟨h1, h2, vs, h3, h4⟩ := h
  show Hold (E.at id ℓ) w i (.box (Ab.killC id cs))
  unfold Hold
  simp only [Env.at, if_neg hi]
  exact ⟨h1, killC_cell h2, vs, RVs.killC h2 h3, h4⟩
 | mp kd l =>
  obtain ⟨h1, h2, es, clock, h3, h4, l', hp, h5⟩ := h
  show Hold (E.at id ℓ) w i (.mp kd l)
  unfold Hold
  simp only [Env.at, if_neg hi]
  exact ⟨h1, h2, es, clock, h3, h4, l', hp, REs.upd l' _ h5⟩
 | hid p =>
  show Hold (E.at id ℓ) w i (.hid p)
  unfold Hold at h ⊢
  simp only [Env.at, if_neg hi]
  exact h
theorem kill_hp {S : St} {id i : Nat} {k : Blk} (h : (S.kill id).hp i = some k) : i ≠ id ∧ ∃ k0, S.hp i = some k0 ∧ k = k0.killed id := by
 simp only [St.kill] at h
 split at h
 ·cases h
 ·rename_i hi
  refine ⟨hi, ?_⟩
  cases hk : S.hp i with
  | none => rw [hk] at h; cases h
  | some k0 =>
   rw [hk] at h
   injection h with h
   exact ⟨k0, rfl, h.symm⟩
theorem Keeps.grown {E : Env} {H : Heap} {w w' : World} {row : Option Nat} (ok : E.ok H w) (hg : w.grownBy w' row) (hr : ∀ b, row = some b → ¬ E.Z b) : Keeps E.Z w w' := fun b hb =>
 hg.block b (ok.zlt b hb) (fun e => hr b e.symm hb)
theorem Mod.re0 {fx : Fx} {S : St} {E : Env} {a : Act} {w w' : World} (m : Mod fx S E a w) {id : Nat} (hid : id ∉ S.rts) {row : Option Nat} (hg : w.grownBy w' row)
  (hrow : ∀ b, row = some b → S.hp id ≠ none ∧ (E.loc id).own b) (ℓ : Loc) {blk : Blk} (hold : Hold (E.at id ℓ) w' id blk)
  (hnew : ∀ b, ℓ.own b → (fx.w0.heap.size ≤ b ∨ fx.L b) ∧ ¬ E.Z b ∧ b < w'.heap.size ∧ ∀ i, i ≠ id → S.hp i ≠ none → ¬ (E.loc i).own b) : Mod fx ((S.kill id).setH id (some blk)) (E.at id ℓ) a w' := by
 have hz : ∀ b, row = some b → ¬ E.Z b := fun b hb => by
  obtain ⟨h1, h2⟩ := hrow b hb
  exact m.ok.apart id h1 b h2
 have hk := Keeps.grown m.ok hg hz
 have hloc : ∀ i, i ≠ id → (E.at id ℓ).loc i = E.loc i := fun i hi => by simp [Env.at, hi]
 have hloc0 : (E.at id ℓ).loc id = ℓ := by simp [Env.at]
 have old : ∀ i k, (S.kill id).hp i = some k → S.hp i ≠ none ∧ i ≠ id ∧ ∀ b, (E.loc i).own b → b < w.heap.size ∧ some b ≠ row := fun i k h => by
  obtain ⟨h1, k0, h2, _⟩ := kill_hp h
  refine ⟨by rw [h2]; simp, h1, fun b hn => ⟨m.ok.own_lt (by rw [h2]; simp) hn, fun e => ?_⟩⟩
  obtain ⟨g1, g2⟩ := hrow _ e.symm
  exact m.ok.inj i id (by rw [h2]; simp) g1 h1 b hn g2
 have hH : ∀ i, ((S.kill id).setH id (some blk)).hp i = if i = id then some blk else (S.kill id).hp i := fun i => rfl
 have get : ∀ i, ((S.kill id).setH id (some blk)).hp i ≠ none → i = id ∨ ∃ k, i ≠ id ∧ (S.kill id).hp i = some k := fun i h => by
  rw [hH] at h
  by_cases hi : i = id
  ·exact .inl hi
  ·rw [if_neg hi] at h
   cases hk : (S.kill id).hp i with
   | none => exact absurd hk h
   | some k => exact .inr ⟨k, hi, rfl⟩
 refine ⟨m.nt, fun t => ?_, m.dfr, ⟨?_, ?_, ?_, ?_, ?_⟩, ?_, ?_, ?_, ?_⟩
 ·show RV _ _ (if (S.sl t).has id then .junk else S.sl t) _
  split
  ·trivial
  ·rename_i hh
   have := RV.upd (ℓ := ℓ) _ _ (by simpa using hh) (m.slots t)
   exact RV.keep (E := E.at id ℓ) hk (fun _ h => h) rfl _ _ this
 ·intro i k h
  rw [hH] at h
  by_cases hi : i = id
  ·subst hi
   rw [if_pos rfl] at h
   injection h with h; subst h
   exact hold
  ·rw [if_neg hi] at h
   obtain ⟨h1, k0, h2, h3⟩ := kill_hp h
   obtain ⟨g1, g2, g3⟩ := old i k h
   subst h3
   have := (m.ok.hold i k0 h2).upd (ℓ := ℓ) h1
   refine this.keep (E' := E.at id ℓ) hk (fun _ h => h) rfl (fun b hn => ?_) hg.size
   rw [hloc i hi] at hn
   exact hg.block _ (g3 b hn).1 (g3 b hn).2
 ·intro i j hi hj hij b hni hnj
  rcases get i hi with rfl | ⟨ki, hi1, hi2⟩
  ·rcases get j hj with rfl | ⟨kj, hj1, hj2⟩
   ·exact absurd rfl hij
   ·rw [hloc0] at hni; rw [hloc j hj1] at hnj
    exact (hnew b hni).2.2.2 j hj1 (old j kj hj2).1 hnj
  ·rcases get j hj with rfl | ⟨kj, hj1, hj2⟩
   ·rw [hloc0] at hnj; rw [hloc i hi1] at hni
    exact (hnew b hnj).2.2.2 i hi1 (old i ki hi2).1 hni
   ·rw [hloc i hi1] at hni; rw [hloc j hj1] at hnj
    exact m.ok.inj i j (old i ki hi2).1 (old j kj hj2).1 hij b hni hnj
 ·intro i hi b hn hz'
  rcases get i hi with rfl | ⟨ki, hi1, hi2⟩
  ·rw [hloc0] at hn
   exact (hnew b hn).2.1 hz'
  ·rw [hloc i hi1] at hn
   exact m.ok.apart i (old i ki hi2).1 b hn hz'
 ·exact fun b hb => Nat.lt_of_lt_of_le (m.ok.zlt b hb) hg.size
 ·intro i hi b hb
  rcases get i hi with rfl | ⟨ki, hi1, hi2⟩
  ·rw [hloc0] at hb
   exact (hnew b (.inr hb)).2.2.1
  ·rw [hloc i hi1] at hb
   exact Nat.lt_of_lt_of_le (m.ok.xlt i (old i ki hi2).1 b hb) hg.size
 ·refine ⟨hg.os.trans m.frame.os, hg.tape.trans m.frame.tape, hg.output.trans m.frame.output, Nat.le_trans m.frame.size hg.size, fun b hb hl => ?_⟩
  refine (hg.block b (Nat.lt_of_lt_of_le hb m.frame.size) fun e => ?_).trans (m.frame.block b hb hl)
  obtain ⟨g1, g2⟩ := hrow b e.symm
  rcases m.mine id g1 b g2 with h | h
  ·omega
  ·exact hl h
 ·intro i hi b hn
  rcases get i hi with rfl | ⟨ki, hi1, hi2⟩
  ·rw [hloc0] at hn
   exact (hnew b hn).1
  ·rw [hloc i hi1] at hn
   exact m.mine i (old i ki hi2).1 b hn
 ·exact m.z
 ·intro r hr
  obtain ⟨h1, h2⟩ := m.roots r hr
  exact ⟨h1, by rw [hloc _ (fun e => hid (by rw [← e]; exact h1))]; exact h2⟩
theorem Mod.re' {fx : Fx} {S : St} {E : Env} {a : Act} {w w' : World} (m : Mod fx S E a w) {id : Nat} (hid : id ∉ S.rts) {row : Option Nat} (hg : w.grownBy w' row)
  (hrow : ∀ b, row = some b → S.hp id ≠ none ∧ (E.loc id).nil = false ∧ (E.loc id).b = b) (ℓ : Loc) {blk : Blk} (hold : Hold (E.at id ℓ) w' id blk)
  (hnew : ℓ.nil = false → some ℓ.b = row ∨ (fx.w0.heap.size ≤ ℓ.b ∧ ¬ E.Z ℓ.b ∧ ∀ i, S.hp i ≠ none → ¬ (E.loc i).own ℓ.b)) (hx : ∀ b, ¬ ℓ.xs b := by exact fun _ h => h) : Mod fx ((S.kill id).setH id (some blk)) (E.at id ℓ) a w' :=
 m.re0 hid hg (fun b hb => ⟨(hrow b hb).1, .inl (hrow b hb).2⟩) ℓ hold fun b hb => by
  rcases hb with ⟨hn, rfl⟩ | hb
  ·have hlt : ℓ.b < w'.heap.size := by
    have := hold.block_lt (by simpa [Env.at] using hn)
    simpa [Env.at] using this
   rcases hnew hn with e | ⟨h1, h2, h3⟩
   ·obtain ⟨g1, g2, g3⟩ := hrow _ e.symm
    have ho : (E.loc id).own ℓ.b := .inl ⟨g2, g3⟩
    exact ⟨m.mine id g1 _ ho, m.ok.apart id g1 _ ho, hlt, fun i hi hs hb => m.ok.inj i id hs g1 hi _ hb ho⟩
   ·exact ⟨.inl h1, h2, hlt, fun i _ hs => h3 i hs⟩
  ·exact absurd hb (hx b)
theorem Mod.re {fx : Fx} {S : St} {E : Env} {a : Act} {w w' : World} (m : Mod fx S E a w) {id : Nat} (hid : id ∉ S.rts) {row : Option Nat} (hg : w.grownBy w' row)
  (hrow : ∀ b, row = some b → S.hp id ≠ none ∧ (E.loc id).nil = false ∧ (E.loc id).b = b) (ℓ : Loc) {blk : Blk} (hold : Hold (E.at id ℓ) w' id blk)
  (hnew : ℓ.nil = false → some ℓ.b = row ∨ w.heap.size ≤ ℓ.b) (hx : ∀ b, ¬ ℓ.xs b := by exact fun _ h => h) : Mod fx ((S.kill id).setH id (some blk)) (E.at id ℓ) a w' :=
 m.re' hid hg hrow ℓ hold (fun h => (hnew h).imp (fun h => h) fun h => ⟨Nat.le_trans m.frame.size h, fun hz => by have := m.ok.zlt _ hz; omega, fun i hi hn => by
  have := m.ok.own_lt hi hn; omega⟩) hx
theorem Mod.kill {fx : Fx} {S : St} {E : Env} {a : Act} {w : World} (m : Mod fx S E a w) {id : Nat} (hid : id ∉ S.rts) (ℓ : Loc) : Mod fx (S.kill id) (E.at id ℓ) a w := by
 have hloc : ∀ i, i ≠ id → (E.at id ℓ).loc i = E.loc i := fun i hi => by simp [Env.at, hi]
 have get : ∀ i, (S.kill id).hp i ≠ none → i ≠ id ∧ S.hp i ≠ none := fun i h => by
  cases hk : (S.kill id).hp i with
  | none => exact absurd hk h
  | some k => obtain ⟨h1, k0, h2, _⟩ := kill_hp hk; exact ⟨h1, by rw [h2]; simp⟩
 refine ⟨m.nt, fun t => ?_, m.dfr, ⟨?_, ?_, ?_, m.ok.zlt, ?_⟩, m.frame, ?_, m.z, ?_⟩
 ·show RV _ _ (if (S.sl t).has id then .junk else S.sl t) _
  split
  ·trivial
  ·rename_i hh
   exact RV.upd (ℓ := ℓ) _ _ (by simpa using hh) (m.slots t)
 ·intro i k h
  obtain ⟨h1, k0, h2, h3⟩ := kill_hp h
  subst h3
  exact (m.ok.hold i k0 h2).upd (ℓ := ℓ) h1
 ·intro i j hi hj hij b hni hnj
  rw [hloc i (get i hi).1] at hni; rw [hloc j (get j hj).1] at hnj
  exact m.ok.inj i j (get i hi).2 (get j hj).2 hij b hni hnj
 ·intro i hi b hn
  rw [hloc i (get i hi).1] at hn
  exact m.ok.apart i (get i hi).2 b hn
 ·intro i hi b hn
  rw [hloc i (get i hi).1] at hn
  exact m.ok.xlt i (get i hi).2 b hn
 ·intro i hi b hn
  rw [hloc i (get i hi).1] at hn
  exact m.mine i (get i hi).2 b hn
 ·intro r hr
  obtain ⟨h1, h2⟩ := m.roots r hr
  exact ⟨h1, by rw [hloc _ (fun e => hid (by rw [← e]; exact h1))]; exact h2⟩
theorem Mod.growZ {fx : Fx} {S : St} {E : Env} {a : Act} {w w' : World} (m : Mod fx S E a w) (h : Grow w w') {Zn : Nat → Prop} (hz : ∀ b, Zn b → w.heap.size ≤ b ∧ b < w'.heap.size) : Mod fx S { E with Z := fun b => E.Z b ∨ Zn b } a w' := by
 have m0 := m
 have m := m.grow h
 refine ⟨m.nt, fun t => RV.keep (E' := { E with Z := fun b => E.Z b ∨ Zn b }) (fun _ _ => rfl) (fun _ h => .inl h) rfl _ _ (m.slots t), m.dfr, ⟨?_, m.ok.inj, ?_, ?_, m.ok.xlt⟩, m.frame, m.mine, ?_, m.roots⟩
 ·intro i k hk
  exact (m.ok.hold i k hk).keep (E' := { E with Z := fun b => E.Z b ∨ Zn b }) (fun _ _ => rfl) (fun _ h => .inl h) rfl (fun _ _ => rfl) (Nat.le_refl _)
 ·intro i hi b hn hb
  rcases hb with hb | hb
  ·exact m.ok.apart i hi b hn hb
  ·exact Nat.lt_irrefl _ (Nat.lt_of_lt_of_le (m0.ok.own_lt hi hn) (hz _ hb).1)
 ·intro b hb
  rcases hb with hb | hb
  ·exact m.ok.zlt b hb
  ·exact (hz b hb).2
 ·intro b hb
  rcases hb with hb | hb
  ·exact m.z b hb
  ·exact .inr (.inl (Nat.le_trans m0.frame.size (hz b hb).1))
theorem Mod.wr {fx : Fx} {S : St} {E : Env} {a : Act} {w w' : World} (m : Mod fx S E a w) {id : Nat} {k0 : Blk} (hH : S.hp id = some k0) (hn : (E.loc id).nil = false) (hg : w.grownBy w' (some (E.loc id).b))
  {blk : Blk} (hold : Hold E w' id blk) : Mod fx (S.setH id (some blk)) E a w' := by
 have h0 : S.hp id ≠ none := by rw [hH]; simp
 have hk : Keeps E.Z w w' := Keeps.grown m.ok hg fun b hb => by injection hb with hb; rw [← hb]; exact m.ok.apart1 id h0 hn
 have get : ∀ i, (S.setH id (some blk)).hp i ≠ none → S.hp i ≠ none := fun i h => by
  simp only [St.setH] at h
  by_cases hi : i = id
  ·rw [hi]; exact h0
  ·rw [if_neg hi] at h; exact h
 refine ⟨m.nt, fun t => RV.keep hk (fun _ h => h) rfl _ _ (m.slots t), m.dfr, ⟨?_, ?_, ?_, ?_, ?_⟩, ?_, ?_, m.z, m.roots⟩
 ·intro i k h
  simp only [St.setH] at h
  by_cases hi : i = id
  ·subst hi
   rw [if_pos rfl] at h
   injection h with h; subst h
   exact hold
  ·rw [if_neg hi] at h
   refine (m.ok.hold i k h).keep hk (fun _ h => h) rfl (fun b hni => ?_) hg.size
   refine hg.block _ (m.ok.own_lt (by rw [h]; simp) hni) fun e => ?_
   injection e with e
   subst e
   exact m.ok.inj i id (by rw [h]; simp) h0 hi _ hni (Loc.here hn)
 ·exact fun i j hi hj => m.ok.inj i j (get i hi) (get j hj)
 ·exact fun i hi => m.ok.apart i (get i hi)
 ·exact fun b hb => Nat.lt_of_lt_of_le (m.ok.zlt b hb) hg.size
 ·exact fun i hi b hb => Nat.lt_of_lt_of_le (m.ok.xlt i (get i hi) b hb) hg.size
 ·refine ⟨hg.os.trans m.frame.os, hg.tape.trans m.frame.tape, hg.output.trans m.frame.output, Nat.le_trans m.frame.size hg.size, fun b hb hl => ?_⟩
  refine (hg.block b (Nat.lt_of_lt_of_le hb m.frame.size) fun e => ?_).trans (m.frame.block b hb hl)
  injection e with e
  rcases m.mine1 id h0 hn with h | h
  ·omega
  ·rw [← e] at h; exact hl h
 ·exact fun i hi => m.mine i (get i hi)
theorem Mod.lay {fx : Fx} {S : St} {E : Env} {a : Act} {w : World} (m : Mod fx S E a w) (o : Obj) : Mod fx S { E with Z := fun b => E.Z b ∨ b = w.heap.size } a (w.alloc o) := by
 have hg := World.grownBy_alloc w o none
 have hk : Keeps E.Z w (w.alloc o) := Keeps.grown m.ok hg fun b hb => by cases hb
 have hz : ∀ b, E.Z b → E.Z b ∨ b = w.heap.size := fun _ h => .inl h
 refine ⟨m.nt, fun t => RV.keep (E' := { E with Z := fun b => E.Z b ∨ b = w.heap.size }) hk hz rfl _ _ (m.slots t), m.dfr, ⟨?_, m.ok.inj, ?_, ?_, ?_⟩, ?_, m.mine, ?_, m.roots⟩
 ·intro i k h
  exact (m.ok.hold i k h).keep (E' := { E with Z := fun b => E.Z b ∨ b = w.heap.size }) hk hz rfl (fun b hn => hg.block _ (m.ok.own_lt (by rw [h]; simp) hn) (by simp)) hg.size
 ·intro i hi b hn hb
  rcases hb with hb | hb
  ·exact m.ok.apart i hi b hn hb
  ·have := m.ok.own_lt hi hn; have hb' : b = w.heap.size := hb; omega
 ·intro b hb
  have := hg.size
  rcases hb with hb | hb
  ·exact Nat.lt_of_lt_of_le (m.ok.zlt b hb) this
  ·subst hb; show _ < (w.heap.push o).size; simp
 ·exact fun i hi b hb => Nat.lt_of_lt_of_le (m.ok.xlt i hi b hb) hg.size
 ·exact m.frame.grow ((Below.refl _ _).alloc (Nat.le_refl _) o)
 ·intro b hb
  rcases hb with hb | hb
  ·exact m.z b hb
  ·subst hb; exact .inr (.inl m.frame.size)
end Go.Ab
end
section
namespace Go.Ab
open Go.RowKit
theorem grownBy_setCell (w : World) (b i : Nat) (u : Value) : w.grownBy (w.setCell ⟨b, i, none⟩ u) (some b) :=
 ⟨rfl, rfl, rfl, by simp [World.setCell], fun k _ hk => Below.heap_setCell _ _ _ _ (fun e => hk (by rw [e]))⟩
theorem grownBy_trans {a b c : World} {r : Option Nat} (h : a.grownBy b r) (g : b.grownBy c r) : a.grownBy c r :=
 ⟨g.os.trans h.os, g.tape.trans h.tape, g.output.trans h.output, Nat.le_trans h.size g.size, fun k hk hr => (g.block k (Nat.lt_of_lt_of_le hk h.size) hr).trans (h.block k hk hr)⟩
theorem grownBy_setCells (b : Nat) : ∀ (vs : List Value) (o : Nat) (w : World), w.grownBy (w.setCells b o vs) (some b)
 | [], _, _w => ⟨rfl, rfl, rfl, Nat.le_refl _, fun _ _ _ => rfl⟩
 | v :: r, o, w => grownBy_trans (grownBy_setCell w b o v) (grownBy_setCells b r (o + 1) _)
theorem size_setCells (b : Nat) : ∀ (vs : List Value) (o : Nat) (w : World), (w.setCells b o vs).heap.size = w.heap.size
 | [], _, _ => rfl
 | v :: r, o, w => by rw [World.setCells, size_setCells b r]; simp [World.setCell]
theorem list_set_splice (l : List Value) (o : Nat) (v : Value) (vs : List Value) (h : o < l.length) :
  (l.set o v).take (o + 1) ++ (vs ++ (l.set o v).drop (o + 1 + vs.length)) = l.take o ++ (v :: vs ++ l.drop (o + (vs.length + 1))) := by
 have e1 : (l.set o v).take (o + 1) = l.take o ++ [v] := by
  rw [List.take_succ_eq_append_getElem (by simpa using h), List.take_set_of_le (Nat.le_refl _)]
  simp
 have e2 : (l.set o v).drop (o + 1 + vs.length) = l.drop (o + 1 + vs.length) := by
  rw [List.drop_set_of_lt (by omega)]
 rw [e1, e2, show o + 1 + vs.length = o + (vs.length + 1) by omega]
 simp
theorem heap_setCells (b : Nat) {T : TypeId} {fr : Nat × Nat} : ∀ (vs : List Value) (o : Nat) (w : World) (c : Array Value), w.heap[b]? = some (.cells c T fr) → o + vs.length ≤ c.size →
  ∃ c' : Array Value, (w.setCells b o vs).heap[b]? = some (.cells c' T fr) ∧ c'.toList = c.toList.take o ++ (vs ++ c.toList.drop (o + vs.length))
 | [], o, w, c, h, _ => ⟨c, h, by simp⟩
 | v :: r, o, w, c, h, hl => by
  simp only [List.length_cons] at hl
  obtain ⟨c', h1, h2⟩ := heap_setCells b r (o + 1) (w.setCell ⟨b, o, none⟩ v) (c.setIfInBounds o v) (Rp.heap_setCell_at h v) (by simp; omega)
  refine ⟨c', h1, ?_⟩
  rw [h2, Array.toList_setIfInBounds, list_set_splice _ _ _ _ (by simp; omega)]
  simp
theorem rangeAt_store {w : World} {b o : Nat} {vs us : List Value} (h : w.rangeAt b o vs) {off : Nat} (hle : off + us.length ≤ vs.length) : (w.setCells b (o + off) us).rangeAt b o (vs.take off ++ (us ++ vs.drop (off + us.length))) := by
 have some : ∀ j, j < us.length → (w.cell? ⟨b, o + off + j, none⟩).isSome = true := fun j hj => by
  have := h (off + j) vs[off + j] (List.getElem?_eq_getElem (by omega))
  rw [← Nat.add_assoc] at this
  rw [this]; rfl
 intro j v hv
 have ht : (vs.take off).length = off := by rw [List.length_take]; omega
 rcases Nat.lt_or_ge j off with hj | hj
 ·rw [List.getElem?_append_left (by omega), List.getElem?_take_of_lt hj] at hv
  rw [World.cell?_setCells_out b us (o + off) w _ (fun _ _ => .inl (by show o + j < _; omega))]
  exact h j v hv
 ·rw [List.getElem?_append_right (by omega), ht] at hv
  rcases Nat.lt_or_ge (j - off) us.length with hj2 | hj2
  ·rw [List.getElem?_append_left hj2] at hv
   have := World.cell?_setCells_in b us (o + off) w some (j - off) hj2
   rw [show o + off + (j - off) = o + j by omega] at this
   rw [this, ← hv, List.getElem?_eq_getElem hj2]
  ·rw [List.getElem?_append_right hj2, List.getElem?_drop] at hv
   rw [World.cell?_setCells_out b us (o + off) w _ (fun _ _ => .inr (by show _ ≤ o + j; omega))]
   refine h j v ?_
   rw [← hv]; congr 1; omega
def toD : V → Option D
 | .d x => some x
 | _ => none
def toDs : List V → Option (List D)
 | [] => some []
 | c :: cs => match toD c, toDs cs with
  | some x, some xs => some (x :: xs)
  | _, _ => none
theorem toDs_sound : ∀ {cs : List V} {ds : List D}, toDs cs = some ds → cs = ds.map V.d
 | [], ds, h => by injection h with h; subst h; rfl
 | c :: cs, ds, h => by
  simp only [toDs] at h
  split at h
  ·rename_i x xs hx hxs
   injection h with h; subst h
   unfold toD at hx
   split at hx
   ·injection hx with hx; subst hx; rw [List.map_cons, ← toDs_sound hxs]
   ·cases hx
  ·cases h
theorem RDe_set {w : World} {Z : Nat → Prop} {n : Nat} : ∀ {es : List (List D)} {flat : List Value}, RDe w Z es flat → (∀ e ∈ es, e.length = n) → ∀ {i : Nat} {e e' : List D} {us : List Value}, es[i]? = some e → e'.length = n → RDs w Z e' us →
  RDe w Z (es.set i e') (flat.take (i * n) ++ (us ++ flat.drop (i * n + n)))
 | [], _, _, _, i, e, e', us, he, _, _ => by simp at he
 | x :: es, _, ⟨a, r, h, h1, h2⟩, hn, 0, e, e', us, he, hl, hu => by
  subst h
  have ha : a.length = n := by rw [RDs_length h1, hn x (.head _)]
  refine ⟨us, r, ?_, hu, h2⟩
  simp [← ha]
 | x :: es, _, ⟨a, r, h, h1, h2⟩, hn, i + 1, e, e', us, he, hl, hu => by
  subst h
  have ha : a.length = n := by rw [RDs_length h1, hn x (.head _)]
  have ih := RDe_set h2 (fun e he => hn e (.tail _ he)) (i := i) (e := e) (e' := e') (us := us) (by simpa using he) hl hu
  refine ⟨a, _, ?_, h1, ih⟩
  have e1 : (a ++ r).take ((i + 1) * n) = a ++ r.take (i * n) := by
   rw [Nat.add_mul, Nat.one_mul, Nat.add_comm, ← ha, List.take_length_add_append]
  have e2 : (a ++ r).drop ((i + 1) * n + n) = r.drop (i * n + n) := by
   rw [show (i + 1) * n + n = a.length + (i * n + n) by rw [ha, Nat.add_mul]; omega, ← List.drop_drop, List.drop_left]
  rw [e1, e2, List.append_assoc]
def setD (e : List D) (off : Nat) (ds : List D) : List D := e.take off ++ (ds ++ e.drop (off + ds.length))
theorem RDs_set {w : World} {Z : Nat → Prop} {e ds : List D} {vs us : List Value} (h : RDs w Z e vs) (g : RDs w Z ds us) (off : Nat) : RDs w Z (setD e off ds) (vs.take off ++ (us ++ vs.drop (off + us.length))) := by
 have tk : ∀ {e : List D} {vs : List Value} (k : Nat), RDs w Z e vs → RDs w Z (e.take k) (vs.take k) := by
  intro e
  induction e with
  | nil => intro vs k h; have : vs = [] := h; subst this; simp [RDs]
  | cons x e ih =>
   intro vs k h
   obtain ⟨v, r, rfl, h1, h2⟩ := h
   cases k with
   | zero => simp [RDs]
   | succ k => exact ⟨v, r.take k, rfl, h1, ih k h2⟩
 unfold setD
 rw [RDs_length g]
 exact RDs_append (tk _ h) (RDs_append g (RDs_drop _ h))
def fset : List (Nat × List V) → Nat → List V → List (Nat × List V)
 | [], _, _ => []
 | (k, cs) :: fo, i, x => if i = k then (k, x) :: fo else (k, cs) :: fset fo i x
theorem flook_fset {x : List V} : ∀ (fo : List (Nat × List V)) (i j : Nat), flook (fset fo i x) j = if j = i then (flook fo i).map (fun _ => x) else flook fo j
 | [], i, j => by simp [fset, flook]
 | (k, cs) :: fo, i, j => by
  simp only [fset, flook]
  by_cases h1 : i = k
  ·subst h1
   simp only [if_true, flook]
   by_cases h2 : j = i
   ·subst h2; simp
   ·simp [h2]
  ·rw [if_neg h1]
   simp only [flook, flook_fset fo i j]
   by_cases h2 : j = k
   ·subst h2
    rw [if_pos rfl, if_neg (fun e : j = i => h1 e.symm), if_pos rfl]
   ·simp [h2, h1]
theorem fset_keys {x : List V} {i : Nat} : ∀ {fo : List (Nat × List V)} {p : Nat × List V}, p ∈ fset fo i x → ∃ q ∈ fo, q.1 = p.1
 | [], p, h => by cases h
 | (k, cs) :: fo, p, h => by
  simp only [fset] at h
  split at h
  ·rcases List.mem_cons.1 h with rfl | h
   ·exact ⟨_, .head _, rfl⟩
   ·exact ⟨_, .tail _ h, rfl⟩
  ·rcases List.mem_cons.1 h with rfl | h
   ·exact ⟨_, .head _, rfl⟩
   ·obtain ⟨q, h1, h2⟩ := fset_keys h
    exact ⟨q, .tail _ h1, h2⟩
theorem RNe_length {E : Env} {w : World} {sh : List (Option (TypeId × Nat))} {fo : List (Nat × List V)} {n : Nat} : ∀ (k : Nat) (es : List (List D)) (vs : List Value) (ls : List Loc), (∀ e ∈ es, e.length = n) → RNe E w sh fo k es vs ls → vs.length = es.length * n
 | k, [], _, _, _, ⟨h, _⟩ => by simp [h]
 | k, e :: es, _, _, hn, ⟨a, r, la, lr, h1, h2, h3, h4⟩ => by
  subst h1
  have hal : a.length = n := by
   have hrs : ∀ (sh : List (Option (TypeId × Nat))) (ds : List D) (vs : List Value) (ls : List Loc), RNs w E.Z sh ds vs ls → vs.length = ds.length := by
    intro sh
    induction sh with
    | nil => rintro ds vs ls ⟨rfl, rfl, rfl⟩; rfl
    | cons x sh ih =>
     intro ds vs ls h
     cases x with
     | none => obtain ⟨d, ds', v, r, rfl, rfl, _, h⟩ := h; simp [ih _ _ _ h]
     | some p => obtain ⟨es, ds', v, r, ℓ, ls', rfl, rfl, rfl, _, h⟩ := h; simp [ih _ _ _ h]
   split at h3
   ·rw [hrs _ _ _ _ h3]; exact hn e (.head _)
   ·rw [RVs_length h3.2.2.2, h3.2.1]; exact hn e (.head _)
  rw [List.length_append, hal, RNe_length (k + 1) es r lr (fun e he => hn e (.tail _ he)) h4, List.length_cons, Nat.add_mul, Nat.one_mul, Nat.add_comm]
theorem RNe_set {E : Env} {w : World} {sh : List (Option (TypeId × Nat))} {fo : List (Nat × List V)} {n i : Nat} {cs cs' : List V} {us : List Value} (hf : flook fo i = some cs) (hl : cs'.length = n) (hc : ∀ c ∈ cs', c.cell = true) (hr : RVs E w cs' us) :
  ∀ (k : Nat) (es : List (List D)) (vs : List Value) (ls : List Loc), (∀ e ∈ es, e.length = n) → RNe E w sh fo k es vs ls → k ≤ i → i < k + es.length → RNe E w sh (fset fo i cs') k es (vs.take ((i - k) * n) ++ (us ++ vs.drop ((i - k) * n + n))) ls
 | k, [], _, _, _, _, h1, h2 => by simp at h2; omega
 | k, e :: es, _, _, hn, ⟨a, r, la, lr, h1, h2, h3, h4⟩, hk, hlt => by
  subst h1
  have hal : a.length = n := by
   have := RNe_length (E := E) (w := w) (sh := sh) (fo := fo) (n := n) k [e] a la (fun x hx => hn x (by rw [List.mem_singleton] at hx; rw [hx]; exact .head _)) ⟨a, [], la, [], by simp, by simp, h3, rfl, rfl⟩
   simpa using this
  by_cases hik : i = k
  ·subst hik
   rw [hf] at h3
   refine ⟨us, r, la, lr, ?_, h2, ?_, ?_⟩
   ·simp only [Nat.sub_self, Nat.zero_mul, List.take_zero, List.nil_append, Nat.zero_add]
    rw [← hal, List.drop_left]
   ·rw [flook_fset, if_pos rfl, hf]
    exact ⟨h3.1, hl.trans (hn e (.head _)).symm, hc, hr⟩
   ·-- behind i nothing turns
    have key : ∀ (k : Nat) (es : List (List D)) (vs : List Value) (ls : List Loc), i < k → RNe E w sh fo k es vs ls → RNe E w sh (fset fo i cs') k es vs ls := by
     intro k es
     induction es generalizing k with
     | nil => intro vs ls _ h; exact h
     | cons e es ih =>
      rintro vs ls hlt ⟨a, r, la, lr, g1, g2, g3, g4⟩
      refine ⟨a, r, la, lr, g1, g2, ?_, ih (k + 1) r lr (by omega) g4⟩
      rw [flook_fset, if_neg (by omega)]; exact g3
    exact key _ _ _ _ (by omega) h4
  ·refine ⟨a, _, la, lr, ?_, h2, ?_, RNe_set hf hl hc hr (k + 1) es r lr (fun e he => hn e (.tail _ he)) h4 (by omega) (by simp at hlt; omega)⟩
   ·have e1 : (i - k) * n = a.length + (i - (k + 1)) * n := by
     rw [hal, show i - k = (i - (k + 1)) + 1 by omega, Nat.add_mul, Nat.one_mul, Nat.add_comm]
    rw [e1, List.take_length_add_append, show a.length + (i - (k + 1)) * n + n = a.length + ((i - (k + 1)) * n + n) by omega, ← List.drop_drop, List.drop_left, List.append_assoc]
   ·rw [flook_fset, if_neg (fun e => hik e.symm)]; exact h3
def stV (S : St) (size : Nat) (p x : V) : Option St :=
 match p with
 | .ptr id i off => match S.hp id with
  | some (.box cs) => if i = 0 ∧ (cellsV x).all V.cell = true ∧ (cellsV x).length = size ∧ off + size ≤ cs.length then some (S.setH id (some (.box (setL cs off (cellsV x))))) else none
  | some (.arr T n es) => match es[i]?, toDs (cellsV x) with
   | some e, some ds => if ds.length = size ∧ off + size ≤ e.length then some (S.setH id (some (.arr T n (es.set i (setD e off ds))))) else none
   | _, _ => none
  | some (.nest T n sh es fo) => match flook fo i with
   | some cs => if (cellsV x).all V.cell = true ∧ (cellsV x).length = size ∧ off + size ≤ cs.length then some (S.setH id (some (.nest T n sh es (fset fo i (setL cs off (cellsV x)))))) else none
   | none => none
  | _ => none
 | _ => none
theorem run_storeVar {P : Program} {T : TypeId} {ti : TI} (ht : tyOf P T = some ti) {w : World} {b o : Nat} {v : Value} (hsz : v.cells.size = ti.size) (h1 : ∀ u ∈ v.cells.toList, u.oneCell' = true) (hth : w.there b o v.cells.size) :
  (Instr.storeAt T (.pointer (some ⟨b, o, none⟩)) v).run P w = .ok () (w.setCells b o v.cells.toList) := by
 have := run_storeCells_cells (P := P) b o v.cells.toList 0 w (fun j hj => by simpa using (hth j (by simpa using hj)).1) (fun j hj => by simpa using (hth j (by simpa using hj)).2) h1
 simp only [Nat.add_zero] at this
 simp [Instr.storeAt, Instr.sureAddr, storeVar, run_sizeOf ht w, hsz, this]
theorem stV_sound {P : Program} {T : TypeId} {ti : TI} (ht : tyOf P T = some ti) {fx : Fx} {S S' : St} {E : Env} {a : Act} {w : World} (m : Mod fx S E a w) {p x : V} {pv xv : Value} (hp : RV E w p pv) (hx : RV E w x xv) (h : stV S ti.size p x = some S') :
  ∃ w', (Instr.storeAt T pv xv).run P w = .ok () w' ∧ Mod fx S' E a w' := by
 unfold stV at h
 split at h
 ·rename_i id i off
  obtain ⟨hn, rfl⟩ := hp
  split at h
  ·rename_i cs hH
   split at h
   ·rename_i hc
    obtain ⟨rfl, h1, h2, h3⟩ := hc
    injection h with h; subst h
    have hv := cellsV_sound hx h1
    have hvl := RVs_length hv
    obtain ⟨_, g1, vs, g2, g3, g4, g5⟩ := m.ok.hold _ _ hH
    have hvsl := RVs_length g2
    have hsz : xv.cells.size = ti.size := by rw [← h2, ← hvl]; simp
    simp only [Nat.zero_mul, Nat.add_zero]
    refine ⟨_, run_storeVar ht hsz (RVs_cell hv (fun c hc => List.all_eq_true.1 h1 c hc)) (fun j hj => ?_), m.wr hH hn (grownBy_setCells _ _ _ _) ?_⟩
    ·have := g3 (off + j) vs[off + j] (List.getElem?_eq_getElem (by omega))
     rw [← Nat.add_assoc] at this
     refine ⟨by rw [this]; rfl, ?_⟩
     have := g4 (off + j) (by omega)
     rwa [← Nat.add_assoc] at this
    ·have hlen : xv.cells.toList.length = ti.size := by simp [hsz]
     have hgb := grownBy_setCells (E.loc id).b xv.cells.toList ((E.loc id).o + off) w
     have hk : Keeps E.Z w (w.setCells (E.loc id).b ((E.loc id).o + off) xv.cells.toList) := Keeps.grown m.ok hgb fun b hb => by injection hb with hb; rw [← hb]; exact m.ok.apart1 id (by rw [hH]; simp) hn
     refine ⟨hn, fun c hc => ?_, _, RVs.keep hk (fun _ h => h) rfl _ _ (RVs_set g2 hv (off := off) (by omega)), rangeAt_store g3 (by omega), fun j hj => ?_, by rw [size_setCells]; exact g5⟩
     ·unfold setL at hc
      rcases List.mem_append.1 hc with hc | hc
      ·exact g1 c (List.mem_of_mem_take hc)
      ·rcases List.mem_append.1 hc with hc | hc
       ·exact List.all_eq_true.1 h1 c hc
       ·exact g1 c (List.mem_of_mem_drop hc)
     ·rw [World.frozen?_setCells]
      refine g4 j ?_
      simp only [List.length_append, List.length_take, List.length_drop] at hj
      omega
   ·cases h
  ·rename_i T' n es hH
   split at h
   ·rename_i e ds he hds
    split at h
    ·rename_i hc
     obtain ⟨h2, h3⟩ := hc
     injection h with h; subst h
     have hcd := toDs_sound hds
     have hall : (cellsV x).all V.cell = true := by rw [hcd, List.all_eq_true]; intro c hc; obtain ⟨y, _, rfl⟩ := List.mem_map.1 hc; rfl
     have hv := cellsV_sound hx hall
     rw [hcd] at hv
     have hvd := RVs_d.1 hv
     have hvl := RDs_length hvd
     obtain ⟨hln, hlo, hlen, hpos, hh⟩ := m.ok.hold _ _ hH
     rcases hh with ⟨hnil, _⟩ | ⟨_, c, flat, g1, g2, g3, g4, g5, g6⟩
     ·rw [hn] at hnil; cases hnil
     ·obtain ⟨c1, vs, c2, k1, k2, k3⟩ := RDe_get g5 hlen he
      have hel : e.length = n := hlen e (List.mem_of_getElem? he)
      have hvs : vs.length = n := by rw [RDs_length k3, hel]
      have hi : i < es.length := (List.getElem?_eq_some_iff.1 he).1
      have hfl : flat.length = es.length * n := RDe_length g5 hlen
      have hin : i * n + n ≤ es.length * n := by
       have : (i + 1) * n ≤ es.length * n := Nat.mul_le_mul_right _ hi
       rwa [Nat.add_mul, Nat.one_mul] at this
      have hcap : es.length * n ≤ c.size := by rw [g4]; exact Nat.mul_le_mul_right _ g2
      have hsz : xv.cells.size = ti.size := by rw [← h2, ← hvl]; simp
      have hul : xv.cells.toList.length = ti.size := by simp [hsz]
      have hoff : (E.loc id).o + i * (E.loc id).n + off = i * n + off := by rw [hlo, hln, Nat.zero_add]
      rw [hoff]
      obtain ⟨c', q1, q2⟩ := heap_setCells (E.loc id).b xv.cells.toList (i * n + off) w c g1 (by rw [hul]; omega)
      have hfr : ∀ k, w.frozen? ⟨(E.loc id).b, k, none⟩ = false := fun k => by simp [World.frozen?, g1]
      refine ⟨_, run_storeVar ht hsz (fun u hu => ?_) (fun j hj => ⟨?_, hfr _⟩), m.wr hH hn (grownBy_setCells _ _ _ _) ?_⟩
      ·exact RVs_cell hv (fun c hc => by obtain ⟨y, _, rfl⟩ := List.mem_map.1 hc; rfl) u hu
      ·simp only [World.cell?, g1, Option.isSome_none, Bool.false_eq_true, if_false]
       rw [Array.getElem?_eq_getElem (by omega)]
       rfl
      ·have hgb := grownBy_setCells (E.loc id).b xv.cells.toList (i * n + off) w
       have hk : Keeps E.Z w (w.setCells (E.loc id).b (i * n + off) xv.cells.toList) := Keeps.grown m.ok hgb fun b hb => by injection hb with hb; rw [← hb]; exact m.ok.apart1 id (by rw [hH]; simp) hn
       have hset := RDs_set k3 hvd off
       have hsl : (setD e off ds).length = n := by
        unfold setD; simp only [List.length_append, List.length_take, List.length_drop]; omega
       have hnew := RDe_set g5 hlen he hsl hset
       refine ⟨hln, hlo, fun e' he' => ?_, hpos, .inr ⟨hn, c', _, q1, by rw [List.length_set]; exact g2, g3, ?_, RDe.keep hk (fun _ h => h) _ _ hnew, ?_⟩⟩
       ·rcases List.mem_or_eq_of_mem_set he' with h | h
        ·exact hlen e' h
        ·rw [h]; exact hsl
       ·have : c'.toList.length = c.toList.length := by
         rw [q2]; simp only [List.length_append, List.length_take, List.length_drop, Array.length_toList]
         rw [hsz]; omega
        rw [← g4]; simpa using this
       ·rw [q2, List.length_set]
        have hct : c.toList.take (es.length * n) = flat := g6
        have hflat : flat = c1 ++ (vs ++ c2) := k1
        have hc1 : c.toList.take (i * n + off) = c1 ++ vs.take off := by
         have : c.toList.take (i * n + off) = flat.take (i * n + off) := by rw [← hct, List.take_take, Nat.min_eq_left (by omega)]
         rw [this, hflat, ← k2, List.take_length_add_append, List.take_append_of_le_length (by omega)]
        have ht1 : flat.take (i * n) = c1 := by rw [hflat, ← k2, List.take_left]
        have ht2 : flat.drop (i * n + n) = c2 := by
         rw [hflat, ← k2, ← hvs, ← List.append_assoc, show c1.length + vs.length = (c1 ++ vs).length by simp, List.drop_left]
        rw [hc1, ht1, ht2]
        have hc2 : (c.toList.drop (i * n + off + xv.cells.toList.length)).take (es.length * n - (i * n + off + xv.cells.toList.length)) = vs.drop (off + xv.cells.toList.length) ++ c2 := by
         rw [← List.drop_take, hct, hflat, ← k2, show c1.length + off + xv.cells.toList.length = c1.length + (off + xv.cells.toList.length) by omega, ← List.drop_drop, List.drop_left, List.drop_append_of_le_length (by omega)]
        have hl1 : (c1 ++ vs.take off).length = i * n + off := by rw [List.length_append, k2, List.length_take]; omega
        rw [List.take_append, hl1, List.take_of_length_le (by omega), List.take_append, List.take_of_length_le (l := xv.cells.toList) (by omega)]
        rw [show es.length * n - (i * n + off) - xv.cells.toList.length = es.length * n - (i * n + off + xv.cells.toList.length) by omega, hc2]
        simp
    ·cases h
   ·cases h
  ·rename_i T' n sh es fo hH
   split at h
   ·rename_i cs he
    split at h
    ·rename_i hc
     obtain ⟨hall, h2, h3⟩ := hc
     injection h with h; subst h
     have hv := cellsV_sound hx hall
     have hvl := RVs_length hv
     have h0 : S.hp id ≠ none := by rw [hH]; simp
     obtain ⟨hln, hlo, hlen, hpos, hsh, hfo, hh⟩ := m.ok.hold _ _ hH
     have hi : i < es.length := flook_lt he hfo
     rcases hh with ⟨hnil, _⟩ | ⟨_, c, flat, ls, g1, g2, g3, g4, g5, g6, g7⟩
     ·rw [hn] at hnil; cases hnil
     ·obtain ⟨c1, vs, c2, k1, k2, k3, k4, k5⟩ := flook_range he 0 es flat ls hlen g5 hsh (Nat.zero_le _) (by rw [Nat.zero_add]; exact hi)
      rw [Nat.sub_zero] at k2
      have hvs : vs.length = n := by rw [RVs_length k5, k3]
      have hfl : flat.length = es.length * n := RNe_length 0 es flat ls hlen g5
      have hin : i * n + n ≤ es.length * n := by
       have : (i + 1) * n ≤ es.length * n := Nat.mul_le_mul_right _ hi
       rwa [Nat.add_mul, Nat.one_mul] at this
      have hcap : es.length * n ≤ c.size := by rw [g4]; exact Nat.mul_le_mul_right _ g2
      have hsz : xv.cells.size = ti.size := by rw [← h2, ← hvl]; simp
      have hul : xv.cells.toList.length = ti.size := by simp [hsz]
      have hoff : (E.loc id).o + i * (E.loc id).n + off = i * n + off := by rw [hlo, hln, Nat.zero_add]
      rw [hoff]
      obtain ⟨c', q1, q2⟩ := heap_setCells (E.loc id).b xv.cells.toList (i * n + off) w c g1 (by rw [hul]; omega)
      have hfr : ∀ k, w.frozen? ⟨(E.loc id).b, k, none⟩ = false := fun k => by simp [World.frozen?, g1]
      refine ⟨_, run_storeVar ht hsz (fun u hu => ?_) (fun j hj => ⟨?_, hfr _⟩), m.wr hH hn (grownBy_setCells _ _ _ _) ?_⟩
      ·exact RVs_cell hv (fun c hc => List.all_eq_true.1 hall c hc) u hu
      ·simp only [World.cell?, g1, Option.isSome_none, Bool.false_eq_true, if_false]
       rw [Array.getElem?_eq_getElem (by omega)]
       rfl
      ·have hgb := grownBy_setCells (E.loc id).b xv.cells.toList (i * n + off) w
       have hk : Keeps E.Z w (w.setCells (E.loc id).b (i * n + off) xv.cells.toList) := Keeps.grown m.ok hgb fun b hb => by injection hb with hb; rw [← hb]; exact m.ok.apart1 id h0 hn
       have hsl : (setL cs off (cellsV x)).length = n := by
        unfold setL; simp only [List.length_append, List.length_take, List.length_drop]; omega
       have hset := RVs_set k5 hv (off := off) (by omega)
       have hnew := RNe_set he hsl (fun c hc => by
        unfold setL at hc
        rcases List.mem_append.1 hc with hc | hc
        ·exact k4 c (List.mem_of_mem_take hc)
        ·rcases List.mem_append.1 hc with hc | hc
         ·exact List.all_eq_true.1 hall c hc
         ·exact k4 c (List.mem_of_mem_drop hc)) hset 0 es flat ls hlen g5 (Nat.zero_le _) (by rw [Nat.zero_add]; exact hi)
       rw [Nat.sub_zero] at hnew
       refine ⟨hln, hlo, hlen, hpos, hsh, fun p hp => ?_, .inr ⟨hn, c', _, ls, q1, g2, g3, ?_, RNe.keep hk (fun _ h => h) rfl _ _ _ _ (fun b hb => ?_) hnew, ?_, g7⟩⟩
       ·obtain ⟨q, hq, e⟩ := fset_keys hp
        rw [← e]; exact hfo q hq
       ·have : c'.toList.length = c.toList.length := by
         rw [q2]; simp only [List.length_append, List.length_take, List.length_drop, Array.length_toList]
         rw [hsz]; omega
        rw [← g4]; simpa using this
       ·obtain ⟨e1, e2⟩ := g7.2 b hb
        exact hgb.block b (m.ok.xlt id h0 b e1) fun e => e2 hn (by injection e with e; exact e.symm)
       ·rw [q2]
        have hct : c.toList.take (es.length * n) = flat := g6
        have hflat : flat = c1 ++ (vs ++ c2) := k1
        have hc1 : c.toList.take (i * n + off) = c1 ++ vs.take off := by
         have : c.toList.take (i * n + off) = flat.take (i * n + off) := by rw [← hct, List.take_take, Nat.min_eq_left (by omega)]
         rw [this, hflat, ← k2, List.take_length_add_append, List.take_append_of_le_length (by omega)]
        have ht1 : flat.take (i * n) = c1 := by rw [hflat, ← k2, List.take_left]
        have ht2 : flat.drop (i * n + n) = c2 := by
         rw [hflat, ← k2, ← hvs, ← List.append_assoc, show c1.length + vs.length = (c1 ++ vs).length by simp, List.drop_left]
        rw [hc1, ht1, ht2]
        have hc2 : (c.toList.drop (i * n + off + xv.cells.toList.length)).take (es.length * n - (i * n + off + xv.cells.toList.length)) = vs.drop (off + xv.cells.toList.length) ++ c2 := by
         rw [← List.drop_take, hct, hflat, ← k2, show c1.length + off + xv.cells.toList.length = c1.length + (off + xv.cells.toList.length) by omega, ← List.drop_drop, List.drop_left, List.drop_append_of_le_length (by omega)]
        have hl1 : (c1 ++ vs.take off).length = i * n + off := by rw [List.length_append, k2, List.length_take]; omega
        rw [List.take_append, hl1, List.take_of_length_le (by omega), List.take_append, List.take_of_length_le (l := xv.cells.toList) (by omega)]
        rw [show es.length * n - (i * n + off) - xv.cells.toList.length = es.length * n - (i * n + off + xv.cells.toList.length) by omega, hc2]
        simp
    ·cases h
   ·cases h
  ·cases h
 ·cases h
end Go.Ab
end
section
namespace Go.Ab
open Go.RowKit
theorem run_append_where {P : Program} (w : World) (base : Nat) (t ty e : TypeId) (i : TypeInfo) (z : Value) (size bytes : Nat) (ht : P.underlying t = some (.slice e)) (hi : P.info? e = some i) (hz : i.zero = some z)
  (hsize : i.size = size) (hby : i.bytes = bytes) (hzs : z.cells.size = size) (hsz : 0 < size)
  (v : Value) (n : Nat) (flat : List Value) (hown : w.ownsRow base e size v n flat)
  (a : Addr) (m c : Nat) (news : List Value) (hl : news.length = m * size) (hnews : ∀ j u, news[j]? = some u → w.cell? (a.add j) = some u) (h1 : ∀ u ∈ news, u.oneCell' = true)
  (hbytes : (n + m) * bytes ≤ Rp.reach) (hb0 : 0 < bytes) (hbase : base ≤ w.heap.size) :
  ∃ v' w', (Builtin.append_ #[t, t] ty #[v, .slice (some a) m c]).run P w = .ok v' w' ∧ w'.ownsRow base e size v' (n + m) (flat ++ news) ∧ w.grownBy w' v.ownBlock ∧
   (v'.ownBlock = v.ownBlock ∨ ∃ g, v'.ownBlock = some g ∧ w.heap.size ≤ g) := by
 have h63 : n + m ≤ maxLen := by
  have h2 : (n + m) * 1 ≤ (n + m) * bytes := Nat.mul_le_mul_left _ hb0
  unfold Rp.reach at hbytes
  unfold maxLen
  omega
 obtain ⟨v', w', hr, h2, h3, _⟩ := run_append_own (P := P) w base t ty e i z size bytes ht hi hz hsize hby hzs hsz v n flat hown a m c news hl hnews h1 h63 hbytes hbase
 refine ⟨v', w', hr, h2, h3, ?_⟩
 rcases hown.2 with ⟨rfl, h0⟩ | ⟨g, cap, cur, rfl, hbg, hg, hnc, hcm, hcs, htake⟩
 ·by_cases hm : m = 0
  ·rw [hm] at hr
   have : (Builtin.append_ #[t, t] ty #[.slice none 0 0, .slice (some a) 0 c]).run P w = .ok (.slice none 0 0) w := by
    simp [Builtin.append_, run_underlying ht, sizeOf, typeInfo, hi, Builtin.lenOf, Builtin.firstCells, loadCells, loadCellsFrom]
   rw [this] at hr
   injection hr with e1 e2
   subst e1
   exact .inl rfl
  ·have := run_append_nil (P := P) w t ty e i z ht hi hz a m c news (by rw [hsize]; exact hl) hnews (by omega) (by unfold maxLen at h63; omega) (by rw [hby]; unfold Rp.reach at hbytes; rw [h0, Nat.zero_add] at hbytes; exact Nat.le_trans hbytes (by decide))
   rw [this] at hr
   injection hr with e1 e2
   subst e1
   exact .inr ⟨_, rfl, Nat.le_refl _⟩
 ·by_cases hroom : n + m ≤ cap
  ·have hfit : n * i.size + news.length ≤ cur.size := by rw [hl, hcs, hsize, ← Nat.add_mul]; exact Nat.mul_le_mul_right _ hroom
   have := run_append_room (P := P) w t ty e i ht hi g n cap cur hg a m c news (by rw [hsize]; exact hl) hnews h1 hroom hfit
   rw [this] at hr
   injection hr with e1 e2
   subst e1
   exact .inl rfl
  ·have holds : ∀ j u, flat[j]? = some u → w.cell? ((⟨g, 0, none⟩ : Addr).add j) = some u := hown.cells (g := g) rfl
   have := run_append_grow (P := P) w t ty e i z ht hi hz ⟨g, 0, none⟩ n cap flat (by rw [hsize]; exact hown.1) holds a m c news (by rw [hsize]; exact hl) hnews (by omega) (by unfold maxLen at h63; omega) (growslice_fits (by omega) (by rw [hby]; exact hbytes))
   rw [this] at hr
   injection hr with e1 e2
   subst e1
   exact .inr ⟨_, rfl, Nat.le_refl _⟩
def srcV (H : Heap) : V → Option (List (List D))
 | .d (.sl es) | .dx es => some es
 | .d (.lit (.slice none 0 0)) => some []
 | .ref id off len => match H id with
  | some (.arr _ _ es) => if off + len ≤ es.length then some ((es.drop off).take len) else none
  | _ => none
 | _ => none
def Src (w : World) (Z : Nat → Prop) (_n : Nat) (v : Value) (ys : List (List D)) : Prop :=
 (v = .slice none 0 0 ∧ ys = []) ∨ ∃ a cap flat, v = .slice (some a) ys.length cap ∧ RDe w Z ys flat ∧ ∀ j u, flat[j]? = some u → w.cell? (a.add j) = some u
theorem srcV_sound {E : Env} {H : Heap} {w : World} (ok : E.ok H w) {x : V} {v : Value} (h : RV E w x v) {ys : List (List D)} (hs : srcV H x = some ys) (n : Nat) : Src w E.Z n v ys := by
 have key : ∀ es : List (List D), RD w E.Z (.sl es) v → Src w E.Z n v es := by
  rintro es ⟨A, cap, rfl, h1, h2, h3, h4⟩
  cases A with
  | none =>
   have := h3 rfl
   subst this
   have : es = [] := List.eq_nil_of_length_eq_zero (by omega)
   subst this
   exact .inl ⟨rfl, rfl⟩
  | some a =>
   by_cases hes : es = []
   ·subst hes
    exact .inr ⟨a, cap, [], rfl, rfl, fun j u hu => by simp at hu⟩
   ·obtain ⟨b, o, n, flat, ha, hz, h5, h6, h7⟩ := h4 hes
    injection ha with ha
    subst ha
    exact .inr ⟨_, cap, flat, rfl, h6, fun j u hu => by rw [add_addr]; exact h7 j u hu⟩
 unfold srcV at hs
 split at hs
 ·injection hs with hs; subst hs; exact key _ h
 ·injection hs with hs; subst hs; exact key _ h.1
 ·injection hs with hs; subst hs; obtain ⟨rfl, _⟩ := h; exact .inl ⟨rfl, rfl⟩
 ·rename_i id off len
  split at hs
  ·rename_i T n' es hH
   split at hs
   ·rename_i hle
    injection hs with hs; subst hs
    obtain ⟨g1, g2, g3, g4, g5⟩ := ok.hold _ _ hH
    rcases h with ⟨h1, h2, h3, rfl⟩ | ⟨h1, h2, a, rfl, h4⟩
    ·subst h3; exact .inl ⟨rfl, by simp⟩
    ·rcases g5 with ⟨g6, _⟩ | ⟨_, c, flat, k1, k2, k3, k4, k5, k6⟩
     ·rw [h1] at g6; cases g6
     ·have hlt := (Array.getElem?_eq_some_iff.1 k1).1
      have hl : ((es.drop off).take len).length = len := by rw [List.length_take, List.length_drop]; omega
      by_cases hc : off < (E.loc id).cap
      ·have ha := h4 (.inr hc)
       rw [g2, g1, Nat.zero_add] at ha
       refine .inr ⟨⟨(E.loc id).b, a, none⟩, (E.loc id).cap - off, (flat.drop (off * n')).take (len * n'), by rw [hl], RDe_take len (RDe_drop off k5 g3) (fun e he => g3 e (List.mem_of_mem_drop he)), fun j u hu => ?_⟩
       have := rangeAt_take (rangeAt_drop (arr_range k1 ⟨_, k6⟩) (off * n')) (len * n')
       rw [Nat.zero_add] at this
       rw [add_addr, ha]; exact this j u hu
      ·have h0 : len = 0 := by omega
       subst h0
       exact .inr ⟨⟨(E.loc id).b, a, none⟩, (E.loc id).cap - off, [], by simp, by simp [RDe], (fun j v hv => by simp at hv)⟩
   ·cases hs
  ·cases hs
 ·cases hs
def rowOf (H : Heap) (d : Nat) (e : TypeId) (size : Nat) : V → Option (Nat × List (List D))
 | .d (.lit (.slice none 0 0)) => some (d, [])
 | .ref id 0 len => match H id with
  | some (.arr T n es) => if len = es.length ∧ T = e ∧ n = size then some (id, es) else none
  | _ => none
 | _ => none
def apV (S : St) (d : Nat) (e : TypeId) (te : TI) (s x : V) : Option (St × V) :=
 match rowOf S.hp d e te.size s, srcV S.hp x with
 | some (id, es), some ys =>
  if id ∈ S.rts then none else
  if 0 < te.size ∧ 0 < te.bytes ∧ te.zero.cells.size = te.size ∧ ys.all (fun y => y.length = te.size) = true ∧ (es.length + ys.length) * te.bytes ≤ Rp.reach then
   some ((S.kill id).setH id (some (.arr e te.size (es ++ ys))), .ref id 0 (es.length + ys.length))
  else none
 | _, _ => none
theorem RDe_cell {w : World} {Z : Nat → Prop} : ∀ {es : List (List D)} {vs : List Value}, RDe w Z es vs → ∀ u ∈ vs, u.oneCell' = true
 | [], _, h, u, hu => by
  have : _ = [] := h
  rw [this] at hu; cases hu
 | e :: es, _, ⟨a, r, h, h1, h2⟩, u, hu => by
  subst h
  rcases List.mem_append.1 hu with hu | hu
  ·have h1' := (RVs_d (E := ⟨fun _ => default, Z⟩)).2 h1
   exact RVs_cell h1' (fun c hc => by obtain ⟨y, _, rfl⟩ := List.mem_map.1 hc; rfl) u hu
  ·exact RDe_cell h2 u hu
theorem apV_sound {P : Program} {t e ty : TypeId} {tt te : TI} (ht : tyOf P t = some tt) (hd : tt.desc = .slice e) (he : tyOf P e = some te) {fx : Fx} {S S' : St} {E : Env} {a : Act} {w : World} (m : Mod fx S E a w) {d : Nat} {s x r : V} {sv xv : Value}
  (hs : RV E w s sv) (hx : RV E w x xv) (h : apV S d e te s x = some (S', r)) :
  ∃ u w' E', (Builtin.append_ #[t, t] ty #[sv, xv]).run P w = .ok u w' ∧ Mod fx S' E' a w' ∧ RV E' w' r u := by
 unfold apV at h
 split at h
 ·rename_i id es ys hrow hsrc
  split at h
  ·cases h
  ·rename_i hid
   split at h
   ·rename_i hc
    obtain ⟨hpos, hpb, hzc, hall, hbytes⟩ := hc
    simp only [Option.some.injEq, Prod.mk.injEq] at h
    obtain ⟨rfl, rfl⟩ := h
    obtain ⟨hu, i0, hi0, hi1, hi2, hi3⟩ := tyOf_spec he
    have htu : P.underlying t = some (.slice e) := by rw [(tyOf_spec ht).1, hd]
    have hys : ∀ y ∈ ys, y.length = te.size := fun y hy => of_decide_eq_true (List.all_eq_true.1 hall y hy)
    have hown : ∃ flat, w.ownsRow 0 e te.size sv es.length flat ∧ RDe w E.Z es flat ∧ (∀ x ∈ es, x.length = te.size) ∧ (∀ b, sv.ownBlock = some b → S.hp id ≠ none ∧ (E.loc id).nil = false ∧ (E.loc id).b = b) := by
     unfold rowOf at hrow
     split at hrow
     ·simp only [Option.some.injEq, Prod.mk.injEq] at hrow
      obtain ⟨rfl, rfl⟩ := hrow
      obtain ⟨rfl, _⟩ := hs
      exact ⟨[], World.ownsRow_nil _ _ _ _, rfl, (fun x hx => by cases hx), (fun b hb => by cases hb)⟩
     ·rename_i id' len
      split at hrow
      ·rename_i T n es' hH
       split at hrow
       ·rename_i hcc
        obtain ⟨rfl, rfl, rfl⟩ := hcc
        simp only [Option.some.injEq, Prod.mk.injEq] at hrow
        obtain ⟨rfl, rfl⟩ := hrow
        obtain ⟨g1, g2, g3, g4, g5⟩ := m.ok.hold _ _ hH
        rcases hs with ⟨h1, _, h3, rfl⟩ | ⟨h1, h2, aa, rfl, h4⟩
        ·have : es' = [] := List.eq_nil_of_length_eq_zero h3
         subst this
         exact ⟨[], World.ownsRow_nil _ _ _ _, rfl, (fun x hx => by cases hx), (fun b hb => by cases hb)⟩
        ·rcases g5 with ⟨g6, _⟩ | ⟨_, c, flat, k1, k2, k3, k4, k5, k6⟩
         ·rw [h1] at g6; cases g6
         ·have hlen := RDe_length k5 g3
          have ha := h4 (.inl rfl)
          rw [g2] at ha
          simp only [Nat.zero_mul, Nat.add_zero, Nat.sub_zero] at ha ⊢
          subst ha
          exact ⟨flat, ⟨hlen, .inr ⟨_, _, c, rfl, Nat.zero_le _, k1, k2, k3, k4, k6⟩⟩, k5, g3, fun b hb => ⟨by rw [hH]; simp, h1, by injection hb⟩⟩
       ·cases hrow
      ·cases hrow
     ·cases hrow
    obtain ⟨flat, hrow1, hrow2, hrow3, hrow4⟩ := hown
    have fin : ∀ u w' news, w'.ownsRow 0 e te.size u (es.length + ys.length) (flat ++ news) → RDe w E.Z ys news → w.grownBy w' sv.ownBlock → (u.ownBlock = sv.ownBlock ∨ ∃ g, u.ownBlock = some g ∧ w.heap.size ≤ g) →
      ∃ E', Mod fx ((S.kill id).setH id (some (.arr e te.size (es ++ ys)))) E' a w' ∧ RV E' w' (.ref id 0 (es.length + ys.length)) u := by
     intro u w' news hown' hnews hg hwhere
     have hz : ∀ b, sv.ownBlock = some b → ¬ E.Z b := fun b hb => by
      obtain ⟨h1, h2, h3⟩ := hrow4 b hb
      rw [← h3]; exact m.ok.apart1 id h1 h2
     have hk := Keeps.grown m.ok hg hz
     have hall2 : ∀ y ∈ es ++ ys, y.length = te.size := fun y hy => (List.mem_append.1 hy).elim (hrow3 y) (hys y)
     have hcat := RDe.keep hk (fun _ h => h) _ _ (RDe_append hrow2 hnews)
     rcases hown'.2 with ⟨rfl, h0⟩ | ⟨g, cap, cur, rfl, _, hgc, hnc, hcm, hcs, htake⟩
     ·have he0 : es ++ ys = [] := List.eq_nil_of_length_eq_zero (by rw [List.length_append]; exact h0)
      refine ⟨_, m.re hid hg hrow4 ⟨0, 0, te.size, 0, true, fun _ => False⟩ ⟨by simp [Env.at], by simp [Env.at], hall2, hpos, .inl ⟨by simp [Env.at], he0⟩⟩ (fun h => by cases h), .inl ⟨by simp [Env.at], rfl, h0, rfl⟩⟩
     ·refine ⟨_, m.re hid hg hrow4 ⟨g, 0, te.size, cap, false, fun _ => False⟩ ⟨by simp [Env.at], by simp [Env.at], hall2, hpos, .inr ⟨by simp [Env.at], cur, _, by simpa [Env.at] using hgc, by simpa [Env.at] using hnc, by simpa [Env.at] using hcm, by simpa [Env.at] using hcs, hcat, by rw [List.length_append]; exact htake⟩⟩ (fun _ => ?_), .inr ⟨by simp [Env.at], by simpa [Env.at] using hnc, 0, by simp [Env.at], fun _ => by simp [Env.at]⟩⟩
      rcases hwhere with h | ⟨g', h, hle⟩
      ·exact .inl h
      ·have : g = g' := by injection h
       exact .inr (by rw [this]; exact hle)
    rcases srcV_sound m.ok hx hsrc te.size with ⟨rfl, rfl⟩ | ⟨aa, cap, news, rfl, h1, h2⟩
    ·have hrun := run_append_owned_none (P := P) (w := w) 0 t ty e i0 te.size htu hi0 sv es.length flat hrow1
     obtain ⟨E', h1, h2⟩ := fin sv w [] (by simpa using hrow1) rfl ⟨rfl, rfl, rfl, Nat.le_refl _, fun _ _ _ => rfl⟩ (.inl rfl)
     exact ⟨sv, w, E', hrun, h1, h2⟩
    ·obtain ⟨u, w', hrun, g1, g2, g3⟩ := run_append_where (P := P) w 0 t ty e i0 te.zero te.size te.bytes htu hi0 hi3 hi1 hi2 hzc hpos sv es.length flat hrow1 aa ys.length cap news
      (RDe_length h1 hys) h2 (RDe_cell h1) hbytes hpb (Nat.zero_le _)
     obtain ⟨E', k1, k2⟩ := fin u w' news g1 h1 g2 g3
     exact ⟨u, w', E', hrun, k1, k2⟩
   ·cases h
 ·cases h
end Go.Ab
end
