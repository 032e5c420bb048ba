/- The abstract machine: appends within a row's known room; clearing a part of a row. The abstract machine: clearing a part of an own row. The abstract machine: slices that reach past their length. The abstract machine: == and != of structs and arrays. The abstract machine: drawn regions with effects at their end. The abstract machine: an append of nothing. Functional programs out of code: iteration, joins, ends; the rules that carry a code's run over to its functional program. More for functional programs: nil slices as data, last pieces, cells of typed data. The abstract machine: regions that draw their order, with effects: a state for each set of operations that have come up. The abstract machine: is a slice nil, where that is open; equality of structs and arrays of plain cells. -/
import Derived.Test.YtmgddgcniacnbaaGreatDoorA2
import Derived.ArgAppend
import Derived.Laws.StructEq
import Derived.StillTail
import Derived.Orders
section
namespace Go.Ab
open Go.RowKit
end Go.Ab
end
section
namespace Go.Ab
open Go.RowKit
end Go.Ab
end
section
namespace Go.Ab
open Go.RowKit
theorem Chain.pureP {q : Bool} {P : Program} {ops : Array Oper} {o : Oper} {l : List Oper} {S : St} {Q : St → Prop} (hw : wantedV ops S o = some true) {v : V} (hp : Pure P o.op S v) (h : Chain q P ops l (S.put o.dst v) Q) : Chain q P ops (o :: l) S Q := by
 cases q with
 | false =>
  intro fx a w Q' ⟨E, m⟩ hq
  have hw' := wantedV_sound m hw
  obtain ⟨x, hx, hrun⟩ := hp E w a.eval o rfl m.ok m.ev
  unfold wpList
  rw [if_pos hw']
  refine .inl ?_
  unfold Oper.wp
  rw [hrun w (Below.refl _ _)]
  exact h fx _ w Q' ⟨E, m.put o.dst hx⟩ hq
 | true =>
  intro fx a w Q' ⟨E, m⟩ hq
  have hw' := wantedV_sound m hw
  obtain ⟨x, hx, hrun⟩ := hp E w a.eval o rfl m.ok m.ev
  unfold wpQuiet
  rw [if_pos hw']
  refine ⟨x, fun w' hg => ?_, h fx _ w Q' ⟨E, m.put o.dst hx⟩ hq⟩
  unfold Oper.quietAt
  rw [hrun w' hg]
  exact ⟨rfl, rfl⟩
end Go.Ab
end
section
namespace Go.Ab
open Go.RowKit
theorem pure_eqA {P : Program} {S : St} {T : TypeId} {x y : Operand} {ty : TypeId} {cs ds : List V} {xs ys : List Value} {b : Bool} (neq : Bool) (hx : S.ev x = .agg cs) (hy : S.ev y = .agg ds) (hcs : litsOf cs = some xs) (hds : litsOf ds = some ys)
  (hm : P.eqGuardType P.depth T = false) (he : ∀ w, (Op.equalIn 10000 T (.agg xs.toArray) (.agg ys.toArray)).run P w = .ok b w) : Pure P (.binOp (if neq then .neq else .eql) T x y ty) S (.d (.lit (.bool (if neq then !b else b)))) := by
 intro E w ρ oo hoo ok hev
 unfold execOp
 rw [hoo]
 have h1 := hev x
 rw [hx] at h1
 obtain ⟨vs, h1, _, h2⟩ := h1
 have h3 := hev y
 rw [hy] at h3
 obtain ⟨us, h3, _, h4⟩ := h3
 have e1 := litsOf_sound h2 hcs
 have e2 := litsOf_sound h4 hds
 subst e1; subst e2
 refine ⟨_, ⟨rfl, rfl⟩, fun w' _ => ?_⟩
 cases neq <;>
 ·simp only [h1, h3]
  simp [run_eqGuard_agg _ _ _ _ _ _ _ hm, run_eql_struct, run_neq_struct, he]
end Go.Ab
end
section
namespace Go.Ab
open Go.RowKit
theorem runN_drop {ty : TypeId → Option TI} {ops : Array Oper} : ∀ (n : Nat) {l l' : List Oper} {S S' : St}, runN ty ops n l S = some (l', S') → l' = l.drop n
 | 0, l, l', S, S', h => by simp only [runN, Option.some.injEq, Prod.mk.injEq] at h; exact h.1.symm
 | n + 1, [], l', S, S', h => by simp [runN] at h
 | n + 1, o :: l, l', S, S', h => by
  simp only [runN] at h
  split at h
  ·split at h
   ·exact runN_drop n h
   ·cases h
  ·exact runN_drop n h
  ·cases h
theorem still_run {P : Program} {ops : Array Oper} {fx : Fx} {w : World} {Lq : Act → Prop} : ∀ (n : Nat) {l l' : List Oper} {S S' : St}, runN (tyOf P) ops n l S = some (l', S') → ∀ a, Models fx S a w → (∀ a', Models fx S' a' w → Lq a') → wpStill P ops w Lq (l.take n) a
 | 0, l, l', S, S', h, a, m, hq => by
  simp only [runN, Option.some.injEq, Prod.mk.injEq] at h
  obtain ⟨_, rfl⟩ := h
  rw [List.take_zero]
  exact hq a m
 | n + 1, [], l', S, S', h, a, m, hq => by simp [runN] at h
 | n + 1, o :: l, l', S, S', h, a, ⟨E, m⟩, hq => by
  rw [List.take_succ_cons]
  simp only [runN] at h
  unfold wpStill
  split at h
  ·rename_i hw
   rw [if_pos (wantedV_sound m hw)]
   split at h
   ·rename_i v hv
    obtain ⟨x, hx, hrun⟩ := pureV_sound hv E w a.eval o rfl m.ok m.ev
    unfold Oper.still
    rw [hrun w (Below.refl _ _)]
    exact ⟨rfl, still_run n h _ ⟨E, m.put o.dst hx⟩ hq⟩
   ·cases h
  ·rename_i hw
   rw [if_neg (by rw [wantedV_sound m hw]; simp)]
   exact still_run n h _ ⟨E, m.put o.dst ⟨[], rfl, rfl⟩⟩ hq
  ·cases h
theorem rd_region_tail {ro : Option Nat} {k : Nat} {P : Program} {id : Nat} {Q : Act → World → Prop} {a : Act} {w : World} {l : List Oper} (n : Nat) (hd : noDefer l = true) (hm : P.follows .mixedOrders = true) (hB : Region.lexTailB .any l.toArray n = true)
  (h : wpStill P l.toArray { w with drawn := w.drawn + 1 } (fun a' => wpList P l.toArray (NQ Q) (l.drop n) a' { w with drawn := w.drawn + 1 }) (l.take n) a) : (Code.region id l.toArray true).wpIn (Rd ro) k P (NQ Q) a w := by
 simp only [Region.lexTailB, Bool.and_eq_true, decide_eq_true_eq] at hB
 obtain ⟨⟨⟨⟨hsel, hn⟩, hs⟩, hc⟩, hlex⟩ := hB
 have hn' : n < l.length := by simpa using hn
 have htl : (l.take n).length = n := by simp; omega
 have hdl : (l.drop n).length = l.toArray.size - n := by simp
 have hrf : ∀ j, (Array.replicate l.toArray.size false).getD j false = false := fun j => by
  rw [Array.getD_eq_getD_getElem?, Array.getElem?_replicate]; split <;> rfl
 have inv0 : HeadInv .any l.toArray n (Array.replicate l.toArray.size false) :=
  ⟨by simp, fun j oj _ hl => (by rw [hrf] at hl; cases hl), fun t _ ht => getD_in (by simpa using ht) (hrf _)⟩
 have H := wpAnyL_lex (md := .any) (g := l.toArray.size - n) hsel hs hc hn (l.take n) 0 _ a (fun j hj => by
  have hj' : j < n := by rw [htl] at hj; exact hj
  simp [hj']) (by simpa using htl) inv0 (by rw [htl]; exact hlex) h
 refine rd_region_any hd hm ?_
 have := wpAny_of_head (Q' := NQ Q) (g := l.toArray.size - n) (fun listed a' hL => by
  have := wpAny_of_seq (md := .any) (Q' := NQ Q) (l.drop n) n listed a' { w with drawn := w.drawn + 1 } (fun j => by simp [List.getElem?_drop]) (by rw [hdl]; exact hL.1) hL.2
  rwa [hdl] at this) _ _ _ H
 rw [htl, show n + (l.toArray.size - n) = l.toArray.size by omega] at this
 exact this
theorem AW.regionT {P : Program} {S : St} {Q : Exit → St → Prop} {id : Nat} {l : List Oper} (n : Nat) (hm : P.follows .mixedOrders = true) (hB : Region.lexTailB .any l.toArray n = true)
  (h : ∀ K : List Oper → St → Prop, (∀ l' S', Chain false P l.toArray l' S' (Q .normal) → K l' S') → thenK K (Ab.runN (tyOf P) l.toArray n l S)) (hd : noDefer l = true := by rfl) : AW P (.region id l.toArray true) S Q := fun fx a w ⟨E, m⟩ => by
 have h := h _ (fun _ _ h => h)
 cases hr : Ab.runN (tyOf P) l.toArray n l S with
 | none => rw [hr] at h; exact h.elim
 | some p =>
  obtain ⟨l', S'⟩ := p
  rw [hr] at h
  have e := runN_drop n hr
  subst e
  refine Code.wpIn_mono (fun e a w h => by obtain ⟨rfl, h⟩ := h; exact h) (rd_region_tail (Q := Aft fx Q .normal) n hd hm hB (still_run n hr a ⟨E, m.grow ⟨rfl, rfl, rfl, Nat.le_refl _, fun _ _ => rfl⟩⟩ fun a' m' => ?_))
  exact h fx a' _ _ m' (fun S' a' w' hq m' => ⟨rfl, Aft.one hq m'⟩)
theorem AW.seqT {P : Program} {S : St} {Q : Exit → St → Prop} {id : Nat} {l : List Oper} {y : Code} (n : Nat) (hm : P.follows .mixedOrders = true) (hB : Region.lexTailB .any l.toArray n = true)
  (h : ∀ K : List Oper → St → Prop, (∀ l' S', Chain false P l.toArray l' S' (fun S' => AW P y S' Q) → K l' S') → thenK K (Ab.runN (tyOf P) l.toArray n l S)) (hd : noDefer l = true := by rfl) : AW P (.seq (.region id l.toArray true) y) S Q := .seq (.regionT n hm hB h hd)
end Go.Ab
end
section
namespace Go.Ab
open Go.RowKit
end Go.Ab
end
section
namespace Go.Ab
open Go.RowKit
inductive Out (β ρ : Type) where
 | go (b : β)
 | ret (r : ρ)
def iterN {σ ρ : Type} (step : σ → Option (σ ⊕ ρ)) : Nat → σ → Option ρ
 | 0, _ => none
 | n + 1, s => match step s with
  | some (.inl s') => iterN step n s'
  | some (.inr r) => some r
  | none => none
theorem iterN_succ {σ ρ : Type} (step : σ → Option (σ ⊕ ρ)) (n : Nat) (s : σ) : iterN step (n + 1) s = match step s with
  | some (.inl s') => iterN step n s'
  | some (.inr r) => some r
  | none => none := rfl
def bindO {β ρ : Type} (d : Option (Out β ρ)) (k : β → Option ρ) : Option ρ :=
 match d with
 | some (.go b) => k b
 | some (.ret r) => some r
 | none => none
@[simp] theorem bindO_go {β ρ : Type} (b : β) (k : β → Option ρ) : bindO (some (.go b)) k = k b := rfl
@[simp] theorem bindO_ret {β ρ : Type} (r : ρ) (k : β → Option ρ) : bindO (some (.ret r)) k = some r := rfl
@[simp] theorem bindO_none {β ρ : Type} (k : β → Option ρ) : bindO none k = none := rfl
def letv {α β : Type} (x : α) (k : α → β) : β := k x
def okI64 (n : Int) : Prop := -9223372036854775808 ≤ n ∧ n ≤ 9223372036854775807
instance (n : Int) : Decidable (okI64 n) := inferInstanceAs (Decidable (_ ∧ _))
def chkI (n : Int) : Option Int := if okI64 n then some n else none
def idx {α : Type} (xs : List α) (i : Int) : Option α := if 0 ≤ i then xs[i.toNat]? else none
def appL {α : Type} (b : Nat) (xs ys : List α) : Option (List α) := if (xs.length + ys.length) * b ≤ Rp.reach then some (xs ++ ys) else none
def natI (i : Int) (n : Nat) : Option Nat := if 0 ≤ i ∧ i ≤ n then some i.toNat else none
def setI {α : Type} (xs : List α) (i : Int) (x : α) : List α := xs.set i.toNat x
theorem bsome {α β : Type} {d : Option α} {k : α → Option β} {r : β} (h : d.bind k = some r) : ∃ a, d = some a ∧ k a = some r := Option.bind_eq_some_iff.1 h
theorem lsome {α β : Type} {x : α} {k : α → Option β} {r : β} (h : letv x k = some r) : ∃ a, x = a ∧ k a = some r := ⟨x, rfl, h⟩
theorem isome {β : Type} {p : Prop} [Decidable p] {x y : Option β} {r : β} (h : (if p then x else y) = some r) : (p ∧ x = some r) ∨ (¬ p ∧ y = some r) := by
 by_cases hp : p
 ·rw [if_pos hp] at h; exact .inl ⟨hp, h⟩
 ·rw [if_neg hp] at h; exact .inr ⟨hp, h⟩
theorem gsome {β : Type} {p : Prop} [Decidable p] {x : Option β} {r : β} (h : (if p then x else none) = some r) : p ∧ x = some r := by
 rcases isome h with h | ⟨_, h⟩
 ·exact h
 ·cases h
theorem wrap_ok {n : Int} (h : okI64 n) : IntKind.i64.wrap n = n := by
 obtain ⟨h1, h2⟩ := h
 simp only [IntKind.wrap, IntKind.signed, IntKind.bits]
 simp
 omega
theorem chkI_some {n m : Int} (h : chkI n = some m) : IntKind.i64.wrap n = m := by
 obtain ⟨h1, h2⟩ := gsome h
 injection h2 with h2
 rw [wrap_ok h1, h2]
theorem idx_some {α : Type} {xs : List α} {i : Int} {x : α} (h : idx xs i = some x) : ∃ k, i.toNat = k ∧ xs[k]? = some x ∧ 0 ≤ i ∧ i < xs.length := by
 obtain ⟨h1, h2⟩ := gsome h
 obtain ⟨h3, _⟩ := List.getElem?_eq_some_iff.1 h2
 exact ⟨_, rfl, h2, h1, by omega⟩
theorem idx_some2 {α : Type} {xs : List α} {i : Int} {x : α} {k : Nat} (h : idx xs i = some x) (hk : i.toNat = k) : xs[k]? = some x ∧ 0 ≤ i ∧ i < xs.length := by
 obtain ⟨k', rfl, h2, h3, h4⟩ := idx_some h
 subst hk
 exact ⟨h2, h3, h4⟩
theorem appL_some {α : Type} {b : Nat} {xs ys zs : List α} (h : appL b xs ys = some zs) : (xs.length + ys.length) * b ≤ Rp.reach ∧ xs ++ ys = zs := by
 obtain ⟨h1, h2⟩ := gsome h
 injection h2 with h2
 exact ⟨h1, h2⟩
theorem natI_some {i : Int} {n m : Nat} (h : natI i n = some m) : i = m ∧ m ≤ n := by
 obtain ⟨h1, h2⟩ := gsome h
 injection h2 with h2
 omega
section
variable {P : Program} {S : St} {σ β ρ : Type}
def PostI (I : σ → St) (r : ρ) (Q : Exit → St → Prop) : σ ⊕ ρ → Exit → St → Prop
 | .inl s, e, S => e = .normal ∧ Sub S (I s)
 | .inr r', e, S => e ≠ .normal ∧ (r' = r → Q e S)
def PostJ (J : β → St) (r : ρ) (Q : Exit → St → Prop) : Out β ρ → Exit → St → Prop
 | .go b, e, S => e = .normal ∧ Sub S (J b)
 | .ret r', e, S => e ≠ .normal ∧ (r' = r → Q e S)
def PostN (J : β → St) : β → Exit → St → Prop := fun b e S => e = .normal ∧ Sub S (J b)
theorem PostI.next {I : σ → St} {r : ρ} {Q : Exit → St → Prop} {s : σ} (h : Sub S (I s)) : PostI I r Q (.inl s) .normal S := ⟨rfl, h⟩
theorem PostI.out {I : σ → St} {r r' : ρ} {Q : Exit → St → Prop} {e : Exit} (he : e ≠ .normal) (h : r' = r → Q e S) : PostI I r Q (.inr r') e S := ⟨he, h⟩
theorem PostJ.next {J : β → St} {r : ρ} {Q : Exit → St → Prop} {b : β} (h : Sub S (J b)) : PostJ J r Q (.go b) .normal S := ⟨rfl, h⟩
theorem PostJ.out {J : β → St} {r r' : ρ} {Q : Exit → St → Prop} {e : Exit} (he : e ≠ .normal) (h : r' = r → Q e S) : PostJ J r Q (.ret r') e S := ⟨he, h⟩
theorem PostN.next {J : β → St} {b : β} (h : Sub S (J b)) : PostN J b .normal S := ⟨rfl, h⟩
theorem AW.iter {c : Code} {step : σ → Option (σ ⊕ ρ)} {n : Nat} {s0 : σ} {r : ρ} {Q : Exit → St → Prop} (I : σ → St) (h : iterN step n s0 = some r) (hs : Sub S (I s0))
  (round : ∀ s x, step s = some x → AW P c (I s) (PostI I r Q x)) : AW P (.loop c) S Q := by
 refine AW.loop (fun m S0 => ∃ s, iterN step m s = some r ∧ S0 = I s) hs ⟨s0, h, rfl⟩ ?_
 rintro m S0 ⟨s, hm, rfl⟩
 cases m with
 | zero => cases hm
 | succ m =>
  rw [iterN_succ] at hm
  cases hx : step s with
  | none => rw [hx] at hm; cases hm
  | some x =>
   rw [hx] at hm
   refine (round s x hx).mono fun e S' hp => ?_
   cases x with
   | inl s' =>
    obtain ⟨rfl, hp⟩ := hp
    exact ⟨m, _, Nat.lt_succ_self _, hp, s', hm, rfl⟩
   | inr r' =>
    injection hm with hm
    obtain ⟨he, hp⟩ := hp
    have hp := hp hm
    cases e with
    | normal => exact absurd rfl he
    | exit id => exact hp
    | goto l => exact hp
    | ret => exact hp
    | panic ch => exact hp
    | outgrown => exact hp
theorem AW.seqN {x y : Code} {d : Option β} {k : β → Option ρ} {r : ρ} {Q : Exit → St → Prop} (J : β → St) (h : d.bind k = some r) (h1 : ∀ o, d = some o → AW P x S (PostN J o))
  (h2 : ∀ b, k b = some r → AW P y (J b) Q) : AW P (.seq x y) S Q := by
 obtain ⟨b, hd, hk⟩ := bsome h
 refine AW.seq ((h1 b hd).mono fun e S' hp => ?_)
 obtain ⟨rfl, hp⟩ := hp
 exact .sub hp (h2 b hk)
end
def FunC (P : Program) (f : FuncId) (args : List V) (v : V) : Prop := v.closed = true ∧ Fun P f args (fun r k => r = v ∧ k = none)
def FinC (P : Program) (fn : Func) (v : V) (e : Exit) (S : St) : Prop := (e = .normal ∨ e = .ret) ∧ v.closed = true ∧ outV (tyOf P) fn.results.toList S = some v
theorem FinC.ret {P : Program} {fn : Func} {v : V} {S : St} (h1 : v.closed = true) (h2 : outV (tyOf P) fn.results.toList S = some v) : FinC P fn v .ret S := ⟨.inr rfl, h1, h2⟩
theorem FunC.fin {P : Program} {f : FuncId} {fn : Func} {c : Code} {args : List V} {v : V} (hv : v.closed = true) (hf : P.funcs[f]? = some fn) (hb : fn.body = some c) (hle : args.length ≤ fn.ntmps)
  (h : AW P c (mk fn.ntmps [] (enterL args 0) []) (FinC P fn v)) : FunC P f args v :=
 ⟨hv, Fun.fin hf hb hle (h.mono fun _ _ ⟨h1, h2, h3⟩ => ⟨h1, v, h3, .inl ⟨h2, rfl, rfl⟩⟩)⟩
mutual
theorem closed_ren {d : Nat} : ∀ (c : V), c.closed = true → c.ren d = c
 | .d _, _ => rfl
 | .dx _, _ => rfl
 | .ref .., h => by cases h
 | .ptr .., h => by cases h
 | .mref _, h => by cases h
 | .agg cs, h => by rw [V.ren, closedL_ren cs h]
 | .tup cs, h => by rw [V.ren, closedL_ren cs h]
 | .fn f cs, h => by rw [V.ren, closedL_ren cs h]
 | .junk, h => by cases h
 | .hole, h => by cases h
theorem closedL_ren {d : Nat} : ∀ (cs : List V), closedL cs = true → renL d cs = cs
 | [], _ => rfl
 | c :: cs, h => by
  simp only [closedL, Bool.and_eq_true] at h
  rw [renL, closed_ren c h.1, closedL_ren cs h.2]
end
theorem Chain.callC {P : Program} {ops : Array Oper} {o : Oper} {l : List Oper} {S : St} {Q' : St → Prop} {c : Call} {d : Nat} {f : FuncId} {caps args : List V} {v : V} (hF : FunC P f args v) (hw : wantedV ops S o = some true) (ho : o.op = .call c) (hd : o.dst = some d)
  (hcal : calleeV S c = some (f, caps)) (hargs : mapO (viewV S.hp) (c.args.toList.map S.ev ++ caps) = some args) (hent : Rp.Enters P f) (hid : S.rts.contains d = false)
  (hflat : (c.args.toList.map S.ev ++ caps = args ∧ closedL args = true) ∨ v.flat = true)
  (hrest : Chain false P ops l (((S.kill d).setH d none).put (some d) v) Q') : Chain false P ops (o :: l) S Q' := by
 refine Chain.call hw ho hd hcal hargs hent hF.2 hid (hflat.imp (fun h => h) fun h r k hq => ?_) fun r k hq => ?_
 ·obtain ⟨rfl, rfl⟩ := hq
  exact ⟨h, fun blk hb => by cases hb⟩
 ·obtain ⟨rfl, rfl⟩ := hq
  unfold St.got
  rw [closed_ren _ hF.1]
  exact hrest
theorem Chain.callL {q : Bool} {P : Program} {ops : Array Oper} {o : Oper} {l : List Oper} {S : St} {Q' : St → Prop} {c : Call} {d : Nat} {f : FuncId} {caps args : List V} {r : V} {x : Value} (hF : FunC P f args r) (hw : wantedV ops S o = some true) (ho : o.op = .call c) (hd : o.dst = some d)
  (hcal : calleeV S c = some (f, caps)) (hargs : mapO (viewV S.hp) (c.args.toList.map S.ev ++ caps) = some args) (hent : Rp.Enters P f) (hx : exactV r = some x)
  (hrest : Chain q P ops l (S.put (some d) r) Q') : Chain q P ops (o :: l) S Q' :=
 Chain.callX hw ho hd hcal hargs hent (hF.2.mono fun _ _ h => h.1) hx hrest
def frzR (id : Nat) (es : List (List D)) (i off len : Nat) : V := if i = id then (if off + len ≤ es.length then .d (.sl ((es.drop off).take len)) else .junk) else .ref i off len
def V.frz1 (id : Nat) (es : List (List D)) : V → V
 | .ref i off len => frzR id es i off len
 | v => v
def V.frz (id : Nat) (es : List (List D)) : V → V
 | .ref i off len => frzR id es i off len
 | .agg cs => if (cs.map (V.frz1 id es)).all V.cell = true then .agg (cs.map (V.frz1 id es)) else .junk
 | .tup cs => .tup (cs.map (V.frz1 id es))
 | .fn f cs => .fn f (cs.map (V.frz1 id es))
 | v => v
def Blk.frz (id : Nat) (es : List (List D)) : Blk → Option Blk
 | .box cs => if (cs.map (V.frz1 id es)).all V.cell = true then some (.box (cs.map (V.frz1 id es))) else none
 | b => some b
def frzL (id : Nat) (es : List (List D)) : List (Nat × V) → List (Nat × V)
 | [] => []
 | (k, v) :: r => (k, v.frz id es) :: frzL id es r
def frzH (id : Nat) (es : List (List D)) : List (Nat × Option Blk) → List (Nat × Option Blk)
 | [] => []
 | (k, b) :: r => (k, if k = id then none else b.bind (Blk.frz id es)) :: frzH id es r
theorem look_frzL (id : Nat) (es : List (List D)) : ∀ (l : List (Nat × V)) (i : Nat), tlook (frzL id es l) i = (tlook l i).frz id es
 | [], _ => rfl
 | (k, v) :: r, i => by
  show (if i = k then v.frz id es else tlook (frzL id es r) i) = _
  rw [look_frzL id es r i]
  show _ = (if i = k then v else tlook r i).frz id es
  split <;> rfl
theorem hlook_frzH (id : Nat) (es : List (List D)) : ∀ (l : List (Nat × Option Blk)) (i : Nat), hlook (frzH id es l) i = if i = id then none else (hlook l i).bind (Blk.frz id es)
 | [], i => by simp [frzH, hlook]
 | (k, b) :: r, i => by
  show (if i = k then (if k = id then none else b.bind (Blk.frz id es)) else hlook (frzH id es r) i) = _
  rw [hlook_frzH id es r i]
  show _ = if i = id then none else (if i = k then b else hlook r i).bind (Blk.frz id es)
  by_cases h : i = k
  ·subst h; simp
  ·simp [h]
theorem RV.frz1 {E : Env} {w : World} {id : Nat} {T n : Nat} {es : List (List D)} (hold : Hold E w id (.arr T n es)) {E' : Env} (hl : E'.loc = E.loc) (hz : ∀ b, E.Z b → E'.Z b) (hb : (E.loc id).nil = false → E'.Z (E.loc id).b) :
  ∀ (c : V) (v : Value), RV E w c v → RV E' w (c.frz1 id es) v := by
 intro c v h
 have keep : RV E' w c v := RV.keep (fun _ _ => rfl) hz hl c v h
 cases c with
 | ref i off len =>
  show RV E' w (frzR id es i off len) v
  unfold frzR
  split
  ·rename_i hi
   subst hi
   split
   ·rename_i hle
    obtain ⟨g1, g2, g3, g4, g5⟩ := hold
    have hlen : ((es.drop off).take len).length = len := by rw [List.length_take, List.length_drop]; omega
    rcases h with ⟨h1, h2, h3, rfl⟩ | ⟨h1, h2, a, rfl, h4⟩
    ·subst h3
     exact ⟨none, 0, by rw [hlen], by omega, Nat.zero_le _, fun _ => rfl, fun h => absurd (by simp) h⟩
    ·rcases g5 with ⟨g6, _⟩ | ⟨_, c, flat, k1, k2, k3, k4, k5, k6⟩
     ·rw [h1] at g6; cases g6
     ·refine ⟨_, _, by rw [hlen], by omega, by omega, (fun h => by cases h), fun hne => ?_⟩
      by_cases hcc : off = 0 ∨ off < (E.loc i).cap
      ·have ha := h4 hcc
       rw [g2, g1, Nat.zero_add] at ha
       refine ⟨_, _, n, (flat.drop (off * n)).take (len * n), rfl, hb h1, fun e he => g3 e (List.mem_of_mem_drop (List.mem_of_mem_take he)), RDe.keep (fun _ _ => rfl) hz _ _ (RDe_take len (RDe_drop off k5 g3) (fun e he => g3 e (List.mem_of_mem_drop he))), ?_⟩
       have := rangeAt_take (rangeAt_drop (arr_range k1 ⟨_, k6⟩) (off * n)) (len * n)
       rw [Nat.zero_add] at this
       rw [ha]; exact this
      ·have h0 : len = 0 := by omega
       subst h0
       exact absurd (by simp) hne
   ·trivial
  ·exact keep
 | d x => exact keep
 | ptr id i off => exact keep
 | mref id => exact keep
 | agg cs => exact keep
 | tup cs => exact keep
 | fn f caps => exact keep
 | dx es => exact keep
 | hole => exact keep
 | junk => trivial
theorem RVs.frz {E E' : Env} {w : World} {g : V → V} (hg : ∀ c v, RV E w c v → RV E' w (g c) v) : ∀ {cs : List V} {vs : List Value}, RVs E w cs vs → RVs E' w (cs.map g) vs
 | [], _, h => h
 | _ :: _, _, ⟨v, r, h, h1, h2⟩ => ⟨v, r, h, hg _ _ h1, RVs.frz hg h2⟩
theorem RV.frz {E : Env} {w : World} {id : Nat} {T n : Nat} {es : List (List D)} (hold : Hold E w id (.arr T n es)) {E' : Env} (hl : E'.loc = E.loc) (hz : ∀ b, E.Z b → E'.Z b) (hb : (E.loc id).nil = false → E'.Z (E.loc id).b) :
  ∀ (c : V) (v : Value), RV E w c v → RV E' w (c.frz id es) v := by
 intro c v h
 have f1 := RV.frz1 hold hl hz hb
 cases c with
 | ref i off len => exact f1 _ _ h
 | agg cs =>
  show RV E' w (if _ then _ else _) v
  split
  ·rename_i hall
   obtain ⟨vs, h1, h2, h3⟩ := h
   exact ⟨vs, h1, List.all_eq_true.1 hall, RVs.frz f1 h3⟩
  ·trivial
 | tup cs =>
  obtain ⟨vs, h1, h3⟩ := h
  exact ⟨vs, h1, RVs.frz f1 h3⟩
 | fn f cs =>
  obtain ⟨vs, h1, h3⟩ := h
  exact ⟨vs, h1, RVs.frz f1 h3⟩
 | d x => exact f1 _ _ h
 | ptr id i off => exact f1 _ _ h
 | mref id => exact f1 _ _ h
 | dx es => exact f1 _ _ h
 | hole => exact f1 _ _ h
 | junk => trivial
theorem Sub.freeze {nt : Nat} {rts : List Nat} {l : List (Nat × V)} {h : List (Nat × Option Blk)} (id : Nat) {T n : Nat} {es : List (List D)} (hes : hlook h id = some (.arr T n es)) : Sub (mk nt rts l h) (mk nt rts (frzL id es l) (frzH id es h)) := .of fun fx a w E m => by
 have hold := m.ok.hold id _ hes
 have hz : ∀ b, E.Z b → (E.Z b ∨ ((E.loc id).nil = false ∧ b = (E.loc id).b)) := fun _ h => .inl h
 have hne : (mk nt rts l h).hp id ≠ none := by rw [show (mk nt rts l h).hp id = _ from hes]; simp
 have fr : ∀ c v, RV E w c v → RV { E with Z := fun b => E.Z b ∨ ((E.loc id).nil = false ∧ b = (E.loc id).b) } w (c.frz id es) v := fun c v hc => RV.frz (E' := { E with Z := fun b => E.Z b ∨ ((E.loc id).nil = false ∧ b = (E.loc id).b) }) hold rfl hz (fun hn => .inr ⟨hn, rfl⟩) c v hc
 have fr1 : ∀ c v, RV E w c v → RV { E with Z := fun b => E.Z b ∨ ((E.loc id).nil = false ∧ b = (E.loc id).b) } w (c.frz1 id es) v := fun c v hc => RV.frz1 (E' := { E with Z := fun b => E.Z b ∨ ((E.loc id).nil = false ∧ b = (E.loc id).b) }) hold rfl hz (fun hn => .inr ⟨hn, rfl⟩) c v hc
 have get : ∀ i, hlook (frzH id es h) i ≠ none → i ≠ id ∧ hlook h i ≠ none := fun i hi => by
  rw [hlook_frzH] at hi
  by_cases e : i = id
  ·rw [if_pos e] at hi; exact absurd rfl hi
  ·rw [if_neg e] at hi
   refine ⟨e, fun e2 => ?_⟩
   rw [e2] at hi; exact hi rfl
 refine ⟨{ E with Z := fun b => E.Z b ∨ ((E.loc id).nil = false ∧ b = (E.loc id).b) }, m.nt, fun t => ?_, m.dfr, ⟨fun i b hi => ?_, fun i j hi hj => m.ok.inj i j (get i hi).2 (get j hj).2, fun i hi b hn hb => ?_, fun b hb => ?_, fun i hi => m.ok.xlt i (get i hi).2⟩, m.frame, fun i hi => m.mine i (get i hi).2, fun b hb => ?_, m.roots⟩
 ·have := fr _ _ (m.slots t)
  show RV _ w (tlook (frzL id es l) t) _
  rw [look_frzL]
  exact this
 ·have hi' : hlook (frzH id es h) i = some b := hi
  rw [hlook_frzH] at hi'
  by_cases e : i = id
  ·rw [if_pos e] at hi'; cases hi'
  ·rw [if_neg e] at hi'
   cases hb : hlook h i with
   | none => rw [hb] at hi'; cases hi'
   | some b0 =>
    rw [hb] at hi'
    have hh := m.ok.hold i b0 hb
    cases b0 with
    | box cs =>
     have hi' : (if (cs.map (V.frz1 id es)).all V.cell = true then some (Blk.box (cs.map (V.frz1 id es))) else none) = some b := hi'
     split at hi'
     ·rename_i hall
      injection hi' with hi'
      subst hi'
      obtain ⟨hn, h1, vs, h2, h3, h4, h5⟩ := hh
      exact ⟨hn, List.all_eq_true.1 hall, vs, RVs.frz fr1 h2, h3, h4, h5⟩
     ·cases hi'
    | arr T n es =>
     injection hi' with hi'
     subst hi'
     exact hh.keep (E' := { E with Z := fun b => E.Z b ∨ ((E.loc id).nil = false ∧ b = (E.loc id).b) }) (fun _ _ => rfl) hz rfl (fun _ _ => rfl) (Nat.le_refl _)
    | mp kd l =>
     injection hi' with hi'
     subst hi'
     exact hh.keep (E' := { E with Z := fun b => E.Z b ∨ ((E.loc id).nil = false ∧ b = (E.loc id).b) }) (fun _ _ => rfl) hz rfl (fun _ _ => rfl) (Nat.le_refl _)
    | nest T n sh es fo =>
     injection hi' with hi'
     subst hi'
     exact hh.keep (E' := { E with Z := fun b => E.Z b ∨ ((E.loc id).nil = false ∧ b = (E.loc id).b) }) (fun _ _ => rfl) hz rfl (fun _ _ => rfl) (Nat.le_refl _)
    | hid p =>
     injection hi' with hi'
     subst hi'
     exact hh.keep (E' := { E with Z := fun b => E.Z b ∨ ((E.loc id).nil = false ∧ b = (E.loc id).b) }) (fun _ _ => rfl) hz rfl (fun _ _ => rfl) (Nat.le_refl _)
 ·obtain ⟨hne2, hi2⟩ := get i hi
  rcases hb with hb | ⟨hn2, hb⟩
  ·exact m.ok.apart i hi2 b hn hb
  ·exact m.ok.inj i id hi2 hne hne2 b hn (.inl ⟨hn2, hb.symm⟩)
 ·rcases hb with hb | ⟨hn2, hb⟩
  ·exact m.ok.zlt b hb
  ·rw [hb]; exact hold.block_lt hn2
 ·rcases hb with hb | ⟨hn2, hb⟩
  ·exact m.z b hb
  ·rw [hb]
   rcases m.mine1 id hne hn2 with h | h
   ·exact .inr (.inl h)
   ·exact .inr (.inr h)
theorem Sub.bool {S : St} (t : Nat) {b b' : Bool} (ht : S.sl t = .d (.lit (.bool b))) (h : b = b') : Sub S (S.setS t (.d (.lit (.bool b')))) := .of fun fx a w E m => by
 subst h
 refine ⟨E, m.nt, fun i => ?_, m.dfr, m.ok, m.frame, m.mine, m.z, m.roots⟩
 show RV E w (if i = t then _ else S.sl i) _
 split
 ·rename_i hi
  subst hi
  have := m.slots i
  rw [ht] at this
  exact this
 ·exact m.slots i
theorem AW.condT {P : Program} {S : St} {c : Operand} {x y : Code} {Q : Exit → St → Prop} {b : Bool} (hc : S.ev c = .d (.lit (.bool b))) (hb : b = true) (h : AW P x S Q) : AW P (.cond c x y) S Q :=
 AW.cond hc (fun _ => h) (fun e => by rw [hb] at e; cases e)
theorem AW.condF {P : Program} {S : St} {c : Operand} {x y : Code} {Q : Exit → St → Prop} {b : Bool} (hc : S.ev c = .d (.lit (.bool b))) (hb : b = false) (h : AW P y S Q) : AW P (.cond c x y) S Q :=
 AW.cond hc (fun e => by rw [hb] at e; cases e) (fun _ => h)
attribute [simp] V.frz V.frz1 frzR Blk.frz frzL frzH
end Go.Ab
end
section
namespace Go.Ab
open Go.RowKit
def cI (k : IntKind) (n : Int) : List D := [.lit (.int k n)]
def cB (b : Bool) : List D := [.lit (.bool b)]
def cS (s : ByteArray) : List D := [.lit (.string s)]
def cL {α : Type} (c : α → List D) (xs : List α) : List D := [.sl (xs.map c)]
attribute [simp] cI cB cS cL
theorem setI_some {α : Type} {xs ys : List α} {i : Int} {x : α} {k : Nat} (c : α → List D) (h : setI xs i x = ys) (hk : i.toNat = k) : (xs.map c).set k (c x) = ys.map c ∧ ys.length = xs.length := by
 subst h; subst hk
 exact ⟨by simp [setI, List.map_set], by simp [setI]⟩
theorem all_len {α : Type} {c : α → List D} {n : Nat} (h : ∀ x, (c x).length = n) (xs : List α) : xs.all ((fun e => decide (e.length = n)) ∘ c) = true := by
 rw [List.all_eq_true]
 intro x _
 simp [h]
@[simp] theorem all_cI (k : IntKind) (xs : List Int) : xs.all ((fun e => decide (e.length = 1)) ∘ cI k) = true := all_len (c := cI k) (fun _ => rfl) xs
@[simp] theorem all_cB (xs : List Bool) : xs.all ((fun e => decide (e.length = 1)) ∘ cB) = true := all_len (c := cB) (fun _ => rfl) xs
@[simp] theorem all_cS (xs : List ByteArray) : xs.all ((fun e => decide (e.length = 1)) ∘ cS) = true := all_len (c := cS) (fun _ => rfl) xs
@[simp] theorem all_cL {α : Type} (c : α → List D) (xs : List (List α)) : xs.all ((fun e => decide (e.length = 1)) ∘ cL c) = true := all_len (c := cL c) (fun _ => rfl) xs
@[simp] theorem all_take1 {α : Type} {l : List α} {p : α → Bool} {n : Nat} (h : l.all p = true) : (l.take n).all p = true := by
 rw [List.all_eq_true] at h ⊢
 exact fun x hx => h x (List.mem_of_mem_take hx)
@[simp] theorem all_drop1 {α : Type} {l : List α} {p : α → Bool} {n : Nat} (h : l.all p = true) : (l.drop n).all p = true := by
 rw [List.all_eq_true] at h ⊢
 exact fun x hx => h x (List.mem_of_mem_drop hx)
def D.wk : D → D
 | .lit (.slice none 0 0) => .sl []
 | x => x
def V.wk1 : V → V
 | .d x => .d x.wk
 | v => v
def V.wk : V → V
 | .d x => .d x.wk
 | .agg cs => .agg (cs.map V.wk1)
 | v => v
theorem RD.wk {w : World} {Z : Nat → Prop} {x : D} {v : Value} (h : RD w Z x v) : RD w Z x.wk v := by
 unfold D.wk
 split
 ·obtain ⟨rfl, _⟩ := h
  exact ⟨none, 0, rfl, Nat.le_refl _, Nat.zero_le _, fun _ => rfl, fun h => absurd rfl h⟩
 ·exact h
theorem RV.wk1 {E : Env} {w : World} (c : V) (v : Value) (h : RV E w c v) : RV E w c.wk1 v := by
 cases c with
 | d x => exact RD.wk h
 | _ => exact h
theorem RV.wk {E : Env} {w : World} {c : V} {v : Value} (h : RV E w c v) : RV E w c.wk v := by
 cases c with
 | d x => exact RD.wk h
 | agg cs =>
  obtain ⟨vs, h1, h2, h3⟩ := h
  refine ⟨vs, h1, fun c hc => ?_, RVs.frz RV.wk1 h3⟩
  obtain ⟨x, hx, rfl⟩ := List.mem_map.1 hc
  have := h2 x hx
  cases x <;> first | rfl | exact this
 | _ => exact h
theorem Sub.wk {S : St} (t : Nat) {v : V} (ht : S.sl t = v) : Sub S (S.setS t v.wk) := .of fun fx a w E m => by
 refine ⟨E, m.nt, fun i => ?_, m.dfr, m.ok, m.frame, m.mine, m.z, m.roots⟩
 show RV E w (if i = t then v.wk else S.sl i) _
 split
 ·rename_i hi
  subst hi; subst ht
  exact RV.wk (m.slots i)
 ·exact m.slots i
section
variable {P : Program} {S : St} {β ρ : Type}
theorem AW.mono2 {c : Code} {Q Q' : Exit → St → Prop} (h : AW P c S Q') (hq : ∀ e S', Q' e S' → ∃ S1, Sub S' S1 ∧ Q e S1) : AW P c S Q := fun fx a w m => Code.wpIn_mono (fun e a' w' ⟨S', fx', h1, hx, h2⟩ => by
 obtain ⟨S1, hs, hQ⟩ := hq e S' h1
 exact ⟨S1, fx', hQ, hx, hs fx' a' w' h2⟩) (h fx a w m)
theorem AW.lastJ {x : Code} {d : Option (Out β ρ)} {k : β → Option ρ} {r : ρ} {Q : Exit → St → Prop} (J : β → St) (h : bindO d k = some r) (h1 : ∀ o, d = some o → AW P x S (PostJ J r Q o))
  (h2 : ∀ b, k b = some r → Q .normal (J b)) : AW P x S Q := by
 cases hd : d with
 | none => rw [hd] at h; cases h
 | some o =>
  rw [hd] at h
  refine (h1 o hd).mono2 fun e S' hp => ?_
  cases o with
  | go b =>
   obtain ⟨rfl, hp⟩ := hp
   exact ⟨_, hp, h2 b h⟩
  | ret r' =>
   injection h with h
   exact ⟨S', Sub.refl _, hp.2 h⟩
theorem AW.lastN {x : Code} {d : Option β} {k : β → Option ρ} {r : ρ} {Q : Exit → St → Prop} (J : β → St) (h : d.bind k = some r) (h1 : ∀ o, d = some o → AW P x S (PostN J o))
  (h2 : ∀ b, k b = some r → Q .normal (J b)) : AW P x S Q := by
 obtain ⟨b, hd, hk⟩ := bsome h
 refine (h1 b hd).mono2 fun e S' hp => ?_
 obtain ⟨rfl, hp⟩ := hp
 exact ⟨_, hp, h2 b hk⟩
theorem thenQ_normal {K : St → Prop} {Q : Exit → St → Prop} (h : K S) : thenQ K Q .normal S := h
theorem thenQ_pass {K : St → Prop} {Q : Exit → St → Prop} {e : Exit} (he : e ≠ .normal) (h : Q e S) : thenQ K Q e S := by
 cases e with
 | normal => exact absurd rfl he
 | _ => exact h
end
theorem blockQ.hit {S : St} {id : Nat} {Q : Exit → St → Prop} (h : Q .normal S) : blockQ id Q (.exit id) S := by
 show (if id = id then _ else _)
 rw [if_pos rfl]; exact h
theorem blockQ.ret {S : St} {id : Nat} {Q : Exit → St → Prop} (h : Q .ret S) : blockQ id Q .ret S := h
theorem blockQ.normal {S : St} {id : Nat} {Q : Exit → St → Prop} (h : Q .normal S) : blockQ id Q .normal S := h
theorem FunC.enter {P : Program} {f : FuncId} {fn : Func} {c : Code} {args : List V} {v : V} (nt : Nat) (l : List (Nat × V)) (hv : v.closed = true) (hf : P.funcs[f]? = some fn) (hb : fn.body = some c) (hle : args.length ≤ fn.ntmps) (hn : fn.ntmps = nt) (hl : enterL args 0 = l)
  (h : AW P c (mk nt [] l []) (FinC P fn v)) : FunC P f args v := by
 subst hn; subst hl
 exact FunC.fin hv hf hb hle h
attribute [simp] D.wk V.wk V.wk1 Go.Value.cells List.take_of_length_le
end Go.Ab
end
section
namespace Go.Ab
open Go.RowKit
def waitsB (ops : Array Oper) (i j : Nat) : Bool := match ops[i]? with
 | some o => o.after.any fun e => Region.binds .any e && e.on == j
 | none => false
def ancB (ops : Array Oper) (anc : List (List Nat)) : Bool :=
 ((List.range ops.size).all fun i => (List.range ops.size).all fun j => !waitsB ops i j || decide (j < i)) && (ops.all fun o => o.after.all fun e => decide (e.on < ops.size)) &&
 (List.range ops.size).all fun i => (anc.getD i []).all fun j => waitsB ops i j || (List.range ops.size).any fun k => waitsB ops i k && (anc.getD k []).contains j
def mb (b : Bool) (v : V) : V := if b then v else .junk
def mk? (b : Bool) (k : Option Blk) : Option Blk := if b then k else none
def updB (b : Nat → Bool) (i : Nat) : Nat → Bool := fun j => if j = i then true else b j
theorem Oper.wp_other {P : Program} {o : Oper} {a : Act} {w : World} {K : Act → World → Prop} {Q Q' : Exit → Act → World → Prop} (hq : ∀ e a w, e ≠ .normal → Q e a w → Q' e a w)
  (h : o.wp P a w K Q) : o.wp P a w K Q' := by
 unfold Oper.wp at *
 generalize (execOp a.eval o).run P w = r at *
 cases r with
 | ok n w' =>
  cases n <;> simp only [Oper.upon] at h ⊢ <;>
   first
    | exact h
    | exact Calls.mono h (fun e w'' he => by
      cases e with
      | returned v => exact he
      | panicked c => exact hq _ _ _ (by simp) he
      | outgrown =>
       obtain ⟨a, w, he⟩ := (he : LetsOut Q)
       exact (⟨a, w, hq _ _ _ (by simp) he⟩ : LetsOut Q'))
 | halt x w' => cases x <;> simp only [Oper.upon] at h ⊢ <;> first | exact h | exact hq _ _ _ (by simp) h
def atN (K : Act → World → Prop) (Q : Exit → Act → World → Prop) : Exit → Act → World → Prop
 | .normal, a, w => K a w
 | .exit i, a, w => Q (.exit i) a w
 | .goto i, a, w => Q (.goto i) a w
 | .ret, a, w => Q .ret a w
 | .panic c, a, w => Q (.panic c) a w
 | .outgrown, a, w => Q .outgrown a w
theorem atN_other {K : Act → World → Prop} {Q : Exit → Act → World → Prop} {e : Exit} {a : Act} {w : World} (he : e ≠ .normal) (h : atN K Q e a w) : Q e a w := by
 cases e with
 | normal => exact absurd rfl he
 | _ => exact h
theorem ready_mem {ops : Array Oper} {listed : Array Bool} {i : Nat} (hi : i ∈ Region.ready .any ops listed) : i < ops.size ∧ listed.getD i true = false ∧ ∃ o, ops[i]? = some o ∧ ∀ j, waitsB ops i j = true → listed.getD j false = true := by
 unfold Region.ready at hi
 rw [List.mem_filter] at hi
 obtain ⟨h1, h2⟩ := hi
 have hlt := List.mem_range.1 h1
 rw [Bool.and_eq_true] at h2
 obtain ⟨h2, h3⟩ := h2
 refine ⟨hlt, by simpa using h2, ops[i], Array.getElem?_eq_getElem hlt, fun j hj => ?_⟩
 rw [Array.getElem?_eq_getElem hlt] at h3
 unfold waitsB at hj
 rw [Array.getElem?_eq_getElem hlt] at hj
 simp only [Option.map_some, Option.getD_some, Array.all_eq_true_iff_forall_mem] at h3
 simp only [Array.any_eq_true'] at hj
 obtain ⟨e, he, hb⟩ := hj
 rw [Bool.and_eq_true, beq_iff_eq] at hb
 have := h3 e he
 rw [hb.1] at this
 simp at this
 rw [← hb.2]
 simpa using this
theorem getD_set {listed : Array Bool} {i j : Nat} (hi : i < listed.size) : (listed.setIfInBounds i true).getD j false = if j = i then true else listed.getD j false := by
 by_cases h : j = i
 ·subst h
  simp [Array.getD, hi]
 ·rw [if_neg h]
  by_cases hj : j < listed.size
  ·have : ¬ i = j := fun e => h e.symm
   simp [Array.getD, hj, this]
  ·simp [Array.getD, hj]
theorem AW.regionAny {P : Program} {S : St} {Q : Exit → St → Prop} {id : Nat} {l : List Oper} (anc : List (List Nat)) (I : (Nat → Bool) → St) (hm : P.follows .mixedOrders = true) (hA : ancB l.toArray anc = true)
  (h0 : Sub S (I fun _ => false))
  (hstep : ∀ i o, l.toArray[i]? = some o → ∀ b : Nat → Bool, b i = false → (∀ j, j ∈ anc.getD i [] → b j = true) → (∀ k, i ∈ anc.getD k [] → b k = false) → Chain false P l.toArray [o] (I b) (fun S' => Sub S' (I (updB b i))))
  (hend : ∀ b : Nat → Bool, (∀ i, i < l.length → b i = true) → ∃ S1, Sub (I b) S1 ∧ Q .normal S1) (hd : noDefer l = true := by rfl) : AW P (.region id l.toArray true) S Q := by
 intro fx a w hM
 refine Code.wpIn_mono (fun e a w h => by obtain ⟨rfl, h⟩ := h; exact h) (rd_region_any (Q := Aft fx Q .normal) hd hm ?_)
 have hM' : Models fx S a { w with drawn := w.drawn + 1 } := by
  obtain ⟨E, m⟩ := hM
  exact ⟨E, m.grow ⟨rfl, rfl, rfl, Nat.le_refl _, fun _ _ => rfl⟩⟩
 have hback : ∀ i j, i < l.toArray.size → waitsB l.toArray i j = true → j < i := fun i j hi hw => by
  unfold ancB at hA
  simp only [Bool.and_eq_true, List.all_eq_true, List.mem_range] at hA
  have hj : j < l.toArray.size := by
   unfold waitsB at hw
   rw [Array.getElem?_eq_getElem hi] at hw
   simp only [Array.any_eq_true'] at hw
   obtain ⟨e, he, hb⟩ := hw
   rw [Bool.and_eq_true, beq_iff_eq] at hb
   have h2 := hA.1.2
   rw [Array.all_eq_true_iff_forall_mem] at h2
   have h3 := h2 _ (Array.getElem_mem hi)
   rw [Array.all_eq_true_iff_forall_mem] at h3
   have := h3 e he
   rw [← hb.2]
   exact of_decide_eq_true this
  have := hA.1.1 i hi j hj
  rw [hw] at this
  simpa using this
 have hclos : ∀ i j, i < l.toArray.size → j ∈ anc.getD i [] → waitsB l.toArray i j = true ∨ ∃ k, waitsB l.toArray i k = true ∧ j ∈ anc.getD k [] := fun i j hi hj => by
  unfold ancB at hA
  simp only [Bool.and_eq_true, List.all_eq_true, List.mem_range] at hA
  have := hA.2 i hi j hj
  rw [Bool.or_eq_true, List.any_eq_true] at this
  rcases this with h | ⟨k, _, h⟩
  ·exact .inl h
  ·rw [Bool.and_eq_true] at h
   exact .inr ⟨k, h.1, by simpa using h.2⟩
 have key : ∀ (n : Nat) (listed : Array Bool) (a : Act) (w : World), listed.size = l.toArray.size → (listed.toList.countP (· = false)) = n → (∀ i, listed.getD i false = true → ∀ j ∈ anc.getD i [], listed.getD j false = true) → Models fx (I fun j => listed.getD j false) a w →
   wpAny P .any l.toArray (NQ (Aft fx Q .normal)) n listed a w := by
  intro n
  induction n with
  | zero =>
   intro listed a w hs hn hinv hM
   have hall : ∀ i, i < l.length → listed.getD i false = true := fun i hi => by
    have hi' : i < listed.size := by rw [hs]; simpa using hi
    rw [List.countP_eq_zero] at hn
    have := hn listed[i] (by simp)
    simpa [Array.getD, hi'] using this
   have hready : Region.ready .any l.toArray listed = [] := by
    rw [List.eq_nil_iff_forall_not_mem]
    intro i hi
    obtain ⟨h1, h2, _⟩ := ready_mem hi
    have h3 := hall i (by simpa using h1)
    have hi' : i < listed.size := by rw [hs]; exact h1
    simp [Array.getD, hi'] at h2 h3
    rw [h2] at h3; cases h3
   refine ⟨hready, ?_⟩
   obtain ⟨S1, hs1, hq⟩ := hend _ hall
   exact ⟨rfl, Aft.one hq (hs1 _ _ _ hM)⟩
  | succ n ih =>
   intro listed a w hs hn hinv hM
   refine ⟨fun hnil => ?_, fun i hi => ?_⟩
   ·exfalso
    have hex : ∃ i, i < listed.size ∧ listed.getD i true = false := by
     have : 0 < listed.toList.countP (· = false) := by omega
     rw [List.countP_pos_iff] at this
     obtain ⟨x, hx, hxf⟩ := this
     obtain ⟨i, hi, rfl⟩ := List.getElem_of_mem hx
     have hi' : i < listed.size := by simpa using hi
     exact ⟨i, hi', by simpa [Array.getD, hi'] using hxf⟩
    obtain ⟨i, ⟨hi1, hi2⟩, hleast⟩ := exists_least _ hex
    have : i ∈ Region.ready .any l.toArray listed := by
     unfold Region.ready
     rw [List.mem_filter]
     have hlt : i < l.toArray.size := by rw [← hs]; exact hi1
     refine ⟨List.mem_range.2 hlt, ?_⟩
     rw [hi2, Array.getElem?_eq_getElem hlt]
     simp only [Bool.not_false, Bool.true_and, Option.map_some, Option.getD_some, Array.all_eq_true_iff_forall_mem]
     intro e he
     cases hb : Region.binds .any e with
     | false => rfl
     | true =>
      have hwt : waitsB l.toArray i e.on = true := by
       unfold waitsB
       rw [Array.getElem?_eq_getElem hlt]
       simp only [Array.any_eq_true']
       exact ⟨e, he, by simp [hb]⟩
      have hon : e.on < i := hback i e.on hlt hwt
      have hon2 : e.on < listed.size := by omega
      cases hl : listed.getD e.on true with
      | false => exact absurd (hleast e.on ⟨hon2, hl⟩) (by omega)
      | true => simpa [Array.getD, hon2] using hl
    rw [hnil] at this
    cases this
   ·obtain ⟨hlt, hun, o, ho, hw⟩ := ready_mem hi
    have hi' : i < listed.size := by rw [hs]; exact hlt
    have hbi : listed.getD i false = false := by simp [Array.getD, hi'] at hun ⊢; exact hun
    have hanc : ∀ j, j ∈ anc.getD i [] → listed.getD j false = true := fun j hj => by
     rcases hclos i j hlt hj with h | ⟨k, h1, h2⟩
     ·exact hw j h
     ·exact hinv k (hw k h1) j h2
    have hdesc : ∀ k, i ∈ anc.getD k [] → listed.getD k false = false := fun k hk => by
     cases hlk : listed.getD k false with
     | false => rfl
     | true => rw [hinv k hlk i hk] at hbi; cases hbi
    have hch := hstep i o ho (fun j => listed.getD j false) hbi hanc hdesc fx a w
     (atN (wpAny P .any l.toArray (NQ (Aft fx Q .normal)) n (listed.setIfInBounds i true)) (NQ (Aft fx Q .normal))) hM (fun S' a' w' hsub hM' => by
      show wpAny P .any l.toArray (NQ (Aft fx Q .normal)) n (listed.setIfInBounds i true) a' w'
      refine ih _ _ _ (by simpa using hs) ?_ ?_ ?_
      ·have : (listed.setIfInBounds i true).toList = listed.toList.set i true := by simp
       have hv : listed.toList[i]'(by simpa using hi') = false := by simpa [Array.getD, hi'] using hbi
       rw [this, List.countP_set (by simpa using hi'), hv, if_pos (by decide), if_neg (by decide)]
       omega
      ·intro k hk j hj
       rw [getD_set hi'] at hk ⊢
       by_cases hki : k = i
       ·subst hki
        have := hanc j hj
        split
        ·rfl
        ·exact this
       ·rw [if_neg hki] at hk
        split
        ·rfl
        ·exact hinv k hk j hj
      ·have he : (fun j => (listed.setIfInBounds i true).getD j false) = updB (fun j => listed.getD j false) i := by
        funext j
        rw [getD_set hi']; rfl
       rw [he]
       exact hsub _ _ _ hM')
    unfold wpOp
    simp only [ho]
    unfold wpList at hch
    by_cases hwt : Region.wanted o (yielded l.toArray a.tmps) = true
    ·rw [if_pos hwt] at hch ⊢
     rcases hch with hch | ⟨h1, a1, w1, h2⟩
     ·exact .inl (Oper.wp_other (fun e a w he h => atN_other he h) (Oper.wp_mono (fun a w h => h) hch))
     ·exact .inr ⟨h1, a1, w1, h2⟩
    ·rw [if_neg hwt] at hch ⊢
     exact hch
 refine key (l.toArray.size) (Array.replicate l.toArray.size false) a _ (by simp) (by rw [Array.toList_replicate, List.countP_replicate, if_pos (by decide)]) (fun i hi => ?_) ?_
 ·simp [Array.getD] at hi
 ·have : (fun j => (Array.replicate l.toArray.size false).getD j false) = fun _ => false := by
   funext j
   simp [Array.getD]
  rw [this]
  exact h0 _ _ _ hM'
theorem AW.seqAny {P : Program} {S : St} {Q : Exit → St → Prop} {id : Nat} {l : List Oper} {y : Code} (anc : List (List Nat)) (I : (Nat → Bool) → St) (S1 : St) (hm : P.follows .mixedOrders = true) (hA : ancB l.toArray anc = true)
  (h0 : Sub S (I fun _ => false))
  (hstep : ∀ i o, l.toArray[i]? = some o → ∀ b : Nat → Bool, b i = false → (∀ j, j ∈ anc.getD i [] → b j = true) → (∀ k, i ∈ anc.getD k [] → b k = false) → Chain false P l.toArray [o] (I b) (fun S' => Sub S' (I (updB b i))))
  (hend : ∀ b : Nat → Bool, (∀ i, i < l.length → b i = true) → Sub (I b) S1) (hy : AW P y S1 Q) (hd : noDefer l = true := by rfl) : AW P (.seq (.region id l.toArray true) y) S Q :=
 .seq (.regionAny anc I hm hA h0 hstep (fun b hb => ⟨S1, hend b hb, hy⟩) hd)
def Steps (P : Program) (ops : Array Oper) (anc : List (List Nat)) (I : (Nat → Bool) → St) : Nat → List Oper → Prop
 | _, [] => True
 | i, o :: l => (∀ b : Nat → Bool, b i = false → (∀ j, j ∈ anc.getD i [] → b j = true) → (∀ k, i ∈ anc.getD k [] → b k = false) → Chain false P ops [o] (I b) (fun S' => Sub S' (I (updB b i)))) ∧ Steps P ops anc I (i + 1) l
theorem Steps.nil {P : Program} {ops : Array Oper} {anc : List (List Nat)} {I : (Nat → Bool) → St} {i : Nat} : Steps P ops anc I i [] := trivial
theorem Steps.cons {P : Program} {ops : Array Oper} {anc : List (List Nat)} {I : (Nat → Bool) → St} {i : Nat} {o : Oper} {l : List Oper}
  (h : ∀ b : Nat → Bool, b i = false → (∀ j, j ∈ anc.getD i [] → b j = true) → (∀ k, i ∈ anc.getD k [] → b k = false) → Chain false P ops [o] (I b) (fun S' => Sub S' (I (updB b i)))) (h2 : Steps P ops anc I (i + 1) l) : Steps P ops anc I i (o :: l) := ⟨h, h2⟩
theorem Steps.get {P : Program} {ops : Array Oper} {anc : List (List Nat)} {I : (Nat → Bool) → St} : ∀ {l : List Oper} {k : Nat}, Steps P ops anc I k l → ∀ i o, l[i]? = some o → ∀ b : Nat → Bool, b (k + i) = false → (∀ j, j ∈ anc.getD (k + i) [] → b j = true) → (∀ q, (k + i) ∈ anc.getD q [] → b q = false) → Chain false P ops [o] (I b) (fun S' => Sub S' (I (updB b (k + i))))
 | [], _, _, i, o, h => by simp at h
 | x :: l, k, hs, 0, o, h => by
  simp at h; subst h
  exact hs.1
 | x :: l, k, hs, i + 1, o, h => by
  have := hs.2.get i o (by simpa using h)
  rw [show k + (i + 1) = k + 1 + i by omega]
  exact this
theorem AW.seqAnyS {P : Program} {S : St} {Q : Exit → St → Prop} {id : Nat} {l : List Oper} {y : Code} (anc : List (List Nat)) (I : (Nat → Bool) → St) (S1 : St) (hm : P.follows .mixedOrders = true) (hA : ancB l.toArray anc = true)
  (h0 : Sub S (I fun _ => false)) (hstep : Steps P l.toArray anc I 0 l)
  (hend : ∀ b : Nat → Bool, (∀ i, i < l.length → b i = true) → Sub (I b) S1) (hy : AW P y S1 Q) (hd : noDefer l = true := by rfl) : AW P (.seq (.region id l.toArray true) y) S Q :=
 .seqAny anc I S1 hm hA h0 (fun i o ho => by have := hstep.get i o (by simpa using ho); rw [Nat.zero_add] at this; exact this) hend hy hd
theorem AW.lastAnyS {P : Program} {S : St} {Q : Exit → St → Prop} {id : Nat} {l : List Oper} (anc : List (List Nat)) (I : (Nat → Bool) → St) (S1 : St) (hm : P.follows .mixedOrders = true) (hA : ancB l.toArray anc = true)
  (h0 : Sub S (I fun _ => false)) (hstep : Steps P l.toArray anc I 0 l)
  (hend : ∀ b : Nat → Bool, (∀ i, i < l.length → b i = true) → Sub (I b) S1) (hy : Q .normal S1) (hd : noDefer l = true := by rfl) : AW P (.region id l.toArray true) S Q :=
 .regionAny anc I hm hA h0 (fun i o ho => by have := hstep.get i o (by simpa using ho); rw [Nat.zero_add] at this; exact this) (fun b hb => ⟨S1, hend b hb, hy⟩) hd
@[simp] theorem has_ite {c : Prop} [Decidable c] {x y : V} {id : Nat} : (if c then x else y).has id = if c then x.has id else y.has id := by split <;> rfl
@[simp] theorem killB_ite {c : Prop} [Decidable c] {x y : Option Blk} {id : Nat} : killB id (if c then x else y) = if c then killB id x else killB id y := by split <;> rfl
attribute [simp] mb mk? updB
end Go.Ab
end
section
namespace Go.Ab
open Go.RowKit
theorem Chain.eqNilE {q : Bool} {P : Program} {ops : Array Oper} {o : Oper} {l : List Oper} {S : St} {Q : St → Prop} {T T' e : TypeId} {ti : TI} {x y : Operand} {es : List (List D)} (hw : wantedV ops S o = some true) (ho : o.op = .binOp .eql T x y T')
  (hT : tyOf P T = some ti) (hd : ti.desc = .slice e) (hx : S.ev x = .d (.sl es)) (hy : S.ev y = .d (.lit (.slice none 0 0)))
  (h : ∀ b : Bool, (es ≠ [] → b = false) → Chain q P ops l (S.put o.dst (.d (.lit (.bool b)))) Q) : Chain q P ops (o :: l) S Q := by
 have go : ∀ fx a w E, Mod fx S E a w → ∃ b : Bool, (es ≠ [] → b = false) ∧ ∀ w', (execOp a.eval o).run P w' = .ok (.value (.bool b)) w' := by
  intro fx a w E m
  have h1 := m.ev x
  rw [hx] at h1
  obtain ⟨A, cap, hv, h2, _, h3, _⟩ := h1
  have h4 := m.ev y
  rw [hy] at h4
  have h4 : a.eval y = _ := h4.1
  refine ⟨A.isNone, fun hne => ?_, fun w' => ?_⟩
  ·cases A with
   | some a => rfl
   | none =>
    have := h3 rfl
    exact absurd (List.eq_nil_of_length_eq_zero (by omega)) hne
  ·unfold execOp
   rw [ho]
   have hu := run_und hT w'
   rw [hd] at hu
   simp only [hv, h4]
   have := (run_eq_of (P := P) (T := T) (x := .slice A es.length cap) (y := .slice none 0 0) (r := A.isNone) (w := w') (equal_of fun d => by cases A <;> simp [Op.equalIn, hu]) x y ⟨rfl, rfl⟩ ⟨rfl, rfl⟩).1
   have hgd : (eqGuard .eql T x y (.slice A es.length cap) (.slice none 0 0)).run P w' = .ok () w' := rfl
   rw [Sem.run_bind, hgd] at this
   simp only [Result.andThen_ok] at this
   simp [Sem.run_bind, hgd, this]
 cases q with
 | false =>
  intro fx a w Q' ⟨E, m⟩ hq
  have hw' := wantedV_sound m hw
  obtain ⟨b, hb, hrun⟩ := go fx a w E m
  unfold wpList
  rw [if_pos hw']
  refine .inl ?_
  unfold Oper.wp
  rw [hrun w]
  exact h b hb fx _ w Q' ⟨E, m.put o.dst ⟨rfl, rfl⟩⟩ hq
 | true =>
  intro fx a w Q' ⟨E, m⟩ hq
  have hw' := wantedV_sound m hw
  obtain ⟨b, hb, hrun⟩ := go fx a w E m
  unfold wpQuiet
  rw [if_pos hw']
  refine ⟨.bool b, fun w' hg => ?_, h b hb fx _ w Q' ⟨E, m.put o.dst ⟨rfl, rfl⟩⟩ hq⟩
  unfold Oper.quietAt
  rw [hrun w']
  exact ⟨rfl, rfl⟩
theorem part_lit {P : Program} {T : TypeId} {ti : TI} (hT : tyOf P T = some ti) (hr : isRow ti.desc = false) {l : Array Value} {i : Nat} {v : Value} (h : l[i]? = some v) (w : World) : (part T l i).run P w = .ok v w := by
 have hu := run_und hT w
 unfold isRow TypeDesc.row at hr
 have hagg : (isAgg T).run P w = .ok false w := by
  unfold isAgg
  rw [Sem.run_bind, hu]
  cases hd : ti.desc <;> simp_all
 simp [part, hagg, h]
theorem eqF_nil {P : Program} {d : Nat} {xs ys : Array Value} (w : World) : (Op.eqFields d xs ys []).run P w = .ok true w := rfl
theorem eqF_cons {P : Program} {d : Nat} {xs ys : Array Value} {f : Field} {fs : List Field} {a b : Value} {r r' : Bool} (hn : f.name ≠ "_") (ha : ∀ w, (part f.type xs f.offset).run P w = .ok a w) (hb : ∀ w, (part f.type ys f.offset).run P w = .ok b w)
  (he : ∀ w, (Op.equalIn d f.type a b).run P w = .ok r w) (hrest : ∀ w, (Op.eqFields d xs ys fs).run P w = .ok r' w) (w : World) : (Op.eqFields d xs ys (f :: fs)).run P w = .ok (r && r') w := by
 unfold Op.eqFields
 rw [if_pos hn]
 cases r <;> simp [ha w, hb w, he w, hrest w]
theorem eqS_of {P : Program} {T : TypeId} {xs ys : Array Value} {fs : List Field} {r : Bool} {d : Nat} (ht : P.underlying T = some (.struct (P.fieldsOf T))) (hp : P.stoodInHeld T = false) (hf : (P.fieldsOf T).toList = fs)
  (h : ∀ w, (Op.eqFields d xs ys fs).run P w = .ok r w) (w : World) : (Op.equalIn (d + 1) T (.agg xs) (.agg ys)).run P w = .ok r w := by
 rw [run_equalIn_struct w d T xs ys ht hp, hf]
 exact h w
end Go.Ab
end
