/- Functional programs out of code: iteration, joins, ends; the rules that carry a code's run over to its functional program. -/
import Derived.Test.YtabjbkdlacibjaaAb27
namespace Go.Ab
open Go.RowKit

/-! ### functional programs -/
inductive Out (β ρ : Type) where
  | go (b : β)
  | ret (r : ρ)

/-- n rounds at most -/
def iterN {σ ρ : Type} (step : σ → Option (σ ⊕ ρ)) : Nat → σ → Option ρ
  | 0, _ => none
  | n + 1, s => match step s with
    | some (.inl s') => iterN step n s'
    | some (.inr r) => some r
    | none => none
theorem iterN_succ {σ ρ : Type} (step : σ → Option (σ ⊕ ρ)) (n : Nat) (s : σ) : iterN step (n + 1) s = match step s with
    | some (.inl s') => iterN step n s'
    | some (.inr r) => some r
    | none => none := rfl

def bindO {β ρ : Type} (d : Option (Out β ρ)) (k : β → Option ρ) : Option ρ :=
  match d with
  | some (.go b) => k b
  | some (.ret r) => some r
  | none => none
@[simp] theorem bindO_go {β ρ : Type} (b : β) (k : β → Option ρ) : bindO (some (.go b)) k = k b := rfl
@[simp] theorem bindO_ret {β ρ : Type} (r : ρ) (k : β → Option ρ) : bindO (some (.ret r)) k = some r := rfl
@[simp] theorem bindO_none {β ρ : Type} (k : β → Option ρ) : bindO none k = none := rfl

/-- a value under a name -/
def letv {α β : Type} (x : α) (k : α → β) : β := k x

def okI64 (n : Int) : Prop := -9223372036854775808 ≤ n ∧ n ≤ 9223372036854775807
instance (n : Int) : Decidable (okI64 n) := inferInstanceAs (Decidable (_ ∧ _))
def chkI (n : Int) : Option Int := if okI64 n then some n else none
def quoI (a b : Int) : Option Int := if b = 0 then none else chkI (a.tdiv b)
def remI (a b : Int) : Option Int := if b = 0 then none else some (a.tmod b)
def idx {α : Type} (xs : List α) (i : Int) : Option α := if 0 ≤ i then xs[i.toNat]? else none
def appL {α : Type} (b : Nat) (xs ys : List α) : Option (List α) := if (xs.length + ys.length) * b ≤ Rp.reach then some (xs ++ ys) else none
def natI (i : Int) (n : Nat) : Option Nat := if 0 ≤ i ∧ i ≤ n then some i.toNat else none
def setI {α : Type} (xs : List α) (i : Int) (x : α) : List α := xs.set i.toNat x

/-! ### taking apart what a functional program yields -/
theorem bsome {α β : Type} {d : Option α} {k : α → Option β} {r : β} (h : d.bind k = some r) : ∃ a, d = some a ∧ k a = some r := Option.bind_eq_some_iff.1 h
theorem lsome {α β : Type} {x : α} {k : α → Option β} {r : β} (h : letv x k = some r) : ∃ a, x = a ∧ k a = some r := ⟨x, rfl, h⟩
theorem isome {β : Type} {p : Prop} [Decidable p] {x y : Option β} {r : β} (h : (if p then x else y) = some r) : (p ∧ x = some r) ∨ (¬ p ∧ y = some r) := by
  by_cases hp : p
  · rw [if_pos hp] at h; exact .inl ⟨hp, h⟩
  · rw [if_neg hp] at h; exact .inr ⟨hp, h⟩
theorem gsome {β : Type} {p : Prop} [Decidable p] {x : Option β} {r : β} (h : (if p then x else none) = some r) : p ∧ x = some r := by
  rcases isome h with h | ⟨_, h⟩
  · exact h
  · cases h
theorem wrap_ok {n : Int} (h : okI64 n) : IntKind.i64.wrap n = n := by
  obtain ⟨h1, h2⟩ := h
  simp only [IntKind.wrap, IntKind.signed, IntKind.bits]
  simp
  omega
theorem chkI_some {n m : Int} (h : chkI n = some m) : IntKind.i64.wrap n = m := by
  obtain ⟨h1, h2⟩ := gsome h
  injection h2 with h2
  rw [wrap_ok h1, h2]
theorem quoI_some {a b m : Int} (h : quoI a b = some m) : b ≠ 0 ∧ IntKind.i64.wrap (a.tdiv b) = m := by
  rcases isome h with ⟨_, h⟩ | ⟨h1, h⟩
  · cases h
  · exact ⟨h1, chkI_some h⟩
theorem remI_some {a b m : Int} (h : remI a b = some m) : b ≠ 0 ∧ a.tmod b = m := by
  rcases isome h with ⟨_, h⟩ | ⟨h1, h⟩
  · cases h
  · injection h with h; exact ⟨h1, h⟩
theorem idx_some {α : Type} {xs : List α} {i : Int} {x : α} (h : idx xs i = some x) : ∃ k, i.toNat = k ∧ xs[k]? = some x ∧ 0 ≤ i ∧ i < xs.length := by
  obtain ⟨h1, h2⟩ := gsome h
  obtain ⟨h3, _⟩ := List.getElem?_eq_some_iff.1 h2
  exact ⟨_, rfl, h2, h1, by omega⟩
theorem idx_some2 {α : Type} {xs : List α} {i : Int} {x : α} {k : Nat} (h : idx xs i = some x) (hk : i.toNat = k) : xs[k]? = some x ∧ 0 ≤ i ∧ i < xs.length := by
  obtain ⟨k', rfl, h2, h3, h4⟩ := idx_some h
  subst hk
  exact ⟨h2, h3, h4⟩
theorem appL_some {α : Type} {b : Nat} {xs ys zs : List α} (h : appL b xs ys = some zs) : (xs.length + ys.length) * b ≤ Rp.reach ∧ xs ++ ys = zs := by
  obtain ⟨h1, h2⟩ := gsome h
  injection h2 with h2
  exact ⟨h1, h2⟩
theorem natI_some {i : Int} {n m : Nat} (h : natI i n = some m) : i = m ∧ m ≤ n := by
  obtain ⟨h1, h2⟩ := gsome h
  injection h2 with h2
  omega

/-! ### ends -/
section
variable {P : Program} {S : St} {σ β ρ : Type}
def PostI (I : σ → St) (r : ρ) (Q : Exit → St → Prop) : σ ⊕ ρ → Exit → St → Prop
  | .inl s, e, S => e = .normal ∧ Sub S (I s)
  | .inr r', e, S => e ≠ .normal ∧ (r' = r → Q e S)
def PostJ (J : β → St) (r : ρ) (Q : Exit → St → Prop) : Out β ρ → Exit → St → Prop
  | .go b, e, S => e = .normal ∧ Sub S (J b)
  | .ret r', e, S => e ≠ .normal ∧ (r' = r → Q e S)
def PostN (J : β → St) : β → Exit → St → Prop := fun b e S => e = .normal ∧ Sub S (J b)

theorem PostI.next {I : σ → St} {r : ρ} {Q : Exit → St → Prop} {s : σ} (h : Sub S (I s)) : PostI I r Q (.inl s) .normal S := ⟨rfl, h⟩
theorem PostI.out {I : σ → St} {r r' : ρ} {Q : Exit → St → Prop} {e : Exit} (he : e ≠ .normal) (h : r' = r → Q e S) : PostI I r Q (.inr r') e S := ⟨he, h⟩
theorem PostJ.next {J : β → St} {r : ρ} {Q : Exit → St → Prop} {b : β} (h : Sub S (J b)) : PostJ J r Q (.go b) .normal S := ⟨rfl, h⟩
theorem PostJ.out {J : β → St} {r r' : ρ} {Q : Exit → St → Prop} {e : Exit} (he : e ≠ .normal) (h : r' = r → Q e S) : PostJ J r Q (.ret r') e S := ⟨he, h⟩
theorem PostN.next {J : β → St} {b : β} (h : Sub S (J b)) : PostN J b .normal S := ⟨rfl, h⟩

/-! ### the rules -/
theorem AW.iter {c : Code} {step : σ → Option (σ ⊕ ρ)} {n : Nat} {s0 : σ} {r : ρ} {Q : Exit → St → Prop} (I : σ → St) (h : iterN step n s0 = some r) (hs : Sub S (I s0))
    (round : ∀ s x, step s = some x → AW P c (I s) (PostI I r Q x)) : AW P (.loop c) S Q := by
  refine AW.loop (fun m S0 => ∃ s, iterN step m s = some r ∧ S0 = I s) hs ⟨s0, h, rfl⟩ ?_
  rintro m S0 ⟨s, hm, rfl⟩
  cases m with
  | zero => cases hm
  | succ m =>
    rw [iterN_succ] at hm
    cases hx : step s with
    | none => rw [hx] at hm; cases hm
    | some x =>
      rw [hx] at hm
      refine (round s x hx).mono fun e S' hp => ?_
      cases x with
      | inl s' =>
        obtain ⟨rfl, hp⟩ := hp
        exact ⟨m, _, Nat.lt_succ_self _, hp, s', hm, rfl⟩
      | inr r' =>
        injection hm with hm
        obtain ⟨he, hp⟩ := hp
        have hp := hp hm
        cases e with
        | normal => exact absurd rfl he
        | exit id => exact hp
        | goto l => exact hp
        | ret => exact hp
        | panic ch => exact hp
        | outgrown => exact hp

theorem AW.seqJ {x y : Code} {d : Option (Out β ρ)} {k : β → Option ρ} {r : ρ} {Q : Exit → St → Prop} (J : β → St) (h : bindO d k = some r) (h1 : ∀ o, d = some o → AW P x S (PostJ J r Q o))
    (h2 : ∀ b, k b = some r → AW P y (J b) Q) : AW P (.seq x y) S Q := by
  cases hd : d with
  | none => rw [hd] at h; cases h
  | some o =>
    rw [hd] at h
    refine AW.seq ((h1 o hd).mono fun e S' hp => ?_)
    cases o with
    | go b =>
      obtain ⟨rfl, hp⟩ := hp
      exact .sub hp (h2 b h)
    | ret r' =>
      injection h with h
      obtain ⟨he, hp⟩ := hp
      have hp := hp h
      cases e with
      | normal => exact absurd rfl he
      | exit id => exact hp
      | goto l => exact hp
      | ret => exact hp
      | panic ch => exact hp
      | outgrown => exact hp

theorem AW.seqN {x y : Code} {d : Option β} {k : β → Option ρ} {r : ρ} {Q : Exit → St → Prop} (J : β → St) (h : d.bind k = some r) (h1 : ∀ o, d = some o → AW P x S (PostN J o))
    (h2 : ∀ b, k b = some r → AW P y (J b) Q) : AW P (.seq x y) S Q := by
  obtain ⟨b, hd, hk⟩ := bsome h
  refine AW.seq ((h1 b hd).mono fun e S' hp => ?_)
  obtain ⟨rfl, hp⟩ := hp
  exact .sub hp (h2 b hk)

/-- a branch -/
theorem AW.condI {c : Operand} {x y : Code} {p : Prop} [Decidable p] {A B : Option ρ} {r : ρ} {Q : Exit → St → Prop} (h : (if p then A else B) = some r) {b : Bool} (hc : S.ev c = .d (.lit (.bool b))) (hb : b = decide p)
    (ht : p → A = some r → AW P x S Q) (hf : ¬ p → B = some r → AW P y S Q) : AW P (.cond c x y) S Q := by
  subst hb
  refine AW.cond hc (fun e => ?_) (fun e => ?_)
  · have hp := of_decide_eq_true e
    rw [if_pos hp] at h
    exact ht hp h
  · have hp := of_decide_eq_false e
    rw [if_neg hp] at h
    exact hf hp h

theorem endK_mono {K K' : St → Prop} (hk : ∀ S, K S → K' S) : ∀ {o : Option (List Oper × St)}, endK K o → endK K' o
  | some ([], S), h => hk S h
  | some (_ :: _, _), h => h.elim
  | none, h => h.elim

/-- a region, the state behind it given -/
theorem AW.stepR {id : Nat} {l : List Oper} {y : Code} {Q : Exit → St → Prop} (fz : List Nat) (n : Nat) (S1 : St) (h1 : endK (fun S' => Sub S' S1) (Ab.runM (tyOf P) fz l.toArray n l S)) (h2 : AW P y S1 Q) : AW P (.seq (.region id l.toArray false) y) S Q :=
  AW.goR fz n fun _ hK => endK_mono (fun S' hs => hK S' (AW.sub hs h2)) h1
theorem AW.stepE {id : Nat} {l : List Oper} {Q : Exit → St → Prop} (fz : List Nat) (n : Nat) (S1 : St) (h1 : endK (fun S' => Sub S' S1) (Ab.runM (tyOf P) fz l.toArray n l S)) (h2 : ∀ S', Sub S' S1 → Q .normal S') : AW P (.region id l.toArray false) S Q :=
  AW.goE fz n fun _ hK => endK_mono (fun S' hs => hK S' (h2 S' hs)) h1
/-- a part of a region -/
theorem Chain.stepM {ops : Array Oper} {l : List Oper} {Q : St → Prop} (fz : List Nat) (n : Nat) (S1 : St) (l1 : List Oper) (h1 : thenK (fun l' S' => l' = l1 ∧ Sub S' S1) (Ab.runM (tyOf P) fz ops n l S)) (h2 : Chain false P ops l1 S1 Q) : Chain false P ops l S Q := by
  cases hr : Ab.runM (tyOf P) fz ops n l S with
  | none => rw [hr] at h1; exact h1.elim
  | some p =>
    obtain ⟨l', S'⟩ := p
    rw [hr] at h1
    obtain ⟨rfl, hs⟩ := h1
    exact Chain.runM fz n hr (Chain.sub hs h2)
theorem Chain.stepQ {q : Bool} {ops : Array Oper} {l : List Oper} {Q : St → Prop} (n : Nat) (S1 : St) (l1 : List Oper) (h1 : thenK (fun l' S' => l' = l1 ∧ Sub S' S1) (Ab.runN (tyOf P) ops n l S)) (h2 : Chain q P ops l1 S1 Q) : Chain q P ops l S Q := by
  cases hr : Ab.runN (tyOf P) ops n l S with
  | none => rw [hr] at h1; exact h1.elim
  | some p =>
    obtain ⟨l', S'⟩ := p
    rw [hr] at h1
    obtain ⟨rfl, hs⟩ := h1
    exact Chain.run n hr (Chain.sub hs h2)
end

/-! ### contracts of functional programs: what comes back is closed -/
def FunC (P : Program) (f : FuncId) (args : List V) (v : V) : Prop := v.closed = true ∧ Fun P f args (fun r k => r = v ∧ k = none)
def FinC (P : Program) (fn : Func) (v : V) (e : Exit) (S : St) : Prop := (e = .normal ∨ e = .ret) ∧ v.closed = true ∧ outV (tyOf P) fn.results.toList S = some v

theorem FinC.ret {P : Program} {fn : Func} {v : V} {S : St} (h1 : v.closed = true) (h2 : outV (tyOf P) fn.results.toList S = some v) : FinC P fn v .ret S := ⟨.inr rfl, h1, h2⟩
theorem FinC.normal {P : Program} {fn : Func} {v : V} {S : St} (h1 : v.closed = true) (h2 : outV (tyOf P) fn.results.toList S = some v) : FinC P fn v .normal S := ⟨.inl rfl, h1, h2⟩

theorem FunC.fin {P : Program} {f : FuncId} {fn : Func} {c : Code} {args : List V} {v : V} (hv : v.closed = true) (hf : P.funcs[f]? = some fn) (hb : fn.body = some c) (hle : args.length ≤ fn.ntmps)
    (h : AW P c (mk fn.ntmps [] (enterL args 0) []) (FinC P fn v)) : FunC P f args v :=
  ⟨hv, Fun.fin hf hb hle (h.mono fun _ _ ⟨h1, h2, h3⟩ => ⟨h1, v, h3, .inl ⟨h2, rfl, rfl⟩⟩)⟩

mutual
theorem closed_ren {d : Nat} : ∀ (c : V), c.closed = true → c.ren d = c
  | .d _, _ => rfl
  | .dx _, _ => rfl
  | .ref .., h => by cases h
  | .ptr .., h => by cases h
  | .mref _, h => by cases h
  | .agg cs, h => by rw [V.ren, closedL_ren cs h]
  | .tup cs, h => by rw [V.ren, closedL_ren cs h]
  | .fn f cs, h => by rw [V.ren, closedL_ren cs h]
  | .junk, h => by cases h
  | .hole, h => by cases h
theorem closedL_ren {d : Nat} : ∀ (cs : List V), closedL cs = true → renL d cs = cs
  | [], _ => rfl
  | c :: cs, h => by
    simp only [closedL, Bool.and_eq_true] at h
    rw [renL, closed_ren c h.1, closedL_ren cs h.2]
end

/-- a call that hands back closed data -/
theorem Chain.callC {P : Program} {ops : Array Oper} {o : Oper} {l : List Oper} {S : St} {Q' : St → Prop} {c : Call} {d : Nat} {f : FuncId} {caps args : List V} {v : V} (hF : FunC P f args v) (hw : wantedV ops S o = some true) (ho : o.op = .call c) (hd : o.dst = some d)
    (hcal : calleeV S c = some (f, caps)) (hargs : mapO (viewV S.hp) (c.args.toList.map S.ev ++ caps) = some args) (hent : Rp.Enters P f) (hid : S.rts.contains d = false)
    (hflat : (c.args.toList.map S.ev ++ caps = args ∧ closedL args = true) ∨ v.flat = true)
    (hrest : Chain false P ops l (((S.kill d).setH d none).put (some d) v) Q') : Chain false P ops (o :: l) S Q' := by
  refine Chain.call hw ho hd hcal hargs hent hF.2 hid (hflat.imp (fun h => h) fun h r k hq => ?_) fun r k hq => ?_
  · obtain ⟨rfl, rfl⟩ := hq
    exact ⟨h, fun blk hb => by cases hb⟩
  · obtain ⟨rfl, rfl⟩ := hq
    unfold St.got
    rw [closed_ren _ hF.1]
    exact hrest
/-- a call that hands back literals, in a region of whatever kind -/
theorem Chain.callL {q : Bool} {P : Program} {ops : Array Oper} {o : Oper} {l : List Oper} {S : St} {Q' : St → Prop} {c : Call} {d : Nat} {f : FuncId} {caps args : List V} {r : V} {x : Value} (hF : FunC P f args r) (hw : wantedV ops S o = some true) (ho : o.op = .call c) (hd : o.dst = some d)
    (hcal : calleeV S c = some (f, caps)) (hargs : mapO (viewV S.hp) (c.args.toList.map S.ev ++ caps) = some args) (hent : Rp.Enters P f) (hx : exactV r = some x)
    (hrest : Chain q P ops l (S.put (some d) r) Q') : Chain q P ops (o :: l) S Q' :=
  Chain.callX hw ho hd hcal hargs hent (hF.2.mono fun _ _ h => h.1) hx hrest

/-! ### own rows become data -/
def frzR (id : Nat) (es : List (List D)) (i off len : Nat) : V := if i = id then (if off + len ≤ es.length then .d (.sl ((es.drop off).take len)) else .junk) else .ref i off len
def V.frz1 (id : Nat) (es : List (List D)) : V → V
  | .ref i off len => frzR id es i off len
  | v => v
def V.frz (id : Nat) (es : List (List D)) : V → V
  | .ref i off len => frzR id es i off len
  | .agg cs => if (cs.map (V.frz1 id es)).all V.cell = true then .agg (cs.map (V.frz1 id es)) else .junk
  | .tup cs => .tup (cs.map (V.frz1 id es))
  | .fn f cs => .fn f (cs.map (V.frz1 id es))
  | v => v
def Blk.frz (id : Nat) (es : List (List D)) : Blk → Option Blk
  | .box cs => if (cs.map (V.frz1 id es)).all V.cell = true then some (.box (cs.map (V.frz1 id es))) else none
  | b => some b
def frzL (id : Nat) (es : List (List D)) : List (Nat × V) → List (Nat × V)
  | [] => []
  | (k, v) :: r => (k, v.frz id es) :: frzL id es r
def frzH (id : Nat) (es : List (List D)) : List (Nat × Option Blk) → List (Nat × Option Blk)
  | [] => []
  | (k, b) :: r => (k, if k = id then none else b.bind (Blk.frz id es)) :: frzH id es r

theorem look_frzL (id : Nat) (es : List (List D)) : ∀ (l : List (Nat × V)) (i : Nat), tlook (frzL id es l) i = (tlook l i).frz id es
  | [], _ => rfl
  | (k, v) :: r, i => by
    show (if i = k then v.frz id es else tlook (frzL id es r) i) = _
    rw [look_frzL id es r i]
    show _ = (if i = k then v else tlook r i).frz id es
    split <;> rfl
theorem hlook_frzH (id : Nat) (es : List (List D)) : ∀ (l : List (Nat × Option Blk)) (i : Nat), hlook (frzH id es l) i = if i = id then none else (hlook l i).bind (Blk.frz id es)
  | [], i => by simp [frzH, hlook]
  | (k, b) :: r, i => by
    show (if i = k then (if k = id then none else b.bind (Blk.frz id es)) else hlook (frzH id es r) i) = _
    rw [hlook_frzH id es r i]
    show _ = if i = id then none else (if i = k then b else hlook r i).bind (Blk.frz id es)
    by_cases h : i = k
    · subst h; simp
    · simp [h]

theorem RV.frz1 {E : Env} {w : World} {id : Nat} {T n : Nat} {es : List (List D)} (hold : Hold E w id (.arr T n es)) {E' : Env} (hl : E'.loc = E.loc) (hz : ∀ b, E.Z b → E'.Z b) (hb : (E.loc id).nil = false → E'.Z (E.loc id).b) :
    ∀ (c : V) (v : Value), RV E w c v → RV E' w (c.frz1 id es) v := by
  intro c v h
  have keep : RV E' w c v := RV.keep (fun _ _ => rfl) hz hl c v h
  cases c with
  | ref i off len =>
    show RV E' w (frzR id es i off len) v
    unfold frzR
    split
    · rename_i hi
      subst hi
      split
      · rename_i hle
        obtain ⟨g1, g2, g3, g4, g5⟩ := hold
        have hlen : ((es.drop off).take len).length = len := by rw [List.length_take, List.length_drop]; omega
        rcases h with ⟨h1, h2, h3, rfl⟩ | ⟨h1, h2, a, rfl, h4⟩
        · subst h3
          exact ⟨none, 0, by rw [hlen], by omega, Nat.zero_le _, fun _ => rfl, fun h => absurd (by simp) h⟩
        · rcases g5 with ⟨g6, _⟩ | ⟨_, c, flat, k1, k2, k3, k4, k5, k6⟩
          · rw [h1] at g6; cases g6
          · refine ⟨_, _, by rw [hlen], by omega, by omega, (fun h => by cases h), fun hne => ?_⟩
            by_cases hcc : off = 0 ∨ off < (E.loc i).cap
            · have ha := h4 hcc
              rw [g2, g1, Nat.zero_add] at ha
              refine ⟨_, _, n, (flat.drop (off * n)).take (len * n), rfl, hb h1, fun e he => g3 e (List.mem_of_mem_drop (List.mem_of_mem_take he)), RDe.keep (fun _ _ => rfl) hz _ _ (RDe_take len (RDe_drop off k5 g3) (fun e he => g3 e (List.mem_of_mem_drop he))), ?_⟩
              have := rangeAt_take (rangeAt_drop (arr_range k1 ⟨_, k6⟩) (off * n)) (len * n)
              rw [Nat.zero_add] at this
              rw [ha]; exact this
            · have h0 : len = 0 := by omega
              subst h0
              exact absurd (by simp) hne
      · trivial
    · exact keep
  | d x => exact keep
  | ptr id i off => exact keep
  | mref id => exact keep
  | agg cs => exact keep
  | tup cs => exact keep
  | fn f caps => exact keep
  | dx es => exact keep
  | hole => exact keep
  | junk => trivial
theorem RVs.frz {E E' : Env} {w : World} {g : V → V} (hg : ∀ c v, RV E w c v → RV E' w (g c) v) : ∀ {cs : List V} {vs : List Value}, RVs E w cs vs → RVs E' w (cs.map g) vs
  | [], _, h => h
  | _ :: _, _, ⟨v, r, h, h1, h2⟩ => ⟨v, r, h, hg _ _ h1, RVs.frz hg h2⟩

theorem RV.frz {E : Env} {w : World} {id : Nat} {T n : Nat} {es : List (List D)} (hold : Hold E w id (.arr T n es)) {E' : Env} (hl : E'.loc = E.loc) (hz : ∀ b, E.Z b → E'.Z b) (hb : (E.loc id).nil = false → E'.Z (E.loc id).b) :
    ∀ (c : V) (v : Value), RV E w c v → RV E' w (c.frz id es) v := by
  intro c v h
  have f1 := RV.frz1 hold hl hz hb
  cases c with
  | ref i off len => exact f1 _ _ h
  | agg cs =>
    show RV E' w (if _ then _ else _) v
    split
    · rename_i hall
      obtain ⟨vs, h1, h2, h3⟩ := h
      exact ⟨vs, h1, List.all_eq_true.1 hall, RVs.frz f1 h3⟩
    · trivial
  | tup cs =>
    obtain ⟨vs, h1, h3⟩ := h
    exact ⟨vs, h1, RVs.frz f1 h3⟩
  | fn f cs =>
    obtain ⟨vs, h1, h3⟩ := h
    exact ⟨vs, h1, RVs.frz f1 h3⟩
  | d x => exact f1 _ _ h
  | ptr id i off => exact f1 _ _ h
  | mref id => exact f1 _ _ h
  | dx es => exact f1 _ _ h
  | hole => exact f1 _ _ h
  | junk => trivial

theorem Sub.freeze {nt : Nat} {rts : List Nat} {l : List (Nat × V)} {h : List (Nat × Option Blk)} (id : Nat) {T n : Nat} {es : List (List D)} (hes : hlook h id = some (.arr T n es)) : Sub (mk nt rts l h) (mk nt rts (frzL id es l) (frzH id es h)) := .of fun fx a w E m => by
  have hold := m.ok.hold id _ hes
  have hz : ∀ b, E.Z b → (E.Z b ∨ ((E.loc id).nil = false ∧ b = (E.loc id).b)) := fun _ h => .inl h
  have hne : (mk nt rts l h).hp id ≠ none := by rw [show (mk nt rts l h).hp id = _ from hes]; simp
  have fr : ∀ c v, RV E w c v → RV { E with Z := fun b => E.Z b ∨ ((E.loc id).nil = false ∧ b = (E.loc id).b) } w (c.frz id es) v := fun c v hc => RV.frz (E' := { E with Z := fun b => E.Z b ∨ ((E.loc id).nil = false ∧ b = (E.loc id).b) }) hold rfl hz (fun hn => .inr ⟨hn, rfl⟩) c v hc
  have fr1 : ∀ c v, RV E w c v → RV { E with Z := fun b => E.Z b ∨ ((E.loc id).nil = false ∧ b = (E.loc id).b) } w (c.frz1 id es) v := fun c v hc => RV.frz1 (E' := { E with Z := fun b => E.Z b ∨ ((E.loc id).nil = false ∧ b = (E.loc id).b) }) hold rfl hz (fun hn => .inr ⟨hn, rfl⟩) c v hc
  have get : ∀ i, hlook (frzH id es h) i ≠ none → i ≠ id ∧ hlook h i ≠ none := fun i hi => by
    rw [hlook_frzH] at hi
    by_cases e : i = id
    · rw [if_pos e] at hi; exact absurd rfl hi
    · rw [if_neg e] at hi
      refine ⟨e, fun e2 => ?_⟩
      rw [e2] at hi; exact hi rfl
  refine ⟨{ E with Z := fun b => E.Z b ∨ ((E.loc id).nil = false ∧ b = (E.loc id).b) }, m.nt, fun t => ?_, m.dfr, ⟨fun i b hi => ?_, fun i j hi hj => m.ok.inj i j (get i hi).2 (get j hj).2, fun i hi hn hb => ?_, fun b hb => ?_⟩, m.frame, fun i hi => m.mine i (get i hi).2, fun b hb => ?_, m.roots⟩
  · have := fr _ _ (m.slots t)
    show RV _ w (tlook (frzL id es l) t) _
    rw [look_frzL]
    exact this
  · have hi' : hlook (frzH id es h) i = some b := hi
    rw [hlook_frzH] at hi'
    by_cases e : i = id
    · rw [if_pos e] at hi'; cases hi'
    · rw [if_neg e] at hi'
      cases hb : hlook h i with
      | none => rw [hb] at hi'; cases hi'
      | some b0 =>
        rw [hb] at hi'
        have hh := m.ok.hold i b0 hb
        cases b0 with
        | box cs =>
          have hi' : (if (cs.map (V.frz1 id es)).all V.cell = true then some (Blk.box (cs.map (V.frz1 id es))) else none) = some b := hi'
          split at hi'
          · rename_i hall
            injection hi' with hi'
            subst hi'
            obtain ⟨hn, h1, vs, h2, h3, h4, h5⟩ := hh
            exact ⟨hn, List.all_eq_true.1 hall, vs, RVs.frz fr1 h2, h3, h4, h5⟩
          · cases hi'
        | arr T n es =>
          injection hi' with hi'
          subst hi'
          exact hh.keep (E' := { E with Z := fun b => E.Z b ∨ ((E.loc id).nil = false ∧ b = (E.loc id).b) }) (fun _ _ => rfl) hz rfl (fun _ => rfl) (Nat.le_refl _)
        | mp kd l =>
          injection hi' with hi'
          subst hi'
          exact hh.keep (E' := { E with Z := fun b => E.Z b ∨ ((E.loc id).nil = false ∧ b = (E.loc id).b) }) (fun _ _ => rfl) hz rfl (fun _ => rfl) (Nat.le_refl _)
  · obtain ⟨hne2, hi2⟩ := get i hi
    rcases hb with hb | ⟨hn2, hb⟩
    · exact m.ok.apart i hi2 hn hb
    · exact m.ok.inj i id hi2 hne hn hn2 hne2 hb
  · rcases hb with hb | ⟨hn2, hb⟩
    · exact m.ok.zlt b hb
    · rw [hb]; exact hold.block_lt hn2
  · rcases hb with hb | ⟨hn2, hb⟩
    · exact m.z b hb
    · rw [hb]
      rcases m.mine id hne hn2 with h | h
      · exact .inr (.inl h)
      · exact .inr (.inr h)
/-- a truth value known by now -/
theorem Sub.bool {S : St} (t : Nat) {b b' : Bool} (ht : S.sl t = .d (.lit (.bool b))) (h : b = b') : Sub S (S.setS t (.d (.lit (.bool b')))) := .of fun fx a w E m => by
  subst h
  refine ⟨E, m.nt, fun i => ?_, m.dfr, m.ok, m.frame, m.mine, m.z, m.roots⟩
  show RV E w (if i = t then _ else S.sl i) _
  split
  · rename_i hi
    subst hi
    have := m.slots i
    rw [ht] at this
    exact this
  · exact m.slots i
theorem AW.condT {P : Program} {S : St} {c : Operand} {x y : Code} {Q : Exit → St → Prop} {b : Bool} (hc : S.ev c = .d (.lit (.bool b))) (hb : b = true) (h : AW P x S Q) : AW P (.cond c x y) S Q :=
  AW.cond hc (fun _ => h) (fun e => by rw [hb] at e; cases e)
theorem AW.condF {P : Program} {S : St} {c : Operand} {x y : Code} {Q : Exit → St → Prop} {b : Bool} (hc : S.ev c = .d (.lit (.bool b))) (hb : b = false) (h : AW P y S Q) : AW P (.cond c x y) S Q :=
  AW.cond hc (fun e => by rw [hb] at e; cases e) (fun _ => h)
attribute [simp] V.frz V.frz1 frzR Blk.frz frzL frzH
end Go.Ab
