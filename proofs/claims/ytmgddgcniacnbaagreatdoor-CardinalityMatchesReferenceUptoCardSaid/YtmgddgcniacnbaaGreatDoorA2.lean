/- The abstract machine: calls in regions that draw; states weakened; tables. The abstract machine: what 'simp' evaluates. The abstract machine: how arguments read, how a law is lifted; loops, ends. The abstract machine: maps that a call has made. The abstract machine: loops with an invariant; how the base types read. The abstract machine: calls that change their caller's blocks. The abstract machine: what a call that changes its caller's blocks leaves. The abstract machine: the rule for calls that change their caller's blocks. The abstract machine: names changed, rows cut short; the ends of functions that change what they are lent. -/
import Derived.Test.YtmgddgcniacnbaaGreatDoorA1
section
namespace Go.Ab
open Go.RowKit
def litsOf : List V → Option (List Value)
 | [] => some []
 | .d (.lit v) :: cs => if plain v then (litsOf cs).map fun vs => v :: vs else none
 | _ => none
def exactV : V → Option Value
 | .d (.lit v) => if plain v then some v else none
 | .tup cs => (litsOf cs).map fun vs => .tuple vs.toArray
 | _ => none
theorem litsOf_sound {E : Env} {w : World} : ∀ {cs : List V} {vs us : List Value}, RVs E w cs vs → litsOf cs = some us → vs = us
 | [], vs, us, h, hl => by
  injection hl with hl; subst hl; exact h
 | c :: cs, vs, us, ⟨v, r, h, h1, h2⟩, hl => by
  subst h
  unfold litsOf at hl
  split at hl
  ·rename_i heq; cases heq
  ·rename_i u cs' heq
   injection heq with e1 e2
   subst e1; subst e2
   split at hl
   ·cases hr : litsOf cs with
    | none => simp [hr] at hl
    | some us' =>
     simp only [hr, Option.map_some, Option.some.injEq] at hl
     subst hl
     rw [RD_lit h1, litsOf_sound h2 hr]
   ·cases hl
  ·cases hl
theorem exactV_sound {E : Env} {w : World} {r : V} {v x : Value} (h : RV E w r v) (hx : exactV r = some x) : v = x := by
 unfold exactV at hx
 split at hx
 ·split at hx
  ·injection hx with hx; subst hx; exact RD_lit h
  ·cases hx
 ·rename_i cs
  cases hr : litsOf cs with
  | none => simp [hr] at hx
  | some us =>
   simp only [hr, Option.map_some, Option.some.injEq] at hx
   subst hx
   obtain ⟨vs, rfl, h1⟩ := h
   rw [litsOf_sound h1 hr]
 ·cases hx
theorem litsOf_is {E : Env} {w : World} : ∀ {cs : List V} {us : List Value}, litsOf cs = some us → RVs E w cs us
 | [], us, hl => by
  injection hl with hl; subst hl; rfl
 | c :: cs, us, hl => by
  unfold litsOf at hl
  split at hl
  ·rename_i heq; cases heq
  ·rename_i u cs' heq
   injection heq with e1 e2
   subst e1; subst e2
   split at hl
   ·rename_i hp
    cases hr : litsOf cs with
    | none => simp [hr] at hl
    | some us' =>
     simp only [hr, Option.map_some, Option.some.injEq] at hl
     subst hl
     exact ⟨u, us', rfl, ⟨rfl, hp⟩, litsOf_is hr⟩
   ·cases hl
  ·cases hl
theorem exactV_is {E : Env} {w : World} {r : V} {x : Value} (hx : exactV r = some x) : RV E w r x := by
 unfold exactV at hx
 split at hx
 ·split at hx
  ·rename_i hp
   injection hx with hx; subst hx; exact ⟨rfl, hp⟩
  ·cases hx
 ·rename_i cs
  cases hr : litsOf cs with
  | none => simp [hr] at hx
  | some us =>
   simp only [hr, Option.map_some, Option.some.injEq] at hx
   subst hx
   exact ⟨us, rfl, litsOf_is hr⟩
 ·cases hx
theorem Chain.callXG {q : Bool} {P : Program} {ops : Array Oper} {o : Oper} {l : List Oper} {S : St} {Q' : St → Prop} {d : Nat} {f : FuncId} {full args : List V} {r : V} {x : Value} (hw : wantedV ops S o = some true) (hto : CallsTo P S o f full) (hd : o.dst = some d)
  (hargs : mapO (viewV S.hp) full = some args) (hF : Fun P f args (fun r' _ => r' = r)) (hx : exactV r = some x)
  (hrest : Chain q P ops l (S.put (some d) r) Q') : Chain q P ops (o :: l) S Q' := by
 have go : ∀ fx a w E, Mod fx S E a w → Region.wanted o (yielded ops a.tmps) = true ∧ ∃ vals, (∀ w', (execOp a.eval o).run P w' = .ok (.enter f vals) w') ∧ ∀ w', Grow w w' → Calls P f vals w' fun e w'' => e = .returned x ∧ Grow w' w'' := by
  intro fx a w E m
  obtain ⟨vals, hall0, hrun⟩ := hto E w a.eval m.ev
  refine ⟨wantedV_sound m hw, _, hrun, fun w' hg => ?_⟩
  have m' := m.grow hg
  have hall : RVs E w' full vals := RVs.keep (hg.keeps m.ok) (fun _ h => h) rfl _ _ hall0
  have seen : ∀ b, (E.seen S.hp).Z b → b < w'.heap.size := fun b hb => by
   rcases hb with hb | hb
   ·exact m'.ok.zlt b hb
   ·exact m'.ok.lof_lt hb
  have hvs := viewVs_sound m'.ok (oneE default (E.seen S.hp).Z) rfl hall hargs
  refine (hF w' (E.seen S.hp).Z _ (m.grow hg).go.gw seen hvs).mono ?_
  rintro e w'' ⟨v, ℓ, Z', r', k, rfl, rfl, hr, hk, hz, hg'⟩
  exact ⟨by rw [exactV_sound hr hx], hg'⟩
 have hrx : ∀ E w, RV E w r x := fun E w => exactV_is hx
 cases q with
 | false =>
  intro fx a w Q'' ⟨E, m⟩ hq
  obtain ⟨hw', vals, hrun, hcall⟩ := go fx a w E m
  unfold wpList
  rw [if_pos hw']
  refine .inl ?_
  unfold Oper.wp
  rw [hrun w]
  simp only [Oper.upon, hd]
  refine (hcall w (Below.refl _ _)).mono ?_
  rintro e w' ⟨rfl, hg⟩
  exact hrest fx _ w' Q'' ⟨E, (m.grow hg).put (some d) (hrx _ _)⟩ hq
 | true =>
  intro fx a w Q'' ⟨E, m⟩ hq
  obtain ⟨hw', vals, hrun, hcall⟩ := go fx a w E m
  unfold wpQuiet
  rw [if_pos hw']
  refine ⟨x, fun w' hg => ?_, by rw [hd]; exact hrest fx _ w Q'' ⟨E, m.put (some d) (hrx _ _)⟩ hq⟩
  unfold Oper.quietAt
  rw [hrun w']
  exact ⟨rfl, (hcall w' hg).mono fun e w'' ⟨he, hg'⟩ => ⟨he, hg.trans (hg'.mono hg.size)⟩⟩
theorem Chain.callX {q : Bool} {P : Program} {ops : Array Oper} {o : Oper} {l : List Oper} {S : St} {Q' : St → Prop} {c : Call} {d : Nat} {f : FuncId} {caps args : List V} {r : V} {x : Value} (hw : wantedV ops S o = some true) (ho : o.op = .call c) (hd : o.dst = some d)
  (hcal : calleeV S c = some (f, caps)) (hargs : mapO (viewV S.hp) (c.args.toList.map S.ev ++ caps) = some args) (hent : Rp.Enters P f) (hF : Fun P f args (fun r' _ => r' = r)) (hx : exactV r = some x)
  (hrest : Chain q P ops l (S.put (some d) r) Q') : Chain q P ops (o :: l) S Q' := Chain.callXG hw (.value hcal hent ho) hd hargs hF hx hrest
def St.setS (S : St) (t : Nat) (v : V) : St := { S with sl := fun i => if i = t then v else S.sl i }
theorem Sub.of {S S' : St} (h : ∀ fx a w E, Mod fx S E a w → ∃ E', Mod fx S' E' a w) : Sub S S' := fun fx a w ⟨E, m⟩ => h fx a w E m
theorem Sub.le {S S' : St} (hn : S'.nt = S.nt) (hr : S'.rts = S.rts) (hs : ∀ t, S'.sl t = .junk ∨ S'.sl t = S.sl t) (hh : ∀ i, S'.hp i = none ∨ S'.hp i = S.hp i) : Sub S S' := .of fun fx a w E m => by
 have get : ∀ i, S'.hp i ≠ none → S.hp i ≠ none := fun i h => by
  rcases hh i with h' | h'
  ·exact absurd h' h
  ·rw [← h']; exact h
 refine ⟨E, by rw [hn]; exact m.nt, fun t => ?_, m.dfr, ⟨fun i k hk => ?_, fun i j hi hj => m.ok.inj i j (get i hi) (get j hj), fun i hi => m.ok.apart i (get i hi), m.ok.zlt, fun i hi => m.ok.xlt i (get i hi)⟩, m.frame, fun i hi => m.mine i (get i hi), m.z, fun r h => by rw [hr]; exact m.roots r h⟩
 ·rcases hs t with h | h
  ·rw [h]; trivial
  ·rw [h]; exact m.slots t
 ·rcases hh i with h | h
  ·rw [h] at hk; cases hk
  ·rw [h] at hk; exact m.ok.hold i k hk
theorem look_mem : ∀ {l : List (Nat × V)} {i : Nat}, tlook l i = .junk ∨ ∃ p ∈ l, p.1 = i ∧ tlook l i = p.2
 | [], i => .inl rfl
 | (k, v) :: r, i => by
  simp only [tlook]
  by_cases h : i = k
  ·exact .inr ⟨(k, v), .head _, h.symm, by rw [if_pos h]⟩
  ·rw [if_neg h]
   rcases look_mem (l := r) (i := i) with h' | ⟨p, hp, h1, h2⟩
   ·exact .inl h'
   ·exact .inr ⟨p, .tail _ hp, h1, h2⟩
theorem hlook_mem : ∀ {l : List (Nat × Option Blk)} {i : Nat}, hlook l i = none ∨ ∃ p ∈ l, p.1 = i ∧ hlook l i = p.2
 | [], i => .inl rfl
 | (k, v) :: r, i => by
  simp only [hlook]
  by_cases h : i = k
  ·exact .inr ⟨(k, v), .head _, h.symm, by rw [if_pos h]⟩
  ·rw [if_neg h]
   rcases hlook_mem (l := r) (i := i) with h' | ⟨p, hp, h1, h2⟩
   ·exact .inl h'
   ·exact .inr ⟨p, .tail _ hp, h1, h2⟩
theorem Sub.table {nt : Nat} {rts : List Nat} {l l' : List (Nat × V)} {h h' : List (Nat × Option Blk)} (hl : ∀ p ∈ l', p.2 = tlook l p.1) (hh : ∀ p ∈ h', p.2 = hlook h p.1) : Sub (mk nt rts l h) (mk nt rts l' h') :=
 .le rfl rfl (fun t => (look_mem (l := l') (i := t)).imp (fun h => h) fun ⟨p, hp, h1, h2⟩ => by
  show tlook l' t = tlook l t
  rw [h2, hl p hp, h1]) (fun i => (hlook_mem (l := h') (i := i)).imp (fun h => h) fun ⟨p, hp, h1, h2⟩ => by
  show hlook h' i = hlook h i
  rw [h2, hh p hp, h1])
theorem Sub.nilOwn {S : St} {t id T n : Nat} (ht : S.sl t = .d (.lit (.slice none 0 0))) (hid : S.rts.contains id = false) (hn : 0 < n) : Sub S (((S.kill id).setH id (some (.arr T n []))).setS t (.ref id 0 0)) := .of fun fx a w E m => by
 have hid' : id ∉ S.rts := by simpa using hid
 have m' := m.re (row := none) hid' ⟨rfl, rfl, rfl, Nat.le_refl _, fun _ _ _ => rfl⟩ (fun b hb => by cases hb) ⟨0, 0, n, 0, true, fun _ => False⟩ (blk := .arr T n []) ⟨by simp [Env.at], by simp [Env.at], (fun e he => by cases he), hn, .inl ⟨by simp [Env.at], rfl⟩⟩ (fun h => by cases h)
 refine ⟨_, m'.nt, fun i => ?_, m'.dfr, m'.ok, m'.frame, m'.mine, m'.z, m'.roots⟩
 show RV _ w (if i = t then .ref id 0 0 else _) _
 by_cases hi : i = t
 ·rw [if_pos hi]
  have hs := m.slots t
  rw [ht] at hs
  have hs := RD_lit hs
  subst hi
  exact .inl ⟨by simp [Env.at], rfl, rfl, hs⟩
 ·rw [if_neg hi]
  exact m'.slots i
def killL (d : Nat) : List (Nat × V) → List (Nat × V)
 | [] => []
 | (k, v) :: r => (k, if v.has d then .junk else v) :: killL d r
def killB (d : Nat) : Option Blk → Option Blk
 | some (.box cs) => some (.box (killC d cs))
 | some (.nest T n sh es fo) => some (.nest T n sh es (fo.map fun p => (p.1, killC d p.2)))
 | k => k
def killH (d : Nat) : List (Nat × Option Blk) → List (Nat × Option Blk)
 | [] => []
 | (k, b) :: r => (k, if k = d then none else killB d b) :: killH d r
def hupd : List (Nat × Option Blk) → Nat → Option Blk → List (Nat × Option Blk)
 | [], d, v => [(d, v)]
 | (k, u) :: r, d, v => if k = d then (d, v) :: r else (k, u) :: hupd r d v
theorem hlook_hupd (l : List (Nat × Option Blk)) (d : Nat) (v : Option Blk) (i : Nat) : hlook (hupd l d v) i = if i = d then v else hlook l i := by
 induction l with
 | nil => rfl
 | cons p r ih =>
  obtain ⟨k, u⟩ := p
  simp only [hupd]
  by_cases hk : k = d
  ·subst hk
   rw [if_pos rfl]
   simp only [hlook]
   split <;> simp_all
  ·rw [if_neg hk]
   simp only [hlook, ih]
   by_cases hi : i = k
   ·subst hi; rw [if_pos rfl, if_neg hk, if_pos rfl]
   ·rw [if_neg hi, if_neg hi]
theorem mk_setH {nt : Nat} {rts : List Nat} {l : List (Nat × V)} {h : List (Nat × Option Blk)} {d : Nat} {k : Option Blk} : (mk nt rts l h).setH d k = mk nt rts l (hupd h d k) := by
 simp only [mk, St.setH]
 congr 1
 funext i
 rw [hlook_hupd]
theorem mk_setS {nt : Nat} {rts : List Nat} {l : List (Nat × V)} {h : List (Nat × Option Blk)} {d : Nat} {v : V} : (mk nt rts l h).setS d v = mk nt rts (upd l d v) h := by
 simp only [mk, St.setS]
 congr 1
 funext i
 rw [look_upd]
theorem look_killL (d : Nat) : ∀ (l : List (Nat × V)) (i : Nat), tlook (killL d l) i = if (tlook l i).has d then .junk else tlook l i
 | [], i => by simp [tlook, killL, V.has]
 | (k, v) :: r, i => by
  by_cases h : i = k
  ·simp [killL, tlook, h]
  ·simp [killL, tlook, h, look_killL d r i]
theorem hlook_killH (d : Nat) : ∀ (l : List (Nat × Option Blk)) (i : Nat), hlook (killH d l) i = if i = d then none else killB d (hlook l i)
 | [], i => by simp [hlook, killH, killB]
 | (k, v) :: r, i => by
  by_cases h : i = k
  ·subst h; simp [killH, hlook]
  ·simp [killH, hlook, h, hlook_killH d r i]
theorem mk_kill {nt : Nat} {rts : List Nat} {l : List (Nat × V)} {h : List (Nat × Option Blk)} {d : Nat} : (mk nt rts l h).kill d = mk nt rts (killL d l) (killH d h) := by
 simp only [mk, St.kill]
 congr 1
 ·funext i; rw [look_killL]; rfl
 ·funext i
  rw [hlook_killH]
  by_cases hi : i = d
  ·rw [if_pos hi, if_pos hi]
  ·rw [if_neg hi, if_neg hi]
   show (hlook h i).map (Blk.killed d) = killB d (hlook h i)
   cases hlook h i with
   | none => rfl
   | some b => cases b <;> rfl
theorem mk_got {nt : Nat} {rts : List Nat} {l : List (Nat × V)} {h : List (Nat × Option Blk)} {d : Nat} {r : V} {k : Option Blk} (hd : d < nt) : (mk nt rts l h).got d r k = mk nt rts (upd (killL d l) d (r.ren d)) (hupd (killH d h) d (k.map (Blk.ren d))) := by
 unfold St.got
 rw [mk_kill, mk_setH, mk_put hd]
def thenK (K : List Oper → St → Prop) : Option (List Oper × St) → Prop
 | some (l, S) => K l S
 | none => False
theorem Chain.runK {P : Program} {ops : Array Oper} {l : List Oper} {S : St} {Q : St → Prop} (fz : List Nat) (n : Nat) (h : ∀ K : List Oper → St → Prop, (∀ l' S', Chain false P ops l' S' Q → K l' S') → thenK K (Ab.runM (tyOf P) fz ops n l S)) : Chain false P ops l S Q := by
 have := h _ (fun _ _ h => h)
 cases hr : Ab.runM (tyOf P) fz ops n l S with
 | none => rw [hr] at this; exact this.elim
 | some p => rw [hr] at this; exact Chain.runM fz n hr this
theorem Chain.runQ {q : Bool} {P : Program} {ops : Array Oper} {l : List Oper} {S : St} {Q : St → Prop} (n : Nat) (h : ∀ K : List Oper → St → Prop, (∀ l' S', Chain q P ops l' S' Q → K l' S') → thenK K (Ab.runN (tyOf P) ops n l S)) : Chain q P ops l S Q := by
 have := h _ (fun _ _ h => h)
 cases hr : Ab.runN (tyOf P) ops n l S with
 | none => rw [hr] at this; exact this.elim
 | some p => rw [hr] at this; exact Chain.run n hr this
end Go.Ab
end
section
namespace Go.Ab
open Go.RowKit
theorem mk_rts {nt : Nat} {rts : List Nat} {l : List (Nat × V)} {h : List (Nat × Option Blk)} : (mk nt rts l h).rts = rts := rfl
theorem mk_nt {nt : Nat} {rts : List Nat} {l : List (Nat × V)} {h : List (Nat × Option Blk)} : (mk nt rts l h).nt = nt := rfl
theorem ite_lit_bool {p : Prop} [Decidable p] {x y : Bool} : (if p then V.d (.lit (.bool x)) else V.d (.lit (.bool y))) = V.d (.lit (.bool (if p then x else y))) := by split <;> rfl
attribute [simp] killC runM runN wantedV pureV effV St.ev tlook hlook litV plain cellsV V.cell V.has hasL mk_kill mk_setH mk_setS mk_put mk_put_none mk_sl mk_hp mk_rts mk_nt mk_got killL killH killB hupd upd thenK
 cellsAt ldV TypeDesc.row isRow offP idxS litOp eqNil nilSl nilPt nilMp stV setL setD toDs toD bsV fillV zeroL litL chunk apV rowOf srcV lenV sliceSl sliceRef sliceStr bnd buildV placesOf minL minV
 resL resV outV enterL thenQ blockQ calleeV mapO viewV viewD V.closed closedL V.only onlyL V.ren renL Blk.ren V.flat flatL D.flat Blk.flat exactV litsOf ite_lit_bool constB
end Go.Ab
end
section
namespace Go.Ab
open Go.RowKit Go.Rp
def condK (K1 K2 : Prop) : V → Prop
 | .d (.lit (.bool b)) => (b = true → K1) ∧ (b = false → K2)
 | _ => False
def outK (K : V → Prop) : Option V → Prop
 | some r => K r
 | none => False
attribute [simp] condK outK
section
variable {P : Program} {S : St} {Q : Exit → St → Prop}
theorem AW.condK {c : Operand} {x y : Code} (h : ∀ K1 K2 : Prop, (AW P x S Q → K1) → (AW P y S Q → K2) → Ab.condK K1 K2 (S.ev c)) : AW P (.cond c x y) S Q := by
 have h := h _ _ (fun h => h) (fun h => h)
 unfold Ab.condK at h
 split at h
 ·rename_i b hb
  exact .cond hb h.1 h.2
 ·exact h.elim
def Fin (P : Program) (fn : Func) (Q : V → Option Blk → Prop) (e : Exit) (S : St) : Prop :=
 (e = .normal ∨ e = .ret) ∧ ∃ r, outV (tyOf P) fn.results.toList S = some r ∧ ((r.closed = true ∧ Q r none) ∨ ∃ id T n es, r.only id = true ∧ S.hp id = some (.arr T n es) ∧ Q r (some (.arr T n es)))
theorem Fun.fin {f : FuncId} {fn : Func} {c : Code} {args : List V} {Q : V → Option Blk → Prop} (hf : P.funcs[f]? = some fn) (hb : fn.body = some c) (hle : args.length ≤ fn.ntmps)
  (h : AW P c (mk fn.ntmps [] (enterL args 0) []) (Fin P fn Q)) : Fun P f args Q := by
 intro w Z vals hg0 hz hv
 have hC := Ctr.of (P := P) (f := f) (args := args) (h0 := []) (rts := []) (Q := fun r H => (r.closed = true ∧ Q r none) ∨ ∃ id T n es, r.only id = true ∧ H id = some (.arr T n es) ∧ Q r (some (.arr T n es))) hf hb hle
  (h.mono fun e S ⟨h1, r, h2, h3⟩ => ⟨h1, r, h2, h3⟩)
 refine (hC w (oneE default Z) vals (hg0.go0 _ fun _ => rfl) ⟨fun id k hk => (by cases hk), fun i j hi => absurd rfl hi, fun i hi => absurd rfl hi, hz, fun i hi => absurd rfl hi⟩ hv).mono ?_
 rintro e w' ⟨v, E', r, H1, rfl, hq, hr, hp⟩
 have hzz : ∀ b, E'.Z b → (Z b ∨ w.heap.size ≤ b) ∧ b < w'.heap.size := fun b hb => by
  refine ⟨?_, hp.ok.zlt b hb⟩
  rcases hp.z b hb with h | h | ⟨i, hi, _⟩
  ·exact .inl h
  ·exact .inr h
  ·exact absurd rfl hi
 have hg : Grow w w' := ⟨hp.frame.os, hp.frame.tape, hp.frame.output, hp.frame.size, fun k hk => hp.frame.block k hk (fun ⟨i, hi, _⟩ => hi rfl)⟩
 rcases hq with ⟨h1, h2⟩ | ⟨id, T, n, es, h1, h2, h3⟩
 ·exact ⟨v, default, E'.Z, r, none, rfl, h2, RV.closed default r v h1 hr, (fun blk hb => by cases hb), hzz, hg⟩
 ·refine ⟨v, E'.loc id, E'.Z, r, _, rfl, h3, RV.only (E := E') (E' := oneE (E'.loc id) E'.Z) (id := id) (fun _ h => h) (fun i hi => rfl) r v h1 hr, fun blk hblk => ?_, hzz, hg⟩
  injection hblk with hblk
  subst hblk
  have hh := hp.ok.hold id _ h2
  refine ⟨hh, fun b hn => ⟨?_, hp.ok.apart id (by rw [h2]; simp) b hn, hp.ok.own_lt (by rw [h2]; simp) hn⟩⟩
  rcases hp.mine id (by rw [h2]; simp) b hn with h | ⟨i, hi, _⟩
  ·exact h
  ·exact absurd rfl hi
end
class Enc (α : Type) [Rep α] where
 eC : α → List D
 eV : α → V
 soundC : ∀ {w : World} {B : Nat} {a : α} {cs : List Value}, Rep.is w B a cs → RDs w (· < B) (eC a) cs
 soundV : ∀ {E : Env} {w : World} {B : Nat} {a : α} {cs : List Value}, (∀ b, b < B → E.Z b) → Rep.is w B a cs → RV E w (eV a) (Rep.box α cs)
open Enc (eC eV)
class EncF (α : Type) [Flds α] where
 eC : α → List D
 soundC : ∀ {w : World} {B : Nat} {a : α} {cs : List Value}, Flds.is w B a cs → RDs w (· < B) (eC a) cs
instance : Enc Int where
 eC n := [.lit (.int .i64 n)]
 eV n := .d (.lit (.int .i64 n))
 soundC h := by rw [h.1]; exact ⟨_, [], rfl, ⟨rfl, rfl⟩, rfl⟩
 soundV _ h := by rw [h.1]; exact ⟨rfl, rfl⟩
instance : Enc Bool where
 eC b := [.lit (.bool b)]
 eV b := .d (.lit (.bool b))
 soundC h := by
  have h : _ = _ := h
  rw [h]; exact ⟨_, [], rfl, ⟨rfl, rfl⟩, rfl⟩
 soundV _ h := by
  have h : _ = _ := h
  rw [h]; exact ⟨rfl, rfl⟩
instance : Enc ByteArray where
 eC s := [.lit (.string s)]
 eV s := .d (.lit (.string s))
 soundC h := by rw [h.1]; exact ⟨_, [], rfl, ⟨rfl, rfl⟩, rfl⟩
 soundV _ h := by rw [h.1]; exact ⟨rfl, rfl⟩
instance : Enc UInt8 where
 eC s := [.lit (.int .u8 s.toNat)]
 eV s := .d (.lit (.int .u8 s.toNat))
 soundC h := by
  have h : _ = _ := h
  rw [h]; exact ⟨_, [], rfl, ⟨rfl, rfl⟩, rfl⟩
 soundV _ h := by
  have h : _ = _ := h
  rw [h]; exact ⟨rfl, rfl⟩
theorem list_sound {α : Type} [Rep α] [Enc α] {w : World} {B : Nat} {xs : List α} {v : Value} (h : Rep.is w B xs [v]) : RD w (· < B) (.sl (xs.map eC)) v := by
 obtain ⟨A, cap, hv, h1, h2, h3, h4, h5⟩ := h
 simp only [List.cons.injEq, and_true] at hv
 subst hv
 refine ⟨A, cap, by rw [List.length_map], by rw [List.length_map]; exact h1, h2, h4, fun hne => ?_⟩
 have hpos : 0 < xs.length := by
  cases xs with
  | nil => exact absurd rfl hne
  | cons x r => simp
 obtain ⟨b, off, es0, rfl, hB, hes0, hc0⟩ := h5 0 hpos
 have build : ∀ k, k ≤ xs.length → ∃ flat, RDe w (· < B) ((xs.drop (xs.length - k)).map eC) flat ∧ w.rangeAt b (off + (xs.length - k) * Rep.n α) flat ∧ flat.length = k * Rep.n α := by
  intro k
  induction k with
  | zero => intro _; exact ⟨[], by simp [RDe], fun j v hv => by simp at hv, by simp⟩
  | succ k ih =>
   intro hk
   obtain ⟨flat, h6, h7, h8⟩ := ih (by omega)
   have hi : xs.length - (k + 1) < xs.length := by omega
   obtain ⟨b', off', es, hA, _, hes, hc⟩ := h5 _ hi
   injection hA with hA
   injection hA with e1 e2
   subst e1; subst e2
   have hd : xs.drop (xs.length - (k + 1)) = xs[xs.length - (k + 1)] :: xs.drop (xs.length - k) := by
    rw [List.drop_eq_getElem_cons hi]
    congr 2
    omega
   have hel := Rep.len hes
   refine ⟨es ++ flat, ?_, ?_, ?_⟩
   ·rw [hd, List.map_cons]
    exact ⟨es, flat, rfl, Enc.soundC hes, h6⟩
   ·intro j v hv
    rcases Nat.lt_or_ge j es.length with hj | hj
    ·rw [List.getElem?_append_left hj] at hv
     rw [hc j (by omega)]; exact hv
    ·rw [List.getElem?_append_right hj] at hv
     have := h7 _ v hv
     rw [hel] at this
     have e : off + (xs.length - k) * Rep.n α + (j - Rep.n α) = off + (xs.length - (k + 1)) * Rep.n α + j := by
      have : xs.length - k = (xs.length - (k + 1)) + 1 := by omega
      rw [this, Nat.add_mul, Nat.one_mul]; omega
     rw [e] at this
     exact this
   ·rw [List.length_append, hel, h8, Nat.add_mul, Nat.one_mul, Nat.add_comm]
 obtain ⟨flat, h6, h7, h8⟩ := build xs.length (Nat.le_refl _)
 rw [Nat.sub_self] at h6 h7
 rw [Nat.zero_mul, Nat.add_zero] at h7
 refine ⟨b, off, Rep.n α, flat, rfl, hB, fun e he => ?_, by simpa using h6, h7⟩
 obtain ⟨x, hx, rfl⟩ := List.mem_map.1 he
 obtain ⟨i, hi, rfl⟩ := List.getElem_of_mem hx
 obtain ⟨_, _, es, _, _, hes, _⟩ := h5 i hi
 rw [← RDs_length (Enc.soundC hes), Rep.len hes]
theorem isList_one {α : Type} [Rep α] {w : World} {B : Nat} {xs : List α} {cs : List Value} (h : Rep.is w B xs cs) : ∃ v, cs = [v] := by
 obtain ⟨A, cap, hv, _⟩ := h
 exact ⟨_, hv⟩
instance {α : Type} [Rep α] [Enc α] : Enc (List α) where
 eC xs := [.sl (xs.map eC)]
 eV xs := .d (.sl (xs.map eC))
 soundC h := by
  obtain ⟨v, rfl⟩ := isList_one h
  exact ⟨v, [], rfl, list_sound h, rfl⟩
 soundV hz h := by
  obtain ⟨v, rfl⟩ := isList_one h
  exact RD.keep (fun _ _ => rfl) hz _ _ (list_sound h)
instance : EncF Unit where
 eC _ := []
 soundC h := h
instance {α β : Type} [Rep α] [Enc α] [Flds β] [EncF β] : EncF (α × β) where
 eC a := eC a.1 ++ EncF.eC a.2
 soundC h := by
  obtain ⟨c1, c2, rfl, h1, h2⟩ := h
  exact RDs_append (Enc.soundC h1) (EncF.soundC h2)
instance {α : Type} [Flds α] [EncF α] : Enc (Rp.St α) where
 eC a := EncF.eC a.val
 eV a := .agg ((EncF.eC a.val).map V.d)
 soundC h := EncF.soundC (α := α) h
 soundV hz h := ⟨_, rfl, fun c hc => by obtain ⟨x, _, rfl⟩ := List.mem_map.1 hc; rfl, RVs_d.2 (RDs.keep (fun _ _ => rfl) hz _ _ (EncF.soundC (α := α) h))⟩
theorem calls_true {P : Program} {f : FuncId} {vs : List V} {args : Array Value} {W : World} (hgw : GW W) (hF : Fun P f vs (fun r _ => r = .d (.lit (.bool true)))) (hv : RVs (oneE default (· < W.heap.size)) W vs args.toList) :
  Calls P f args W fun e W' => e = .returned (.bool true) ∧ Below W.heap.size W W' := by
 have := hF W (· < W.heap.size) args.toList hgw (fun _ h => h) hv
 rw [show args.toList.toArray = args from Array.toArray_toList] at this
 refine this.mono ?_
 rintro e w' ⟨v, ℓ, Z', r, k, rfl, rfl, hr, _, _, hg⟩
 exact ⟨by rw [RD_lit hr], hg⟩
end Go.Ab
end
section
namespace Go.Ab
open Go.RowKit Go.MapKept
deriving instance DecidableEq for ByteArray
deriving instance DecidableEq for MKey
def klk (l : List (MKey × V)) (k : MKey) : Option V := (l.find? fun p => p.1 = k).map (·.2)
def keyV : V → Option MKey
 | .d (.lit (.int .i64 n)) => some (.ik n)
 | .d (.lit (.string s)) => some (.sk s)
 | .d (.lit (.bool b)) => some (.bk b)
 | _ => none
def descEq : TypeDesc → TypeDesc → Bool
 | .int .i64, .int .i64 => true
 | .string, .string => true
 | .bool, .bool => true
 | _, _ => false
def lkV (ty : TypeId → Option TI) (H : Heap) (T : TypeId) (m i : V) : Option (V × Bool) :=
 match ty T with
 | some ti => match ti.desc with
  | .map kt et => match ty kt, ty et, keyV i with
   | some tk, some te, some k => if descEq tk.desc k.desc = true ∧ (litV te.zero).closed = true then (match m with
    | .mref id => match H id with
     | some (.mp kd l) => if descEq kd k.desc = true then (match klk l k with
      | some v => some (v, true)
      | none => some (litV te.zero, false)) else none
     | _ => none
    | .d (.lit (.map none)) => some (litV te.zero, false)
    | _ => none) else none
   | _, _, _ => none
  | _ => none
 | none => none
attribute [simp] lkV keyV descEq
end Go.Ab
end
section
namespace Go.Ab
open Go.RowKit
@[simp] theorem eC_int (n : Int) : (Enc.eC n : List D) = [.lit (.int .i64 n)] := rfl
@[simp] theorem eC_bool (n : Bool) : (Enc.eC n : List D) = [.lit (.bool n)] := rfl
@[simp] theorem eC_str (n : ByteArray) : (Enc.eC n : List D) = [.lit (.string n)] := rfl
@[simp] theorem eC_byte (n : UInt8) : (Enc.eC n : List D) = [.lit (.int .u8 n.toNat)] := rfl
@[simp] theorem eC_list {α : Type} [Rp.Rep α] [Enc α] (xs : List α) : (Enc.eC xs : List D) = [.sl (xs.map Enc.eC)] := rfl
@[simp] theorem eV_int (n : Int) : Enc.eV n = .d (.lit (.int .i64 n)) := rfl
@[simp] theorem eV_bool (n : Bool) : Enc.eV n = .d (.lit (.bool n)) := rfl
@[simp] theorem eV_str (n : ByteArray) : Enc.eV n = .d (.lit (.string n)) := rfl
@[simp] theorem eV_byte (n : UInt8) : Enc.eV n = .d (.lit (.int .u8 n.toNat)) := rfl
@[simp] theorem eV_list {α : Type} [Rp.Rep α] [Enc α] (xs : List α) : Enc.eV xs = .d (.sl (xs.map Enc.eC)) := rfl
theorem bytes_ext {a b : ByteArray} (h : a.data = b.data) : a = b := by cases a; cases b; simp_all
@[simp] theorem toList_beq (x y : ByteArray) : (x.toList == y.toList) = decide (x = y) := by
 rw [← beq_toListBytes]
 by_cases h : x = y
 ·subst h
  simp only [decide_true]
  show (x.data == x.data) = true
  simp
 ·rw [decide_eq_false h]
  cases hb : (x == y) with
  | false => rfl
  | true =>
   have : (x.data == y.data) = true := hb
   have e : x.data = y.data := by simpa using this
   exact absurd (bytes_ext e) h
@[simp] theorem mapO_viewD_d {H : Heap} {k : Nat} : ∀ cs : List D, mapO (viewD H k) (cs.map V.d) = some cs
 | [] => rfl
 | c :: cs => by
  have e : viewD H k (V.d c) = some c := by cases k <;> rfl
  simp only [List.map_cons, mapO, e, mapO_viewD_d cs]
@[simp] theorem mapO_viewV_d {H : Heap} : ∀ cs : List D, mapO (viewV H) (cs.map V.d) = some (cs.map V.d)
 | [] => rfl
 | c :: cs => by
  have e : viewV H (V.d c) = some (.d c) := rfl
  simp only [List.map_cons, mapO, e, mapO_viewV_d cs]
@[simp] theorem closedL_d : ∀ cs : List D, closedL (cs.map V.d) = true
 | [] => rfl
 | c :: cs => by simp only [List.map_cons, closedL, V.closed, closedL_d cs, Bool.and_self]
@[simp] theorem hasL_d {id : Nat} : ∀ cs : List D, hasL id (cs.map V.d) = false
 | [] => rfl
 | c :: cs => by simp only [List.map_cons, hasL, V.has, hasL_d cs, Bool.or_self]
@[simp] theorem onlyL_d {id : Nat} : ∀ cs : List D, onlyL id (cs.map V.d) = true
 | [] => rfl
 | c :: cs => by simp only [List.map_cons, onlyL, V.only, onlyL_d cs, Bool.and_self]
def endK (K : St → Prop) : Option (List Oper × St) → Prop
 | some ([], S) => K S
 | _ => False
attribute [simp] endK
theorem AW.goR {P : Program} {S : St} {Q : Exit → St → Prop} {id : Nat} {l : List Oper} {y : Code} (fz : List Nat) (n : Nat) (h : ∀ K : St → Prop, (∀ S', AW P y S' Q → K S') → endK K (Ab.runM (tyOf P) fz l.toArray n l S)) (hd : noDefer l = true := by rfl) : AW P (.seq (.region id l.toArray false) y) S Q := by
 refine AW.seqR ?_ hd
 have h := h _ (fun _ h => h)
 unfold endK at h
 split at h
 ·rename_i S' hr; exact Chain.runM fz n hr (.nil h)
 ·exact h.elim
theorem Chain.cut {q : Bool} {P : Program} {ops : Array Oper} {l : List Oper} {S : St} {Q : St → Prop} (S1 : St) (h1 : Chain q P ops l S (fun S' => Sub S' S1)) (h2 : ∀ S', Sub S' S1 → Q S') : Chain q P ops l S Q := by
 cases q with
 | false => exact fun fx a w Q' m hq => h1 fx a w Q' m fun S' a' w' hs m' => hq S' a' w' (h2 S' hs) m'
 | true => exact fun fx a w Q' m hq => h1 fx a w Q' m fun S' a' hs m' => hq S' a' (h2 S' hs) m'
theorem AW.cutR {P : Program} {S : St} {Q : Exit → St → Prop} {id : Nat} {l : List Oper} {y : Code} (S1 : St) (h1 : Chain false P l.toArray l S (fun S' => Sub S' S1)) (h2 : AW P y S1 Q) (hd : noDefer l = true := by rfl) : AW P (.seq (.region id l.toArray false) y) S Q :=
 .seqR (Chain.cut S1 h1 fun _ hs => .sub hs h2) hd
theorem AW.cutQ {P : Program} {S : St} {Q : Exit → St → Prop} {id : Nat} {l : List Oper} {y : Code} (hm : P.follows .mixedOrders = true) (hB : Region.lexB .any l.toArray = true) (S1 : St) (h1 : Chain true P l.toArray l S (fun S' => Sub S' S1)) (h2 : AW P y S1 Q) (hd : noDefer l = true := by rfl) : AW P (.seq (.region id l.toArray true) y) S Q :=
 .seqQ hm hB (Chain.cut S1 h1 fun _ hs => .sub hs h2) hd
end Go.Ab
end
section
namespace Go.Ab
open Go.RowKit
def lk2 : List (Nat × Nat) → Nat → Option Nat
 | [], _ => none
 | (a, b) :: r, i => if i = a then some b else lk2 r i
theorem lk2_mem : ∀ {ρ : List (Nat × Nat)} {i k : Nat}, lk2 ρ i = some k → (i, k) ∈ ρ
 | [], _, _, h => by cases h
 | (a, b) :: r, i, k, h => by
  simp only [lk2] at h
  split at h
  ·rename_i e
   injection h with h; subst h; subst e
   exact .head _
  ·exact .tail _ (lk2_mem h)
mutual
def V.rnm (ρ : List (Nat × Nat)) : V → Option V
 | .ref id off len => match lk2 ρ id with | some k => some (.ref k off len) | none => none
 | .ptr id i off => match lk2 ρ id with | some k => some (.ptr k i off) | none => none
 | .mref id => match lk2 ρ id with | some k => some (.mref k) | none => none
 | .agg cs => match rnmL ρ cs with | some xs => some (.agg xs) | none => none
 | .tup cs => match rnmL ρ cs with | some xs => some (.tup xs) | none => none
 | .fn f cs => match rnmL ρ cs with | some xs => some (.fn f xs) | none => none
 | .d x => some (.d x)
 | .dx es => some (.dx es)
 | .hole => some .hole
 | .junk => some .junk
def rnmL (ρ : List (Nat × Nat)) : List V → Option (List V)
 | [] => some []
 | c :: cs => match V.rnm ρ c, rnmL ρ cs with
  | some x, some xs => some (x :: xs)
  | _, _ => none
end
def Blk.rnm (ρ : List (Nat × Nat)) : Blk → Option Blk
 | .arr T n es => some (.arr T n es)
 | .box cs => match rnmL ρ cs with | some xs => some (.box xs) | none => none
 | .mp kd l => some (.mp kd l)
 | .nest T n sh es [] => some (.nest T n sh es [])
 | .hid p => some (.hid p)
 | .nest _ _ _ _ (_ :: _) => none
theorem rnm_cell {ρ : List (Nat × Nat)} : ∀ {c c' : V}, c.rnm ρ = some c' → c.cell = true → c'.cell = true
 | .ref .., c', h, _ => by
  simp only [V.rnm] at h; split at h
  ·injection h with h; subst h; rfl
  ·cases h
 | .ptr .., c', h, _ => by
  simp only [V.rnm] at h; split at h
  ·injection h with h; subst h; rfl
  ·cases h
 | .mref _, c', h, _ => by
  simp only [V.rnm] at h; split at h
  ·injection h with h; subst h; rfl
  ·cases h
 | .fn .., c', h, _ => by
  simp only [V.rnm] at h; split at h
  ·injection h with h; subst h; rfl
  ·cases h
 | .d _, c', h, _ => by
  simp only [V.rnm] at h; injection h with h; subst h; rfl
 | .agg _, _, _, hc => by cases hc
 | .tup _, _, _, hc => by cases hc
 | .dx _, _, _, hc => by cases hc
 | .hole, c', h, _ => by
  simp only [V.rnm] at h; injection h with h; subst h; rfl
 | .junk, _, _, hc => by cases hc
theorem rnmL_cell {ρ : List (Nat × Nat)} : ∀ {cs cs' : List V}, rnmL ρ cs = some cs' → (∀ c ∈ cs, c.cell = true) → ∀ c ∈ cs', c.cell = true
 | [], cs', h, _, c, hc => by injection h with h; subst h; cases hc
 | x :: cs, cs', h, hall, c, hc => by
  simp only [rnmL] at h
  split at h
  ·rename_i y ys h1 h2
   injection h with h; subst h
   rcases List.mem_cons.1 hc with rfl | hc
   ·exact rnm_cell h1 (hall x (.head _))
   ·exact rnmL_cell h2 (fun c h' => hall c (.tail _ h')) c hc
  ·cases h
mutual
theorem RV.rnm {E E' : Env} {w : World} {ρ : List (Nat × Nat)} (hl : ∀ i k, lk2 ρ i = some k → E'.loc k = E.loc i) (hZ : ∀ b, E.Z b → E'.Z b) : ∀ (c c' : V) (x : Value), c.rnm ρ = some c' → RV E w c x → RV E' w c' x
 | .d x, c', v, h, hr => by
  simp only [V.rnm] at h; injection h with h; subst h
  exact RD.keep (fun _ _ => rfl) hZ x v hr
 | .ref i off len, c', v, h, hr => by
  simp only [V.rnm] at h
  split at h
  ·rename_i k hk
   injection h with h; subst h
   unfold RV at hr ⊢
   rw [hl i k hk]; exact hr
  ·cases h
 | .ptr i k off, c', v, h, hr => by
  simp only [V.rnm] at h
  split at h
  ·rename_i k hk
   injection h with h; subst h
   unfold RV at hr ⊢
   rw [hl i k hk]; exact hr
  ·cases h
 | .mref i, c', v, h, hr => by
  simp only [V.rnm] at h
  split at h
  ·rename_i k hk
   injection h with h; subst h
   unfold RV at hr ⊢
   rw [hl i k hk]; exact hr
  ·cases h
 | .agg cs, c', v, h, ⟨vs, h1, h2, h3⟩ => by
  simp only [V.rnm] at h
  split at h
  ·rename_i xs hx
   injection h with h; subst h
   exact ⟨vs, h1, rnmL_cell hx h2, RVs.rnm hl hZ cs xs vs hx h3⟩
  ·cases h
 | .tup cs, c', v, h, ⟨vs, h1, h2⟩ => by
  simp only [V.rnm] at h
  split at h
  ·rename_i xs hx
   injection h with h; subst h
   exact ⟨vs, h1, RVs.rnm hl hZ cs xs vs hx h2⟩
  ·cases h
 | .fn f cs, c', v, h, ⟨vs, h1, h2⟩ => by
  simp only [V.rnm] at h
  split at h
  ·rename_i xs hx
   injection h with h; subst h
   exact ⟨vs, h1, RVs.rnm hl hZ cs xs vs hx h2⟩
  ·cases h
 | .dx es, c', v, h, hr => by
  simp only [V.rnm] at h; injection h with h; subst h
  exact ⟨RD.keep (fun _ _ => rfl) hZ _ v hr.1, hr.2⟩
 | .hole, c', v, h, hr => by
  simp only [V.rnm] at h; injection h with h; subst h
  exact hr
 | .junk, c', v, h, _ => by
  simp only [V.rnm] at h; injection h with h; subst h
  trivial
theorem RVs.rnm {E E' : Env} {w : World} {ρ : List (Nat × Nat)} (hl : ∀ i k, lk2 ρ i = some k → E'.loc k = E.loc i) (hZ : ∀ b, E.Z b → E'.Z b) : ∀ (cs cs' : List V) (vs : List Value), rnmL ρ cs = some cs' → RVs E w cs vs → RVs E' w cs' vs
 | [], cs', vs, h, hr => by
  injection h with h; subst h; exact hr
 | c :: cs, cs', vs, h, ⟨v, r, h1, h2, h3⟩ => by
  simp only [rnmL] at h
  split at h
  ·rename_i y ys g1 g2
   injection h with h; subst h
   exact ⟨v, r, h1, RV.rnm hl hZ c y v g1 h2, RVs.rnm hl hZ cs ys r g2 h3⟩
  ·cases h
end
theorem Hold.rnm {E E' : Env} {w : World} {ρ : List (Nat × Nat)} (hl : ∀ i k, lk2 ρ i = some k → E'.loc k = E.loc i) (hZ : ∀ b, E.Z b → E'.Z b) {i j : Nat} (hij : E'.loc j = E.loc i) {k k' : Blk} (h : k.rnm ρ = some k') (hh : Hold E w i k) : Hold E' w j k' := by
 cases k with
 | arr T n es =>
  simp only [Blk.rnm] at h; injection h with h; subst h
  obtain ⟨h1, h2, h3, h4, h5⟩ := hh
  unfold Hold
  rw [hij]
  refine ⟨h1, h2, h3, h4, h5.imp (fun h => h) ?_⟩
  rintro ⟨hn, c, flat, k1, k2, k3, k4, k5, k6⟩
  exact ⟨hn, c, flat, k1, k2, k3, k4, RDe.keep (fun _ _ => rfl) hZ _ _ k5, k6⟩
 | box cs =>
  simp only [Blk.rnm] at h
  split at h
  ·rename_i xs hx
   injection h with h; subst h
   obtain ⟨h1, h2, vs, h3, h4⟩ := hh
   unfold Hold
   rw [hij]
   exact ⟨h1, rnmL_cell hx h2, vs, RVs.rnm hl hZ cs xs vs hx h3, h4⟩
  ·cases h
 | hid p =>
  simp only [Blk.rnm] at h; injection h with h; subst h
  obtain ⟨h1, h2, h3, h4⟩ := hh
  unfold Hold
  rw [hij]
  exact ⟨h1, h2, h3, h3 _ _ _ _ _ (fun _ _ => rfl) hZ (fun _ _ => rfl) (Nat.le_refl _) h4⟩
 | nest T n sh es fo =>
  cases fo with
  | cons p fo => simp only [Blk.rnm] at h; cases h
  | nil =>
   simp only [Blk.rnm] at h; injection h with h; subst h
   obtain ⟨h1, h2, h3, h4, hs, hfo, h5⟩ := hh
   unfold Hold
   rw [hij]
   refine ⟨h1, h2, h3, h4, hs, hfo, h5.imp (fun h => h) ?_⟩
   rintro ⟨hn, c, flat, ls, k1, k2, k3, k4, k5, k6, k7⟩
   exact ⟨hn, c, flat, ls, k1, k2, k3, k4, RNe.to (E := E) (E' := E') hZ (fun k cs hk => by cases hk) (fun k hk => hk) 0 es flat ls k5, k6, k7⟩
 | mp kd l =>
  simp only [Blk.rnm] at h; injection h with h; subst h
  obtain ⟨h1, h2, es, clock, h3, h4, l', hp, h5⟩ := hh
  unfold Hold
  rw [hij]
  exact ⟨h1, h2, es, clock, h3, h4, l', hp, REs.closedTo hZ l' _ h5⟩
end Go.Ab
end
section
namespace Go.Ab
open Go.RowKit
theorem Mod.drop {fx : Fx} {S : St} {E : Env} {a : Act} {w : World} (m : Mod fx S E a w) (k : Nat) : Mod fx (S.setH k none) E a w := by
 have get : ∀ i, (S.setH k none).hp i ≠ none → S.hp i ≠ none := fun i h => by
  simp only [St.setH] at h
  split at h
  ·exact absurd rfl h
  ·exact h
 refine ⟨m.nt, m.slots, m.dfr, ⟨fun i b h => ?_, fun i j hi hj => m.ok.inj i j (get i hi) (get j hj), fun i hi => m.ok.apart i (get i hi), m.ok.zlt, fun i hi => m.ok.xlt i (get i hi)⟩, m.frame, fun i hi => m.mine i (get i hi), m.z, m.roots⟩
 simp only [St.setH] at h
 split at h
 ·cases h
 ·exact m.ok.hold i b h
def St.drops : List (Nat × Nat) → St → St
 | [], S => S
 | (k, _) :: r, S => St.drops r (S.setH k none)
theorem Mod.drops {fx : Fx} {E : Env} {a : Act} {w : World} : ∀ (l : List (Nat × Nat)) {S : St}, Mod fx S E a w → Mod fx (St.drops l S) E a w
 | [], _, m => m
 | (k, _) :: r, _, m => Mod.drops r (m.drop k)
theorem drops_hp : ∀ (l : List (Nat × Nat)) {S : St} (i : Nat), (St.drops l S).hp i ≠ none → S.hp i ≠ none ∧ ∀ p ∈ l, p.1 ≠ i
 | [], _, _, h => ⟨h, fun p hp => by cases hp⟩
 | (k, c) :: r, S, i, h => by
  obtain ⟨h1, h2⟩ := drops_hp r i h
  simp only [St.setH] at h1
  split at h1
  ·exact absurd rfl h1
  ·rename_i hi
   refine ⟨h1, fun p hp => ?_⟩
   rcases List.mem_cons.1 hp with rfl | hp
   ·exact fun e => hi e.symm
   ·exact h2 p hp
theorem drops_rts : ∀ (l : List (Nat × Nat)) {S : St}, (St.drops l S).rts = S.rts
 | [], _ => rfl
 | (_, _) :: r, _ => drops_rts r
theorem Mod.move {fx : Fx} {S : St} {E : Env} {a : Act} {w w' : World} (m : Mod fx S E a w) (L : Nat → Prop) (hos : w'.os = w.os) (htape : w'.tape = w.tape) (hout : w'.output = w.output) (hsize : w.heap.size ≤ w'.heap.size)
  (hb : ∀ b, b < w.heap.size → ¬ L b → w'.heap[b]? = w.heap[b]?) (hL : ∀ b, L b → fx.w0.heap.size ≤ b ∨ fx.L b) (hap : ∀ i, S.hp i ≠ none → ∀ b, (E.loc i).own b → ¬ L b) (hz : ∀ b, E.Z b → ¬ L b) : Mod fx S E a w' := by
 have hk : Keeps E.Z w w' := fun b h => hb b (m.ok.zlt b h) (hz b h)
 refine ⟨m.nt, fun t => RV.keep hk (fun _ h => h) rfl _ _ (m.slots t), m.dfr, ⟨fun i k h => ?_, m.ok.inj, m.ok.apart, fun b h => Nat.lt_of_lt_of_le (m.ok.zlt b h) hsize, fun i hi b h => Nat.lt_of_lt_of_le (m.ok.xlt i hi b h) hsize⟩, ⟨hos.trans m.frame.os, htape.trans m.frame.tape, hout.trans m.frame.output, Nat.le_trans m.frame.size hsize, fun b h1 h2 => ?_⟩, m.mine, m.z, m.roots⟩
 ·exact (m.ok.hold i k h).keep hk (fun _ h => h) rfl (fun b hn => hb _ (m.ok.own_lt (by rw [h]; simp) hn) (hap i (by rw [h]; simp) b hn)) hsize
 ·refine (hb b (Nat.lt_of_lt_of_le h1 m.frame.size) fun h => ?_).trans (m.frame.block b h1 h2)
  rcases hL b h with h | h
  ·omega
  ·exact h2 h
theorem Mod.moreZ {fx : Fx} {S : St} {E : Env} {a : Act} {w : World} (m : Mod fx S E a w) {Zn : Nat → Prop} (hz : ∀ b, Zn b → b < w.heap.size ∧ (∀ i, S.hp i ≠ none → ¬ (E.loc i).own b) ∧ (fx.Z0 b ∨ fx.w0.heap.size ≤ b ∨ fx.L b)) :
  Mod fx S { E with Z := fun b => E.Z b ∨ Zn b } a w := by
 refine ⟨m.nt, fun t => RV.keep (E' := { E with Z := fun b => E.Z b ∨ Zn b }) (fun _ _ => rfl) (fun _ h => .inl h) rfl _ _ (m.slots t), m.dfr, ⟨fun i k h => ?_, m.ok.inj, fun i hi b hn hb => ?_, fun b h => ?_, m.ok.xlt⟩, m.frame, m.mine, fun b h => ?_, m.roots⟩
 ·exact (m.ok.hold i k h).keep (E' := { E with Z := fun b => E.Z b ∨ Zn b }) (fun _ _ => rfl) (fun _ h => .inl h) rfl (fun _ _ => rfl) (Nat.le_refl _)
 ·rcases hb with hb | hb
  ·exact m.ok.apart i hi b hn hb
  ·exact (hz _ hb).2.1 i hi hn
 ·rcases h with h | h
  ·exact m.ok.zlt b h
  ·exact (hz b h).1
 ·rcases h with h | h
  ·exact m.z b h
  ·exact (hz b h).2.2
def St.moves (rt : List Nat) : List (Nat × Nat) → St → St
 | [], S => S
 | (_, k) :: r, S => St.moves rt r (if rt.contains k then S else S.kill k)
theorem Mod.moves {fx : Fx} {a : Act} {w : World} (rt : List Nat) (f : Nat → Loc) : ∀ (pl : List (Nat × Nat)) {S : St} {E : Env}, Mod fx S E a w → (∀ p ∈ pl, (rt.contains p.2 = true ∧ E.loc p.2 = f p.1 ∧ S.hp p.2 = none) ∨ (rt.contains p.2 = false ∧ p.2 ∉ S.rts)) → (pl.map (·.2)).Nodup →
  ∃ E2, Mod fx (St.moves rt pl S) E2 a w ∧ E2.Z = E.Z ∧ (∀ p ∈ pl, E2.loc p.2 = f p.1) ∧ (∀ k, (∀ p ∈ pl, p.2 ≠ k) → E2.loc k = E.loc k) ∧ (∀ i, (St.moves rt pl S).hp i ≠ none → S.hp i ≠ none) ∧ (∀ p ∈ pl, (St.moves rt pl S).hp p.2 = none)
 | [], S, E, m, _, _ => ⟨E, m, rfl, fun p hp => (by cases hp), fun _ _ => rfl, fun _ h => h, fun p hp => (by cases hp)⟩
 | (c, k) :: r, S, E, m, hp, hnd => by
  rw [List.map_cons, List.nodup_cons] at hnd
  have hne : ∀ p ∈ r, p.2 ≠ k := fun p h e => hnd.1 (by rw [← e]; exact List.mem_map.2 ⟨p, h, rfl⟩)
  simp only [St.moves]
  rcases hp (c, k) (.head _) with ⟨h1, h2, h3⟩ | ⟨h1, h2⟩
  ·rw [if_pos h1]
   obtain ⟨E2, m2, g1, g2, g3, g4, g5⟩ := Mod.moves rt f r m (fun p h => hp p (.tail _ h)) hnd.2
   refine ⟨E2, m2, g1, fun p h => ?_, fun k' h => g3 k' (fun p hpr => h p (.tail _ hpr)), g4, fun p h => ?_⟩
   ·rcases List.mem_cons.1 h with rfl | h
    ·rw [g3 k hne]; exact h2
    ·exact g2 p h
   ·rcases List.mem_cons.1 h with rfl | h
    ·cases hk : (St.moves rt r S).hp k with
     | none => rfl
     | some b => exact absurd h3 (g4 k (by rw [hk]; simp))
    ·exact g5 p h
  ·rw [if_neg (by rw [h1]; simp)]
   have mk := m.kill h2 (f c)
   have hat : ∀ i, i ≠ k → (E.at k (f c)).loc i = E.loc i := fun i hi => by simp [Env.at, hi]
   have hat0 : (E.at k (f c)).loc k = f c := by simp [Env.at]
   have hkn : ∀ i, (S.kill k).hp i ≠ none → S.hp i ≠ none ∧ i ≠ k := fun i h => by
    cases hk : (S.kill k).hp i with
    | none => exact absurd hk h
    | some b => obtain ⟨e1, k0, e2, _⟩ := kill_hp hk; exact ⟨by rw [e2]; simp, e1⟩
   obtain ⟨E2, m2, g1, g2, g3, g4, g5⟩ := Mod.moves rt f r mk (fun p h => by
    rcases hp p (.tail _ h) with ⟨q1, q2, q3⟩ | q
    ·refine .inl ⟨q1, by rw [hat _ (hne p h)]; exact q2, ?_⟩
     cases hk : (S.kill k).hp p.2 with
     | none => rfl
     | some b => exact absurd q3 (hkn _ (by rw [hk]; simp)).1
    ·exact .inr q) hnd.2
   refine ⟨E2, m2, g1, fun p h => ?_, fun k' h => ?_, fun i h => (hkn i (g4 i h)).1, fun p h => ?_⟩
   ·rcases List.mem_cons.1 h with rfl | h
    ·rw [g3 k hne]; exact hat0
    ·exact g2 p h
   ·rw [g3 k' (fun p hpr => h p (.tail _ hpr))]
    exact hat _ (fun e => h (c, k) (.head _) e.symm)
   ·rcases List.mem_cons.1 h with rfl | h
    ·cases hk : (St.moves rt r (S.kill k)).hp k with
     | none => rfl
     | some b => exact absurd rfl (hkn k (g4 k (by rw [hk]; simp))).2
    ·exact g5 p h
def St.sets : List (Nat × Blk) → St → St
 | [], S => S
 | (k, b) :: r, S => St.sets r (S.setH k (some b))
theorem Mod.lays {fx : Fx} {E : Env} {a : Act} {w : World} (New : Nat → Prop) : ∀ (bl : List (Nat × Blk)) {S : St}, Mod fx S E a w → (∀ p ∈ bl, New p.1 ∧ Hold E w p.1 p.2) →
  (∀ i, New i → ∀ b, (E.loc i).own b → ¬ E.Z b ∧ (fx.w0.heap.size ≤ b ∨ fx.L b) ∧ b < w.heap.size) →
  (∀ i j, New i → New j ∨ S.hp j ≠ none → i ≠ j → ∀ b, (E.loc i).own b → ¬ (E.loc j).own b) → Mod fx (St.sets bl S) E a w
 | [], _, m, _, _, _ => m
 | (k, b) :: r, S, m, hb, hn, hi => by
  obtain ⟨hk, hold⟩ := hb (k, b) (.head _)
  have get : ∀ i, (S.setH k (some b)).hp i ≠ none → i = k ∨ (i ≠ k ∧ S.hp i ≠ none) := fun i h => by
   simp only [St.setH] at h
   by_cases e : i = k
   ·exact .inl e
   ·rw [if_neg e] at h; exact .inr ⟨e, h⟩
  refine Mod.lays New r (S := S.setH k (some b)) ⟨m.nt, m.slots, m.dfr, ⟨fun i blk h => ?_, fun i j h1 h2 hij b n1 n2 => ?_, fun i h b n => ?_, m.ok.zlt, fun i h b n => ?_⟩, m.frame, fun i h b n => ?_, m.z, m.roots⟩ (fun p h => hb p (.tail _ h)) hn (fun i j h1 h2 => ?_)
  ·simp only [St.setH] at h
   by_cases e : i = k
   ·subst e; rw [if_pos rfl] at h; injection h with h; subst h; exact hold
   ·rw [if_neg e] at h; exact m.ok.hold i blk h
  ·rcases get i h1 with rfl | ⟨e1, q1⟩
   ·rcases get j h2 with rfl | ⟨e2, q2⟩
    ·exact absurd rfl hij
    ·exact hi _ j hk (.inr q2) hij b n1 n2
   ·rcases get j h2 with rfl | ⟨e2, q2⟩
    ·exact hi _ i hk (.inr q1) (fun e => hij e.symm) b n2 n1
    ·exact m.ok.inj i j q1 q2 hij b n1 n2
  ·rcases get i h with rfl | ⟨e1, q1⟩
   ·exact (hn _ hk b n).1
   ·exact m.ok.apart i q1 b n
  ·rcases get i h with rfl | ⟨e1, q1⟩
   ·exact (hn _ hk b (.inr n)).2.2
   ·exact m.ok.xlt i q1 b n
  ·rcases get i h with rfl | ⟨e1, q1⟩
   ·exact (hn _ hk b n).2.1
   ·exact m.mine i q1 b n
  ·rcases h2 with h2 | h2
   ·exact hi i j h1 (.inl h2)
   ·rcases get j h2 with rfl | ⟨_, q⟩
    ·exact hi i _ h1 (.inl hk)
    ·exact hi i j h1 (.inr q)
end Go.Ab
end
section
namespace Go.Ab
open Go.RowKit
theorem nodup_fst {α β : Type} {l : List (α × β)} (h : (l.map (·.1)).Nodup) {a : α} {b c : β} (h1 : (a, b) ∈ l) (h2 : (a, c) ∈ l) : b = c := by
 induction l with
 | nil => cases h1
 | cons p r ih =>
  rw [List.map_cons, List.nodup_cons] at h
  rcases List.mem_cons.1 h1 with e1 | h1
  ·rcases List.mem_cons.1 h2 with e2 | h2
   ·rw [← e2] at e1; injection e1
   ·exact absurd (List.mem_map.2 ⟨_, h2, by rw [← e1]⟩) h.1
  ·rcases List.mem_cons.1 h2 with e2 | h2
   ·exact absurd (List.mem_map.2 ⟨_, h1, by rw [← e2]⟩) h.1
   ·exact ih h.2 h1 h2
def back : List (Nat × Nat) → Nat → Option Nat
 | [], _ => none
 | (a, b) :: r, i => if i = b then some a else back r i
theorem back_mem : ∀ {l : List (Nat × Nat)} {k c : Nat}, (l.map (·.2)).Nodup → (k, c) ∈ l → back l c = some k
 | (a, b) :: r, k, c, hn, h => by
  rw [List.map_cons, List.nodup_cons] at hn
  simp only [back]
  rcases List.mem_cons.1 h with e | h
  ·injection e with e1 e2; subst e1; subst e2; rw [if_pos rfl]
  ·rw [if_neg (fun e => hn.1 (by rw [← show c = b from e]; exact List.mem_map.2 ⟨_, h, rfl⟩))]
   exact back_mem hn.2 h
def Env.lend (E : Env) (lent : List (Nat × Nat)) : Env := ⟨fun c => match back lent c with | some k => E.loc k | none => default, E.Z⟩
structure Back (S : St) (lent : List (Nat × Nat)) (rts rt : List Nat) (r : V) (H1 : Heap) (pl : List (Nat × Nat)) (bl : List (Nat × Blk)) (r' : V) : Prop where
 cs : (pl.map (·.1)).Nodup
 ks : (pl.map (·.2)).Nodup
 here : ∀ p ∈ pl, H1 p.1 ≠ none
 root : ∀ p ∈ pl, (rt.contains p.2 = true ∧ (p.2, p.1) ∈ lent ∧ p.1 ∈ rts) ∨ (rt.contains p.2 = false ∧ p.2 ∉ S.rts)
 blks : ∀ q ∈ bl, ∃ c b, (c, q.1) ∈ pl ∧ H1 c = some b ∧ b.rnm pl = some q.2
 res : r.rnm pl = some r'
def St.after (S : St) (lent : List (Nat × Nat)) (rt : List Nat) (pl : List (Nat × Nat)) (bl : List (Nat × Blk)) (d : Option Nat) (r' : V) : St :=
 (St.sets bl (St.moves rt pl (St.drops lent S))).put d r'
theorem lend_ok {S : St} {E : Env} {w : World} {lent : List (Nat × Nat)} {H0 : Heap} (ok : E.ok S.hp w) (hks : (lent.map (·.1)).Nodup) (hcs : (lent.map (·.2)).Nodup)
  (hlent : ∀ p ∈ lent, ∃ b b', S.hp p.1 = some b ∧ b.rnm lent = some b' ∧ H0 p.2 = some b') (honly : ∀ i, H0 i ≠ none → ∃ p ∈ lent, p.2 = i) :
  (∀ p ∈ lent, (E.lend lent).loc p.2 = E.loc p.1) ∧ (E.lend lent).ok H0 w ∧ (∀ b, lof (E.lend lent) H0 b → ∃ k, S.hp k ≠ none ∧ (∃ c, (k, c) ∈ lent) ∧ (E.loc k).own b) := by
 have hloc : ∀ p ∈ lent, (E.lend lent).loc p.2 = E.loc p.1 := fun p hp => by
  show (match back lent p.2 with | some k => E.loc k | none => default) = _
  rw [back_mem hcs (k := p.1) (c := p.2) hp]
 refine ⟨hloc, ⟨fun c b' h => ?_, fun i j hi hj hij b ni nj => ?_, fun i hi b ni => ?_, ok.zlt, fun i hi b ni => ?_⟩, ?_⟩
 ·obtain ⟨⟨k, c'⟩, hp, rfl⟩ := honly c (by rw [h]; simp)
  obtain ⟨b, b2, h1, h2, h3⟩ := hlent _ hp
  rw [h] at h3; injection h3 with h3; subst h3
  refine Hold.rnm (E := E) (E' := E.lend lent) (ρ := lent) (fun i k hik => ?_) (fun _ h => h) (hloc _ hp) h2 (ok.hold _ _ h1)
  exact hloc (i, k) (lk2_mem hik)
 ·obtain ⟨p, hp, rfl⟩ := honly i hi
  obtain ⟨q, hq, rfl⟩ := honly j hj
  obtain ⟨b1, _, h1, _, _⟩ := hlent _ hp
  obtain ⟨b2, _, h2, _, _⟩ := hlent _ hq
  rw [hloc _ hp] at ni; rw [hloc _ hq] at nj
  refine ok.inj p.1 q.1 (by rw [h1]; simp) (by rw [h2]; simp) (fun e => hij ?_) b ni nj
  have hq' : (p.1, q.2) ∈ lent := by rw [e]; exact hq
  exact nodup_fst hks (a := p.1) hp hq'
 ·obtain ⟨p, hp, rfl⟩ := honly i hi
  obtain ⟨b1, _, h1, _, _⟩ := hlent _ hp
  rw [hloc _ hp] at ni
  exact ok.apart p.1 (by rw [h1]; simp) b ni
 ·obtain ⟨p, hp, rfl⟩ := honly i hi
  obtain ⟨b1, _, h1, _, _⟩ := hlent _ hp
  rw [hloc _ hp] at ni
  exact ok.xlt p.1 (by rw [h1]; simp) b ni
 ·rintro b ⟨i, hi, ni⟩
  obtain ⟨p, hp, rfl⟩ := honly i hi
  obtain ⟨b1, _, h1, _, _⟩ := hlent _ hp
  rw [hloc _ hp] at ni
  exact ⟨p.1, by rw [h1]; simp, ⟨p.2, hp⟩, ni⟩
theorem Mod.after {fx : Fx} {S : St} {E : Env} {a : Act} {w w' : World} (m : Mod fx S E a w) {lent : List (Nat × Nat)} {H0 : Heap} {rts rt : List Nat} (hks : (lent.map (·.1)).Nodup) (hcs : (lent.map (·.2)).Nodup)
  (hlent : ∀ p ∈ lent, ∃ b b', S.hp p.1 = some b ∧ b.rnm lent = some b' ∧ H0 p.2 = some b') (honly : ∀ i, H0 i ≠ none → ∃ p ∈ lent, p.2 = i)
  {E' : Env} {r : V} {H1 : Heap} {v : Value} (hr : RV E' w' r v) (g : GO (E.lend lent) H0 w) (hp : Post (fxOf w (E.lend lent) H0 rts g) E' H1 w')
  {pl : List (Nat × Nat)} {bl : List (Nat × Blk)} {r' : V} (hb : Back S lent rts rt r H1 pl bl r') (d : Option Nat) : Models fx (S.after lent rt pl bl d r') (a.put d v) w' := by
 obtain ⟨hloc, hok, hL⟩ := lend_ok m.ok hks hcs hlent honly
 have f := hp.frame
 have hLf : ∀ b, lof (E.lend lent) H0 b → fx.w0.heap.size ≤ b ∨ fx.L b := fun b h => by
  obtain ⟨k, h1, _, h2⟩ := hL b h
  exact m.mine k h1 b h2
 have hLz : ∀ b, E.Z b → ¬ lof (E.lend lent) H0 b := fun b hz h => by
  obtain ⟨k, h1, _, h2⟩ := hL b h
  exact m.ok.apart k h1 b h2 hz
 have hap : ∀ i, (St.drops lent S).hp i ≠ none → ∀ b, (E.loc i).own b → ¬ lof (E.lend lent) H0 b := fun i hi b hn h => by
  obtain ⟨h1, h2⟩ := drops_hp lent i hi
  obtain ⟨k, g1, ⟨c, g2⟩, g3⟩ := hL _ h
  exact m.ok.inj k i g1 h1 (h2 _ g2) b g3 hn
 have hlt : ∀ i, S.hp i ≠ none → ∀ b, (E.loc i).own b → b < w.heap.size := fun i hi b hn => m.ok.own_lt hi hn
 have m2 := (Mod.drops lent m).move (lof (E.lend lent) H0) f.os f.tape f.output f.size f.block hLf hap hLz
 have m3 := m2.moreZ (Zn := E'.Z) (fun b h => by
  refine ⟨hp.ok.zlt b h, fun i hi hn => ?_, ?_⟩
  ·rcases hp.z _ h with g | g | g
   ·exact m.ok.apart i (drops_hp lent i hi).1 b hn g
   ·have := hlt i (drops_hp lent i hi).1 b hn
    have g : w.heap.size ≤ b := g
    omega
   ·exact hap i hi b hn g
  ·rcases hp.z _ h with g | g | g
   ·exact m.z b g
   ·exact .inr (.inl (Nat.le_trans m.frame.size g))
   ·exact .inr (hLf b g))
 obtain ⟨E2, m4, g1, g2, g3, g4, g5⟩ := Mod.moves rt E'.loc pl m3 (fun p h => by
  rcases hb.root p h with ⟨q1, q2, q3⟩ | ⟨q1, q2⟩
  ·refine .inl ⟨q1, ?_, ?_⟩
   ·have e1 := hp.roots (p.1, (E.lend lent).loc p.1) (List.mem_map.2 ⟨p.1, q3, rfl⟩)
    have e1 : E'.loc p.1 = (E.lend lent).loc p.1 := e1
    rw [e1, hloc _ q2]
   ·cases hk : (St.drops lent S).hp p.2 with
    | none => rfl
    | some b => exact absurd rfl ((drops_hp lent p.2 (by rw [hk]; simp)).2 _ q2)
  ·exact .inr ⟨q1, by rw [drops_rts]; exact q2⟩) hb.ks
 have hZ2 : ∀ b, E'.Z b → E2.Z b := fun b h => by rw [g1]; exact .inr h
 have hl2 : ∀ i k, lk2 pl i = some k → E2.loc k = E'.loc i := fun i k h => g2 (i, k) (lk2_mem h)
 have m5 := Mod.lays (fun i => ∃ p ∈ pl, p.2 = i) bl m4 (fun q hq => by
   obtain ⟨c, b, h1, h2, h3⟩ := hb.blks q hq
   exact ⟨⟨_, h1, rfl⟩, Hold.rnm hl2 hZ2 (g2 _ h1) h3 (hp.ok.hold c b h2)⟩)
  (fun i ⟨p, h1, h2⟩ b hn => by
   subst h2
   rw [g2 p h1] at hn
   have hH := hb.here p h1
   refine ⟨fun hz => ?_, ?_, hp.ok.own_lt hH hn⟩
   ·rw [g1] at hz
    rcases hz with hz | hz
    ·rcases hp.mine _ hH b hn with g | g
     ·have := m.ok.zlt _ hz
      have g : w.heap.size ≤ b := g
      omega
     ·exact hLz _ hz g
    ·exact hp.ok.apart _ hH b hn hz
   ·rcases hp.mine _ hH b hn with g | g
    ·exact .inl (Nat.le_trans m.frame.size g)
    ·exact hLf _ g)
  (fun i j ⟨p, h1, h2⟩ hj hij b ni nj => by
   subst h2
   rw [g2 p h1] at ni
   have hH := hb.here p h1
   have other : ¬ (∃ q ∈ pl, q.2 = j) := by
    rintro ⟨q, h3, rfl⟩
    rw [g2 q h3] at nj
    refine hp.ok.inj p.1 q.1 hH (hb.here q h3) (fun e => hij ?_) b ni nj
    exact nodup_fst hb.cs (a := p.1) (b := p.2) (c := q.2) h1 (by rw [e]; exact h3)
   rcases hj with hj | hj
   ·exact other hj
   ·have e : E2.loc j = E.loc j := g3 j (fun q hq e => other ⟨q, hq, e⟩)
    rw [e] at nj
    have hd := g4 j hj
    rcases hp.mine _ hH b ni with g | g
    ·have := hlt j (drops_hp lent j hd).1 b nj
     have g : w.heap.size ≤ b := g
     omega
    ·exact hap j hd b nj g)
 exact ⟨E2, m5.put d (RV.rnm hl2 hZ2 r r' v hb.res hr)⟩
theorem hlook_mem2 : ∀ {l : List (Nat × Option Blk)} (i : Nat), hlook l i ≠ none → ∃ q ∈ l, q.1 = i
 | [], _, h => absurd rfl h
 | (k, b) :: r, i, h => by
  simp only [hlook] at h
  by_cases e : i = k
  ·exact ⟨(k, b), .head _, e.symm⟩
  ·rw [if_neg e] at h
   obtain ⟨q, h1, h2⟩ := hlook_mem2 i h
   exact ⟨q, .tail _ h1, h2⟩
theorem Chain.callMG {P : Program} {ops : Array Oper} {o : Oper} {l : List Oper} {S : St} {Q' : St → Prop} {f : FuncId} {full args : List V} {rts : List Nat} {h0 : List (Nat × Option Blk)} {Q : V → Heap → Prop} (lent : List (Nat × Nat)) (rt : List Nat)
  (hw : wantedV ops S o = some true) (hto : CallsTo P S o f full)
  (hargs : rnmL lent full = some args) (hks : (lent.map (·.1)).Nodup) (hcs : (lent.map (·.2)).Nodup)
  (hlent : ∀ p ∈ lent, ∃ b b', S.hp p.1 = some b ∧ b.rnm lent = some b' ∧ hlook h0 p.2 = some b') (honly : ∀ q ∈ h0, ∃ p ∈ lent, p.2 = q.1)
  (hF : Ctr P f args (hlook h0) rts Q)
  (hrest : ∀ r H1, Q r H1 → ∃ pl bl r', Back S lent rts rt r H1 pl bl r' ∧ Chain false P ops l (S.after lent rt pl bl o.dst r') Q') : Chain false P ops (o :: l) S Q' := by
 have honly' : ∀ i, hlook h0 i ≠ none → ∃ p ∈ lent, p.2 = i := by
  intro i hi
  obtain ⟨q, hq, e⟩ := hlook_mem2 i hi
  obtain ⟨p, hp, e2⟩ := honly q hq
  exact ⟨p, hp, e2.trans e⟩
 intro fx a w Q'' ⟨E, m⟩ hq
 have hw' := wantedV_sound m hw
 unfold wpList
 rw [if_pos hw']
 refine .inl ?_
 obtain ⟨vals, hall, hrun⟩ := hto E w a.eval m.ev
 unfold Oper.wp
 rw [hrun w]
 obtain ⟨hloc, hok, hL⟩ := lend_ok m.ok hks hcs hlent honly'
 have hvs := RVs.rnm (E' := E.lend lent) (fun i k h => hloc (i, k) (lk2_mem h)) (fun _ h => h) _ _ _ hargs hall
 have hgo : GO (E.lend lent) (hlook h0) w := ⟨m.go.gw, fun b h => by obtain ⟨k, h1, _, h2⟩ := hL b h; exact m.go.own b ⟨k, h1, h2⟩⟩
 refine (hF w (E.lend lent) _ hgo hok hvs).mono ?_
 rintro e w' ⟨v, E', r, H1, rfl, hQ, hr, hp⟩
 obtain ⟨pl, bl, r', hb, hc⟩ := hrest r H1 hQ
 have := Mod.after m hks hcs hlent honly' hr hgo hp hb o.dst
 exact hc fx _ w' Q'' this hq
end Go.Ab
end
section
namespace Go.Ab
open Go.RowKit
attribute [simp] V.rnm rnmL Blk.rnm lk2 back St.drops St.moves St.sets St.after
end Go.Ab
end
