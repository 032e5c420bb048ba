/- The abstract machine: calls in regions that draw; states weakened; tables. -/
import Derived.Test.YtabjbkdlacibjaaAb12
namespace Go.Ab
open Go.RowKit

def litsOf : List V → Option (List Value)
  | [] => some []
  | .d (.lit v) :: cs => if plain v then (litsOf cs).map fun vs => v :: vs else none
  | _ => none
def exactV : V → Option Value
  | .d (.lit v) => if plain v then some v else none
  | .tup cs => (litsOf cs).map fun vs => .tuple vs.toArray
  | _ => none
theorem litsOf_sound {E : Env} {w : World} : ∀ {cs : List V} {vs us : List Value}, RVs E w cs vs → litsOf cs = some us → vs = us
  | [], vs, us, h, hl => by
    injection hl with hl; subst hl; exact h
  | c :: cs, vs, us, ⟨v, r, h, h1, h2⟩, hl => by
    subst h
    unfold litsOf at hl
    split at hl
    · rename_i heq; cases heq
    · rename_i u cs' heq
      injection heq with e1 e2
      subst e1; subst e2
      split at hl
      · cases hr : litsOf cs with
        | none => simp [hr] at hl
        | some us' =>
          simp only [hr, Option.map_some, Option.some.injEq] at hl
          subst hl
          rw [RD_lit h1, litsOf_sound h2 hr]
      · cases hl
    · cases hl
theorem exactV_sound {E : Env} {w : World} {r : V} {v x : Value} (h : RV E w r v) (hx : exactV r = some x) : v = x := by
  unfold exactV at hx
  split at hx
  · split at hx
    · injection hx with hx; subst hx; exact RD_lit h
    · cases hx
  · rename_i cs
    cases hr : litsOf cs with
    | none => simp [hr] at hx
    | some us =>
      simp only [hr, Option.map_some, Option.some.injEq] at hx
      subst hx
      obtain ⟨vs, rfl, h1⟩ := h
      rw [litsOf_sound h1 hr]
  · cases hx
theorem litsOf_is {E : Env} {w : World} : ∀ {cs : List V} {us : List Value}, litsOf cs = some us → RVs E w cs us
  | [], us, hl => by
    injection hl with hl; subst hl; rfl
  | c :: cs, us, hl => by
    unfold litsOf at hl
    split at hl
    · rename_i heq; cases heq
    · rename_i u cs' heq
      injection heq with e1 e2
      subst e1; subst e2
      split at hl
      · rename_i hp
        cases hr : litsOf cs with
        | none => simp [hr] at hl
        | some us' =>
          simp only [hr, Option.map_some, Option.some.injEq] at hl
          subst hl
          exact ⟨u, us', rfl, ⟨rfl, hp⟩, litsOf_is hr⟩
      · cases hl
    · cases hl
theorem exactV_is {E : Env} {w : World} {r : V} {x : Value} (hx : exactV r = some x) : RV E w r x := by
  unfold exactV at hx
  split at hx
  · split at hx
    · rename_i hp
      injection hx with hx; subst hx; exact ⟨rfl, hp⟩
    · cases hx
  · rename_i cs
    cases hr : litsOf cs with
    | none => simp [hr] at hx
    | some us =>
      simp only [hr, Option.map_some, Option.some.injEq] at hx
      subst hx
      exact ⟨us, rfl, litsOf_is hr⟩
  · cases hx

/-- a call, in a region of whatever kind, that hands back literals -/
theorem Chain.callX {q : Bool} {P : Program} {ops : Array Oper} {o : Oper} {l : List Oper} {S : St} {Q' : St → Prop} {c : Call} {d : Nat} {f : FuncId} {caps args : List V} {r : V} {x : Value} (hw : wantedV ops S o = some true) (ho : o.op = .call c) (hd : o.dst = some d)
    (hcal : calleeV S c = some (f, caps)) (hargs : mapO (viewV S.hp) (c.args.toList.map S.ev ++ caps) = some args) (hent : Rp.Enters P f) (hF : Fun P f args (fun r' _ => r' = r)) (hx : exactV r = some x)
    (hrest : Chain q P ops l (S.put (some d) r) Q') : Chain q P ops (o :: l) S Q' := by
  have go : ∀ fx a w E, Mod fx S E a w → Region.wanted o (yielded ops a.tmps) = true ∧ ∃ vals, (∀ w', (execOp a.eval o).run P w' = .ok (.enter f vals) w') ∧ ∀ w', Grow w w' → Calls P f vals w' fun e w'' => e = .returned x ∧ Grow w' w'' := by
    intro fx a w E m
    obtain ⟨cv, hcv, hrun⟩ := calleeV_sound m.ev hcal hent ho
    refine ⟨wantedV_sound m hw, _, hrun, fun w' hg => ?_⟩
    have m' := m.grow hg
    have hall : RVs E w' (c.args.toList.map S.ev ++ caps) (c.args.toList.map a.eval ++ cv) := RVs_append (RVs_map m'.ev c.args.toList) (RVs.keep (hg.keeps m.ok) (fun _ h => h) rfl _ _ hcv)
    have seen : ∀ b, (E.seen S.hp).Z b → b < w'.heap.size := fun b hb => by
      rcases hb with hb | ⟨i, hi, hn, rfl⟩
      · exact m'.ok.zlt b hb
      · cases hk : S.hp i with
        | none => exact absurd hk hi
        | some k => exact (m'.ok.hold i k hk).block_lt hn
    have hvs := viewVs_sound m'.ok (oneE default (E.seen S.hp).Z) rfl hall hargs
    refine (hF w' (E.seen S.hp).Z _ seen hvs).mono ?_
    rintro e w'' ⟨v, ℓ, Z', r', k, rfl, rfl, hr, hk, hz, hg'⟩
    exact ⟨by rw [exactV_sound hr hx], hg'⟩
  have hrx : ∀ E w, RV E w r x := fun E w => exactV_is hx
  cases q with
  | false =>
    intro fx a w Q'' ⟨E, m⟩ hq
    obtain ⟨hw', vals, hrun, hcall⟩ := go fx a w E m
    unfold wpList
    rw [if_pos hw']
    refine .inl ?_
    unfold Oper.wp
    rw [hrun w]
    simp only [Oper.upon, hd]
    refine (hcall w (Below.refl _ _)).mono ?_
    rintro e w' ⟨rfl, hg⟩
    exact hrest fx _ w' Q'' ⟨E, (m.grow hg).put (some d) (hrx _ _)⟩ hq
  | true =>
    intro fx a w Q'' ⟨E, m⟩ hq
    obtain ⟨hw', vals, hrun, hcall⟩ := go fx a w E m
    unfold wpQuiet
    rw [if_pos hw']
    refine ⟨x, fun w' hg => ?_, by rw [hd]; exact hrest fx _ w Q'' ⟨E, m.put (some d) (hrx _ _)⟩ hq⟩
    unfold Oper.quietAt
    rw [hrun w']
    exact ⟨rfl, (hcall w' hg).mono fun e w'' ⟨he, hg'⟩ => ⟨he, hg.trans (hg'.mono hg.size)⟩⟩

/-! ### states weakened -/
def St.setS (S : St) (t : Nat) (v : V) : St := { S with sl := fun i => if i = t then v else S.sl i }

theorem Sub.of {S S' : St} (h : ∀ fx a w E, Mod fx S E a w → ∃ E', Mod fx S' E' a w) : Sub S S' := fun fx a w ⟨E, m⟩ => h fx a w E m

/-- slots forgotten, blocks let go -/
theorem Sub.le {S S' : St} (hn : S'.nt = S.nt) (hr : S'.rts = S.rts) (hs : ∀ t, S'.sl t = .junk ∨ S'.sl t = S.sl t) (hh : ∀ i, S'.hp i = none ∨ S'.hp i = S.hp i) : Sub S S' := .of fun fx a w E m => by
  have get : ∀ i, S'.hp i ≠ none → S.hp i ≠ none := fun i h => by
    rcases hh i with h' | h'
    · exact absurd h' h
    · rw [← h']; exact h
  refine ⟨E, by rw [hn]; exact m.nt, fun t => ?_, m.dfr, ⟨fun i k hk => ?_, fun i j hi hj => m.ok.inj i j (get i hi) (get j hj), fun i hi => m.ok.apart i (get i hi), m.ok.zlt⟩, m.frame, fun i hi => m.mine i (get i hi), m.z, fun r h => by rw [hr]; exact m.roots r h⟩
  · rcases hs t with h | h
    · rw [h]; trivial
    · rw [h]; exact m.slots t
  · rcases hh i with h | h
    · rw [h] at hk; cases hk
    · rw [h] at hk; exact m.ok.hold i k hk

theorem look_mem : ∀ {l : List (Nat × V)} {i : Nat}, tlook l i = .junk ∨ ∃ p ∈ l, p.1 = i ∧ tlook l i = p.2
  | [], i => .inl rfl
  | (k, v) :: r, i => by
    simp only [tlook]
    by_cases h : i = k
    · exact .inr ⟨(k, v), .head _, h.symm, by rw [if_pos h]⟩
    · rw [if_neg h]
      rcases look_mem (l := r) (i := i) with h' | ⟨p, hp, h1, h2⟩
      · exact .inl h'
      · exact .inr ⟨p, .tail _ hp, h1, h2⟩
theorem hlook_mem : ∀ {l : List (Nat × Option Blk)} {i : Nat}, hlook l i = none ∨ ∃ p ∈ l, p.1 = i ∧ hlook l i = p.2
  | [], i => .inl rfl
  | (k, v) :: r, i => by
    simp only [hlook]
    by_cases h : i = k
    · exact .inr ⟨(k, v), .head _, h.symm, by rw [if_pos h]⟩
    · rw [if_neg h]
      rcases hlook_mem (l := r) (i := i) with h' | ⟨p, hp, h1, h2⟩
      · exact .inl h'
      · exact .inr ⟨p, .tail _ hp, h1, h2⟩

/-- tables: every row of the new one is in the old one -/
theorem Sub.table {nt : Nat} {rts : List Nat} {l l' : List (Nat × V)} {h h' : List (Nat × Option Blk)} (hl : ∀ p ∈ l', p.2 = tlook l p.1) (hh : ∀ p ∈ h', p.2 = hlook h p.1) : Sub (mk nt rts l h) (mk nt rts l' h') :=
  .le rfl rfl (fun t => (look_mem (l := l') (i := t)).imp (fun h => h) fun ⟨p, hp, h1, h2⟩ => by
    show tlook l' t = tlook l t
    rw [h2, hl p hp, h1]) (fun i => (hlook_mem (l := h') (i := i)).imp (fun h => h) fun ⟨p, hp, h1, h2⟩ => by
    show hlook h' i = hlook h i
    rw [h2, hh p hp, h1])

/-- nil as an empty row -/
theorem Sub.nilOwn {S : St} {t id T n : Nat} (ht : S.sl t = .d (.lit (.slice none 0 0))) (hid : S.rts.contains id = false) (hn : 0 < n) : Sub S (((S.kill id).setH id (some (.arr T n []))).setS t (.ref id 0 0)) := .of fun fx a w E m => by
  have hid' : id ∉ S.rts := by simpa using hid
  have m' := m.re (row := none) hid' ⟨rfl, rfl, rfl, Nat.le_refl _, fun _ _ _ => rfl⟩ (fun b hb => by cases hb) ⟨0, 0, n, 0, true⟩ (blk := .arr T n []) ⟨by simp [Env.at], by simp [Env.at], (fun e he => by cases he), hn, .inl ⟨by simp [Env.at], rfl⟩⟩ (fun h => by cases h)
  refine ⟨_, m'.nt, fun i => ?_, m'.dfr, m'.ok, m'.frame, m'.mine, m'.z, m'.roots⟩
  show RV _ w (if i = t then .ref id 0 0 else _) _
  by_cases hi : i = t
  · rw [if_pos hi]
    have hs := m.slots t
    rw [ht] at hs
    have hs := RD_lit hs
    subst hi
    exact .inl ⟨by simp [Env.at], rfl, rfl, hs⟩
  · rw [if_neg hi]
    exact m'.slots i

/-! ### tables -/
def killL (d : Nat) : List (Nat × V) → List (Nat × V)
  | [] => []
  | (k, v) :: r => (k, if v.has d then .junk else v) :: killL d r
def killB (d : Nat) : Option Blk → Option Blk
  | some (.box cs) => some (.box (killC d cs))
  | k => k
def killH (d : Nat) : List (Nat × Option Blk) → List (Nat × Option Blk)
  | [] => []
  | (k, b) :: r => (k, if k = d then none else killB d b) :: killH d r
def hupd : List (Nat × Option Blk) → Nat → Option Blk → List (Nat × Option Blk)
  | [], d, v => [(d, v)]
  | (k, u) :: r, d, v => if k = d then (d, v) :: r else (k, u) :: hupd r d v
theorem hlook_hupd (l : List (Nat × Option Blk)) (d : Nat) (v : Option Blk) (i : Nat) : hlook (hupd l d v) i = if i = d then v else hlook l i := by
  induction l with
  | nil => rfl
  | cons p r ih =>
    obtain ⟨k, u⟩ := p
    simp only [hupd]
    by_cases hk : k = d
    · subst hk
      rw [if_pos rfl]
      simp only [hlook]
      split <;> simp_all
    · rw [if_neg hk]
      simp only [hlook, ih]
      by_cases hi : i = k
      · subst hi; rw [if_pos rfl, if_neg hk, if_pos rfl]
      · rw [if_neg hi, if_neg hi]
theorem mk_setH {nt : Nat} {rts : List Nat} {l : List (Nat × V)} {h : List (Nat × Option Blk)} {d : Nat} {k : Option Blk} : (mk nt rts l h).setH d k = mk nt rts l (hupd h d k) := by
  simp only [mk, St.setH]
  congr 1
  funext i
  rw [hlook_hupd]
theorem mk_setS {nt : Nat} {rts : List Nat} {l : List (Nat × V)} {h : List (Nat × Option Blk)} {d : Nat} {v : V} : (mk nt rts l h).setS d v = mk nt rts (upd l d v) h := by
  simp only [mk, St.setS]
  congr 1
  funext i
  rw [look_upd]
theorem look_killL (d : Nat) : ∀ (l : List (Nat × V)) (i : Nat), tlook (killL d l) i = if (tlook l i).has d then .junk else tlook l i
  | [], i => by simp [tlook, killL, V.has]
  | (k, v) :: r, i => by
    by_cases h : i = k
    · simp [killL, tlook, h]
    · simp [killL, tlook, h, look_killL d r i]
theorem hlook_killH (d : Nat) : ∀ (l : List (Nat × Option Blk)) (i : Nat), hlook (killH d l) i = if i = d then none else killB d (hlook l i)
  | [], i => by simp [hlook, killH, killB]
  | (k, v) :: r, i => by
    by_cases h : i = k
    · subst h; simp [killH, hlook]
    · simp [killH, hlook, h, hlook_killH d r i]
theorem mk_kill {nt : Nat} {rts : List Nat} {l : List (Nat × V)} {h : List (Nat × Option Blk)} {d : Nat} : (mk nt rts l h).kill d = mk nt rts (killL d l) (killH d h) := by
  simp only [mk, St.kill]
  congr 1
  · funext i; rw [look_killL]; rfl
  · funext i
    rw [hlook_killH]
    by_cases hi : i = d
    · rw [if_pos hi, if_pos hi]
    · rw [if_neg hi, if_neg hi]
      show (hlook h i).map (Blk.killed d) = killB d (hlook h i)
      cases hlook h i with
      | none => rfl
      | some b => cases b <;> rfl
theorem mk_got {nt : Nat} {rts : List Nat} {l : List (Nat × V)} {h : List (Nat × Option Blk)} {d : Nat} {r : V} {k : Option Blk} (hd : d < nt) : (mk nt rts l h).got d r k = mk nt rts (upd (killL d l) d (r.ren d)) (hupd (killH d h) d (k.map (Blk.ren d))) := by
  unfold St.got
  rw [mk_kill, mk_setH, mk_put hd]

/-! ### running, what follows hidden behind a name -/
def thenK (K : List Oper → St → Prop) : Option (List Oper × St) → Prop
  | some (l, S) => K l S
  | none => False
theorem Chain.runK {P : Program} {ops : Array Oper} {l : List Oper} {S : St} {Q : St → Prop} (fz : List Nat) (n : Nat) (h : ∀ K : List Oper → St → Prop, (∀ l' S', Chain false P ops l' S' Q → K l' S') → thenK K (Ab.runM (tyOf P) fz ops n l S)) : Chain false P ops l S Q := by
  have := h _ (fun _ _ h => h)
  cases hr : Ab.runM (tyOf P) fz ops n l S with
  | none => rw [hr] at this; exact this.elim
  | some p => rw [hr] at this; exact Chain.runM fz n hr this
theorem Chain.runQ {q : Bool} {P : Program} {ops : Array Oper} {l : List Oper} {S : St} {Q : St → Prop} (n : Nat) (h : ∀ K : List Oper → St → Prop, (∀ l' S', Chain q P ops l' S' Q → K l' S') → thenK K (Ab.runN (tyOf P) ops n l S)) : Chain q P ops l S Q := by
  have := h _ (fun _ _ h => h)
  cases hr : Ab.runN (tyOf P) ops n l S with
  | none => rw [hr] at this; exact this.elim
  | some p => rw [hr] at this; exact Chain.run n hr this
end Go.Ab
