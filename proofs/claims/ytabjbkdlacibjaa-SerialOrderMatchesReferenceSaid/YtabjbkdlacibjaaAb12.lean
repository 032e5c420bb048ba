/- The abstract machine: calls. -/
import Derived.Test.YtabjbkdlacibjaaAb11
namespace Go.Ab
open Go.RowKit

/-! ### what a callee sees of own blocks: data -/
def mapO {α β : Type} (g : α → Option β) : List α → Option (List β)
  | [] => some []
  | x :: xs => match g x, mapO g xs with
    | some y, some ys => some (y :: ys)
    | _, _ => none

def viewD (H : Heap) : Nat → V → Option D
  | _, .d x => some x
  | _, .ref id off len => match H id with
    | some (.arr _ _ es) => if off + len ≤ es.length then some (.sl ((es.drop off).take len)) else none
    | _ => none
  | k + 1, .ptr id i off => match cellsAt H (.ptr id i off) with
    | some cs => (mapO (viewD H k) cs).map .pim
    | none => none
  | k + 1, .fn f caps => (mapO (viewD H k) caps).map (.fn f)
  | _, _ => none

def viewV (H : Heap) : V → Option V
  | .agg cs => (mapO (viewD H 2) cs).map fun ds => .agg (ds.map .d)
  | .dx es => some (.dx es)
  | .d x => some (.d x)
  | .fn f caps => (mapO (viewD H 2) caps).map fun ds => .fn f (ds.map .d)
  | v => (viewD H 3 v).map .d

def Env.seen (E : Env) (H : Heap) : Env := { E with Z := fun b => E.Z b ∨ lof E H b }

theorem viewDs_sound {E E' : Env} {w : World} {g : V → Option D} (hg : ∀ c d v, RV E w c v → g c = some d → RD w E'.Z d v) : ∀ {cs : List V} {vs : List Value} {ds : List D}, RVs E w cs vs → mapO g cs = some ds → RDs w E'.Z ds vs
  | [], vs, ds, h, hm => by injection hm with hm; subst hm; exact h
  | c :: cs, vs, ds, ⟨v, r, h, h1, h2⟩, hm => by
    simp only [mapO] at hm
    split at hm
    · rename_i y ys hy hys
      injection hm with hm; subst hm; subst h
      exact ⟨v, r, rfl, hg _ _ _ h1 hy, viewDs_sound hg h2 hys⟩
    · cases hm

theorem viewD_sound {E : Env} {H : Heap} {w : World} (ok : E.ok H w) : ∀ (k : Nat) (c : V) (d : D) (v : Value), RV E w c v → viewD H k c = some d → RD w (E.seen H).Z d v := by
  have hd : ∀ (x : D) (v : Value), RD w E.Z x v → RD w (E.seen H).Z x v := fun x v h => RD.keep (fun _ _ => rfl) (fun _ h => .inl h) x v h
  have href : ∀ (id off len : Nat) (d : D) (v : Value), RV E w (.ref id off len) v → (match H id with | some (.arr _ _ es) => if off + len ≤ es.length then some (D.sl ((es.drop off).take len)) else none | _ => none) = some d → RD w (E.seen H).Z d v := by
    intro id off len d v h hv
    split at hv
    · rename_i T n es hH
      split at hv
      · rename_i hle
        injection hv with hv; subst hv
        obtain ⟨g1, g2, g3, g4, g5⟩ := ok.hold _ _ hH
        have hl : ((es.drop off).take len).length = len := by rw [List.length_take, List.length_drop]; omega
        rcases h with ⟨h1, h2, h3, rfl⟩ | ⟨h1, h2, a, rfl, h4⟩
        · subst h3
          exact ⟨none, 0, by rw [hl], by omega, Nat.zero_le _, fun _ => rfl, fun h => absurd (by simp) h⟩
        · rcases g5 with ⟨g6, _⟩ | ⟨_, c, flat, k1, k2, k3, k4, k5, k6⟩
          · rw [h1] at g6; cases g6
          · have hz : (E.seen H).Z (E.loc id).b := .inr ⟨id, by rw [hH]; simp, h1, rfl⟩
            refine ⟨_, _, by rw [hl], by omega, by omega, (fun h => by cases h), fun hne => ?_⟩
            by_cases hc : off = 0 ∨ off < (E.loc id).cap
            · have ha := h4 hc
              rw [g2, g1, Nat.zero_add] at ha
              refine ⟨_, _, n, (flat.drop (off * n)).take (len * n), rfl, hz, fun e he => g3 e (List.mem_of_mem_drop (List.mem_of_mem_take he)), RDe.keep (fun _ _ => rfl) (fun _ h => .inl h) _ _ (RDe_take len (RDe_drop off k5 g3) (fun e he => g3 e (List.mem_of_mem_drop he))), ?_⟩
              have := rangeAt_take (rangeAt_drop (arr_range k1 ⟨_, k6⟩) (off * n)) (len * n)
              rw [Nat.zero_add] at this
              rw [ha]; exact this
            · have h0 : len = 0 := by omega
              subst h0
              exact absurd (by simp) hne
      · cases hv
    · cases hv
  intro k
  induction k with
  | zero =>
    intro c d v h hv
    cases c with
    | d x => injection hv with hv; subst hv; exact hd _ _ h
    | ref id off len => exact href id off len d v h hv
    | _ => simp [viewD] at hv
  | succ k ih =>
    intro c d v h hv
    cases c with
    | d x => injection hv with hv; subst hv; exact hd _ _ h
    | ref id off len => exact href id off len d v h hv
    | ptr id i off =>
      simp only [viewD] at hv
      split at hv
      · rename_i cs hcs
        cases hm : mapO (viewD H k) cs with
        | none => simp [hm] at hv
        | some ds =>
          simp only [hm, Option.map_some, Option.some.injEq] at hv
          subst hv
          obtain ⟨b, o, vs, rfl, h1, h2, h3, h4⟩ := cellsAt_sound ok h hcs
          obtain ⟨hn, hp⟩ := h
          injection hp with hp
          injection hp with hp
          injection hp with hb ho
          refine ⟨b, o, vs, rfl, .inr ⟨id, ?_, hn, hb.symm⟩, viewDs_sound (fun c d v h hv => ih c d v h hv) h1 hm, h2⟩
          intro hH
          simp [cellsAt, hH] at hcs
      · cases hv
    | fn f caps =>
      simp only [viewD] at hv
      cases hm : mapO (viewD H k) caps with
      | none => simp [hm] at hv
      | some ds =>
        simp only [hm, Option.map_some, Option.some.injEq] at hv
        subst hv
        obtain ⟨vs, rfl, h1⟩ := h
        exact ⟨vs, rfl, viewDs_sound (fun c d v h hv => ih c d v h hv) h1 hm⟩
    | _ => simp [viewD] at hv

theorem viewV_sound {E : Env} {H : Heap} {w : World} (ok : E.ok H w) (E' : Env) (hE : E'.Z = (E.seen H).Z) : ∀ (c : V) (c' : V) (v : Value), RV E w c v → viewV H c = some c' → RV E' w c' v := by
  intro c c' v h hv
  have one : ∀ d, viewD H 3 c = some d → RV E' w (.d d) v := fun d hd => by
    show RD w E'.Z d v
    rw [hE]; exact viewD_sound ok 3 c d v h hd
  have hdx : ∀ es, RD w E.Z (.sl es) v → RD w E'.Z (.sl es) v := fun es h => by rw [hE]; exact RD.keep (fun _ _ => rfl) (fun _ h => .inl h) _ _ h
  unfold viewV at hv
  split at hv
  · rename_i cs
    cases hm : mapO (viewD H 2) cs with
    | none => simp [hm] at hv
    | some ds =>
      simp only [hm, Option.map_some, Option.some.injEq] at hv
      subst hv
      obtain ⟨vs, rfl, h1, h2⟩ := h
      have := viewDs_sound (E' := E') (fun c d v h hv => by rw [hE]; exact viewD_sound ok 2 c d v h hv) h2 hm
      exact ⟨vs, rfl, fun c hc => by obtain ⟨x, _, rfl⟩ := List.mem_map.1 hc; rfl, RVs_d.2 this⟩
  · injection hv with hv; subst hv
    exact ⟨hdx _ h.1, h.2⟩
  · rename_i x
    injection hv with hv; subst hv
    exact one _ rfl
  · rename_i f caps
    cases hm : mapO (viewD H 2) caps with
    | none => simp [hm] at hv
    | some ds =>
      simp only [hm, Option.map_some, Option.some.injEq] at hv
      subst hv
      obtain ⟨vs, rfl, h2⟩ := h
      have := viewDs_sound (E' := E') (fun c d v h hv => by rw [hE]; exact viewD_sound ok 2 c d v h hv) h2 hm
      exact ⟨vs, rfl, RVs_d.2 this⟩
  · cases hd : viewD H 3 c with
    | none => simp [hd] at hv
    | some d =>
      simp only [hd, Option.map_some, Option.some.injEq] at hv
      subst hv
      exact one d hd

theorem viewVs_sound {E : Env} {H : Heap} {w : World} (ok : E.ok H w) (E' : Env) (hE : E'.Z = (E.seen H).Z) : ∀ {cs cs' : List V} {vs : List Value}, RVs E w cs vs → mapO (viewV H) cs = some cs' → RVs E' w cs' vs
  | [], cs', vs, h, hm => by injection hm with hm; subst hm; exact h
  | c :: cs, cs', vs, ⟨v, r, h, h1, h2⟩, hm => by
    simp only [mapO] at hm
    split at hm
    · rename_i y ys hy hys
      injection hm with hm; subst hm; subst h
      exact ⟨v, r, rfl, viewV_sound ok E' hE _ _ _ h1 hy, viewVs_sound ok E' hE h2 hys⟩
    · cases hm

/-! ### contracts of calls that only read -/
def oneE (ℓ : Loc) (Z : Nat → Prop) : Env := ⟨fun _ => ℓ, Z⟩

/-- f, called with these values, hands back r and, if any, one row or block of its own (its name in r: whatever) -/
def Fun (P : Program) (f : FuncId) (args : List V) (Q : V → Option Blk → Prop) : Prop :=
  ∀ (w : World) (Z : Nat → Prop) (vals : List Value), (∀ b, Z b → b < w.heap.size) → RVs (oneE default Z) w args vals → Calls P f vals.toArray w fun e w' =>
    ∃ v ℓ Z' r k, e = .returned v ∧ Q r k ∧ RV (oneE ℓ Z') w' r v ∧ (∀ blk, k = some blk → Hold (oneE ℓ Z') w' 0 blk ∧ (ℓ.nil = false → w.heap.size ≤ ℓ.b ∧ ¬ Z' ℓ.b)) ∧
      (∀ b, Z' b → (Z b ∨ w.heap.size ≤ b) ∧ b < w'.heap.size) ∧ Grow w w'

theorem Fun.mono {P : Program} {f : FuncId} {args : List V} {Q Q' : V → Option Blk → Prop} (h : Fun P f args Q) (hq : ∀ r k, Q r k → Q' r k) : Fun P f args Q' :=
  fun w Z vals hz hv => (h w Z vals hz hv).mono fun _ _ ⟨v, ℓ, Z', r, k, h1, h2, h3⟩ => ⟨v, ℓ, Z', r, k, h1, hq _ _ h2, h3⟩

mutual
/-- the name id alone -/
def V.only (id : Nat) : V → Bool
  | .ref i _ _ => i == id
  | .ptr i _ _ => i == id
  | .mref i => i == id
  | .agg cs => onlyL id cs
  | .tup cs => onlyL id cs
  | .fn _ cs => onlyL id cs
  | .d _ | .dx _ | .junk | .hole => true
def onlyL (id : Nat) : List V → Bool
  | [] => true
  | c :: cs => c.only id && onlyL id cs
end

mutual
theorem RV.closedTo {E E' : Env} {w : World} (hZ : ∀ b, E.Z b → E'.Z b) : ∀ (c : V) (x : Value), c.closed = true → RV E w c x → RV E' w c x
  | .d x, v, _, h => RD.keep (fun _ _ => rfl) hZ x v h
  | .ref i off len, v, hh, _ => by cases hh
  | .ptr i k off, v, hh, _ => by cases hh
  | .mref i, v, hh, _ => by cases hh
  | .agg cs, v, hh, ⟨vs, h1, h2, h3⟩ => ⟨vs, h1, h2, RVs.closedTo hZ cs vs hh h3⟩
  | .tup cs, v, hh, ⟨vs, h1, h2⟩ => ⟨vs, h1, RVs.closedTo hZ cs vs hh h2⟩
  | .fn f cs, v, hh, ⟨vs, h1, h2⟩ => ⟨vs, h1, RVs.closedTo hZ cs vs hh h2⟩
  | .dx es, v, _, h => ⟨RD.keep (fun _ _ => rfl) hZ _ v h.1, h.2⟩
  | .hole, _, _, h => h
  | .junk, _, hh, _ => by cases hh
theorem RVs.closedTo {E E' : Env} {w : World} (hZ : ∀ b, E.Z b → E'.Z b) : ∀ (cs : List V) (vs : List Value), closedL cs = true → RVs E w cs vs → RVs E' w cs vs
  | [], vs, _, h => h
  | c :: cs, vs, hh, ⟨v, r, h1, h2, h3⟩ => by
    simp only [closedL, Bool.and_eq_true] at hh
    exact ⟨v, r, h1, RV.closedTo hZ c v hh.1 h2, RVs.closedTo hZ cs r hh.2 h3⟩
end
theorem RV.closed {E : Env} {w : World} (ℓ : Loc) (c : V) (x : Value) (hc : c.closed = true) (h : RV E w c x) : RV (oneE ℓ E.Z) w c x := RV.closedTo (E := E) (E' := oneE ℓ E.Z) (fun _ h => h) c x hc h
theorem RVs.closed {E : Env} {w : World} (ℓ : Loc) (cs : List V) (vs : List Value) (hc : closedL cs = true) (h : RVs E w cs vs) : RVs (oneE ℓ E.Z) w cs vs := RVs.closedTo (E := E) (E' := oneE ℓ E.Z) (fun _ h => h) cs vs hc h
theorem REs.closedTo {E E' : Env} {w : World} (hZ : ∀ b, E.Z b → E'.Z b) : ∀ (l : List (MKey × V)) (es : List MapEntry), REs E w l es → REs E' w l es
  | [], es, h => h
  | (k, v) :: l, es, ⟨e, r, h1, h2, h3, h4, h5⟩ => ⟨e, r, h1, h2, RV.closedTo hZ v _ h4 h3, h4, REs.closedTo hZ l r h5⟩

mutual
theorem RV.only {E E' : Env} {w : World} {id : Nat} (hZ : ∀ b, E.Z b → E'.Z b) (hl : ∀ i, i = id → E'.loc i = E.loc id) : ∀ (c : V) (x : Value), c.only id = true → RV E w c x → RV E' w c x
  | .d x, v, _, h => RD.keep (fun _ _ => rfl) hZ x v h
  | .ref i off len, v, hh, h => by
    have : i = id := by simpa [V.only] using hh
    subst this
    unfold RV at h ⊢
    rw [hl i rfl]; exact h
  | .ptr i k off, v, hh, h => by
    have : i = id := by simpa [V.only] using hh
    subst this
    unfold RV at h ⊢
    rw [hl i rfl]; exact h
  | .mref i, v, hh, h => by
    have : i = id := by simpa [V.only] using hh
    subst this
    unfold RV at h ⊢
    rw [hl i rfl]; exact h
  | .agg cs, v, hh, ⟨vs, h1, h2, h3⟩ => ⟨vs, h1, h2, RVs.only hZ hl cs vs hh h3⟩
  | .tup cs, v, hh, ⟨vs, h1, h2⟩ => ⟨vs, h1, RVs.only hZ hl cs vs hh h2⟩
  | .fn f cs, v, hh, ⟨vs, h1, h2⟩ => ⟨vs, h1, RVs.only hZ hl cs vs hh h2⟩
  | .dx es, v, _, h => ⟨RD.keep (fun _ _ => rfl) hZ _ v h.1, h.2⟩
  | .hole, _, _, h => h
  | .junk, _, _, _ => trivial
theorem RVs.only {E E' : Env} {w : World} {id : Nat} (hZ : ∀ b, E.Z b → E'.Z b) (hl : ∀ i, i = id → E'.loc i = E.loc id) : ∀ (cs : List V) (vs : List Value), onlyL id cs = true → RVs E w cs vs → RVs E' w cs vs
  | [], vs, _, h => h
  | c :: cs, vs, hh, ⟨v, r, h1, h2, h3⟩ => by
    simp only [onlyL, Bool.and_eq_true] at hh
    exact ⟨v, r, h1, RV.only hZ hl c v hh.1 h2, RVs.only hZ hl cs r hh.2 h3⟩
end

mutual
/-- every name becomes d -/
def V.ren (d : Nat) : V → V
  | .ref _ off len => .ref d off len
  | .ptr _ i off => .ptr d i off
  | .mref _ => .mref d
  | .agg cs => .agg (renL d cs)
  | .tup cs => .tup (renL d cs)
  | .fn f cs => .fn f (renL d cs)
  | .d x => .d x
  | .dx es => .dx es
  | .hole => .hole
  | .junk => .junk
def renL (d : Nat) : List V → List V
  | [] => []
  | c :: cs => c.ren d :: renL d cs
end

theorem cell_ren {d : Nat} (c : V) : (c.ren d).cell = c.cell := by cases c <;> rfl
theorem renL_cell {d : Nat} : ∀ {cs : List V}, (∀ c ∈ cs, c.cell = true) → ∀ c ∈ renL d cs, c.cell = true
  | [], _, c, hc => by cases hc
  | x :: cs, h, c, hc => by
    rcases List.mem_cons.1 hc with rfl | hc
    · rw [cell_ren]; exact h x (.head _)
    · exact renL_cell (fun c h' => h c (.tail _ h')) c hc
mutual
theorem RV.ren {E' : Env} {ℓ : Loc} {Z : Nat → Prop} {w : World} {d : Nat} (hl : E'.loc d = ℓ) (hZ : ∀ b, Z b → E'.Z b) : ∀ (c : V) (x : Value), RV (oneE ℓ Z) w c x → RV E' w (c.ren d) x
  | .d x, v, h => RD.keep (fun _ _ => rfl) hZ x v h
  | .ref i off len, v, h => by
    simp only [V.ren]
    unfold RV at h ⊢
    rw [hl]; exact h
  | .ptr i k off, v, h => by
    simp only [V.ren]
    unfold RV at h ⊢
    rw [hl]; exact h
  | .mref i, v, h => by
    simp only [V.ren]
    unfold RV at h ⊢
    rw [hl]; exact h
  | .agg cs, v, ⟨vs, h1, h2, h3⟩ => ⟨vs, h1, renL_cell h2, RVs.ren hl hZ cs vs h3⟩
  | .tup cs, v, ⟨vs, h1, h2⟩ => ⟨vs, h1, RVs.ren hl hZ cs vs h2⟩
  | .fn f cs, v, ⟨vs, h1, h2⟩ => ⟨vs, h1, RVs.ren hl hZ cs vs h2⟩
  | .dx es, v, h => ⟨RD.keep (fun _ _ => rfl) hZ _ v h.1, h.2⟩
  | .hole, _, h => h
  | .junk, _, _ => trivial
theorem RVs.ren {E' : Env} {ℓ : Loc} {Z : Nat → Prop} {w : World} {d : Nat} (hl : E'.loc d = ℓ) (hZ : ∀ b, Z b → E'.Z b) : ∀ (cs : List V) (vs : List Value), RVs (oneE ℓ Z) w cs vs → RVs E' w (renL d cs) vs
  | [], vs, h => h
  | c :: cs, vs, ⟨v, r, h1, h2, h3⟩ => ⟨v, r, h1, RV.ren hl hZ c v h2, RVs.ren hl hZ cs r h3⟩
end

/-- a block's names -/
def Blk.only (id : Nat) : Blk → Bool
  | .arr .. | .mp .. => true
  | .box cs => onlyL id cs
def Blk.ren (d : Nat) : Blk → Blk
  | .arr T n es => .arr T n es
  | .box cs => .box (renL d cs)
  | .mp kd l => .mp kd l

/-- ENTERING: from a body's run to the contract -/
theorem Fun.of {P : Program} {f : FuncId} {fn : Func} {c : Code} {args : List V} {Q : V → Option Blk → Prop} (hf : P.funcs[f]? = some fn) (hb : fn.body = some c) (hle : args.length ≤ fn.ntmps) (hargs : args.all (fun a => a.only 0) = true)
    (h : AW P c (mk fn.ntmps [] (enterL args 0) []) fun e S' => (e = .normal ∨ e = .ret) ∧ ∃ r, outV (tyOf P) fn.results.toList S' = some r ∧ ∃ id, r.only id = true ∧ (match S'.hp id with | some (.arr ..) | none => True | _ => False) ∧ Q r (S'.hp id)) : Fun P f args Q := by
  intro w Z vals hz hv
  have hC := Ctr.of (P := P) (f := f) (args := args) (h0 := []) (rts := []) (Q := fun r H => ∃ id, r.only id = true ∧ (match H id with | some (.arr ..) | none => True | _ => False) ∧ Q r (H id)) hf hb hle
    (h.mono fun e S ⟨h1, r, h2, id, h3, h4, h5⟩ => ⟨h1, r, h2, id, h3, h4, h5⟩)
  refine (hC w (oneE default Z) vals ⟨fun id k hk => (by cases hk), fun i j hi => absurd rfl hi, fun i hi => absurd rfl hi, hz⟩ hv).mono ?_
  rintro e w' ⟨v, E', r, H1, rfl, ⟨id, h1, h2, h3⟩, hr, hp⟩
  refine ⟨v, E'.loc id, E'.Z, r, H1 id, rfl, h3, RV.only (E := E') (E' := oneE (E'.loc id) E'.Z) (id := id) (fun _ h => h) (fun i hi => rfl) r v h1 hr, fun blk hblk => ?_, fun b hb => ⟨?_, hp.ok.zlt b hb⟩, ⟨hp.frame.os, hp.frame.tape, hp.frame.output, hp.frame.size, fun k hk => hp.frame.block k hk (fun ⟨i, hi, _⟩ => hi rfl)⟩⟩
  · have hh := hp.ok.hold id blk hblk
    refine ⟨?_, fun hn => ⟨?_, hp.ok.apart id (by rw [hblk]; simp) hn⟩⟩
    · cases blk with
      | arr T n es => exact hh
      | box cs => rw [hblk] at h2; exact h2.elim
      | mp kd l => rw [hblk] at h2; exact h2.elim
    · rcases hp.mine id (by rw [hblk]; simp) hn with h | ⟨i, hi, _⟩
      · exact h
      · exact absurd rfl hi
  · rcases hp.z b hb with h | h | ⟨i, hi, _⟩
    · exact .inl h
    · exact .inr h
    · exact absurd rfl hi

/-- which function a call enters, and what its closure has captured -/
def calleeV (S : St) (c : Call) : Option (FuncId × List V) :=
  match c.callee with
  | .value fo => match S.ev fo with
    | .d (.lit (.func (.func f) _ _)) => some (f, [])
    | .fn (.func f) caps => some (f, caps)
    | .d (.fn (.func f) caps) => some (f, caps.map .d)
    | _ => none
  | _ => none

theorem calleeV_sound {P : Program} {S : St} {E : Env} {w : World} {ρ : Operand → Value} (hev : ∀ x, RV E w (S.ev x) (ρ x)) {c : Call} {f : FuncId} {caps : List V} (h : calleeV S c = some (f, caps)) (hent : Rp.Enters P f) {o : Oper} (ho : o.op = .call c) :
    ∃ cv : List Value, RVs E w caps cv ∧ ∀ w', (execOp ρ o).run P w' = .ok (.enter f ((c.args.toList.map ρ) ++ cv).toArray) w' := by
  unfold calleeV at h
  split at h
  · rename_i fo hcal
    have hfo := hev fo
    have key : ∀ cv : List Value, ρ fo = .func (.func f) #[] cv.toArray → ∀ w', (execOp ρ o).run P w' = .ok (.enter f ((c.args.toList.map ρ) ++ cv).toArray) w' := fun cv hv w' => by
      unfold execOp
      rw [ho]
      have e : (#[] ++ c.args.map ρ) ++ cv.toArray = ((c.args.toList.map ρ) ++ cv).toArray := by
        apply Array.ext'
        simp
      simp only [resolve, hcal, hv, Deferred.ofValue, invoke, Sem.run_bind, Sem.run_pure, Result.andThen_ok, e]
      exact hent _ _
    split at h
    · rename_i g a b hg
      simp only [Option.some.injEq, Prod.mk.injEq] at h
      obtain ⟨rfl, rfl⟩ := h
      rw [hg] at hfo
      obtain ⟨hv, hp⟩ := hfo
      simp only [plain, Bool.and_eq_true, Array.isEmpty_iff] at hp
      obtain ⟨rfl, rfl⟩ := hp
      exact ⟨[], rfl, key [] hv⟩
    · rename_i g cs hg
      simp only [Option.some.injEq, Prod.mk.injEq] at h
      obtain ⟨rfl, rfl⟩ := h
      rw [hg] at hfo
      obtain ⟨vs, hv, hr⟩ := hfo
      exact ⟨vs, hr, key vs hv⟩
    · rename_i g cs hg
      simp only [Option.some.injEq, Prod.mk.injEq] at h
      obtain ⟨rfl, rfl⟩ := h
      rw [hg] at hfo
      obtain ⟨vs, hv, hr⟩ := hfo
      exact ⟨vs, RVs_d.2 hr, key vs hv⟩
    · cases h
  · cases h

theorem RVs_map {E : Env} {w : World} {ρ : Operand → Value} {ev : Operand → V} (hev : ∀ x, RV E w (ev x) (ρ x)) : ∀ l : List Operand, RVs E w (l.map ev) (l.map ρ)
  | [] => rfl
  | x :: l => ⟨_, _, rfl, hev x, RVs_map hev l⟩

/-! data without references -/
mutual
def V.flat : V → Bool
  | .d (.lit _) => true
  | .d _ => false
  | .dx _ => false
  | .agg cs => flatL cs
  | .tup cs => flatL cs
  | .fn _ cs => flatL cs
  | .ref .. | .ptr .. | .mref _ | .junk | .hole => true
def flatL : List V → Bool
  | [] => true
  | c :: cs => c.flat && flatL cs
end
def D.flat : D → Bool
  | .lit _ => true
  | _ => false
def Blk.flat : Blk → Prop
  | .arr _ _ es => ∀ e ∈ es, ∀ x ∈ e, x.flat = true
  | .box cs => flatL cs = true
  | .mp _ l => ∀ p ∈ l, p.2.flat = true

theorem RDs_flat {w : World} {Z Z' : Nat → Prop} : ∀ {e : List D} {vs : List Value}, (∀ x ∈ e, x.flat = true) → RDs w Z e vs → RDs w Z' e vs
  | [], _, _, h => h
  | x :: e, _, hf, ⟨v, r, h, h1, h2⟩ => by
    subst h
    refine ⟨v, r, rfl, ?_, RDs_flat (fun y hy => hf y (.tail _ hy)) h2⟩
    have := hf x (.head _)
    cases x <;> first | exact h1 | (simp [D.flat] at this)
theorem RDe_flat {w : World} {Z Z' : Nat → Prop} : ∀ {es : List (List D)} {vs : List Value}, (∀ e ∈ es, ∀ x ∈ e, x.flat = true) → RDe w Z es vs → RDe w Z' es vs
  | [], _, _, h => h
  | e :: es, _, hf, ⟨a, r, h, h1, h2⟩ => by
    subst h
    exact ⟨a, r, rfl, RDs_flat (hf e (.head _)) h1, RDe_flat (fun e he => hf e (.tail _ he)) h2⟩
mutual
theorem RV.toFlat {ℓ : Loc} {Z Z' : Nat → Prop} {w : World} : ∀ (c : V) (x : Value), c.flat = true → RV (oneE ℓ Z) w c x → RV (oneE ℓ Z') w c x
  | .d (.lit u), v, _, h => h
  | .d (.sl _), v, hh, _ => by cases hh
  | .d (.pim _), v, hh, _ => by cases hh
  | .d (.ifc _ _), v, hh, _ => by cases hh
  | .d (.fn _ _), v, hh, _ => by cases hh
  | .ref i off len, v, _, h => h
  | .ptr i k off, v, _, h => h
  | .mref i, v, _, h => h
  | .agg cs, v, hh, ⟨vs, h1, h2, h3⟩ => ⟨vs, h1, h2, RVs.toFlat cs vs hh h3⟩
  | .tup cs, v, hh, ⟨vs, h1, h2⟩ => ⟨vs, h1, RVs.toFlat cs vs hh h2⟩
  | .fn f cs, v, hh, ⟨vs, h1, h2⟩ => ⟨vs, h1, RVs.toFlat cs vs hh h2⟩
  | .dx es, v, hh, _ => by cases hh
  | .hole, _, _, h => h
  | .junk, _, _, _ => trivial
theorem RVs.toFlat {ℓ : Loc} {Z Z' : Nat → Prop} {w : World} : ∀ (cs : List V) (vs : List Value), flatL cs = true → RVs (oneE ℓ Z) w cs vs → RVs (oneE ℓ Z') w cs vs
  | [], vs, _, h => h
  | c :: cs, vs, hh, ⟨v, r, h1, h2, h3⟩ => by
    simp only [flatL, Bool.and_eq_true] at hh
    exact ⟨v, r, h1, RV.toFlat c v hh.1 h2, RVs.toFlat cs r hh.2 h3⟩
end
theorem Hold.toFlat {ℓ : Loc} {Z Z' : Nat → Prop} {w : World} {i : Nat} {k : Blk} (hf : k.flat) (h : Hold (oneE ℓ Z) w i k) : Hold (oneE ℓ Z') w i k := by
  cases k with
  | arr T n es =>
    obtain ⟨h1, h2, h3, h4, h5⟩ := h
    refine ⟨h1, h2, h3, h4, h5.imp (fun h => h) ?_⟩
    rintro ⟨hn, c, flat, k1, k2, k3, k4, k5, k6⟩
    exact ⟨hn, c, flat, k1, k2, k3, k4, RDe_flat hf k5, k6⟩
  | box cs =>
    obtain ⟨h1, h2, vs, h3, h4⟩ := h
    exact ⟨h1, h2, vs, RVs.toFlat cs vs hf h3, h4⟩
  | mp kd l =>
    obtain ⟨h1, h2, es, clock, h3, h4, h5⟩ := h
    have key : ∀ (l : List (MKey × V)) (es : List MapEntry), (∀ p ∈ l, p.2.flat = true) → REs (oneE ℓ Z) w l es → REs (oneE ℓ Z') w l es := by
      intro l
      induction l with
      | nil => intro es _ h; exact h
      | cons p l ih =>
        obtain ⟨k, v⟩ := p
        rintro es hf ⟨e, r, g1, g2, g3, g4, g5⟩
        exact ⟨e, r, g1, g2, RV.toFlat v _ (hf (k, v) (.head _)) g3, g4, ih r (fun p hp => hf p (.tail _ hp)) g5⟩
    exact ⟨h1, h2, es, clock, h3, h4, key l _ hf h5⟩

/-- the state behind a call -/
def St.got (S : St) (d : Nat) (r : V) (k : Option Blk) : St := (((S.kill d).setH d (k.map (Blk.ren d))).put (some d) (r.ren d))

theorem Hold.ren {E' : Env} {ℓ : Loc} {Z : Nat → Prop} {w : World} {d i : Nat} {k : Blk} (hl : E'.loc d = ℓ) (hZ : ∀ b, Z b → E'.Z b) (h : Hold (oneE ℓ Z) w i k) : Hold E' w d (k.ren d) := by
  cases k with
  | arr T n es =>
    obtain ⟨h1, h2, h3, h4, h5⟩ := h
    unfold Hold Blk.ren
    simp only
    rw [hl]
    refine ⟨h1, h2, h3, h4, h5.imp (fun h => h) ?_⟩
    rintro ⟨hn, c, flat, k1, k2, k3, k4, k5, k6⟩
    exact ⟨hn, c, flat, k1, k2, k3, k4, RDe.keep (fun _ _ => rfl) hZ _ _ k5, k6⟩
  | box cs =>
    obtain ⟨h1, h2, vs, h3, h4⟩ := h
    unfold Hold Blk.ren
    simp only
    rw [hl]
    exact ⟨h1, renL_cell h2, vs, RVs.ren hl hZ cs vs h3, h4⟩
  | mp kd l =>
    obtain ⟨h1, h2, es, clock, h3, h4, h5⟩ := h
    unfold Hold Blk.ren
    simp only
    rw [hl]
    exact ⟨h1, h2, es, clock, h3, h4, REs.closedTo hZ l _ h5⟩

theorem Mod.got {fx : Fx} {S : St} {E : Env} {a : Act} {w w' : World} (m : Mod fx S E a w) (hg : Grow w w') {d : Nat} (hid : d ∉ S.rts) {r : V} {k : Option Blk} {ℓ : Loc} {Z' : Nat → Prop} {v : Value} (hr : RV (oneE ℓ Z') w' r v)
    (hk : ∀ blk, k = some blk → Hold (oneE ℓ Z') w' 0 blk ∧ (ℓ.nil = false → w.heap.size ≤ ℓ.b ∧ ¬ Z' ℓ.b)) (hz : ∀ b, Z' b → (E.Z b ∨ w.heap.size ≤ b) ∧ b < w'.heap.size) : Models fx (S.got d r k) (a.put (some d) v) w' := by
  have m1 := m.growZ hg (Zn := fun b => Z' b ∧ w.heap.size ≤ b) (fun b hb => ⟨hb.2, (hz b hb.1).2⟩)
  have hsub : ∀ b, Z' b → E.Z b ∨ (Z' b ∧ w.heap.size ≤ b) := fun b hb => (hz b hb).1.imp (fun h => h) (fun h => ⟨hb, h⟩)
  have hloc : ∀ E1 : Env, (E1.at d ℓ).loc d = ℓ := fun E1 => by simp [Env.at]
  unfold St.got
  cases k with
  | none =>
    have m2 := m1.kill hid ℓ
    have e : (S.kill d).setH d (Option.map (Blk.ren d) none) = S.kill d := by
      show St.mk _ _ _ _ = St.mk _ _ _ _
      congr 1
      funext i
      by_cases hi : i = d
      · simp [hi, St.kill]
      · simp [hi, St.kill]
    rw [e]
    exact ⟨_, m2.put (some d) (RV.ren (hloc _) hsub r v hr)⟩
  | some blk =>
    obtain ⟨h1, h2⟩ := hk blk rfl
    have m2 := m1.re' (row := none) hid ⟨rfl, rfl, rfl, Nat.le_refl _, fun _ _ _ => rfl⟩ (fun b hb => by cases hb) ℓ (blk := blk.ren d) (Hold.ren (hloc _) hsub h1) (fun hn => .inr ⟨?_, ?_, ?_⟩)
    · exact ⟨_, m2.put (some d) (RV.ren (hloc _) hsub r v hr)⟩
    · exact Nat.le_trans m.frame.size (h2 hn).1
    · rintro (hb | hb)
      · have := m.ok.zlt _ hb
        have := (h2 hn).1
        omega
      · exact (h2 hn).2 hb.1
    · intro i hi hni e
      have e : (E.loc i).b = ℓ.b := e
      cases hk : S.hp i with
      | none => exact hi hk
      | some k =>
        have := (m.ok.hold i k hk).block_lt hni
        have := (h2 hn).1
        omega

/-- A CALL. The arguments as the callee sees them; 'closed': none of them is a view of an own block, or what comes back holds no references -/
theorem Chain.call {P : Program} {ops : Array Oper} {o : Oper} {l : List Oper} {S : St} {Q' : St → Prop} {c : Call} {d : Nat} {f : FuncId} {caps args : List V} {Q : V → Option Blk → Prop} (hw : wantedV ops S o = some true) (ho : o.op = .call c) (hd : o.dst = some d)
    (hcal : calleeV S c = some (f, caps)) (hargs : mapO (viewV S.hp) (c.args.toList.map S.ev ++ caps) = some args) (hent : Rp.Enters P f) (hF : Fun P f args Q) (hid : S.rts.contains d = false)
    (hflat : (c.args.toList.map S.ev ++ caps = args ∧ closedL args = true) ∨ ∀ r k, Q r k → r.flat = true ∧ ∀ blk, k = some blk → blk.flat)
    (hrest : ∀ r k, Q r k → Chain false P ops l (S.got d r k) Q') : Chain false P ops (o :: l) S Q' := by
  have hid' : d ∉ S.rts := by simpa using hid
  intro fx a w Q'' ⟨E, m⟩ hq
  have hw' := wantedV_sound m hw
  unfold wpList
  rw [if_pos hw']
  refine .inl ?_
  obtain ⟨cv, hcv, hrun⟩ := calleeV_sound m.ev hcal hent ho
  unfold Oper.wp
  rw [hrun w]
  simp only [Oper.upon, hd]
  have hall := RVs_append (RVs_map m.ev c.args.toList) hcv
  have seen : ∀ b, (E.seen S.hp).Z b → b < w.heap.size := fun b hb => by
    rcases hb with hb | ⟨i, hi, hn, rfl⟩
    · exact m.ok.zlt b hb
    · cases hk : S.hp i with
      | none => exact absurd hk hi
      | some k => exact (m.ok.hold i k hk).block_lt hn
  rcases hflat with ⟨hsame, honly⟩ | hflat
  · -- no views
    have hvs : RVs (oneE default E.Z) w args (c.args.toList.map a.eval ++ cv) := by
      rw [hsame] at hall
      exact RVs.closed default _ _ honly hall
    refine (hF w E.Z _ m.ok.zlt hvs).mono ?_
    rintro e w' ⟨v, ℓ, Z', r, k, rfl, hQ, hr, hk, hz, hg⟩
    exact hrest r k hQ fx _ w' Q'' (m.got hg hid' hr hk hz) hq
  · have hvs := viewVs_sound m.ok (oneE default (E.seen S.hp).Z) rfl hall hargs
    refine (hF w (E.seen S.hp).Z _ seen hvs).mono ?_
    rintro e w' ⟨v, ℓ, Z', r, k, rfl, hQ, hr, hk, hz, hg⟩
    obtain ⟨hf1, hf2⟩ := hflat r k hQ
    refine hrest r k hQ fx _ w' Q'' (m.got hg hid' (Z' := fun _ => False) (RV.toFlat r v hf1 hr) (fun blk hb => ⟨(hk blk hb).1.toFlat (hf2 blk hb), fun hn => ⟨((hk blk hb).2 hn).1, fun h => h⟩⟩) (fun b hb => hb.elim)) hq
end Go.Ab
