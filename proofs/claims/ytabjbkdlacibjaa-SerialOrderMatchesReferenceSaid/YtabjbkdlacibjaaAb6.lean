/- The abstract machine: chains of operations, regions, code. -/
import Derived.Test.YtabjbkdlacibjaaAb5
import Derived.Deep.Quiet
namespace Go.Ab
open Go.RowKit

/-! ### chains -/
def wantedV (ops : Array Oper) (S : St) (o : Oper) : Option Bool :=
  match o.guard with
  | none => some true
  | some (j, want) => match (ops[j]?).bind (·.dst) with
    | some t => match S.sl t with
      | .d (.lit (.bool b)) => some (b == want)
      | .tup [] => some false
      | _ => none
    | none => none

theorem wantedV_sound {fx : Fx} {S : St} {E : Env} {a : Act} {w : World} (m : Mod fx S E a w) {ops : Array Oper} {o : Oper} {b : Bool} (h : wantedV ops S o = some b) : Region.wanted o (yielded ops a.tmps) = b := by
  unfold wantedV at h
  unfold Region.wanted
  split at h
  · rename_i hg
    injection h with h; subst h
    simp [hg]
  · rename_i j want hg
    simp only [hg]
    split at h
    · rename_i t ht
      have hs := m.slots t
      split at h
      · rename_i c hc
        injection h with h; subst h
        rw [hc] at hs
        have hs := RD_lit hs
        have : a.tmps[t]? = some (.bool c) := by
          rw [Array.getD_eq_getD_getElem?] at hs
          cases hq : a.tmps[t]? with
          | none => rw [hq] at hs; cases hs
          | some v => rw [hq] at hs; simp at hs; rw [hs]
        simp [yielded, ht, this]
      · rename_i hc
        injection h with h; subst h
        rw [hc] at hs
        obtain ⟨vs, h1, h2⟩ := hs
        have h2 : vs = [] := h2
        subst h2
        rw [Array.getD_eq_getD_getElem?] at h1
        cases hq : a.tmps[t]? with
        | none => simp [yielded, ht, hq]
        | some v => rw [hq] at h1; simp at h1; subst h1; simp [yielded, ht, hq]
      · cases h
    · cases h

def Chain (q : Bool) (P : Program) (ops : Array Oper) (l : List Oper) (S : St) (Q : St → Prop) : Prop :=
  match q with
  | false => ∀ fx a w (Q' : Exit → Act → World → Prop), Models fx S a w → (∀ S' a' w', Q S' → Models fx S' a' w' → Q' .normal a' w') → wpList P ops Q' l a w
  | true => ∀ fx a w (Q' : Act → Prop), Models fx S a w → (∀ S' a', Q S' → Models fx S' a' w → Q' a') → wpQuiet P ops (Grow w) Q' l a

theorem Chain.nil {q : Bool} {P : Program} {ops : Array Oper} {S : St} {Q : St → Prop} (h : Q S) : Chain q P ops [] S Q := by
  cases q with
  | false => exact fun fx a w Q' m hq => hq _ _ _ h m
  | true => exact fun fx a w Q' m hq => hq _ _ h m

theorem Chain.skip {q : Bool} {P : Program} {ops : Array Oper} {o : Oper} {l : List Oper} {S : St} {Q : St → Prop} (hw : wantedV ops S o = some false) (h : Chain q P ops l (S.put o.dst (.tup [])) Q) : Chain q P ops (o :: l) S Q := by
  have hu : ∀ E w, RV E w (.tup []) undef := fun E w => ⟨[], rfl, rfl⟩
  cases q with
  | false =>
    intro fx a w Q' ⟨E, m⟩ hq
    have hw' := wantedV_sound m hw
    unfold wpList
    rw [if_neg (by rw [hw']; decide)]
    exact h fx _ w Q' ⟨E, m.put o.dst (hu E w)⟩ hq
  | true =>
    intro fx a w Q' ⟨E, m⟩ hq
    have hw' := wantedV_sound m hw
    unfold wpQuiet
    rw [if_neg (by rw [hw']; decide)]
    exact h fx _ w Q' ⟨E, m.put o.dst (hu E w)⟩ hq

theorem Chain.pure {q : Bool} {P : Program} {ops : Array Oper} {o : Oper} {l : List Oper} {S : St} {Q : St → Prop} (hw : wantedV ops S o = some true) {v : V} (hv : pureV (tyOf P) S o.op = some v) (h : Chain q P ops l (S.put o.dst v) Q) : Chain q P ops (o :: l) S Q := by
  have hp := pureV_sound hv
  cases q with
  | false =>
    intro fx a w Q' ⟨E, m⟩ hq
    have hw' := wantedV_sound m hw
    obtain ⟨x, hx, hrun⟩ := hp E w a.eval o rfl m.ok m.ev
    unfold wpList
    rw [if_pos hw']
    refine .inl ?_
    unfold Oper.wp
    rw [hrun w (Below.refl _ _)]
    exact h fx _ w Q' ⟨E, m.put o.dst hx⟩ hq
  | true =>
    intro fx a w Q' ⟨E, m⟩ hq
    have hw' := wantedV_sound m hw
    obtain ⟨x, hx, hrun⟩ := hp E w a.eval o rfl m.ok m.ev
    unfold wpQuiet
    rw [if_pos hw']
    refine ⟨x, fun w' hg => ?_, h fx _ w Q' ⟨E, m.put o.dst hx⟩ hq⟩
    unfold Oper.quietAt
    rw [hrun w' hg]
    exact ⟨rfl, rfl⟩

/-- n operations at once -/
def runN (ty : TypeId → Option TI) (ops : Array Oper) : Nat → List Oper → St → Option (List Oper × St)
  | 0, l, S => some (l, S)
  | n + 1, o :: l, S => match wantedV ops S o with
    | some true => match pureV ty S o.op with
      | some v => runN ty ops n l (S.put o.dst v)
      | none => none
    | some false => runN ty ops n l (S.put o.dst (.tup []))
    | none => none
  | _ + 1, [], _ => none

theorem Chain.run {q : Bool} {P : Program} {ops : Array Oper} {Q : St → Prop} : ∀ (n : Nat) {l l' : List Oper} {S S' : St}, runN (tyOf P) ops n l S = some (l', S') → Chain q P ops l' S' Q → Chain q P ops l S Q
  | 0, l, l', S, S', h, hc => by
    simp only [runN, Option.some.injEq, Prod.mk.injEq] at h
    obtain ⟨rfl, rfl⟩ := h
    exact hc
  | n + 1, [], l', S, S', h, hc => by simp [runN] at h
  | n + 1, o :: l, l', S, S', h, hc => by
    simp only [runN] at h
    split at h
    · rename_i hw
      split at h
      · rename_i v hv
        exact .pure hw hv (Chain.run n h hc)
      · cases h
    · rename_i hw
      exact .skip hw (Chain.run n h hc)
    · cases h

def Sub (S S' : St) : Prop := ∀ fx a w, Models fx S a w → Models fx S' a w
theorem Sub.refl (S : St) : Sub S S := fun _ _ _ h => h
theorem Sub.trans {S S' S'' : St} (h : Sub S S') (h' : Sub S' S'') : Sub S S'' := fun fx a w m => h' fx a w (h fx a w m)

theorem Chain.sub {q : Bool} {P : Program} {ops : Array Oper} {l : List Oper} {S S' : St} {Q : St → Prop} (hs : Sub S S') (h : Chain q P ops l S' Q) : Chain q P ops l S Q := by
  cases q with
  | false => exact fun fx a w Q' m hq => h fx a w Q' (hs fx a w m) hq
  | true => exact fun fx a w Q' m hq => h fx a w Q' (hs fx a w m) hq

/-! ### code -/
def AW (P : Program) (c : Code) (S : St) (Q : Exit → St → Prop) : Prop :=
  ∀ fx a w, Models fx S a w → c.wp P (fun e a' w' => ∃ S', Q e S' ∧ Models fx S' a' w') a w

def thenQ (K : St → Prop) (Q : Exit → St → Prop) : Exit → St → Prop
  | .normal, S => K S
  | e, S => Q e S
def blockQ (id : Nat) (Q : Exit → St → Prop) : Exit → St → Prop
  | .exit id', S => if id' = id then Q .normal S else Q (.exit id') S
  | e, S => Q e S

variable {P : Program} {S : St} {Q : Exit → St → Prop}

theorem AW.sub {c : Code} {S' : St} (hs : Sub S S') (h : AW P c S' Q) : AW P c S Q := fun fx a w m => h fx a w (hs fx a w m)
theorem AW.mono {c : Code} {Q' : Exit → St → Prop} (h : AW P c S Q) (hq : ∀ e S, Q e S → Q' e S) : AW P c S Q' := fun fx a w m => Code.wp_mono (fun _ _ _ ⟨S', h1, h2⟩ => ⟨S', hq _ _ h1, h2⟩) (h fx a w m)

theorem AW.region {id : Nat} {l : List Oper} (h : Chain false P l.toArray l S (Q .normal)) : AW P (.region id l.toArray false) S Q := fun fx a w m =>
  wp_region_lit (h fx a w _ m fun S' a' w' hq m' => ⟨S', hq, m'⟩)

theorem AW.regionQ {id : Nat} {l : List Oper} (hm : P.follows .mixedOrders = true) (hB : Region.lexB .any l.toArray = true) (h : Chain true P l.toArray l S (Q .normal)) : AW P (.region id l.toArray true) S Q := fun fx a w m =>
  wp_region_quiet (C := Grow w) hm hB ⟨rfl, rfl, rfl, Nat.le_refl _, fun _ _ => rfl⟩ (by
    have := h fx a w (fun a' => ∀ w', Grow w w' → ∃ S', Q .normal S' ∧ Models fx S' a' w') m (fun S' a' hq ⟨E, m'⟩ w' hg => ⟨S', hq, E, m'.grow hg⟩)
    simpa using this)

theorem AW.seq {x y : Code} (h : AW P x S (thenQ (fun S' => AW P y S' Q) Q)) : AW P (.seq x y) S Q := fun fx a w m => by
  refine wp_seq (Code.wp_mono ?_ (h fx a w m))
  rintro e a' w' ⟨S', hq, m'⟩
  cases e with
  | normal => exact hq fx a' w' m'
  | exit id => exact ⟨S', hq, m'⟩
  | goto l => exact ⟨S', hq, m'⟩
  | ret => exact ⟨S', hq, m'⟩
  | panic ch => exact ⟨S', hq, m'⟩
  | outgrown => exact ⟨S', hq, m'⟩

theorem AW.seqR {id : Nat} {l : List Oper} {y : Code} (h : Chain false P l.toArray l S (fun S' => AW P y S' Q)) : AW P (.seq (.region id l.toArray false) y) S Q := .seq (.region h)
theorem AW.seqQ {id : Nat} {l : List Oper} {y : Code} (hm : P.follows .mixedOrders = true) (hB : Region.lexB .any l.toArray = true) (h : Chain true P l.toArray l S (fun S' => AW P y S' Q)) : AW P (.seq (.region id l.toArray true) y) S Q := .seq (.regionQ hm hB h)

theorem AW.skip (h : Q .normal S) : AW P .skip S Q := fun _ _ _ m => wp_skip ⟨S, h, m⟩
theorem AW.ret (h : Q .ret S) : AW P .ret S Q := fun _ _ _ m => wp_ret ⟨S, h, m⟩
theorem AW.exit {id : Nat} (h : Q (.exit id) S) : AW P (.exit id) S Q := fun _ _ _ m => wp_exit ⟨S, h, m⟩
theorem AW.block {id : Nat} {c : Code} (h : AW P c S (blockQ id Q)) : AW P (.block id c) S Q := fun fx a w m => by
  refine wp_block (Code.wp_mono ?_ (h fx a w m))
  rintro e a' w' ⟨S', hq, m'⟩
  cases e with
  | exit id' =>
    simp only [blockQ] at hq
    simp only [Exit.inBlock]
    split
    · rename_i h; rw [if_pos h] at hq; exact ⟨S', hq, m'⟩
    · rename_i h; rw [if_neg h] at hq; exact ⟨S', hq, m'⟩
  | normal => exact ⟨S', hq, m'⟩
  | goto l => exact ⟨S', hq, m'⟩
  | ret => exact ⟨S', hq, m'⟩
  | panic ch => exact ⟨S', hq, m'⟩
  | outgrown => exact ⟨S', hq, m'⟩

theorem AW.cond {c : Operand} {x y : Code} {b : Bool} (hc : S.ev c = .d (.lit (.bool b))) (ht : b = true → AW P x S Q) (hf : b = false → AW P y S Q) : AW P (.cond c x y) S Q := fun fx a w m => by
  obtain ⟨E, m'⟩ := m
  have h := m'.ev c
  rw [hc] at h
  exact wp_cond_split (RD_lit h) (fun hb => ht hb fx a w ⟨E, m'⟩) (fun hb => hf hb fx a w ⟨E, m'⟩)

theorem exists_least (p : Nat → Prop) (h : ∃ n, p n) : ∃ n, p n ∧ ∀ m, p m → n ≤ m := by
  obtain ⟨n, hn⟩ := h
  induction n using Nat.strongRecOn with
  | _ n ih =>
    by_cases hc : ∃ m, m < n ∧ p m
    · obtain ⟨m, hm, hp⟩ := hc
      exact ih m hm hp
    · exact ⟨n, hn, fun m hm => by
        rcases Nat.lt_or_ge m n with h | h
        · exact absurd ⟨m, h, hm⟩ hc
        · exact h⟩

open Classical in
theorem AW.loop {c : Code} (R : Nat → St → Prop) {n0 : Nat} {S0 : St} (hs : Sub S S0) (h0 : R n0 S0)
    (round : ∀ n S0, R n S0 → AW P c S0 (thenQ (fun S' => ∃ n' S1, n' < n ∧ Sub S' S1 ∧ R n' S1) Q)) : AW P (.loop c) S Q := fun fx a w m => by
  let I : Nat → Act → World → Prop := fun n a w => ∃ S0, R n S0 ∧ Models fx S0 a w
  let μ : Act → World → Nat := fun a w => if h : ∃ n, I n a w then Classical.choose (exists_least _ h) else 0
  refine wp_loop (fun a w => ∃ n, I n a w) μ ⟨n0, S0, h0, hs fx a w m⟩ fun a w hI => ?_
  have hμ : μ a w = Classical.choose (exists_least _ hI) := dif_pos hI
  obtain ⟨S1, hR, m1⟩ := (Classical.choose_spec (exists_least _ hI)).1
  refine Code.wp_mono ?_ (round _ S1 hR fx a w m1)
  rintro e a' w' ⟨S', hq, m'⟩
  cases e with
  | normal =>
    obtain ⟨n', S2, hlt, hsub, hR2⟩ := hq
    have hI' : ∃ n, I n a' w' := ⟨n', S2, hR2, hsub fx a' w' m'⟩
    refine ⟨hI', ?_⟩
    have : μ a' w' = Classical.choose (exists_least _ hI') := dif_pos hI'
    rw [this, hμ]
    exact Nat.lt_of_le_of_lt ((Classical.choose_spec (exists_least _ hI')).2 _ ⟨S2, hR2, hsub fx a' w' m'⟩) hlt
  | exit id => exact ⟨S', hq, m'⟩
  | goto l => exact ⟨S', hq, m'⟩
  | ret => exact ⟨S', hq, m'⟩
  | panic ch => exact ⟨S', hq, m'⟩
  | outgrown => exact ⟨S', hq, m'⟩
end Go.Ab
