/- The abstract machine: calls that change their caller's blocks. -/
import Derived.Test.YtabjbkdlacibjaaAb17
namespace Go.Ab
open Go.RowKit

/-! ### names for names -/
def lk2 : List (Nat × Nat) → Nat → Option Nat
  | [], _ => none
  | (a, b) :: r, i => if i = a then some b else lk2 r i
theorem lk2_mem : ∀ {ρ : List (Nat × Nat)} {i k : Nat}, lk2 ρ i = some k → (i, k) ∈ ρ
  | [], _, _, h => by cases h
  | (a, b) :: r, i, k, h => by
    simp only [lk2] at h
    split at h
    · rename_i e
      injection h with h; subst h; subst e
      exact .head _
    · exact .tail _ (lk2_mem h)

mutual
def V.rnm (ρ : List (Nat × Nat)) : V → Option V
  | .ref id off len => match lk2 ρ id with | some k => some (.ref k off len) | none => none
  | .ptr id i off => match lk2 ρ id with | some k => some (.ptr k i off) | none => none
  | .mref id => match lk2 ρ id with | some k => some (.mref k) | none => none
  | .agg cs => match rnmL ρ cs with | some xs => some (.agg xs) | none => none
  | .tup cs => match rnmL ρ cs with | some xs => some (.tup xs) | none => none
  | .fn f cs => match rnmL ρ cs with | some xs => some (.fn f xs) | none => none
  | .d x => some (.d x)
  | .dx es => some (.dx es)
  | .hole => some .hole
  | .junk => some .junk
def rnmL (ρ : List (Nat × Nat)) : List V → Option (List V)
  | [] => some []
  | c :: cs => match V.rnm ρ c, rnmL ρ cs with
    | some x, some xs => some (x :: xs)
    | _, _ => none
end
def Blk.rnm (ρ : List (Nat × Nat)) : Blk → Option Blk
  | .arr T n es => some (.arr T n es)
  | .box cs => match rnmL ρ cs with | some xs => some (.box xs) | none => none
  | .mp kd l => some (.mp kd l)

theorem rnm_cell {ρ : List (Nat × Nat)} : ∀ {c c' : V}, c.rnm ρ = some c' → c.cell = true → c'.cell = true
  | .ref .., c', h, _ => by
    simp only [V.rnm] at h; split at h
    · injection h with h; subst h; rfl
    · cases h
  | .ptr .., c', h, _ => by
    simp only [V.rnm] at h; split at h
    · injection h with h; subst h; rfl
    · cases h
  | .mref _, c', h, _ => by
    simp only [V.rnm] at h; split at h
    · injection h with h; subst h; rfl
    · cases h
  | .fn .., c', h, _ => by
    simp only [V.rnm] at h; split at h
    · injection h with h; subst h; rfl
    · cases h
  | .d _, c', h, _ => by
    simp only [V.rnm] at h; injection h with h; subst h; rfl
  | .agg _, _, _, hc => by cases hc
  | .tup _, _, _, hc => by cases hc
  | .dx _, _, _, hc => by cases hc
  | .hole, c', h, _ => by
    simp only [V.rnm] at h; injection h with h; subst h; rfl
  | .junk, _, _, hc => by cases hc
theorem rnmL_cell {ρ : List (Nat × Nat)} : ∀ {cs cs' : List V}, rnmL ρ cs = some cs' → (∀ c ∈ cs, c.cell = true) → ∀ c ∈ cs', c.cell = true
  | [], cs', h, _, c, hc => by injection h with h; subst h; cases hc
  | x :: cs, cs', h, hall, c, hc => by
    simp only [rnmL] at h
    split at h
    · rename_i y ys h1 h2
      injection h with h; subst h
      rcases List.mem_cons.1 hc with rfl | hc
      · exact rnm_cell h1 (hall x (.head _))
      · exact rnmL_cell h2 (fun c h' => hall c (.tail _ h')) c hc
    · cases h

mutual
theorem RV.rnm {E E' : Env} {w : World} {ρ : List (Nat × Nat)} (hl : ∀ i k, lk2 ρ i = some k → E'.loc k = E.loc i) (hZ : ∀ b, E.Z b → E'.Z b) : ∀ (c c' : V) (x : Value), c.rnm ρ = some c' → RV E w c x → RV E' w c' x
  | .d x, c', v, h, hr => by
    simp only [V.rnm] at h; injection h with h; subst h
    exact RD.keep (fun _ _ => rfl) hZ x v hr
  | .ref i off len, c', v, h, hr => by
    simp only [V.rnm] at h
    split at h
    · rename_i k hk
      injection h with h; subst h
      unfold RV at hr ⊢
      rw [hl i k hk]; exact hr
    · cases h
  | .ptr i k off, c', v, h, hr => by
    simp only [V.rnm] at h
    split at h
    · rename_i k hk
      injection h with h; subst h
      unfold RV at hr ⊢
      rw [hl i k hk]; exact hr
    · cases h
  | .mref i, c', v, h, hr => by
    simp only [V.rnm] at h
    split at h
    · rename_i k hk
      injection h with h; subst h
      unfold RV at hr ⊢
      rw [hl i k hk]; exact hr
    · cases h
  | .agg cs, c', v, h, ⟨vs, h1, h2, h3⟩ => by
    simp only [V.rnm] at h
    split at h
    · rename_i xs hx
      injection h with h; subst h
      exact ⟨vs, h1, rnmL_cell hx h2, RVs.rnm hl hZ cs xs vs hx h3⟩
    · cases h
  | .tup cs, c', v, h, ⟨vs, h1, h2⟩ => by
    simp only [V.rnm] at h
    split at h
    · rename_i xs hx
      injection h with h; subst h
      exact ⟨vs, h1, RVs.rnm hl hZ cs xs vs hx h2⟩
    · cases h
  | .fn f cs, c', v, h, ⟨vs, h1, h2⟩ => by
    simp only [V.rnm] at h
    split at h
    · rename_i xs hx
      injection h with h; subst h
      exact ⟨vs, h1, RVs.rnm hl hZ cs xs vs hx h2⟩
    · cases h
  | .dx es, c', v, h, hr => by
    simp only [V.rnm] at h; injection h with h; subst h
    exact ⟨RD.keep (fun _ _ => rfl) hZ _ v hr.1, hr.2⟩
  | .hole, c', v, h, hr => by
    simp only [V.rnm] at h; injection h with h; subst h
    exact hr
  | .junk, c', v, h, _ => by
    simp only [V.rnm] at h; injection h with h; subst h
    trivial
theorem RVs.rnm {E E' : Env} {w : World} {ρ : List (Nat × Nat)} (hl : ∀ i k, lk2 ρ i = some k → E'.loc k = E.loc i) (hZ : ∀ b, E.Z b → E'.Z b) : ∀ (cs cs' : List V) (vs : List Value), rnmL ρ cs = some cs' → RVs E w cs vs → RVs E' w cs' vs
  | [], cs', vs, h, hr => by
    injection h with h; subst h; exact hr
  | c :: cs, cs', vs, h, ⟨v, r, h1, h2, h3⟩ => by
    simp only [rnmL] at h
    split at h
    · rename_i y ys g1 g2
      injection h with h; subst h
      exact ⟨v, r, h1, RV.rnm hl hZ c y v g1 h2, RVs.rnm hl hZ cs ys r g2 h3⟩
    · cases h
end
theorem Hold.rnm {E E' : Env} {w : World} {ρ : List (Nat × Nat)} (hl : ∀ i k, lk2 ρ i = some k → E'.loc k = E.loc i) (hZ : ∀ b, E.Z b → E'.Z b) {i j : Nat} (hij : E'.loc j = E.loc i) {k k' : Blk} (h : k.rnm ρ = some k') (hh : Hold E w i k) : Hold E' w j k' := by
  cases k with
  | arr T n es =>
    simp only [Blk.rnm] at h; injection h with h; subst h
    obtain ⟨h1, h2, h3, h4, h5⟩ := hh
    unfold Hold
    rw [hij]
    refine ⟨h1, h2, h3, h4, h5.imp (fun h => h) ?_⟩
    rintro ⟨hn, c, flat, k1, k2, k3, k4, k5, k6⟩
    exact ⟨hn, c, flat, k1, k2, k3, k4, RDe.keep (fun _ _ => rfl) hZ _ _ k5, k6⟩
  | box cs =>
    simp only [Blk.rnm] at h
    split at h
    · rename_i xs hx
      injection h with h; subst h
      obtain ⟨h1, h2, vs, h3, h4⟩ := hh
      unfold Hold
      rw [hij]
      exact ⟨h1, rnmL_cell hx h2, vs, RVs.rnm hl hZ cs xs vs hx h3, h4⟩
    · cases h
  | mp kd l =>
    simp only [Blk.rnm] at h; injection h with h; subst h
    obtain ⟨h1, h2, es, clock, h3, h4, h5⟩ := hh
    unfold Hold
    rw [hij]
    exact ⟨h1, h2, es, clock, h3, h4, REs.closedTo hZ l _ h5⟩
end Go.Ab
