/- The abstract machine: drawn regions with effects at their end. -/
import Derived.Test.YtabjbkdlacibjaaAb25
import Derived.StillTail
namespace Go.Ab
open Go.RowKit

theorem runN_drop {ty : TypeId → Option TI} {ops : Array Oper} : ∀ (n : Nat) {l l' : List Oper} {S S' : St}, runN ty ops n l S = some (l', S') → l' = l.drop n
  | 0, l, l', S, S', h => by simp only [runN, Option.some.injEq, Prod.mk.injEq] at h; exact h.1.symm
  | n + 1, [], l', S, S', h => by simp [runN] at h
  | n + 1, o :: l, l', S, S', h => by
    simp only [runN] at h
    split at h
    · split at h
      · exact runN_drop n h
      · cases h
    · exact runN_drop n h
    · cases h
theorem still_run {P : Program} {ops : Array Oper} {fx : Fx} {w : World} {Lq : Act → Prop} : ∀ (n : Nat) {l l' : List Oper} {S S' : St}, runN (tyOf P) ops n l S = some (l', S') → ∀ a, Models fx S a w → (∀ a', Models fx S' a' w → Lq a') → wpStill P ops w Lq (l.take n) a
  | 0, l, l', S, S', h, a, m, hq => by
    simp only [runN, Option.some.injEq, Prod.mk.injEq] at h
    obtain ⟨_, rfl⟩ := h
    rw [List.take_zero]
    exact hq a m
  | n + 1, [], l', S, S', h, a, m, hq => by simp [runN] at h
  | n + 1, o :: l, l', S, S', h, a, ⟨E, m⟩, hq => by
    rw [List.take_succ_cons]
    simp only [runN] at h
    unfold wpStill
    split at h
    · rename_i hw
      rw [if_pos (wantedV_sound m hw)]
      split at h
      · rename_i v hv
        obtain ⟨x, hx, hrun⟩ := pureV_sound hv E w a.eval o rfl m.ok m.ev
        unfold Oper.still
        rw [hrun w (Below.refl _ _)]
        exact ⟨rfl, still_run n h _ ⟨E, m.put o.dst hx⟩ hq⟩
      · cases h
    · rename_i hw
      rw [if_neg (by rw [wantedV_sound m hw]; simp)]
      exact still_run n h _ ⟨E, m.put o.dst ⟨[], rfl, rfl⟩⟩ hq
    · cases h

theorem AW.regionT {P : Program} {S : St} {Q : Exit → St → Prop} {id : Nat} {l : List Oper} (n : Nat) (hm : P.follows .mixedOrders = true) (hB : Region.lexTailB .any l.toArray n = true)
    (h : ∀ K : List Oper → St → Prop, (∀ l' S', Chain false P l.toArray l' S' (Q .normal) → K l' S') → thenK K (Ab.runN (tyOf P) l.toArray n l S)) : AW P (.region id l.toArray true) S Q := fun fx a w ⟨E, m⟩ => by
  have h := h _ (fun _ _ h => h)
  cases hr : Ab.runN (tyOf P) l.toArray n l S with
  | none => rw [hr] at h; exact h.elim
  | some p =>
    obtain ⟨l', S'⟩ := p
    rw [hr] at h
    have e := runN_drop n hr
    subst e
    refine wp_region_still_tail n hm hB (still_run n hr a ⟨E, m.grow ⟨rfl, rfl, rfl, Nat.le_refl _, fun _ _ => rfl⟩⟩ fun a' m' => ?_)
    exact h fx a' _ _ m' (fun S' a' w' hq m' => ⟨S', hq, m'⟩)
theorem AW.seqT {P : Program} {S : St} {Q : Exit → St → Prop} {id : Nat} {l : List Oper} {y : Code} (n : Nat) (hm : P.follows .mixedOrders = true) (hB : Region.lexTailB .any l.toArray n = true)
    (h : ∀ K : List Oper → St → Prop, (∀ l' S', Chain false P l.toArray l' S' (fun S' => AW P y S' Q) → K l' S') → thenK K (Ab.runN (tyOf P) l.toArray n l S)) : AW P (.seq (.region id l.toArray true) y) S Q := .seq (.regionT n hm hB h)
end Go.Ab
