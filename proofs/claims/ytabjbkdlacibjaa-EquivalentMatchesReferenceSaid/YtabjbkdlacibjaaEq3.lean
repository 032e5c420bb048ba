/- stemref5.NormalForm returns the same list. -/
import Derived.Test.YtabjbkdlacibjaaEq2
import Derived.Test.YtabjbkdlacibjaaOwn2
namespace Go.Proofs.Ytabjbkdlacibjaa
open Go.RowKit Go.Rp

theorem elem22 : Elem Try.prog 22 32 Op 32 := Elem.of (z := .agg #[.int .i64 0, .int .i64 0, .string ByteArray.empty]) (by kernel_rfl) (by kernel_rfl) (by rfl) (by decide) (by decide)

/-- the kinds are 1 and 2 -/
def Kinds (h : List Op) : Prop := ∀ o ∈ h, 1 ≤ o.kind ∧ o.kind ≤ 2

theorem conflict_eq {a b : Op} (ha : 1 ≤ a.kind ∧ a.kind ≤ 2) (hb : 1 ≤ b.kind ∧ b.kind ≤ 2) : conflictR a b = conflictS a b := by
  have e : (a.kind == 2 || b.kind == 2) = decide (2 < a.kind + b.kind) := by
    rw [Bool.eq_iff_iff]
    simp
    omega
  unfold conflictR conflictS
  rw [e]
  cases a.tx != b.tx <;> cases a.k == b.k <;> rfl

/-- one step of 'ready' -/
def readyStep (r : Bool) (e o : Op) : Bool := r && (e.tx != o.tx && !conflictR e o)
theorem readyStep_eq {e o : Op} (he : 1 ≤ e.kind ∧ e.kind ≤ 2) (ho : 1 ≤ o.kind ∧ o.kind ≤ 2) (r : Bool) : readyStep r e o = (r && !depS e o) := by
  unfold readyStep depS
  rw [conflict_eq he ho]
  cases r <;> cases h : (e.tx == o.tx) <;> cases conflictS e o <;> simp [bne, h]

/-- the value of 'ready' behind j of the earlier ones -/
def readyTo (h : List Op) (k j : Nat) (o : Op) : Bool := !(((h.take k).take j).any fun e => depS e o)
theorem readyTo_succ {h : List Op} {k j : Nat} {o e : Op} (hj : j < k) (hk : k ≤ h.length) (he : h.getD j op0 = e) : readyTo h k (j + 1) o = (readyTo h k j o && !depS e o) := by
  unfold readyTo
  have hl : j < (h.take k).length := by rw [List.length_take]; omega
  rw [List.take_succ_eq_append_getElem hl, List.any_append]
  have : (h.take k)[j] = e := by
    rw [List.getElem_take, ← he]
    simp [List.getD, show j < h.length by omega]
  rw [this]
  simp
theorem readyTo_all {h : List Op} {k : Nat} {o : Op} (hk : k ≤ h.length) : readyTo h k k o = readyS h k o := by
  unfold readyTo readyS
  rw [List.take_take, Nat.min_self]

/-- best, as the reference has it -/
def bestR (h : List Op) (k : Nat) : Int := max (bestS h k) 0
theorem bestR_less {h : List Op} {k nb : Nat} {o p : Op} (ho : h.getD k op0 = o) (hq : bestR h k = nb) (hr : readyS h k o = true) (hp : h.getD nb op0 = p) (hl : o.tx < p.tx) : bestR h (k + 1) = k := by
  have h1 := bestS_bd h k
  have h2 := bestS_nonneg h k
  unfold bestR at *
  rcases Nat.eq_zero_or_pos k with rfl | hk
  · simp [bestS] at hq
    have : nb = 0 := by omega
    subst this
    rw [ho] at hp
    subst hp
    omega
  · have hb := h2 hk
    rw [best_less ho (show bestS h k = nb by omega) hr hp hl]
    omega
theorem bestR_more {h : List Op} {k nb : Nat} {o p : Op} (ho : h.getD k op0 = o) (hq : bestR h k = nb) (hp : h.getD nb op0 = p) (hl : ¬ o.tx < p.tx) : bestR h (k + 1) = nb := by
  have h2 := bestS_nonneg h k
  unfold bestR at *
  rcases Nat.eq_zero_or_pos k with rfl | hk
  · rw [bestS_0]
    simp [bestS] at hq
    omega
  · have hb := h2 hk
    rw [best_more ho (show bestS h k = nb by omega) hp hl]
    omega
theorem bestR_not {h : List Op} {k nb : Nat} {o : Op} (ho : h.getD k op0 = o) (hq : bestR h k = nb) (hr : readyS h k o = false) : bestR h (k + 1) = nb := by
  have h2 := bestS_nonneg h k
  unfold bestR at *
  rcases Nat.eq_zero_or_pos k with rfl | hk
  · simp [readyS] at hr
  · have hb := h2 hk
    rw [best_not ho (show bestS h k = nb by omega) hr]
    omega
end Go.Proofs.Ytabjbkdlacibjaa
