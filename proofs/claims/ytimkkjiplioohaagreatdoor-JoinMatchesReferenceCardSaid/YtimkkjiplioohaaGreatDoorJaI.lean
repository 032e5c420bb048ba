/- Worlds that the library's calls leave. -/
import Derived.Test.YtimkkjiplioohaaGreatDoorA4
import Derived.Test.YtimkkjiplioohaaGreatDoorShelf
namespace Go.Ab
open Go.RowKit Go.Sort
theorem grow_drewN (w : World) (k : Nat) (os : Array Obj) : Grow w (grow (w.drewN k) os) := by
  refine ⟨rfl, rfl, rfl, ?_, fun b hb => ?_⟩
  · show w.heap.size ≤ (w.heap ++ os).size
    simp
  · show (w.heap ++ os)[b]? = w.heap[b]?
    exact Array.getElem?_append_left hb
theorem Chain.pureP {q : Bool} {P : Program} {ops : Array Oper} {o : Oper} {l : List Oper} {S : St} {Q : St → Prop} (hw : wantedV ops S o = some true) {v : V} (hp : Pure P o.op S v) (h : Chain q P ops l (S.put o.dst v) Q) : Chain q P ops (o :: l) S Q := by
  cases q with
  | false =>
    intro fx a w Q' ⟨E, m⟩ hq
    have hw' := wantedV_sound m hw
    obtain ⟨x, hx, hrun⟩ := hp E w a.eval o rfl m.ok m.ev
    unfold wpList
    rw [if_pos hw']
    refine .inl ?_
    unfold Oper.wp
    rw [hrun w (Below.refl _ _)]
    exact h fx _ w Q' ⟨E, m.put o.dst hx⟩ hq
  | true =>
    intro fx a w Q' ⟨E, m⟩ hq
    have hw' := wantedV_sound m hw
    obtain ⟨x, hx, hrun⟩ := hp E w a.eval o rfl m.ok m.ev
    unfold wpQuiet
    rw [if_pos hw']
    refine ⟨x, fun w' hg => ?_, h fx _ w Q' ⟨E, m.put o.dst hx⟩ hq⟩
    unfold Oper.quietAt
    rw [hrun w' hg]
    exact ⟨rfl, rfl⟩
theorem Chain.lookS {κ α : Type} [DecidableEq κ] {q : Bool} {P : Program} {ops : Array Oper} {o : Oper} {l : List Oper} {S : St} {Q : St → Prop} {T : TypeId} {m i : Operand} {ti tk te : TI} {kt et : TypeId} {id d : Nat} {kd : TypeDesc} {kf : κ → MKey} {c : α → List D} (hi : ∀ a b, kf a = kf b → a = b) (mm : List (κ × List α)) (k : κ)
    (hw : wantedV ops S o = some true) (ho : o.op = .lookup T m i false) (hdst : o.dst = some d) (hT : tyOf P T = some ti) (hd : ti.desc = .map kt et) (hk : tyOf P kt = some tk) (he : tyOf P et = some te) (hm : S.ev m = .mref id) (hH : S.hp id = some (.mp kd (encM kf (vO c) mm))) (hkey : keyV (S.ev i) = some (kf k))
    (h1 : descEq tk.desc (kf k).desc = true) (h2 : descEq kd (kf k).desc = true) (hz : litV te.zero = .d (.lit (.slice none 0 0)))
    (h : Chain q P ops l (S.put (some d) (vO c ((mget mm k).getD []))) Q) : Chain q P ops (o :: l) S Q := by
  have hc : (litV te.zero).closed = true := by rw [hz]; rfl
  cases hg : mget mm k with
  | some v =>
    refine Chain.look hw ho (r := vO c v) (b := true) ?_ ?_
    · unfold lkV
      simp only [hT, hd, hk, he, hkey, hm, hH, h1, h2, hc, and_self, if_true]
      rw [klk_enc hi, hg]
      rfl
    · rw [hg] at h
      rw [hdst]
      exact h
  | none =>
    refine Chain.look hw ho (r := .d (.lit (.slice none 0 0))) (b := false) ?_ ?_
    · unfold lkV
      simp only [hT, hd, hk, he, hkey, hm, hH, h1, h2, hc, and_self, if_true]
      rw [klk_enc hi, hg]
      show some (litV te.zero, false) = _
      rw [hz]
    · rw [hg] at h
      rw [hdst]
      simp only [Bool.false_eq_true, if_false]
      refine Chain.sub (S' := S.put (some d) (vO c ([] : List α))) (.of fun fx a w E m => ⟨E, m.nt, fun i => ?_, m.dfr, m.ok, m.frame, m.mine, m.z, m.roots⟩) h
      have hs := m.slots i
      simp only [St.put] at hs ⊢
      split at hs
      · rename_i hj
        rw [if_pos hj]
        exact RV.wk hs
      · rename_i hj
        rw [if_neg hj]
        exact hs
end Go.Ab
