/- The abstract machine: is a slice nil, where that is open; equality of structs and arrays of plain cells. -/
import Derived.Test.YtabjbkdlacibjaaAb30
import Derived.Test.YtabjbkdlacibjaaAb25
namespace Go.Ab
open Go.RowKit

theorem Chain.eqNilE {q : Bool} {P : Program} {ops : Array Oper} {o : Oper} {l : List Oper} {S : St} {Q : St → Prop} {T T' e : TypeId} {ti : TI} {x y : Operand} {es : List (List D)} (hw : wantedV ops S o = some true) (ho : o.op = .binOp .eql T x y T')
    (hT : tyOf P T = some ti) (hd : ti.desc = .slice e) (hx : S.ev x = .d (.sl es)) (hy : S.ev y = .d (.lit (.slice none 0 0)))
    (h : ∀ b : Bool, (es ≠ [] → b = false) → Chain q P ops l (S.put o.dst (.d (.lit (.bool b)))) Q) : Chain q P ops (o :: l) S Q := by
  have go : ∀ fx a w E, Mod fx S E a w → ∃ b : Bool, (es ≠ [] → b = false) ∧ ∀ w', (execOp a.eval o).run P w' = .ok (.value (.bool b)) w' := by
    intro fx a w E m
    have h1 := m.ev x
    rw [hx] at h1
    obtain ⟨A, cap, hv, h2, _, h3, _⟩ := h1
    have h4 := m.ev y
    rw [hy] at h4
    have h4 : a.eval y = _ := h4.1
    refine ⟨A.isNone, fun hne => ?_, fun w' => ?_⟩
    · cases A with
      | some a => rfl
      | none =>
        have := h3 rfl
        exact absurd (List.eq_nil_of_length_eq_zero (by omega)) hne
    · unfold execOp
      rw [ho]
      have hu := run_und hT w'
      rw [hd] at hu
      simp only [hv, h4]
      have := (run_eq_of (P := P) (T := T) (x := .slice A es.length cap) (y := .slice none 0 0) (r := A.isNone) (w := w') (equal_of fun d => by cases A <;> simp [Op.equalIn, hu]) x y ⟨rfl, rfl⟩ ⟨rfl, rfl⟩).1
      have hgd : (eqGuard .eql T x y (.slice A es.length cap) (.slice none 0 0)).run P w' = .ok () w' := rfl
      rw [Sem.run_bind, hgd] at this
      simp only [Result.andThen_ok] at this
      simp [Sem.run_bind, hgd, this]
  cases q with
  | false =>
    intro fx a w Q' ⟨E, m⟩ hq
    have hw' := wantedV_sound m hw
    obtain ⟨b, hb, hrun⟩ := go fx a w E m
    unfold wpList
    rw [if_pos hw']
    refine .inl ?_
    unfold Oper.wp
    rw [hrun w]
    exact h b hb fx _ w Q' ⟨E, m.put o.dst ⟨rfl, rfl⟩⟩ hq
  | true =>
    intro fx a w Q' ⟨E, m⟩ hq
    have hw' := wantedV_sound m hw
    obtain ⟨b, hb, hrun⟩ := go fx a w E m
    unfold wpQuiet
    rw [if_pos hw']
    refine ⟨.bool b, fun w' hg => ?_, h b hb fx _ w Q' ⟨E, m.put o.dst ⟨rfl, rfl⟩⟩ hq⟩
    unfold Oper.quietAt
    rw [hrun w']
    exact ⟨rfl, rfl⟩

theorem part_lit {P : Program} {T : TypeId} {ti : TI} (hT : tyOf P T = some ti) (hr : isRow ti.desc = false) {l : Array Value} {i : Nat} {v : Value} (h : l[i]? = some v) (w : World) : (part T l i).run P w = .ok v w := by
  have hu := run_und hT w
  unfold isRow TypeDesc.row at hr
  have hagg : (isAgg T).run P w = .ok false w := by
    unfold isAgg
    rw [Sem.run_bind, hu]
    cases hd : ti.desc <;> simp_all
  simp [part, hagg, h]
theorem eqF_nil {P : Program} {d : Nat} {xs ys : Array Value} (w : World) : (Op.eqFields d xs ys []).run P w = .ok true w := rfl
theorem eqF_cons {P : Program} {d : Nat} {xs ys : Array Value} {f : Field} {fs : List Field} {a b : Value} {r r' : Bool} (hn : f.name ≠ "_") (ha : ∀ w, (part f.type xs f.offset).run P w = .ok a w) (hb : ∀ w, (part f.type ys f.offset).run P w = .ok b w)
    (he : ∀ w, (Op.equalIn d f.type a b).run P w = .ok r w) (hrest : ∀ w, (Op.eqFields d xs ys fs).run P w = .ok r' w) (w : World) : (Op.eqFields d xs ys (f :: fs)).run P w = .ok (r && r') w := by
  unfold Op.eqFields
  rw [if_pos hn]
  cases r <;> simp [ha w, hb w, he w, hrest w]
theorem eqS_of {P : Program} {T : TypeId} {xs ys : Array Value} {fs : List Field} {r : Bool} {d : Nat} (ht : P.underlying T = some (.struct (P.fieldsOf T))) (hp : P.stoodInHeld T = false) (hf : (P.fieldsOf T).toList = fs)
    (h : ∀ w, (Op.eqFields d xs ys fs).run P w = .ok r w) (w : World) : (Op.equalIn (d + 1) T (.agg xs) (.agg ys)).run P w = .ok r w := by
  rw [run_equalIn_struct w d T xs ys ht hp, hf]
  exact h w
end Go.Ab
