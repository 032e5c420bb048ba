/- The abstract machine: slices that reach past their length. -/
import Derived.Test.YtabjbkdlacibjaaAb23
namespace Go.Ab
open Go.RowKit

theorem bounds_over {P : Program} {S : St} {E : Env} {w w' : World} {ρ : Operand → Value} (hev : ∀ x, RV E w (S.ev x) (ρ x)) {len kn cap : Nat} (hlc : len ≤ kn) (hkc : kn ≤ cap) {lo hi : Option Operand} {h l : Nat}
    (hh : bnd (hi.map S.ev) len kn = some h) (hl : bnd (lo.map S.ev) 0 h = some l) : (Instr.sliceBounds true len cap (lo.map ρ) (hi.map ρ) none).run P w' = .ok (l, h, cap) w' ∧ l ≤ h ∧ h ≤ kn := by
  have e1 : h ≤ kn := by
    cases hi with
    | none => rw [bnd_none hh]; exact hlc
    | some o => exact (bnd_some (P := P) (w' := w') (hev o) hh hkc .index).2
  have e2 : l ≤ h := by
    cases lo with
    | none => rw [bnd_none hl]; exact Nat.zero_le _
    | some o => exact (bnd_some (P := P) (w' := w') (hev o) hl (Nat.le_refl _) .index).2
  refine ⟨?_, e2, e1⟩
  cases hi with
  | none =>
    cases lo with
    | none => rw [bnd_none hh, bnd_none hl]; simp [Instr.sliceBounds]
    | some o =>
      have h3 := fun code => bnd_some (P := P) (w' := w') (hev o) hl (Nat.le_refl _) code
      rw [bnd_none hh] at h3 ⊢
      simp [Instr.sliceBounds, (h3 _).1]
  | some p =>
    have h1 := fun code => bnd_some (P := P) (w' := w') (hev p) hh hkc code
    cases lo with
    | none => rw [bnd_none hl]; simp [Instr.sliceBounds, (h1 _).1]
    | some o =>
      have h3 := fun code => bnd_some (P := P) (w' := w') (hev o) hl (Nat.le_refl _) code
      simp [Instr.sliceBounds, (h1 _).1, (h3 _).1]

theorem Chain.pureP {q : Bool} {P : Program} {ops : Array Oper} {o : Oper} {l : List Oper} {S : St} {Q : St → Prop} (hw : wantedV ops S o = some true) {v : V} (hp : Pure P o.op S v) (h : Chain q P ops l (S.put o.dst v) Q) : Chain q P ops (o :: l) S Q := by
  cases q with
  | false =>
    intro fx a w Q' ⟨E, m⟩ hq
    have hw' := wantedV_sound m hw
    obtain ⟨x, hx, hrun⟩ := hp E w a.eval o rfl m.ok m.ev
    unfold wpList
    rw [if_pos hw']
    refine .inl ?_
    unfold Oper.wp
    rw [hrun w (Below.refl _ _)]
    exact h fx _ w Q' ⟨E, m.put o.dst hx⟩ hq
  | true =>
    intro fx a w Q' ⟨E, m⟩ hq
    have hw' := wantedV_sound m hw
    obtain ⟨x, hx, hrun⟩ := hp E w a.eval o rfl m.ok m.ev
    unfold wpQuiet
    rw [if_pos hw']
    refine ⟨x, fun w' hg => ?_, h fx _ w Q' ⟨E, m.put o.dst hx⟩ hq⟩
    unfold Oper.quietAt
    rw [hrun w' hg]
    exact ⟨rfl, rfl⟩

/-- the cells behind a reference -/
theorem ref_row {E : Env} {w : World} {id off len : Nat} {e n : Nat} {es : List (List D)} {v : Value} (hx : RV E w (.ref id off len) v) (hold : Hold E w id (.arr e n es)) (hlen : off + len ≤ es.length) (hne : off < es.length) :
    ∃ cap, v = .slice (some ⟨(E.loc id).b, off * n, none⟩) len (cap - off) ∧ cap = (E.loc id).cap ∧ es.length ≤ cap ∧ (E.loc id).nil = false ∧ (E.loc id).n = n ∧ (E.loc id).o = 0 := by
  obtain ⟨g1, g2, g3, g4, g5⟩ := hold
  rcases g5 with ⟨_, g6⟩ | ⟨hn, cc, flat, k1, k2, k3, k4, k5, k6⟩
  · subst g6; simp at hne
  rcases hx with ⟨q1, _⟩ | ⟨_, q2, aa, q3, q4⟩
  · rw [hn] at q1; cases q1
  have ha := q4 (.inr (by omega))
  rw [g2, g1, Nat.zero_add] at ha
  subst ha
  exact ⟨_, q3, rfl, k2, hn, g1, g2⟩

/-- A SLICE of an own row, as far as its elements are known -/
theorem Chain.sliceX {P : Program} {ops : Array Oper} {o : Oper} {l : List Oper} {S : St} {Q : St → Prop} {q : Bool} {T e : TypeId} {x : Operand} {lo hi : Option Operand} {ti te : TI} {id off len hq lq : Nat} {es : List (List D)} (hw : wantedV ops S o = some true) (ho : o.op = .slice T x lo hi none)
    (hT : tyOf P T = some ti) (hd : ti.desc = .slice e) (he : tyOf P e = some te) (hs : S.ev x = .ref id off len) (hH : S.hp id = some (.arr e te.size es)) (hlen : off + len ≤ es.length) (hne : off < es.length)
    (hh : bnd (hi.map S.ev) len (es.length - off) = some hq) (hl : bnd (lo.map S.ev) 0 hq = some lq)
    (h : Chain q P ops l (S.put o.dst (.ref id (off + lq) (hq - lq))) Q) : Chain q P ops (o :: l) S Q := by
  refine Chain.pureP hw ?_ h
  rw [ho]
  intro E w ρ oo hoo ok hev
  unfold execOp
  rw [hoo]
  have hx := hev x
  rw [hs] at hx
  obtain ⟨cap, h1, rfl, h2, h3, h4, h5⟩ := ref_row hx (ok.hold _ _ hH) hlen hne
  obtain ⟨_, b2, b3⟩ := bounds_over (P := P) (w' := w) hev (by omega) (show es.length - off ≤ (E.loc id).cap - off by omega) hh hl
  refine ⟨.slice (if (E.loc id).cap - off = lq then (some ⟨(E.loc id).b, off * te.size, none⟩ : Option Addr) else (some ⟨(E.loc id).b, off * te.size, none⟩ : Option Addr).map (·.add (lq * te.size))) (hq - lq) ((E.loc id).cap - off - lq), .inr ⟨h3, by omega, ?_⟩, fun w' _ => ?_⟩
  · by_cases hc : (E.loc id).cap - off = lq
    · refine ⟨off * te.size, by rw [if_pos hc]; congr 1; omega, fun hlt => ?_⟩
      omega
    · refine ⟨off * te.size + lq * te.size, ?_, fun hlt => ?_⟩
      · rw [if_neg hc]
        simp only [Option.map_some, add_addr]
        congr 1; omega
      · rw [h4, h5, Nat.zero_add, Nat.add_mul]
  · have u1 := run_und hT w'
    rw [hd] at u1
    have hb := (bounds_over (P := P) (w' := w') hev (by omega) (show es.length - off ≤ (E.loc id).cap - off by omega) hh hl).1
    simp [Instr.sliceAt, Instr.slice, u1, h1, hb, run_sizeOf he w']

/-- a slice with three bounds of an own row: that it is -/
theorem Chain.slice3 {P : Program} {ops : Array Oper} {o : Oper} {l : List Oper} {S : St} {Q : St → Prop} {q : Bool} {T e : TypeId} {x hi mx : Operand} {lo : Option Operand} {ti te : TI} {id off len mq hq lq : Nat} (hw : wantedV ops S o = some true) (ho : o.op = .slice T x lo (some hi) (some mx))
    (hT : tyOf P T = some ti) (hd : ti.desc = .slice e) (he : tyOf P e = some te) (hs : S.ev x = .ref id off len) (hm : bnd (some (S.ev mx)) 0 len = some mq)
    (hh : bnd (some (S.ev hi)) 0 mq = some hq) (hl : bnd (lo.map S.ev) 0 hq = some lq)
    (h : Chain q P ops l (S.put o.dst .junk) Q) : Chain q P ops (o :: l) S Q := by
  refine Chain.pureP hw ?_ h
  rw [ho]
  intro E w ρ oo hoo ok hev
  unfold execOp
  rw [hoo]
  have hx := hev x
  rw [hs] at hx
  have key : ∃ A cap, ρ x = .slice A len cap ∧ len ≤ cap := by
    rcases hx with ⟨_, _, h3, h4⟩ | ⟨_, h2, a, h4, _⟩
    · exact ⟨none, 0, by rw [h4, h3], by omega⟩
    · exact ⟨_, _, h4, by omega⟩
  obtain ⟨A, cap, hp, hlc⟩ := key
  refine ⟨.slice (if mq = lq then A else A.map (·.add (lq * te.size))) (hq - lq) (mq - lq), trivial, fun w' _ => ?_⟩
  have u1 := run_und hT w'
  rw [hd] at u1
  have hb := (bounds_some (P := P) (w' := w') (b := true) hev hlc hm hh hl).1
  simp [Instr.sliceAt, Instr.slice, u1, hp, hb, run_sizeOf he w']
end Go.Ab
