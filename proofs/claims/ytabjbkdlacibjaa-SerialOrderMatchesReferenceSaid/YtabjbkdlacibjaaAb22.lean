/- The abstract machine: appends within a row's known room; clearing a part of a row. -/
import Derived.Test.YtabjbkdlacibjaaAb21
import Derived.ArgAppend
namespace Go.Ab
open Go.RowKit

theorem RDe_split {w : World} {Z : Nat → Prop} {n : Nat} : ∀ (k : Nat) {es : List (List D)} {flat : List Value}, RDe w Z es flat → (∀ e ∈ es, e.length = n) → k ≤ es.length → RDe w Z (es.take k) (flat.take (k * n)) ∧ RDe w Z (es.drop k) (flat.drop (k * n)) :=
  fun k _ _ h hn _ => ⟨RDe_take k h hn, RDe_drop k h hn⟩

/-- AN APPEND that fits into what is known of the row -/
theorem Chain.appIn {P : Program} {ops : Array Oper} {o : Oper} {l : List Oper} {S : St} {Q : St → Prop} {c : Call} {s x : Operand} {t e : TypeId} {tt te : TI} {id len : Nat} {es ys : List (List D)} (hw : wantedV ops S o = some true) (ho : o.op = .call c)
    (hc : c.callee = .builtin .append) (hca : c.args = #[s, x]) (hct : c.argTypes = #[t, t]) (hT : tyOf P t = some tt) (hd : tt.desc = .slice e) (he : tyOf P e = some te)
    (hs : S.ev s = .ref id 0 len) (hH : S.hp id = some (.arr e te.size es)) (hx : srcV S.hp (S.ev x) = some ys) (hall : ∀ y ∈ ys, y.length = te.size) (hle : len + ys.length ≤ es.length) (hpos : 0 < ys.length)
    (h : Chain false P ops l ((S.setH id (some (.arr e te.size (es.take len ++ (ys ++ es.drop (len + ys.length)))))).put o.dst (.ref id 0 (len + ys.length))) Q) : Chain false P ops (o :: l) S Q := by
  intro fx a w Q' ⟨E, md⟩ hq
  unfold wpList
  rw [if_pos (wantedV_sound md hw)]
  refine .inl ?_
  have hsv := md.ev s
  rw [hs] at hsv
  have hxv := md.ev x
  obtain ⟨g1, g2, g3, g4, g5⟩ := md.ok.hold _ _ hH
  have hne : es ≠ [] := fun e => by subst e; simp at hle; rw [hle.2] at hpos; simp at hpos
  rcases g5 with ⟨_, g6⟩ | ⟨hn, cc, flat, k1, k2, k3, k4, k5, k6⟩
  · exact absurd g6 hne
  rcases hsv with ⟨q1, _⟩ | ⟨_, q2, aa, q3, q4⟩
  · rw [hn] at q1; cases q1
  have ha := q4 (.inl rfl)
  rw [g2] at ha
  simp only [Nat.zero_mul, Nat.add_zero] at ha
  subst ha
  obtain ⟨hu, i0, hi0, hi1, hi2, hi3⟩ := tyOf_spec he
  have htu : P.underlying t = some (.slice e) := by rw [(tyOf_spec hT).1, hd]
  rcases srcV_sound md.ok hxv hx te.size with ⟨_, r1⟩ | ⟨ax, cap, news, r1, r2, r3⟩
  · rw [r1] at hpos; simp at hpos
  have hnl : news.length = ys.length * te.size := RDe_length r2 hall
  have hfl : flat.length = es.length * te.size := RDe_length k5 g3
  have hcs : es.length * te.size ≤ cc.size := by rw [k4]; exact Nat.mul_le_mul_right _ k2
  have hend : len * te.size + news.length ≤ es.length * te.size := by rw [hnl, ← Nat.add_mul]; exact Nat.mul_le_mul_right _ hle
  have hrun := run_append_room_cells (P := P) (w := w) t o.type e i0 htu hi0 (E.loc id).b 0 len (E.loc id).cap ax ys.length cap news (by rw [hi1]; exact hnl) r3 (RDe_cell r2) (by omega)
    (fun j hj => by
      rw [hi1, Nat.zero_add]
      have : len * te.size + j < cc.size := by omega
      simp [World.cell?, k1, this])
    (fun j hj => by simp [World.frozen?, k1])
  rw [hi1, Nat.zero_add] at hrun
  obtain ⟨c', z1, z2⟩ := heap_setCells (E.loc id).b news (len * te.size) w cc k1 (by omega)
  have hgb := grownBy_setCells (E.loc id).b news (len * te.size) w
  have hk : Keeps E.Z w (w.setCells (E.loc id).b (len * te.size) news) := Keeps.grown md.ok hgb fun b hb => by injection hb with hb; rw [← hb]; exact md.ok.apart id (by rw [hH]; simp) hn
  have hlen2 : (es.take len ++ (ys ++ es.drop (len + ys.length))).length = es.length := by
    simp only [List.length_append, List.length_take, List.length_drop]; omega
  have hrest : cc.toList = flat ++ cc.toList.drop (es.length * te.size) := by
    conv => lhs; rw [← List.take_append_drop (es.length * te.size) cc.toList, k6]
  have hf2 : (flat.take (len * te.size) ++ (news ++ flat.drop (len * te.size + news.length))).length = es.length * te.size := by
    simp only [List.length_append, List.length_take, List.length_drop]; omega
  have hc' : c'.toList = (flat.take (len * te.size) ++ (news ++ flat.drop (len * te.size + news.length))) ++ cc.toList.drop (es.length * te.size) := by
    rw [z2]
    conv => lhs; rw [hrest]
    rw [List.take_append_of_le_length (by omega), List.drop_append_of_le_length (by omega)]
    simp only [List.append_assoc]
  have m' := md.wr hH hn hgb (blk := .arr e te.size (es.take len ++ (ys ++ es.drop (len + ys.length)))) ⟨g1, g2, fun x hx => ?_, g4, .inr ⟨hn, c', flat.take (len * te.size) ++ (news ++ flat.drop (len * te.size + news.length)), z1, by rw [hlen2]; exact k2, k3, ?_, ?_, ?_⟩⟩
  · unfold Oper.wp execOp
    simp only [ho, resolve, hc, hca, hct, invoke, builtin, Sem.run_bind, Sem.run_pure, Result.andThen_ok, List.map_toArray, List.map_cons, List.map_nil, q3, r1, hrun, Oper.upon, Nat.sub_zero]
    exact h fx _ _ Q' ⟨E, m'.put o.dst (.inr ⟨hn, by omega, 0, by simp, fun _ => by rw [g2]; simp⟩)⟩ hq
  · rcases List.mem_append.1 hx with hx | hx
    · exact g3 x (List.mem_of_mem_take hx)
    · rcases List.mem_append.1 hx with hx | hx
      · exact hall x hx
      · exact g3 x (List.mem_of_mem_drop hx)
  · have : c'.toList.length = cc.toList.length := by
      have e1 : cc.toList.length = cc.size := Array.length_toList
      have e2 : (Array.mk es).size = es.length := rfl
      rw [hc', List.length_append, hf2, List.length_drop, e1]; omega
    rw [← k4]; simpa using this
  · refine RDe.keep hk (fun _ h => h) _ _ (RDe_append (RDe_take len k5 g3) (RDe_append r2 ?_))
    have := RDe_drop (len + ys.length) k5 g3
    rw [Nat.add_mul, ← hnl] at this
    exact this
  · rw [hlen2, hc', List.take_append_of_le_length (by rw [hf2]; exact Nat.le_refl _), List.take_of_length_le (by rw [hf2]; exact Nat.le_refl _)]
end Go.Ab
