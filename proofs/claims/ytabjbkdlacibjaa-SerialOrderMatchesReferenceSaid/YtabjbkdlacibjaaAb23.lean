/- The abstract machine: clearing a part of an own row. -/
import Derived.Test.YtabjbkdlacibjaaAb22
namespace Go.Ab
open Go.RowKit

theorem Chain.clear {P : Program} {ops : Array Oper} {o : Oper} {l : List Oper} {S : St} {Q : St → Prop} {c : Call} {s : Operand} {t e : TypeId} {tt te : TI} {id off len : Nat} {es : List (List D)} (hw : wantedV ops S o = some true) (ho : o.op = .call c)
    (hc : c.callee = .builtin .clear) (hca : c.args = #[s]) (hct : c.argTypes = #[t]) (hT : tyOf P t = some tt) (hd : tt.desc = .slice e) (he : tyOf P e = some te) (hzs : te.zero.cells.size = te.size) (hzp : te.zero.cells.toList.all plain = true)
    (hs : S.ev s = .ref id off len) (hH : S.hp id = some (.arr e te.size es)) (hle : off + len ≤ es.length) (hpos : 0 < len)
    (h : Chain false P ops l ((S.setH id (some (.arr e te.size (es.take off ++ (List.replicate len (te.zero.cells.toList.map D.lit) ++ es.drop (off + len)))))).put o.dst (.tup [])) Q) : Chain false P ops (o :: l) S Q := by
  intro fx a w Q' ⟨E, md⟩ hq
  unfold wpList
  rw [if_pos (wantedV_sound md hw)]
  refine .inl ?_
  have hsv := md.ev s
  rw [hs] at hsv
  obtain ⟨g1, g2, g3, g4, g5⟩ := md.ok.hold _ _ hH
  have hne : es ≠ [] := fun e => by subst e; simp at hle; omega
  rcases g5 with ⟨_, g6⟩ | ⟨hn, cc, flat, k1, k2, k3, k4, k5, k6⟩
  · exact absurd g6 hne
  rcases hsv with ⟨q1, _⟩ | ⟨_, q2, aa, q3, q4⟩
  · rw [hn] at q1; cases q1
  have ha := q4 (.inr (by omega))
  rw [g2, g1, Nat.zero_add] at ha
  subst ha
  obtain ⟨hu, i0, hi0, hi1, hi2, hi3⟩ := tyOf_spec he
  have htu : P.underlying t = some (.slice e) := by rw [(tyOf_spec hT).1, hd]
  have hzl : (Builtin.zeroCells te.zero.cells len).toList.length = len * te.size := by simp [Builtin.zeroCells, hzs]
  have hfl : flat.length = es.length * te.size := RDe_length k5 g3
  have hcs : es.length * te.size ≤ cc.size := by rw [k4]; exact Nat.mul_le_mul_right _ k2
  have hend : off * te.size + len * te.size ≤ es.length * te.size := by rw [← Nat.add_mul]; exact Nat.mul_le_mul_right _ hle
  have hrz := RDe_reps (w := w) (Z := E.Z) (z := te.zero.cells) hzp len
  have hcell : ∀ v ∈ (Builtin.zeroCells te.zero.cells len).toList, v.oneCell' = true := RDe_cell hrz
  have hrun := Rp.run_clear_row (P := P) w t o.type e te.zero (E.loc id).b (off * te.size) len ((E.loc id).cap - off) cc htu (fun w => run_zero he w) (by omega) k1 (by have := hzl; rw [Array.length_toList] at this; omega) hcell
  have hgb := Rp.grownBy_setRow w (E.loc id).b (Rp.splice cc.toList (off * te.size) (Builtin.zeroCells te.zero.cells len).toList).toArray
  have z1 := setRow_heap w (E.loc id).b cc (Rp.splice cc.toList (off * te.size) (Builtin.zeroCells te.zero.cells len).toList).toArray e (0, 0) k1
  generalize hzs2 : (Builtin.zeroCells te.zero.cells len).toList = zs at hzl hcell hrun hgb z1
  have hrz : RDe w E.Z (List.replicate len (te.zero.cells.toList.map D.lit)) zs := by rw [← hzs2]; exact hrz
  have hk : Keeps E.Z w (w.setRow (E.loc id).b (Rp.splice cc.toList (off * te.size) zs).toArray) := Keeps.grown md.ok hgb fun b hb => by injection hb with hb; rw [← hb]; exact md.ok.apart id (by rw [hH]; simp) hn
  have hlen2 : (es.take off ++ (List.replicate len (te.zero.cells.toList.map D.lit) ++ es.drop (off + len))).length = es.length := by
    simp only [List.length_append, List.length_take, List.length_drop, List.length_replicate]; omega
  have e1 : cc.toList.length = cc.size := Array.length_toList
  have hrest : cc.toList = flat ++ cc.toList.drop (es.length * te.size) := by
    conv => lhs; rw [← List.take_append_drop (es.length * te.size) cc.toList, k6]
  have hf2 : (flat.take (off * te.size) ++ (zs ++ flat.drop (off * te.size + zs.length))).length = es.length * te.size := by
    simp only [List.length_append, List.length_take, List.length_drop]; omega
  have hc' : Rp.splice cc.toList (off * te.size) zs = (flat.take (off * te.size) ++ (zs ++ flat.drop (off * te.size + zs.length))) ++ cc.toList.drop (es.length * te.size) := by
    unfold Rp.splice
    conv => lhs; rw [hrest]
    rw [List.take_append_of_le_length (by omega), List.drop_append_of_le_length (by omega)]
    simp only [List.append_assoc]
  have m' := md.wr hH hn hgb (blk := .arr e te.size (es.take off ++ (List.replicate len (te.zero.cells.toList.map D.lit) ++ es.drop (off + len)))) ⟨g1, g2, fun x hx => ?_, g4, .inr ⟨hn, _, flat.take (off * te.size) ++ (zs ++ flat.drop (off * te.size + zs.length)), z1, by rw [hlen2]; exact k2, k3, ?_, ?_, ?_⟩⟩
  · unfold Oper.wp execOp
    simp only [ho, resolve, hc, hca, hct, invoke, builtin, Sem.run_bind, Sem.run_pure, Result.andThen_ok, List.map_toArray, List.map_cons, List.map_nil, q3, hrun, Oper.upon]
    exact h fx _ _ Q' ⟨E, m'.put o.dst ⟨[], rfl, rfl⟩⟩ hq
  · rcases List.mem_append.1 hx with hx | hx
    · exact g3 x (List.mem_of_mem_take hx)
    · rcases List.mem_append.1 hx with hx | hx
      · rw [(List.mem_replicate.1 hx).2]; simp [hzs]
      · exact g3 x (List.mem_of_mem_drop hx)
  · rw [List.size_toArray, hc', List.length_append, hf2, List.length_drop, e1, ← k4]; omega
  · refine RDe.keep hk (fun _ h => h) _ _ (RDe_append (RDe_take off k5 g3) (RDe_append hrz ?_))
    have := RDe_drop (off + len) k5 g3
    rw [Nat.add_mul, ← hzl] at this
    exact this
  · rw [hlen2]
    show List.take (es.length * te.size) (Rp.splice cc.toList (off * te.size) zs) = _
    rw [hc', List.take_append_of_le_length (by rw [hf2]; exact Nat.le_refl _), List.take_of_length_le (by rw [hf2]; exact Nat.le_refl _)]
end Go.Ab
