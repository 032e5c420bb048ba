/- The abstract machine: an append of nothing. -/
import Derived.Test.YtabjbkdlacibjaaAb26
namespace Go.Ab
open Go.RowKit

theorem Chain.appNo {P : Program} {ops : Array Oper} {o : Oper} {l : List Oper} {S : St} {Q : St → Prop} {c : Call} {s x : Operand} {t e : TypeId} {tt te : TI} {id len : Nat} {es : List (List D)} (hw : wantedV ops S o = some true) (ho : o.op = .call c)
    (hc : c.callee = .builtin .append) (hca : c.args = #[s, x]) (hct : c.argTypes = #[t, t]) (hT : tyOf P t = some tt) (hd : tt.desc = .slice e) (he : tyOf P e = some te)
    (hs : S.ev s = .ref id 0 len) (hH : S.hp id = some (.arr e te.size es)) (hx : srcV S.hp (S.ev x) = some []) (hlen : len ≤ es.length) (hne : 0 < es.length)
    (h : Chain false P ops l (S.put o.dst (.ref id 0 len)) Q) : Chain false P ops (o :: l) S Q := by
  intro fx a w Q' ⟨E, md⟩ hq
  unfold wpList
  rw [if_pos (wantedV_sound md hw)]
  refine .inl ?_
  have hsv := md.ev s
  rw [hs] at hsv
  have hsv0 := hsv
  obtain ⟨cap, h1, hcap, h2, h3, h4, h5⟩ := ref_row hsv (md.ok.hold _ _ hH) (by omega) (by omega)
  obtain ⟨hu, i0, hi0, hi1, hi2, hi3⟩ := tyOf_spec he
  have htu : P.underlying t = some (.slice e) := by rw [(tyOf_spec hT).1, hd]
  have run : (Builtin.append_ #[t, t] o.type #[a.eval s, a.eval x]).run P w = .ok (a.eval s) w := by
    rcases srcV_sound md.ok (md.ev x) hx te.size with ⟨r1, _⟩ | ⟨ax, cp, news, r1, r2, r3⟩
    · rw [h1, r1]
      simp [Builtin.append_, run_underlying htu, sizeOf, typeInfo, hi0, Builtin.lenOf, Builtin.firstCells, loadCells, loadCellsFrom, hcap, show len ≤ (E.loc id).cap by omega]
      rfl
    · have hn : news = [] := List.eq_nil_of_length_eq_zero (by have := RDe_length (n := te.size) r2 (fun e he => by cases he); simpa using this)
      subst hn
      have := run_append_room_cells (P := P) (w := w) t o.type e i0 htu hi0 (E.loc id).b (0 * te.size) len (cap - 0) ax 0 cp [] (by simp) r3 (fun u hu => by cases hu) (by omega) (fun j hj => by cases hj) (fun j hj => by cases hj)
      rw [h1, r1]
      exact this
  unfold Oper.wp execOp
  simp only [ho, resolve, hc, hca, hct, invoke, builtin, Sem.run_bind, Sem.run_pure, Result.andThen_ok, List.map_toArray, List.map_cons, List.map_nil, run, Oper.upon]
  exact h fx _ _ Q' ⟨E, md.put o.dst hsv0⟩ hq
end Go.Ab
