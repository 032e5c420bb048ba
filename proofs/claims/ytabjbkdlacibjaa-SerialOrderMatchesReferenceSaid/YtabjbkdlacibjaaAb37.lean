/- The abstract machine: an append to a slice without room: the elements are copied. -/
import Derived.Test.YtabjbkdlacibjaaAb36
namespace Go.Ab
open Go.RowKit

theorem Chain.appDx {P : Program} {ops : Array Oper} {o : Oper} {l : List Oper} {S : St} {Q : St → Prop} {c : Call} {s x : Operand} {t e : TypeId} {tt te : TI} {d : Nat} {es ys : List (List D)} (hw : wantedV ops S o = some true) (ho : o.op = .call c)
    (hc : c.callee = .builtin .append) (hca : c.args = #[s, x]) (hct : c.argTypes = #[t, t]) (hT : tyOf P t = some tt) (hd : tt.desc = .slice e) (he : tyOf P e = some te) (hdst : o.dst = some d) (hid : S.rts.contains d = false)
    (hs : S.ev s = .dx es) (hes : es.all (fun y => y.length = te.size) = true) (hx : srcV S.hp (S.ev x) = some ys) (hys : ys.all (fun y => y.length = te.size) = true) (hpos : 0 < ys.length)
    (hsz : 0 < te.size) (hpb : 0 < te.bytes) (hzc : te.zero.cells.size = te.size) (hbytes : (es.length + ys.length) * te.bytes ≤ Rp.reach)
    (h : Chain false P ops l (((S.kill d).setH d (some (.arr e te.size (es ++ ys)))).put (some d) (.ref d 0 (es.length + ys.length))) Q) : Chain false P ops (o :: l) S Q := by
  intro fx a w Q' ⟨E, md⟩ hq
  unfold wpList
  rw [if_pos (wantedV_sound md hw)]
  refine .inl ?_
  have hid' : d ∉ S.rts := by simpa using hid
  have hes' : ∀ y ∈ es, y.length = te.size := fun y hy => of_decide_eq_true (List.all_eq_true.1 hes y hy)
  have hys' : ∀ y ∈ ys, y.length = te.size := fun y hy => of_decide_eq_true (List.all_eq_true.1 hys y hy)
  have hsv := md.ev s
  rw [hs] at hsv
  have hxv := md.ev x
  obtain ⟨hu, i0, hi0, hi1, hi2, hi3⟩ := tyOf_spec he
  have htu : P.underlying t = some (.slice e) := by rw [(tyOf_spec hT).1, hd]
  rcases srcV_sound md.ok hxv hx te.size with ⟨_, r1⟩ | ⟨ax, cap, news, r1, r2, r3⟩
  · rw [r1] at hpos; simp at hpos
  have hnl : news.length = ys.length * te.size := RDe_length r2 hys'
  have hmax : es.length + ys.length ≤ maxLen := by
    have h1 : (es.length + ys.length) * 1 ≤ (es.length + ys.length) * te.bytes := Nat.mul_le_mul_left _ hpb
    unfold Rp.reach at hbytes
    simp only [maxLen]
    omega
  have key : ∃ u w' flat, (Builtin.append_ #[t, t] o.type #[a.eval s, a.eval x]).run P w = .ok u w' ∧ RDe w E.Z es flat ∧ (∃ g cap' cur, u = .slice (some ⟨g, 0, none⟩) (es.length + ys.length) cap' ∧ w'.heap[g]? = some (.cells cur e (0, 0)) ∧ es.length + ys.length ≤ cap' ∧ cap' ≤ maxLen ∧ cur.size = cap' * te.size ∧ cur.toList.take ((es.length + ys.length) * te.size) = flat ++ news ∧ w.heap.size ≤ g) ∧ w.grownBy w' none := by
    obtain ⟨⟨A, cp, e1, e2, e3, e4, e5⟩, A', e6⟩ := hsv
    by_cases hn : es = []
    · subst hn
      have hv : a.eval s = .slice A' 0 0 := e6
      cases A' with
      | none =>
        have hrun := run_append_where (P := P) w 0 t o.type e i0 te.zero te.size te.bytes htu hi0 hi3 hi1 hi2 hzc hsz (.slice none 0 0) 0 [] (World.ownsRow_nil _ _ _ _) ax ys.length cap news hnl r3 (RDe_cell r2) (by simpa using hbytes) hpb (Nat.zero_le _)
        obtain ⟨u, w', h1, h2, h3, h4⟩ := hrun
        refine ⟨u, w', [], by rw [hv, r1]; exact h1, rfl, ?_, h3⟩
        rcases h2.2 with ⟨rfl, h0⟩ | ⟨g, cap', cur, rfl, _, hgc, hnc, hcm, hcs, htake⟩
        · exfalso
          omega
        · refine ⟨g, cap', cur, by simp, hgc, by simpa using hnc, hcm, hcs, by simpa using htake, ?_⟩
          rcases h4 with h4 | ⟨g', h4, hle⟩
          · cases h4
          · have : g = g' := by injection h4
            rw [this]; exact hle
      | some b =>
        obtain ⟨u, w', h1, h2, h3⟩ := run_append_arg_grows (P := P) (w := w) t o.type e i0 te.zero te.size te.bytes htu hi0 hi3 hi1 hi2 hzc hsz b 0 0 [] (by simp) (fun j u hu => by simp at hu) ax ys.length cap news hnl r3 (by omega) (by simpa using hmax) (by simpa using hbytes)
        refine ⟨u, w', [], by rw [hv, r1]; exact h1, rfl, ?_, h3⟩
        rcases h2.2 with ⟨rfl, h0⟩ | ⟨g, cap', cur, rfl, hbase, hgc, hnc, hcm, hcs, htake⟩
        · exfalso
          omega
        · exact ⟨g, cap', cur, by simp, hgc, by simpa using hnc, hcm, hcs, by simpa using htake, hbase⟩
    · obtain ⟨b, ob, n, flat, f1, f2, f3, f4, f5⟩ := e5 hn
      have hnn : n = te.size := by
        cases es with
        | nil => exact absurd rfl hn
        | cons x0 r0 => rw [← f3 x0 (.head _), hes' x0 (.head _)]
      subst hnn
      have hv : a.eval s = .slice (some ⟨b, ob, none⟩) es.length es.length := by
        rw [e1] at e6
        injection e6 with q1 q2 q3
        rw [e1, f1, q3]
      have hfl : flat.length = es.length * te.size := RDe_length f4 hes'
      obtain ⟨u, w', h1, h2, h3⟩ := run_append_arg_grows (P := P) (w := w) t o.type e i0 te.zero te.size te.bytes htu hi0 hi3 hi1 hi2 hzc hsz ⟨b, ob, none⟩ es.length es.length flat hfl (rangeAt_add f5) ax ys.length cap news hnl r3 (by omega) hmax hbytes
      refine ⟨u, w', flat, by rw [hv, r1]; exact h1, f4, ?_, h3⟩
      rcases h2.2 with ⟨rfl, h0⟩ | ⟨g, cap', cur, rfl, hbase, hgc, hnc, hcm, hcs, htake⟩
      · exfalso
        omega
      · exact ⟨g, cap', cur, rfl, hgc, hnc, hcm, hcs, htake, hbase⟩
  obtain ⟨u, w', flat, hrun, hflat, ⟨g, cap', cur, rfl, hgc, hnc, hcm, hcs, htake, hge⟩, hgb⟩ := key
  have hk : Keeps E.Z w w' := Keeps.grown md.ok hgb fun b hb => by cases hb
  have hcat : RDe w' E.Z (es ++ ys) (flat ++ news) := RDe.keep hk (fun _ h => h) _ _ (RDe_append hflat r2)
  have hall2 : ∀ y ∈ es ++ ys, y.length = te.size := fun y hy => (List.mem_append.1 hy).elim (hes' y) (hys' y)
  have m' := md.re (row := none) hid' hgb (fun b hb => by cases hb) ⟨g, 0, te.size, cap', false⟩ (blk := .arr e te.size (es ++ ys)) ⟨by simp [Env.at], by simp [Env.at], hall2, hsz, .inr ⟨by simp [Env.at], cur, _, by simpa [Env.at] using hgc, by simpa [Env.at] using hnc, by simpa [Env.at] using hcm, by simpa [Env.at] using hcs, hcat, by rw [List.length_append]; exact htake⟩⟩ (fun _ => .inr hge)
  unfold Oper.wp execOp
  simp only [ho, resolve, hc, hca, hct, invoke, builtin, Sem.run_bind, Sem.run_pure, Result.andThen_ok, List.map_toArray, List.map_cons, List.map_nil, hrun, Oper.upon, hdst]
  exact h fx _ _ Q' ⟨_, m'.put (some d) (.inr ⟨by simp [Env.at], by simpa [Env.at] using hnc, 0, by simp [Env.at], fun _ => by simp [Env.at]⟩)⟩ hq
end Go.Ab
