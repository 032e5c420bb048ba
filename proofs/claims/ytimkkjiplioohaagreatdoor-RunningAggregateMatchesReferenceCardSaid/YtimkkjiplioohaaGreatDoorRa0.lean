/- The types of the program's data, in Lean. -/
import Derived.Test.YtimkkjiplioohaaGreatDoorTy
import Derived.Laws.CopyRow
import Derived.Lib.AppendZeros
import Derived.Laws.IdiomCopy
section
namespace Go.Ab
open Go.RowKit
def mkL {α : Type} (b : Nat) (n : Int) (z : α) : Option (List α) := if 0 ≤ n ∧ n.toNat * b ≤ Rp.reach then some (List.replicate n.toNat z) else none
theorem mkL_some {α : Type} {b : Nat} {n : Int} {z : α} {l : List α} (c : α → List D) (h : mkL b n z = some l) : 0 ≤ n ∧ l.length * b ≤ Rp.reach ∧ List.replicate l.length (c z) = l.map c ∧ n.toNat = l.length := by
 obtain ⟨h1, h2⟩ := gsome h
 injection h2 with h2
 subst h2
 exact ⟨h1.1, by simpa using h1.2, by simp, by simp⟩
def growL (b : Nat) (n : Int) : Option Unit := if 0 ≤ n ∧ n.toNat * b ≤ Rp.reach then some () else none
theorem growL_some {b : Nat} {n : Int} {u : Unit} (h : growL b n = some u) : ∃ k : Nat, n = k ∧ k * b ≤ Rp.reach := by
 obtain ⟨h1, _⟩ := gsome h
 exact ⟨n.toNat, by omega, h1.2⟩
theorem csome {n : Int} {β : Type} {k : Int → Option β} {r : β} (h : (chkI n).bind k = some r) : ∃ v, IntKind.i64.wrap n = v ∧ k v = some r := by
  obtain ⟨v, h1, h2⟩ := bsome h
  exact ⟨v, chkI_some h1, h2⟩
theorem xsome {α β : Type} {xs : List α} {i : Int} {k : α → Option β} {r : β} (h : (idx xs i).bind k = some r) : ∃ x n, i.toNat = n ∧ xs[n]? = some x ∧ 0 ≤ i ∧ i < xs.length ∧ k x = some r := by
  obtain ⟨x, h1, h2⟩ := bsome h
  obtain ⟨n, h3, h4, h5, h6⟩ := idx_some h1
  exact ⟨x, n, h3, h4, h5, h6, h2⟩
theorem pure_capNil {P : Program} {S : St} {c : Call} {t e : TypeId} {tt : TI} {x : Operand} (hc : c.callee = .builtin .cap) (hca : c.args = #[x]) (hct : c.argTypes = #[t]) (hT : tyOf P t = some tt) (hd : tt.desc = .slice e) (hx : S.ev x = .d (.lit (.slice none 0 0))) :
  Pure P (.call c) S (.d (.lit (.int .i64 0))) := by
 intro E w ρ oo hoo ok hev
 have h := hev x
 rw [hx] at h
 have h := RD_lit h
 have htu : P.underlying t = some (.slice e) := by rw [(tyOf_spec hT).1, hd]
 refine ⟨.int .i64 0, ⟨rfl, rfl⟩, fun w' _ => ?_⟩
 unfold execOp
 rw [hoo]
 simp [resolve, hc, hca, hct, invoke, builtin, Builtin.cap_, run_underlying htu, h, goInt]
theorem pure_sliceNil {P : Program} {S : St} {T e : TypeId} {ti te : TI} {x y : Operand} (hT : tyOf P T = some ti) (hd : ti.desc = .slice e) (he : tyOf P e = some te) (hx : S.ev x = .d (.lit (.slice none 0 0))) (hy : S.ev y = .d (.lit (.int .i64 0))) :
  Pure P (.slice T x none (some y) none) S (.d (.lit (.slice none 0 0))) := by
 intro E w ρ oo hoo ok hev
 have h := hev x
 rw [hx] at h
 have h := RD_lit h
 have g := hev y
 rw [hy] at g
 have g := RD_lit g
 have htu : P.underlying T = some (.slice e) := by rw [(tyOf_spec hT).1, hd]
 refine ⟨.slice none 0 0, ⟨rfl, rfl⟩, fun w' _ => ?_⟩
 unfold execOp
 rw [hoo]
 simp [Instr.sliceAt, Instr.slice, run_underlying htu, h, g, Instr.sliceBounds, Instr.sliceBound, asIntOf, run_sizeOf he]
theorem Chain.appMk {P : Program} {ops : Array Oper} {o : Oper} {l : List Oper} {S : St} {Q : St → Prop} {c : Call} {s x : Operand} {t tn e : TypeId} {tt tq te : TI} {d : Nat} {k kn : IntKind} {n : Nat} (hw : wantedV ops S o = some true) (ho : o.op = .call c)
  (hc : c.callee = .builtin .append) (hca : c.args = #[s, x]) (hct : c.argTypes = #[t, tn]) (hT : tyOf P t = some tt) (hd : tt.desc = .slice e) (hTn : tyOf P tn = some tq) (hdn : tq.desc = .int kn) (he : tyOf P e = some te) (hdst : o.dst = some d) (hid : S.rts.contains d = false)
  (hs : S.ev s = .d (.lit (.slice none 0 0))) (hx : S.ev x = .d (.lit (.int k n))) (hn : 0 < n)
  (hsz : 0 < te.size) (hpb : 0 < te.bytes) (hzc : te.zero.cells.size = te.size) (hzp : te.zero.cells.toList.all plain = true) (hbytes : n * te.bytes ≤ Rp.reach)
  (h : Chain false P ops l (((S.kill d).setH d (some (.arr e te.size (List.replicate n (te.zero.cells.toList.map .lit))))).put (some d) (.ref d 0 n)) Q) : Chain false P ops (o :: l) S Q := by
 intro fx a w Q' ⟨E, md⟩ hq
 unfold wpList
 rw [if_pos (wantedV_sound md hw)]
 refine .inl ?_
 have hid' : d ∉ S.rts := by simpa using hid
 have hsv := md.ev s
 rw [hs] at hsv
 have hsv := RD_lit hsv
 have hxv := md.ev x
 rw [hx] at hxv
 have hxv := RD_lit hxv
 obtain ⟨hu, i0, hi0, hi1, hi2, hi3⟩ := tyOf_spec he
 have htu : P.underlying t = some (.slice e) := by rw [(tyOf_spec hT).1, hd]
 have htn : P.underlying tn = some (.int kn) := by rw [(tyOf_spec hTn).1, hdn]
 have hnm : n ≤ Rp.reach := Nat.le_trans (Nat.le_mul_of_pos_right _ hpb) hbytes
 unfold Rp.reach at hnm hbytes
 have hrun := Lib.run_append_nil_zeros (P := P) w t tn o.type e i0 te.zero k kn htu htn hi0 hi3 n hn (by omega) (by omega) (by rw [hi2]; omega)
 have hml : n ≤ maxLen := by unfold maxLen; omega
 have hge := grownCap_ge w n 0 e
 have hle := grownCap_le_maxLen w n 0 e hml
 have md' : Mod fx S E a w.drew := md.grow ((Below.refl _ w).drew)
 have hreps := RDe_reps (w := w.drew) (Z := E.Z) hzp n
 have hz0 : ∀ q, (Builtin.zeroCells te.zero.cells q).size = q * te.size := fun q => by unfold Builtin.zeroCells; rw [Array.size_map, Array.size_range, hzc]
 obtain ⟨E', m', hr⟩ := md'.newArr (d := d) hid' (e := e) (n := te.size) (es := List.replicate n (te.zero.cells.toList.map D.lit)) (c := Builtin.zeroCells te.zero.cells n ++ Builtin.zeroCells te.zero.cells (grownCap w n 0 e - n)) (cap := grownCap w n 0 e) hsz
  (fun x hx => by rw [(List.mem_replicate.1 hx).2, List.length_map, Array.length_toList, hzc]) (by simpa using hge) hle (by rw [Array.size_append, hz0, hz0, ← Nat.add_mul]; congr 1; omega) hreps (by
   rw [List.length_replicate, Array.toList_append, List.take_left']
   ·rfl
   ·rw [Array.length_toList, hz0])
 simp only [List.length_replicate] at hr
 unfold Oper.wp execOp
 simp only [ho, resolve, hc, hca, hct, invoke, builtin, Sem.run_bind, Sem.run_pure, Result.andThen_ok, List.map_toArray, List.map_cons, List.map_nil, hsv, hxv, hrun, Oper.upon, hdst]
 exact h fx _ _ Q' ⟨E', m'.put (some d) hr⟩ hq
theorem St.setH_eq (S : St) (id : Nat) {b : Blk} (h : S.hp id = some b) : S.setH id (some b) = S := by
 cases S with
 | mk nt rts sl hp =>
  simp only [St.setH, St.mk.injEq, true_and]
  funext i
  split
  ·rename_i e; subst e; exact h.symm
  ·rfl
theorem Chain.copyD {P : Program} {ops : Array Oper} {o : Oper} {l : List Oper} {S : St} {Q : St → Prop} {c : Call} {s y : Operand} {t t2 e : TypeId} {tt te : TI} {id len : Nat} {es ys : List (List D)} (n : Nat) (hw : wantedV ops S o = some true) (ho : o.op = .call c)
  (hc : c.callee = .builtin .copy) (hca : c.args = #[s, y]) (hct : c.argTypes = #[t, t2]) (hT : tyOf P t = some tt) (hd : tt.desc = .slice e) (he : tyOf P e = some te) (hz : te.size = 1)
  (hs : S.ev s = .ref id 0 len) (hlen : len = es.length) (hH : S.hp id = some (.arr e 1 es)) (hy : S.ev y = .d (.sl ys)) (hy1 : ∀ x ∈ ys, x.length = 1) (hn : Nat.min ys.length es.length = n)
  (h : Chain false P ops l ((S.setH id (some (.arr e 1 (ys.take n ++ es.drop n)))).put o.dst (.d (.lit (.int .i64 n)))) Q) : Chain false P ops (o :: l) S Q := by
 subst hlen
 intro fx a w Q' ⟨E, md⟩ hq
 unfold wpList
 rw [if_pos (wantedV_sound md hw)]
 refine .inl ?_
 have hsv := md.ev s
 rw [hs] at hsv
 have hyv := md.ev y
 rw [hy] at hyv
 obtain ⟨A, capy, hyA, y1, y2, y3, y4⟩ := hyv
 obtain ⟨g1, g2, g3, g4, g5⟩ := md.ok.hold _ _ hH
 obtain ⟨hu, i0, hi0, hi1, hi2, hi3⟩ := tyOf_spec he
 have htu : P.underlying t = some (.slice e) := by rw [(tyOf_spec hT).1, hd]
 have hsz : (P.info? e).map (·.size) = some 1 := by rw [hi0]; simp [hi1, hz]
 obtain ⟨w', hm, hrun⟩ : ∃ w', Models fx ((S.setH id (some (.arr e 1 (ys.take n ++ es.drop n)))).put o.dst (.d (.lit (.int .i64 n)))) (a.put o.dst (goInt n)) w' ∧ (Builtin.copy_ #[t, t2] o.type #[a.eval s, a.eval y]).run P w = .ok (goInt n) w' := by
  by_cases h0 : n = 0
  ·subst h0
   have hS : S.setH id (some (.arr e 1 (ys.take 0 ++ es.drop 0))) = S := St.setH_eq S id (by simpa using hH)
   refine ⟨w, ?_, ?_⟩
   ·rw [hS]
    exact ⟨E, md.put o.dst ⟨rfl, rfl⟩⟩
   ·rw [hyA]
    rcases hsv with ⟨_, q2, q3, q4⟩ | ⟨_, q2, aa, q3, q4⟩
    ·rw [q4]
     exact run_copy_none w t t2 o.type e _ _ _ _ _ _ htu hsz (by simp)
    ·rw [q3]
     exact run_copy_none w t t2 o.type e _ _ _ _ _ _ htu hsz (by simpa using hn)
  ·have hmin : n ≤ ys.length ∧ n ≤ es.length := by rw [← hn]; exact ⟨Nat.min_le_left _ _, Nat.min_le_right _ _⟩
   have hne : es ≠ [] := fun e => by subst e; simp at hmin; omega
   have hney : ys ≠ [] := fun e => by subst e; simp at hmin; omega
   rcases g5 with ⟨_, g6⟩ | ⟨hnil, cc, flat, k1, k2, k3, k4, k5, k6⟩
   ·exact absurd g6 hne
   rcases hsv with ⟨q1, _⟩ | ⟨_, q2, aa, q3, q4⟩
   ·rw [hnil] at q1; cases q1
   have ha := q4 (.inl rfl)
   rw [g2, Nat.zero_mul] at ha
   subst ha
   obtain ⟨b, ob, kk, fy, rfl, hZ, hyl, hfy, hrange⟩ := y4 hney
   have hfl : flat.length = es.length * 1 := RDe_length k5 g3
   have hfyl : fy.length = ys.length * 1 := RDe_length hfy hy1
   have hcsl : (fy.take n).length = n := by rw [List.length_take]; omega
   have hRy : RDe w E.Z (ys.take n) (fy.take n) := by have := RDe_take n hfy hy1; rwa [Nat.mul_one] at this
   have hrun := run_copy_row (P := P) w t t2 o.type e (E.loc id).b 0 es.length ((E.loc id).cap - 0) ⟨b, ob, none⟩ ys.length capy cc e (fy.take n) htu hsz k1 (by rw [hcsl]; exact hn.symm)
    (fun j v hv => by
     rw [Addr.add_mid]
     refine hrange j v ?_
     rw [List.getElem?_take] at hv
     split at hv
     ·exact hv
     ·cases hv) (by omega) (RDe_cell hRy)
   rw [hcsl] at hrun
   generalize hrow : (cc.toList.take 0 ++ fy.take n ++ cc.toList.drop (0 + n)).toArray = row at hrun
   have hgb := Rp.grownBy_setRow w (E.loc id).b row
   have z1 := setRow_heap w (E.loc id).b cc row e (0, 0) k1
   have hk : Keeps E.Z w (w.setRow (E.loc id).b row) := Keeps.grown md.ok hgb fun b hb => by injection hb with hb; rw [← hb]; exact md.ok.apart1 id (by rw [hH]; simp) hnil
   have e1 : cc.toList.length = cc.size := Array.length_toList
   have hrl : row.toList = fy.take n ++ cc.toList.drop n := by rw [← hrow]; simp
   have hrs : row.size = cc.size := by
    rw [← Array.length_toList, hrl, List.length_append, hcsl, List.length_drop]; omega
   have hl2 : (ys.take n ++ es.drop n).length = es.length := by simp only [List.length_append, List.length_take, List.length_drop]; omega
   have m' := md.wr hH hnil hgb (blk := .arr e 1 (ys.take n ++ es.drop n)) ⟨g1, g2, fun x hx => ?_, g4, .inr ⟨hnil, row, fy.take n ++ flat.drop n, z1, by rw [hl2]; exact k2, k3, by rw [hrs]; exact k4, ?_, ?_⟩⟩
   ·refine ⟨_, ⟨E, m'.put o.dst ⟨rfl, rfl⟩⟩, ?_⟩
    rw [q3, hyA]
    exact hrun
   ·rcases List.mem_append.1 hx with hx | hx
    ·exact hy1 x (List.mem_of_mem_take hx)
    ·exact g3 x (List.mem_of_mem_drop hx)
   ·have hd := RDe_drop n k5 g3
    rw [Nat.mul_one] at hd
    exact RDe.keep hk (fun _ h => h) _ _ (RDe_append hRy hd)
   ·rw [hl2, hrl, ← k6, Nat.mul_one, List.take_append, hcsl, List.take_of_length_le (by omega), List.drop_take]
 unfold Oper.wp execOp
 simp only [ho, resolve, hc, hca, hct, invoke, builtin, Sem.run_bind, Sem.run_pure, Result.andThen_ok, List.map_toArray, List.map_cons, List.map_nil, hrun, Oper.upon]
 exact h fx _ _ Q' hm hq
set_option maxHeartbeats 1000000 in
theorem Chain.copyO {P : Program} {ops : Array Oper} {o : Oper} {l : List Oper} {S : St} {Q : St → Prop} {c : Call} {s y : Operand} {t t2 e : TypeId} {tt te : TI} {id off len : Nat} {es ys : List (List D)} (n : Nat) (hw : wantedV ops S o = some true) (ho : o.op = .call c)
  (hc : c.callee = .builtin .copy) (hca : c.args = #[s, y]) (hct : c.argTypes = #[t, t2]) (hT : tyOf P t = some tt) (hd : tt.desc = .slice e) (he : tyOf P e = some te) (hz : te.size = 1)
  (hs : S.ev s = .ref id off len) (hlen : off + len = es.length) (hH : S.hp id = some (.arr e 1 es)) (hy : S.ev y = .d (.sl ys)) (hy1 : ∀ x ∈ ys, x.length = 1) (hn : Nat.min ys.length len = n)
  (h : Chain false P ops l ((S.setH id (some (.arr e 1 (es.take off ++ (ys.take n ++ es.drop (off + n)))))).put o.dst (.d (.lit (.int .i64 n)))) Q) : Chain false P ops (o :: l) S Q := by
 intro fx a w Q' ⟨E, md⟩ hq
 unfold wpList
 rw [if_pos (wantedV_sound md hw)]
 refine .inl ?_
 have hsv := md.ev s
 rw [hs] at hsv
 have hyv := md.ev y
 rw [hy] at hyv
 obtain ⟨A, capy, hyA, y1, y2, y3, y4⟩ := hyv
 obtain ⟨g1, g2, g3, g4, g5⟩ := md.ok.hold _ _ hH
 obtain ⟨hu, i0, hi0, hi1, hi2, hi3⟩ := tyOf_spec he
 have htu : P.underlying t = some (.slice e) := by rw [(tyOf_spec hT).1, hd]
 have hsz : (P.info? e).map (·.size) = some 1 := by rw [hi0]; simp [hi1, hz]
 obtain ⟨w', hm, hrun⟩ : ∃ w', Models fx ((S.setH id (some (.arr e 1 (es.take off ++ (ys.take n ++ es.drop (off + n)))))).put o.dst (.d (.lit (.int .i64 n)))) (a.put o.dst (goInt n)) w' ∧ (Builtin.copy_ #[t, t2] o.type #[a.eval s, a.eval y]).run P w = .ok (goInt n) w' := by
  by_cases h0 : n = 0
  ·subst h0
   have hS : S.setH id (some (.arr e 1 (es.take off ++ (ys.take 0 ++ es.drop (off + 0))))) = S := St.setH_eq S id (by simpa using hH)
   refine ⟨w, ?_, ?_⟩
   ·rw [hS]
    exact ⟨E, md.put o.dst ⟨rfl, rfl⟩⟩
   ·rw [hyA]
    rcases hsv with ⟨_, q2, q3, q4⟩ | ⟨_, q2, aa, q3, q4⟩
    ·rw [q4]
     exact run_copy_none w t t2 o.type e _ _ _ _ _ _ htu hsz (by simp)
    ·rw [q3]
     exact run_copy_none w t t2 o.type e _ _ _ _ _ _ htu hsz (by simpa using hn)
  ·have hmin : n ≤ ys.length ∧ n ≤ len := by rw [← hn]; exact ⟨Nat.min_le_left _ _, Nat.min_le_right _ _⟩
   have hne : es ≠ [] := fun e => by subst e; simp at hlen; omega
   have hney : ys ≠ [] := fun e => by subst e; simp at hmin; omega
   rcases g5 with ⟨_, g6⟩ | ⟨hnil, cc, flat, k1, k2, k3, k4, k5, k6⟩
   ·exact absurd g6 hne
   rcases hsv with ⟨q1, _⟩ | ⟨_, q2, aa, q3, q4⟩
   ·rw [hnil] at q1; cases q1
   have ha := q4 (.inr (by omega))
   rw [g2, g1, Nat.zero_add, Nat.mul_one] at ha
   subst ha
   obtain ⟨b, ob, kk, fy, rfl, hZ, hyl, hfy, hrange⟩ := y4 hney
   have hfl : flat.length = es.length * 1 := RDe_length k5 g3
   have hfyl : fy.length = ys.length * 1 := RDe_length hfy hy1
   have hcsl : (fy.take n).length = n := by rw [List.length_take]; omega
   have hRy : RDe w E.Z (ys.take n) (fy.take n) := by have := RDe_take n hfy hy1; rwa [Nat.mul_one] at this
   have hrun := run_copy_row (P := P) w t t2 o.type e (E.loc id).b aa len ((E.loc id).cap - aa) ⟨b, ob, none⟩ ys.length capy cc e (fy.take n) htu hsz k1 (by rw [hcsl]; exact hn.symm)
    (fun j v hv => by
     rw [Addr.add_mid]
     refine hrange j v ?_
     rw [List.getElem?_take] at hv
     split at hv
     ·exact hv
     ·cases hv) (by omega) (RDe_cell hRy)
   rw [hcsl] at hrun
   generalize hrow : (cc.toList.take aa ++ fy.take n ++ cc.toList.drop (aa + n)).toArray = row at hrun
   have hgb := Rp.grownBy_setRow w (E.loc id).b row
   have z1 := setRow_heap w (E.loc id).b cc row e (0, 0) k1
   have hk : Keeps E.Z w (w.setRow (E.loc id).b row) := Keeps.grown md.ok hgb fun b hb => by injection hb with hb; rw [← hb]; exact md.ok.apart1 id (by rw [hH]; simp) hnil
   have e1 : cc.toList.length = cc.size := Array.length_toList
   have hrl : row.toList = cc.toList.take aa ++ (fy.take n ++ cc.toList.drop (aa + n)) := by rw [← hrow]; simp
   have hrs : row.size = cc.size := by
    rw [← Array.length_toList, hrl, List.length_append, List.length_append, hcsl, List.length_drop, List.length_take]; omega
   have hl2 : (es.take aa ++ (ys.take n ++ es.drop (aa + n))).length = es.length := by simp only [List.length_append, List.length_take, List.length_drop]; omega
   have m' := md.wr hH hnil hgb (blk := .arr e 1 (es.take aa ++ (ys.take n ++ es.drop (aa + n)))) ⟨g1, g2, fun x hx => ?_, g4, .inr ⟨hnil, row, flat.take aa ++ (fy.take n ++ flat.drop (aa + n)), z1, by rw [hl2]; exact k2, k3, by rw [hrs]; exact k4, ?_, ?_⟩⟩
   ·refine ⟨_, ⟨E, m'.put o.dst ⟨rfl, rfl⟩⟩, ?_⟩
    rw [q3, hyA]
    exact hrun
   ·rcases List.mem_append.1 hx with hx | hx
    ·exact g3 x (List.mem_of_mem_take hx)
    ·rcases List.mem_append.1 hx with hx | hx
     ·exact hy1 x (List.mem_of_mem_take hx)
     ·exact g3 x (List.mem_of_mem_drop hx)
   ·have hd := RDe_drop (aa + n) k5 g3
    have ht := RDe_take aa k5 g3
    rw [Nat.mul_one] at hd ht
    exact RDe.keep hk (fun _ h => h) _ _ (RDe_append ht (RDe_append hRy hd))
   ·have hf : flat = cc.toList.take es.length := by rw [← k6, Nat.mul_one]
    have la : (cc.toList.take aa).length = aa := by rw [List.length_take]; omega
    rw [hl2, hrl, Nat.mul_one, List.take_append, la, List.take_of_length_le (by rw [la]; omega), List.take_append, hcsl, List.take_of_length_le (i := es.length - aa) (by rw [hcsl]; omega), List.take_drop]
    have t1 : flat.take aa = cc.toList.take aa := by rw [hf, List.take_take, Nat.min_eq_left (by omega)]
    have t2 : flat.drop (aa + n) = (cc.toList.take es.length).drop (aa + n) := by rw [hf]
    rw [t1, t2, show aa + n + (es.length - aa - n) = es.length by omega]
 unfold Oper.wp execOp
 simp only [ho, resolve, hc, hca, hct, invoke, builtin, Sem.run_bind, Sem.run_pure, Result.andThen_ok, List.map_toArray, List.map_cons, List.map_nil, hrun, Oper.upon]
 exact h fx _ _ Q' hm hq
inductive Ran : Option (List Oper × St) → List Oper → St → Prop
  | mk {l : List Oper} {S : St} : Ran (some (l, S)) l S
theorem Chain.rr {P : Program} {ops : Array Oper} {l l' : List Oper} {S S' : St} {Q : St → Prop} (n : Nat) (h : Chain false P ops l' S' Q) (e : Ran (Ab.runM (tyOf P) [] ops n l S) l' S' := by simp; exact .mk) : Chain false P ops l S Q := by
 refine .rk n fun K k => ?_
 generalize Ab.runM (tyOf P) [] ops n l S = o at e ⊢
 cases e
 exact k h
theorem thenQ_ps {K : St → Prop} {S : St} {Q : Exit → St → Prop} {e : Exit} (h : Q e S) (he : e ≠ .normal := by simp) : thenQ K Q e S := thenQ_pass he h
theorem FinC.rs {P : Program} {fn : Func} {v : V} {S : St} (h1 : v.closed = true := by simp) (h2 : outV (tyOf P) fn.results.toList S = some v := by simp) : FinC P fn v .ret S := .ret h1 h2
theorem PostI.os {σ ρ : Type} {S : St} {I : σ → St} {r r' : ρ} {Q : Exit → St → Prop} {e : Exit} (h : r' = r → Q e S) (he : e ≠ .normal := by simp) : PostI I r Q (.inr r') e S := .out he h
theorem Sub.tT {nt : Nat} {rts : List Nat} {l l' : List (Nat × V)} {h h' : List (Nat × Option Blk)} (hl : ∀ p ∈ l', p.2 = tlook l p.1 := by simp [T]) (hh : ∀ p ∈ h', p.2 = hlook h p.1 := by simp [T]) : Sub (mk nt rts l h) (mk nt rts l' h') := .table hl hh
end Go.Ab
end
namespace Go.Proofs.YtimkkjiplioohaaGreatDoor
open Go.Ab Go.Rp
attribute [-simp] List.all_eq_true Array.all_toList Array.all_eq_true
@[simp] theorem ty151 : tyOf Tryz.prog 151 = some ⟨TypeDesc.slice 22, 1, 24, Value.slice none 0 0⟩ := by kernel_rfl
theorem ent37 : Go.Rp.Enters Tryz.prog 37 := Go.Rp.enters_of Tryz.func37 (by kernel_rfl) rfl
theorem ent38 : Go.Rp.Enters Tryz.prog 38 := Go.Rp.enters_of Tryz.func38 (by kernel_rfl) rfl
theorem ent82 : Go.Rp.Enters Tryz.prog 82 := Go.Rp.enters_of Tryz.func82 (by kernel_rfl) rfl
theorem ent83 : Go.Rp.Enters Tryz.prog 83 := Go.Rp.enters_of Tryz.func83 (by kernel_rfl) rfl

structure S61 where
 Kind : Int
 Int : Int
 Text : ByteArray
def cS61 (x : S61) : List D := [.lit (.int .i64 x.Kind), .lit (.int .i64 x.Int), .lit (.string x.Text)]
@[simp] theorem all_cS61 (xs : List S61) : xs.all ((fun e => decide (e.length = 3)) ∘ cS61) = true := all_len (c := cS61) (fun _ => rfl) xs
@[simp] theorem cS61_def (x : S61) : cS61 x = [.lit (.int .i64 x.Kind), .lit (.int .i64 x.Int), .lit (.string x.Text)] := rfl
structure S65 where
 Columns : (List Int)
 Descending : (List Bool)
def cS65 (x : S65) : List D := [.sl (x.Columns.map (cI .i64)), .sl (x.Descending.map cB)]
@[simp] theorem all_cS65 (xs : List S65) : xs.all ((fun e => decide (e.length = 2)) ∘ cS65) = true := all_len (c := cS65) (fun _ => rfl) xs
@[simp] theorem cS65_def (x : S65) : cS65 x = [.sl (x.Columns.map (cI .i64)), .sl (x.Descending.map cB)] := rfl
structure S189 where
 row : (List S61)
 run : Int
 rest : (List (List S61))
def cS189 (x : S189) : List D := [.sl (x.row.map cS61), .lit (.int .i64 x.run), .sl (x.rest.map (cL cS61))]
@[simp] theorem all_cS189 (xs : List S189) : xs.all ((fun e => decide (e.length = 3)) ∘ cS189) = true := all_len (c := cS189) (fun _ => rfl) xs
@[simp] theorem cS189_def (x : S189) : cS189 x = [.sl (x.row.map cS61), .lit (.int .i64 x.run), .sl (x.rest.map (cL cS61))] := rfl
structure S187 where
 by_ : S65
 l : (List S189)
def cS187 (x : S187) : List D := [.sl (x.by_.Columns.map (cI .i64)), .sl (x.by_.Descending.map cB), .sl (x.l.map cS189)]
@[simp] theorem all_cS187 (xs : List S187) : xs.all ((fun e => decide (e.length = 3)) ∘ cS187) = true := all_len (c := cS187) (fun _ => rfl) xs
@[simp] theorem cS187_def (x : S187) : cS187 x = [.sl (x.by_.Columns.map (cI .i64)), .sl (x.by_.Descending.map cB), .sl (x.l.map cS189)] := rfl
structure S75 where
 Function : ByteArray
 Column : Int
def cS75 (x : S75) : List D := [.lit (.string x.Function), .lit (.int .i64 x.Column)]
@[simp] theorem all_cS75 (xs : List S75) : xs.all ((fun e => decide (e.length = 2)) ∘ cS75) = true := all_len (c := cS75) (fun _ => rfl) xs
@[simp] theorem cS75_def (x : S75) : cS75 x = [.lit (.string x.Function), .lit (.int .i64 x.Column)] := rfl
def beqS61 (x y : S61) : Bool := (x.Kind == y.Kind) && ((x.Int == y.Int) && ((x.Text.toList == y.Text.toList) && (true)))
theorem beqS61_iff (x y : S61) : beqS61 x y = true ↔ x = y := by
 cases x; cases y; simp [beqS61]
theorem eqv61 (x y : S61) : ∀ (w : World), (Op.equalIn 10000 61 (.agg [.int .i64 x.Kind, .int .i64 x.Int, .string x.Text].toArray) (.agg [.int .i64 y.Kind, .int .i64 y.Int, .string y.Text].toArray)).run Tryz.prog w = .ok (beqS61 x y) w :=
 eqS_of (fs := [(Field.mk "Kind" 3 0 false "" "" 0), (Field.mk "Int" 3 1 false "" "" 8), (Field.mk "Text" 9 2 false "" "" 16)]) (by kernel_rfl) (by kernel_rfl) (by kernel_rfl) (eqF_cons (by decide) (part_lit ty3 rfl rfl) (part_lit ty3 rfl rfl) (fun w => run_equalIn_int w _ _ _ .i64 _ _ (by kernel_rfl)) (eqF_cons (by decide) (part_lit ty3 rfl rfl) (part_lit ty3 rfl rfl) (fun w => run_equalIn_int w _ _ _ .i64 _ _ (by kernel_rfl)) (eqF_cons (by decide) (part_lit ty9 rfl rfl) (part_lit ty9 rfl rfl) (fun w => run_equalIn_string w _ _ _ _ (by kernel_rfl)) (eqF_nil))))
/-- short names of the commonest terms -/
abbrev _root_.Go.Ab.V.i (n : Int) : V := .d (.lit (.int .i64 n))
abbrev _root_.Go.Ab.V.b (x : Bool) : V := .d (.lit (.bool x))
attribute [simp] V.i V.b
abbrev R61 (xs : List S61) : Option Blk := some (.arr 61 3 (xs.map cS61))
abbrev R189 (xs : List S189) : Option Blk := some (.arr 189 3 (xs.map cS189))
abbrev R3 (xs : List Int) : Option Blk := some (.arr 3 1 (xs.map (cI .i64)))
abbrev R4 (xs : List Bool) : Option Blk := some (.arr 4 1 (xs.map cB))
abbrev R57 (xs : List (List S61)) : Option Blk := some (.arr 57 1 (xs.map (cL cS61)))
abbrev R48 (xs : List (List (List S61))) : Option Blk := some (.arr 48 1 (xs.map (cL (cL cS61))))
abbrev R9 (xs : List ByteArray) : Option Blk := some (.arr 9 1 (xs.map cS))
attribute [simp] R61 R189 R3 R4 R57 R48 R9
abbrev _root_.Go.Ab.V.fg (g : FuncId) (cs : List D) : V := .fn (.func g) (cs.map .d)
abbrev _root_.Go.Ab.V.lls61 (xs : List (List (List S61))) : V := .d (.sl (xs.map (cL (cL cS61))))
abbrev _root_.Go.Ab.V.ls61 (xs : List (List S61)) : V := .d (.sl (xs.map (cL cS61)))
abbrev _root_.Go.Ab.V.lsi (xs : List (List Int)) : V := .d (.sl (xs.map (cL (cI .i64))))
abbrev _root_.Go.Ab.V.s (x : ByteArray) : V := .d (.lit (.string x))
abbrev _root_.Go.Ab.V.s61 (xs : List S61) : V := .d (.sl (xs.map cS61))
abbrev _root_.Go.Ab.V.s75 (xs : List S75) : V := .d (.sl (xs.map cS75))
abbrev _root_.Go.Ab.V.sb (xs : List Bool) : V := .d (.sl (xs.map cB))
abbrev _root_.Go.Ab.V.si (xs : List Int) : V := .d (.sl (xs.map (cI .i64)))
abbrev _root_.Go.Ab.V.ss (xs : List ByteArray) : V := .d (.sl (xs.map cS))
abbrev _root_.Go.Ab.V.z : V := .d (.lit (.slice none 0 0))
attribute [simp] V.fg V.lls61 V.ls61 V.lsi V.s V.s61 V.s75 V.sb V.si V.ss V.z
/-- short names of the commonest heaps -/
abbrev HL : Type := List (Nat × Option Blk)
abbrev SL : Type := List (Nat × V)
abbrev H1 (y0 : List Int) (y1 : List Bool) (y2 : List S189) : HL := [(1000, some (.box [.si y0, .sb y1, .ref 25002 0 y2.length])), (25002, R189 y2)]
abbrev H2 (y0 : S65) (y1 : S65) : HL := [(6, some (.box [.si y0.Columns, .sb y0.Descending])), (7, some (.box [.si y1.Columns, .sb y1.Descending]))]
abbrev H3 (y0 : S187) : HL := [(1000, some (.box [.si y0.by_.Columns, .sb y0.by_.Descending, .ref 25002 0 y0.l.length])), (25002, R189 y0.l)]
abbrev H4 (y0 : Int) (y1 : Int) (y2 : ByteArray) (y3 : S61) : HL := [(4, some (.box [.i 0, .i 0, .s (ByteArray.mk #[])])), (5, some (.box [.i y0, .i y1, .s y2])), (8, some (.box [.i y3.Kind, .i y3.Int, .s y3.Text]))]
abbrev H5 (y0 : Int) (y1 : Int) (y2 : ByteArray) (y3 : S61) : HL := [(4, some (.box [.i 0, .i 0, .s (ByteArray.mk #[])])), (6, some (.box [.i y0, .i y1, .s y2])), (8, some (.box [.i y3.Kind, .i y3.Int, .s y3.Text]))]
abbrev H6 (y0 : S61) : HL := [(1, some (.box [.i y0.Kind, .i y0.Int, .s y0.Text]))]
abbrev H7 (y0 : S65) : HL := [(4, some (.box [.si y0.Columns, .sb y0.Descending]))]
abbrev H8 (y0 : S75) : HL := [(6, some (.box [.s y0.Function, .i y0.Column]))]
abbrev H9 : HL := [(4, some (.box [.i 0, .i 0, .s (ByteArray.mk #[])]))]
abbrev H10 (y0 : S75) : HL := [(2, some (.box [.s y0.Function, .i y0.Column]))]
abbrev H11 (y0 : S65) (y1 : List Int) (y2 : List Bool) : HL := [(6, some (.box [.si y0.Columns, .sb y0.Descending])), (11, some (.box [.si y1, .ref 83 0 y2.length])), (83, R4 y2)]
abbrev H12 : HL := [(2, some (.box [.i 0, .i 0, .s (ByteArray.mk #[])]))]
abbrev H13 (y0 : S65) : HL := [(6, some (.box [.si y0.Columns, .sb y0.Descending]))]
abbrev H14 (y0 : S65) (y1 : List (List S61)) (y2 : List (List S61)) : HL := [(3, some (.box [.si y0.Columns, .sb y0.Descending])), (10, R57 y1), (44, R57 y2)]
abbrev H15 (y0 : S65) (y1 : List (List S61)) : HL := [(6, some (.box [.si y0.Columns, .sb y0.Descending])), (114, R57 y1)]
abbrev H16 (y0 : S61) (y1 : S61) : HL := [(8, some (.box [.i y0.Kind, .i y0.Int, .s y0.Text])), (9, some (.box [.i y1.Kind, .i y1.Int, .s y1.Text]))]
abbrev H17 (y0 : S65) (y1 : List S189) : HL := [(12, some (.box [.si y0.Columns, .sb y0.Descending, .ref 5242 0 y1.length])), (5242, R189 y1)]
abbrev H18 (y0 : S61) : HL := [(4, some (.box [.i y0.Kind, .i y0.Int, .s y0.Text]))]
abbrev H19 (y0 : S75) : HL := [(3, some (.box [.s y0.Function, .i y0.Column])), (4, some (.box [.i 0, .i 0, .s (ByteArray.mk #[])]))]
abbrev H20 (y0 : S65) (y1 : List S61) (y2 : List (List S61)) : HL := [(6, some (.box [.si y0.Columns, .sb y0.Descending])), (93, R61 y1), (114, R57 y2)]
abbrev H21 (y0 : S75) (y1 : List S61) : HL := [(3, some (.box [.s y0.Function, .i y0.Column])), (4, some (.box [.i 0, .i 0, .s (ByteArray.mk #[])])), (20, R61 y1)]
abbrev H22 (y0 : S65) (y1 : List (List S61)) (y2 : List (List S61)) : HL := [(6, some (.box [.si y0.Columns, .sb y0.Descending])), (161, R57 y1), (181, R57 y2)]
abbrev H23 (y0 : S65) (y1 : List (List S61)) (y2 : List S61) (y3 : List (List S61)) : HL := [(6, some (.box [.si y0.Columns, .sb y0.Descending])), (161, R57 y1), (164, R61 y2), (181, R57 y3)]
abbrev H24 (y0 : S61) (y1 : S61) : HL := [(2, some (.box [.i y0.Kind, .i y0.Int, .s y0.Text])), (3, some (.box [.i y1.Kind, .i y1.Int, .s y1.Text]))]
abbrev H25 (y0 : S75) (y1 : List S61) : HL := [(3, some (.box [.s y0.Function, .i y0.Column])), (4, some (.box [.i 0, .i 0, .s (ByteArray.mk #[])])), (34, R61 y1)]
abbrev H26 (y0 : S65) (y1 : List (List S61)) : HL := [(6, some (.box [.si y0.Columns, .sb y0.Descending])), (181, R57 y1)]
abbrev H27 (y0 : S65) : HL := [(3, some (.box [.si y0.Columns, .sb y0.Descending]))]
abbrev H28 (y0 : List (List (List S61))) (y1 : List (List S61)) (y2 : List (List S61)) (y3 : Int) : HL := [(9, some (.box [.ref 31 0 y0.length])), (21, some (.box [.ls61 y1])), (24, R57 y2), (31, R48 y0), (800021, some (.box [.i y3]))]
abbrev H29 (y0 : List Int) (y1 : List Bool) (y2 : List S189) (y3 : List (List S61)) : HL := [(12, some (.box [.si y0, .sb y1, .ref 5242 0 y2.length])), (54, R57 y3), (5242, R189 y2)]
abbrev H30 (y0 : S61) : HL := [(4, some (.box [.i 0, .i 0, .s (ByteArray.mk #[])])), (5, some (.box [.i y0.Kind, .i y0.Int, .s y0.Text]))]
abbrev H31 (y0 : Int) (y1 : Int) (y2 : ByteArray) : HL := [(4, some (.box [.i 0, .i 0, .s (ByteArray.mk #[])])), (5, some (.box [.i y0, .i y1, .s y2]))]
abbrev H32 (y0 : Int) (y1 : Int) (y2 : ByteArray) : HL := [(4, some (.box [.i 0, .i 0, .s (ByteArray.mk #[])])), (6, some (.box [.i y0, .i y1, .s y2]))]
abbrev H33 (y0 : S65) (y1 : S65) (y2 : List Int) (y3 : List Bool) : HL := [(6, some (.box [.si y0.Columns, .sb y0.Descending])), (7, some (.box [.si y1.Columns, .sb y1.Descending])), (11, some (.box [.si y2, .ref 83 0 y3.length])), (83, R4 y3)]
abbrev H34 (y0 : List (List (List S61))) (y1 : List (List S61)) (y2 : Int) : HL := [(9, some (.box [.ref 31 0 y0.length])), (21, some (.box [.ls61 y1])), (31, R48 y0), (800021, some (.box [.i y2]))]
abbrev H35 (y0 : S65) (y1 : S65) (y2 : List Int) (y3 : List Bool) : HL := [(6, some (.box [.si y0.Columns, .sb y0.Descending])), (7, some (.box [.si y1.Columns, .sb y1.Descending])), (12, some (.box [.si y2, .ref 39 0 y3.length])), (39, R4 y3)]
abbrev H36 (y0 : S61) : HL := [(4, some (.box [.i 0, .i 0, .s (ByteArray.mk #[])])), (6, some (.box [.i y0.Kind, .i y0.Int, .s y0.Text]))]
abbrev H37 (y0 : S65) : HL := [(12, some (.box [.si y0.Columns, .sb y0.Descending, .ref 5242 0 (([] : List S189).length)])), (5242, R189 ([] : List S189))]
abbrev H38 (y0 : S75) (y1 : List ByteArray) : HL := [(6, some (.box [.s y0.Function, .i y0.Column])), (13, R9 y1)]
abbrev H39 (y0 : S75) (y1 : List ByteArray) : HL := [(2, some (.box [.s y0.Function, .i y0.Column])), (5, R9 y1)]
abbrev H40 (y0 : Int) (y1 : Int) (y2 : ByteArray) (y3 : Int) (y4 : Int) (y5 : ByteArray) : HL := [(8, some (.box [.i y0, .i y1, .s y2])), (9, some (.box [.i y3, .i y4, .s y5]))]
abbrev H41 (y0 : S65) (y1 : List (List S61)) : HL := [(3, some (.box [.si y0.Columns, .sb y0.Descending])), (10, R57 y1)]
abbrev H42 (y0 : S189) (y1 : S187) : HL := [(3, some (.box [.s61 y0.row, .i y0.run, .ls61 y0.rest])), (1000, some (.box [.si y1.by_.Columns, .sb y1.by_.Descending, .ref 25002 0 y1.l.length])), (25002, R189 y1.l)]
abbrev H43 (y0 : S65) : HL := [(4, some (.box [.si y0.Columns, .sb y0.Descending])), (9, some (.box [.z]))]
abbrev H44 (y0 : S187) : HL := [(12, some (.box [.si y0.by_.Columns, .sb y0.by_.Descending, .ref 5242 0 y0.l.length])), (5242, R189 y0.l)]
abbrev H45 (y0 : S65) : HL := [(4, some (.box [.si y0.Columns, .sb y0.Descending])), (12, some (.box [.z]))]
abbrev H46 (y0 : S65) (y1 : List (List (List S61))) (y2 : List (List (List S61))) (y3 : Int) : HL := [(4, some (.box [.si y0.Columns, .sb y0.Descending])), (12, some (.box [.ref 41 0 y1.length])), (34, some (.box [.lls61 y2])), (41, R48 y1), (800034, some (.box [.i y3]))]
abbrev H47 (y0 : S65) (y1 : List (List (List S61))) : HL := [(4, some (.box [.si y0.Columns, .sb y0.Descending])), (41, R48 y1)]
abbrev H48 (y0 : S65) (y1 : S65) (y2 : List (List (List S61))) : HL := [(6, some (.box [.si y0.Columns, .sb y0.Descending])), (7, some (.box [.si y1.Columns, .sb y1.Descending])), (28, R48 y2)]
abbrev H49 (y0 : S65) (y1 : List S61) (y2 : List (List S61)) : HL := [(6, some (.box [.si y0.Columns, .sb y0.Descending])), (164, R61 y1), (181, R57 y2)]
abbrev L1 (y0 : List S61) (y1 : List S61) : SL := [(0, .s61 y0), (1, .s61 y1)]
abbrev L2 (y0 : List S61) (y1 : List S61) (y2 : List Bool) (y3 : Nat) (y4 : Int) : SL := [(0, .s61 y0), (1, .s61 y1), (2, .sb y2), (10, .i (y3 : Int)), (11, .i y4)]
abbrev L3 (y0 : List S61) (y1 : List S61) (y2 : List Bool) (y3 : Int) (y4 : Nat) : SL := [(0, .s61 y0), (1, .s61 y1), (2, .sb y2), (7, .i y3), (10, .i (y4 : Int)), (11, .i y3)]
abbrev L4 (y0 : List S61) (y1 : List S61) (y2 : List Bool) (y3 : Int) (y4 : Nat) : SL := [(0, .s61 y0), (1, .s61 y1), (2, .sb y2), (7, .i y3), (10, .i (y4 : Int)), (11, .i y3), (18, .b false)]
abbrev L5 (y0 : List Int) (y1 : List Bool) (y2 : List S189) (y3 : Int) (y4 : Int) : SL := [(0, .d (.pim [.sl (y0.map (cI .i64)), .sl (y1.map cB), .sl (y2.map cS189)])), (1, .i y3), (2, .i y4)]
abbrev L6 (y0 : List Int) (y1 : List Bool) (y2 : List S189) (y3 : Int) (y4 : Int) (y5 : Int) : SL := [(0, .d (.pim [.sl (y0.map (cI .i64)), .sl (y1.map cB), .sl (y2.map cS189)])), (1, .i y3), (2, .i y4), (7, .i y5)]
abbrev L7 (y0 : List Int) (y1 : List Bool) (y2 : List S189) (y3 : Int) (y4 : Int) : SL := [(0, .d (.pim [.sl (y0.map (cI .i64)), .sl (y1.map cB), .sl (y2.map cS189)])), (1, .i y3), (2, .i y4), (31, .b false)]
abbrev L8 (y0 : List (List (List S61))) (y1 : Nat) (y2 : Int) : SL := [(5, .lls61 y0), (6, .i (y1 : Int)), (7, .i y2)]
abbrev L9 (y0 : List (List S61)) (y1 : List (List (List S61))) (y2 : Nat) (y3 : Int) : SL := [(4, .ls61 y0), (5, .lls61 y1), (6, .i (y2 : Int)), (7, .i y3)]
abbrev L10 (y0 : List (List Int)) (y1 : Int) (y2 : Nat) (y3 : Int) : SL := [(0, .lsi y0), (3, .i y1), (9, .lsi y0), (10, .i (y2 : Int)), (11, .i y3)]
abbrev L11 (y0 : List (List S61)) (y1 : Int) : SL := [(0, .ls61 y0), (2, .i y1), (4, .ptr 4 0 0)]
abbrev L12 (y0 : List (List S61)) (y1 : List Int) (y2 : Nat) (y3 : Int) : SL := [(0, .ls61 y0), (26, .si y1), (27, .i (y2 : Int)), (28, .i y3)]
abbrev L13 (y0 : List (List S61)) (y1 : List Int) (y2 : Nat) (y3 : Int) : SL := [(0, .ls61 y0), (8, .ptr 8 0 0), (26, .si y1), (27, .i (y2 : Int)), (28, .i y3)]
abbrev L14 (y0 : Nat) (y1 : Int) (y2 : Int) : SL := [(0, .ref 1000 0 y0), (1, .i y1), (2, .i y2)]
abbrev L15 (y0 : Nat) (y1 : Int) (y2 : Int) (y3 : Int) : SL := [(0, .ref 1000 0 y0), (1, .i y1), (2, .i y2), (3, .i y3)]
abbrev L16 (y0 : Nat) (y1 : Int) (y2 : Int) (y3 : Int) (y4 : Int) : SL := [(0, .ref 1000 0 y0), (1, .i y1), (2, .i y2), (3, .i y3), (10, .i y4)]
abbrev L17 (y0 : Nat) (y1 : Int) (y2 : Int) : SL := [(0, .ref 1000 0 y0), (1, .i y1), (3, .i y2)]
abbrev L18 (y0 : List Int) (y1 : List Bool) : SL := [(4, .d (.pim [.sl (y0.map (cI .i64)), .sl (y1.map cB)])), (9, .ptr 9 0 0)]
abbrev L19 (y0 : Int) (y1 : Int) : SL := [(0, .fn (.methodOf 184 "") [.ptr 1000 0 0]), (1, .i y0), (2, .i y1)]
abbrev L20 (y0 : Int) (y1 : Int) (y2 : Int) (y3 : Int) : SL := [(0, .fn (.methodOf 184 "") [.ptr 1000 0 0]), (1, .i y0), (2, .i y1), (7, .i y2), (8, .i y3)]
abbrev L21 (y0 : Int) (y1 : Int) (y2 : Int) (y3 : Int) (y4 : Int) : SL := [(0, .fn (.methodOf 184 "") [.ptr 1000 0 0]), (1, .i y0), (2, .i y1), (7, .i y2), (8, .i y3), (9, .i y3), (10, .i y4)]
abbrev L22 (y0 : Int) (y1 : Int) (y2 : Int) (y3 : Int) (y4 : Int) : SL := [(0, .fn (.methodOf 184 "") [.ptr 1000 0 0]), (1, .i y0), (2, .i y1), (7, .i y2), (9, .i y3), (10, .i y4)]
abbrev L23 (y0 : Int) (y1 : Int) (y2 : Int) (y3 : Int) : SL := [(0, .fn (.methodOf 184 "") [.ptr 1000 0 0]), (1, .i y0), (2, .i y1), (7, .i y2), (9, .i y3)]
abbrev L24 : SL := [(0, .fn (.methodOf 184 "") [.ptr 1000 0 0]), (4, .fn (.methodOf 184 "") [.ptr 1000 0 0])]
abbrev L25 (y0 : Int) (y1 : Int) : SL := [(0, .fn (.methodOf 184 "") [.ptr 1000 0 0]), (2, .i y0), (3, .i y1)]
abbrev L26 (y0 : Int) (y1 : Int) : SL := [(0, .fn (.methodOf 184 "") [.ptr 1000 0 0]), (1, .i y0), (4, .i y1)]
abbrev L27 (y0 : Int) (y1 : Int) : SL := [(0, .fn (.methodOf 184 "") [.ptr 1000 0 0]), (1, .i y0), (4, .i y1), (11, .b false)]
abbrev L28 (y0 : List (List (List S61))) (y1 : Nat) (y2 : Int) : SL := [(5, .ptr 12 0 0), (13, .lls61 y0), (14, .i (y1 : Int)), (15, .i y2)]
abbrev L29 (y0 : Int) (y1 : List (List (List S61))) (y2 : Int) : SL := [(2, .i y0), (4, .ptr 4 0 0), (9, .lls61 y1), (11, .i y2)]
abbrev L30 (y0 : Int) (y1 : Nat) (y2 : List (List (List S61))) (y3 : Nat) (y4 : Int) : SL := [(11, .i y0), (14, .ref 61 0 y1), (45, .lls61 y2), (46, .i (y3 : Int)), (47, .i y4)]
abbrev L31 (y0 : Int) (y1 : Nat) (y2 : List (List (List S61))) (y3 : Nat) (y4 : Int) (y5 : List (List S61)) (y6 : Nat) : SL := [(11, .i y0), (14, .ref 61 0 y1), (45, .lls61 y2), (46, .i (y3 : Int)), (47, .i y4), (51, .ls61 y5), (52, .i (y6 : Int))]
abbrev L32 (y0 : Int) (y1 : List (List (List S61))) (y2 : Nat) (y3 : Int) (y4 : List (List S61)) (y5 : Nat) (y6 : Int) (y7 : Nat) (y8 : List S61) : SL := [(11, .i y0), (45, .lls61 y1), (46, .i (y2 : Int)), (47, .i y3), (51, .ls61 y4), (52, .i (y5 : Int)), (53, .i y6), (57, .ref 61 0 y7), (58, .s61 y8)]
abbrev L33 (y0 : List ByteArray) (y1 : ByteArray) (y2 : Nat) (y3 : Int) : SL := [(0, .ss y0), (1, .s y1), (7, .i (y2 : Int)), (8, .i y3)]
abbrev L34 (y0 : List (List S61)) (y1 : List S75) (y2 : Nat) (y3 : Int) : SL := [(0, .ls61 y0), (7, .s75 y1), (8, .i (y2 : Int)), (9, .i y3)]
abbrev L35 (y0 : List (List S61)) (y1 : List S75) (y2 : Nat) (y3 : Int) : SL := [(0, .ls61 y0), (6, .ptr 6 0 0), (7, .s75 y1), (8, .i (y2 : Int)), (9, .i y3)]
abbrev L36 (y0 : List (List S61)) (y1 : List S75) (y2 : Nat) (y3 : Int) (y4 : Nat) : SL := [(0, .ls61 y0), (6, .ptr 6 0 0), (7, .s75 y1), (8, .i (y2 : Int)), (9, .i y3), (13, .ref 13 0 y4)]
abbrev L37 (y0 : List (List S61)) (y1 : List S75) (y2 : Nat) (y3 : Int) (y4 : Int) : SL := [(0, .ls61 y0), (6, .ptr 6 0 0), (7, .s75 y1), (8, .i (y2 : Int)), (9, .i y3), (19, .ptr 6 0 1), (20, .i y4), (21, .b false), (23, .b false), (24, .ptr 6 0 1), (25, .i y4)]
abbrev L38 (y0 : List (List S61)) (y1 : List S75) (y2 : Nat) (y3 : Int) (y4 : Int) (y5 : ByteArray) : SL := [(0, .ls61 y0), (6, .ptr 6 0 0), (7, .s75 y1), (8, .i (y2 : Int)), (9, .i y3), (19, .ptr 6 0 1), (20, .i y4), (21, .b false), (24, .ptr 6 0 1), (25, .i y4), (26, .b true), (27, .b true), (28, .ptr 6 0 0), (29, .s y5)]
abbrev L39 (y0 : List (List S61)) (y1 : List S75) (y2 : Nat) (y3 : Int) (y4 : Int) (y5 : ByteArray) : SL := [(0, .ls61 y0), (7, .s75 y1), (8, .i (y2 : Int)), (9, .i y3), (19, .ptr 6 0 1), (20, .i y4), (21, .b false), (24, .ptr 6 0 1), (25, .i y4), (26, .b true), (27, .b true), (28, .ptr 6 0 0), (29, .s y5), (30, .b false), (31, .b false)]
abbrev L40 (y0 : List (List S61)) (y1 : List S75) (y2 : Nat) (y3 : Int) (y4 : Int) : SL := [(0, .ls61 y0), (7, .s75 y1), (8, .i (y2 : Int)), (9, .i y3), (19, .ptr 6 0 1), (20, .i y4), (21, .b false), (24, .ptr 6 0 1), (25, .i y4), (26, .b false), (27, .b false), (28, .tup []), (29, .tup []), (30, .tup []), (31, .b false)]
abbrev L41 (y0 : ByteArray) (y1 : List S61) : SL := [(0, .s y0), (1, .s61 y1), (4, .ptr 4 0 0)]
abbrev L42 (y0 : Nat) (y1 : Int) (y2 : Int) (y3 : ByteArray) : SL := [(4, .ptr 4 0 0), (12, .i (y0 : Int)), (13, .agg [.i y1, .i y2, .s y3])]
abbrev L43 (y0 : ByteArray) (y1 : Int) (y2 : List S61) (y3 : Nat) (y4 : Int) : SL := [(0, .s y0), (4, .ptr 4 0 0), (5, .ptr 5 0 0), (6, .i y1), (21, .s61 y2), (22, .i (y3 : Int)), (23, .i y4)]
abbrev L44 (y0 : ByteArray) (y1 : Int) (y2 : List S61) (y3 : Nat) (y4 : Int) : SL := [(0, .s y0), (4, .ptr 4 0 0), (5, .ptr 5 0 0), (6, .i y1), (8, .ptr 8 0 0), (21, .s61 y2), (22, .i (y3 : Int)), (23, .i y4)]
abbrev L45 (y0 : ByteArray) (y1 : Int) (y2 : List S61) (y3 : Nat) (y4 : Int) : SL := [(0, .s y0), (4, .ptr 4 0 0), (5, .ptr 5 0 0), (6, .i y1), (8, .ptr 8 0 0), (21, .s61 y2), (22, .i (y3 : Int)), (23, .i y4), (33, .b true)]
abbrev L46 (y0 : ByteArray) (y1 : Int) (y2 : List S61) (y3 : Nat) (y4 : Int) (y5 : Int) (y6 : Int) (y7 : ByteArray) (y8 : Int) (y9 : Int) (y10 : ByteArray) : SL := [(0, .s y0), (4, .ptr 4 0 0), (5, .ptr 5 0 0), (6, .i y1), (8, .ptr 8 0 0), (21, .s61 y2), (22, .i (y3 : Int)), (23, .i y4), (34, .agg [.i y5, .i y6, .s y7]), (35, .agg [.i y8, .i y9, .s y10])]
abbrev L47 (y0 : ByteArray) (y1 : Int) (y2 : List S61) (y3 : Nat) (y4 : Int) (y5 : Int) (y6 : Int) (y7 : ByteArray) (y8 : Int) (y9 : Int) (y10 : ByteArray) : SL := [(0, .s y0), (4, .ptr 4 0 0), (5, .ptr 5 0 0), (6, .i y1), (8, .ptr 8 0 0), (21, .s61 y2), (22, .i (y3 : Int)), (23, .i y4), (34, .agg [.i y5, .i y6, .s y7]), (35, .agg [.i y8, .i y9, .s y10]), (36, .b false)]
abbrev L48 (y0 : ByteArray) (y1 : Int) (y2 : List S61) (y3 : Nat) (y4 : Int) (y5 : Int) (y6 : Int) (y7 : ByteArray) (y8 : Int) (y9 : Int) (y10 : ByteArray) : SL := [(0, .s y0), (4, .ptr 4 0 0), (5, .ptr 5 0 0), (6, .i y1), (8, .ptr 8 0 0), (21, .s61 y2), (22, .i (y3 : Int)), (23, .i y4), (34, .agg [.i y5, .i y6, .s y7]), (35, .agg [.i y8, .i y9, .s y10]), (36, .b false), (38, .b false), (39, .s y0)]
abbrev L49 (y0 : ByteArray) (y1 : Int) (y2 : List S61) (y3 : Nat) (y4 : Int) (y5 : Int) (y6 : Int) (y7 : ByteArray) (y8 : Int) (y9 : Int) (y10 : ByteArray) : SL := [(0, .s y0), (4, .ptr 4 0 0), (5, .ptr 5 0 0), (6, .i y1), (8, .ptr 8 0 0), (21, .s61 y2), (22, .i (y3 : Int)), (23, .i y4), (34, .agg [.i y5, .i y6, .s y7]), (35, .agg [.i y8, .i y9, .s y10]), (36, .b false), (38, .b false), (39, .s y0), (40, .b true), (41, .b true)]
abbrev L50 (y0 : ByteArray) (y1 : Int) (y2 : List S61) (y3 : Nat) (y4 : Int) : SL := [(0, .s y0), (4, .ptr 4 0 0), (5, .ptr 5 0 0), (6, .i y1), (8, .ptr 8 0 0), (21, .s61 y2), (22, .i (y3 : Int)), (23, .i y4), (34, .tup []), (35, .tup []), (36, .tup []), (38, .b false), (39, .s y0)]
abbrev L51 (y0 : ByteArray) (y1 : Int) (y2 : List S61) (y3 : Nat) (y4 : Int) : SL := [(0, .s y0), (4, .ptr 4 0 0), (5, .ptr 5 0 0), (6, .i y1), (8, .ptr 8 0 0), (21, .s61 y2), (22, .i (y3 : Int)), (23, .i y4), (34, .tup []), (35, .tup []), (36, .tup []), (38, .b false), (39, .s y0), (40, .b true), (41, .b true)]
abbrev L52 (y0 : ByteArray) (y1 : Int) (y2 : List S61) (y3 : Nat) (y4 : Int) : SL := [(0, .s y0), (4, .ptr 4 0 0), (5, .ptr 5 0 0), (6, .i y1), (8, .ptr 8 0 0), (21, .s61 y2), (22, .i (y3 : Int)), (23, .i y4), (34, .tup []), (35, .tup []), (36, .tup [])]
abbrev L53 (y0 : List (List S61)) : SL := [(0, .ls61 y0), (3, .ptr 3 0 0), (4, .ptr 4 0 0)]
abbrev L54 (y0 : Nat) (y1 : List (List S61)) (y2 : Nat) (y3 : Int) : SL := [(3, .ptr 3 0 0), (4, .ptr 4 0 0), (5, .ref 34 0 y0), (14, .ls61 y1), (15, .i (y2 : Int)), (16, .i y3)]
abbrev L55 (y0 : List (List S61)) (y1 : List S75) (y2 : Int) : SL := [(0, .ls61 y0), (3, .s75 y1), (4, .i y2), (6, .ptr 6 0 0), (7, .ptr 7 0 0)]
abbrev L56 (y0 : List (List S61)) (y1 : List S75) (y2 : Int) : SL := [(0, .ls61 y0), (3, .s75 y1), (4, .i y2), (6, .ptr 6 0 0), (7, .ptr 7 0 0), (12, .ptr 12 0 0)]
abbrev L57 (y0 : List (List S61)) (y1 : List S75) : SL := [(0, .ls61 y0), (3, .s75 y1), (6, .ptr 6 0 0), (60, .ls61 y0)]
abbrev L58 (y0 : List S75) (y1 : List (List S61)) : SL := [(3, .s75 y0), (6, .ptr 6 0 0), (13, .ls61 y1)]
abbrev L59 (y0 : List S75) (y1 : List (List S61)) : SL := [(3, .s75 y0), (6, .ptr 6 0 0), (13, .ls61 y1), (17, .z)]
abbrev L60 (y0 : List S75) (y1 : List (List S61)) (y2 : Nat) (y3 : Int) : SL := [(3, .s75 y0), (6, .ptr 6 0 0), (13, .ls61 y1), (17, .ref 114 0 y2), (18, .i y3)]
abbrev L61 (y0 : List S75) (y1 : List (List S61)) (y2 : Nat) (y3 : Int) (y4 : Int) (y5 : List S61) (y6 : Nat) : SL := [(3, .s75 y0), (6, .ptr 6 0 0), (13, .ls61 y1), (17, .ref 114 0 y2), (18, .i y3), (19, .i y4), (20, .s61 y5), (76, .ls61 y1), (77, .i (y6 : Int)), (78, .i y4)]
abbrev L62 (y0 : List S75) (y1 : List (List S61)) (y2 : Nat) (y3 : Int) (y4 : Int) (y5 : Nat) (y6 : Nat) (y7 : Nat) : SL := [(3, .s75 y0), (6, .ptr 6 0 0), (13, .ls61 y1), (17, .ref 114 0 y2), (18, .i y3), (19, .i y4), (21, .ref 93 0 y5), (76, .ls61 y1), (77, .i (y6 : Int)), (78, .i y4), (94, .s75 y0), (95, .i (y7 : Int))]
abbrev L63 (y0 : List (List S61)) (y1 : Nat) : SL := [(1, .d (.pim [.sl (y0.map (cL cS61))])), (2, .ptr 2 0 0), (5, .ref 5 0 y1)]
abbrev L64 (y0 : List (List S61)) : SL := [(1, .d (.pim [.sl (y0.map (cL cS61))])), (2, .ptr 2 0 0)]
abbrev L65 (y0 : List (List S61)) : SL := [(1, .d (.pim [.sl (y0.map (cL cS61))])), (2, .ptr 2 0 0), (16, .b false)]
abbrev L66 (y0 : List (List S61)) : SL := [(26, .b false), (27, .ls61 y0), (28, .fn (.func 77) [.ptr 2 0 0])]
abbrev L67 (y0 : List S61) (y1 : List S61) (y2 : List Bool) (y3 : Int) (y4 : Int) : SL := [(0, .s61 y0), (1, .s61 y1), (2, .sb y2), (14, .i y3), (15, .i y4)]
abbrev L68 (y0 : List S61) (y1 : List S61) (y2 : List Bool) (y3 : Int) (y4 : Int) : SL := [(0, .s61 y0), (1, .s61 y1), (2, .sb y2), (7, .i y3), (8, .ptr 8 0 0), (9, .ptr 9 0 0), (14, .i y4), (15, .i y3)]
abbrev L69 (y0 : List S61) (y1 : List S61) (y2 : List Bool) (y3 : Int) (y4 : Int) : SL := [(0, .s61 y0), (1, .s61 y1), (2, .sb y2), (8, .ptr 8 0 0), (9, .ptr 9 0 0), (14, .i y3), (15, .i y4)]
abbrev L70 (y0 : Nat) (y1 : Nat) : SL := [(3, .ptr 3 0 0), (5, .ref 10 0 y0), (6, .ref 44 0 y1)]
abbrev L71 (y0 : Nat) (y1 : Nat) (y2 : Int) (y3 : Int) : SL := [(3, .ptr 3 0 0), (5, .ref 10 0 y0), (6, .ref 44 0 y1), (7, .i y2), (15, .i (y0 : Int)), (16, .i y3)]
abbrev L72 (y0 : List S61) (y1 : List S61) (y2 : Nat) (y3 : Int) : SL := [(0, .s61 y0), (1, .s61 y1), (12, .i (y2 : Int)), (13, .i y3)]
abbrev L73 (y0 : ByteArray) (y1 : Int) (y2 : List S61) (y3 : Nat) (y4 : Int) : SL := [(0, .s y0), (4, .ptr 4 0 0), (5, .i y1), (6, .ptr 6 0 0), (21, .s61 y2), (22, .i (y3 : Int)), (23, .i y4)]
abbrev L74 (y0 : ByteArray) (y1 : Int) (y2 : List S61) (y3 : Nat) (y4 : Int) : SL := [(0, .s y0), (4, .ptr 4 0 0), (5, .i y1), (6, .ptr 6 0 0), (8, .ptr 8 0 0), (21, .s61 y2), (22, .i (y3 : Int)), (23, .i y4)]
abbrev L75 (y0 : ByteArray) (y1 : Int) (y2 : List S61) (y3 : Nat) (y4 : Int) : SL := [(0, .s y0), (4, .ptr 4 0 0), (5, .i y1), (6, .ptr 6 0 0), (8, .ptr 8 0 0), (21, .s61 y2), (22, .i (y3 : Int)), (23, .i y4), (33, .b true)]
abbrev L76 (y0 : ByteArray) (y1 : Int) (y2 : List S61) (y3 : Nat) (y4 : Int) (y5 : Int) (y6 : Int) (y7 : ByteArray) (y8 : Int) (y9 : Int) (y10 : ByteArray) : SL := [(0, .s y0), (4, .ptr 4 0 0), (5, .i y1), (6, .ptr 6 0 0), (8, .ptr 8 0 0), (21, .s61 y2), (22, .i (y3 : Int)), (23, .i y4), (34, .agg [.i y5, .i y6, .s y7]), (35, .agg [.i y8, .i y9, .s y10])]
abbrev L77 (y0 : ByteArray) (y1 : Int) (y2 : List S61) (y3 : Nat) (y4 : Int) (y5 : Int) (y6 : Int) (y7 : ByteArray) (y8 : Int) (y9 : Int) (y10 : ByteArray) : SL := [(0, .s y0), (4, .ptr 4 0 0), (5, .i y1), (6, .ptr 6 0 0), (8, .ptr 8 0 0), (21, .s61 y2), (22, .i (y3 : Int)), (23, .i y4), (34, .agg [.i y5, .i y6, .s y7]), (35, .agg [.i y8, .i y9, .s y10]), (36, .b false)]
abbrev L78 (y0 : ByteArray) (y1 : Int) (y2 : List S61) (y3 : Nat) (y4 : Int) (y5 : Int) (y6 : Int) (y7 : ByteArray) (y8 : Int) (y9 : Int) (y10 : ByteArray) : SL := [(0, .s y0), (4, .ptr 4 0 0), (5, .i y1), (6, .ptr 6 0 0), (8, .ptr 8 0 0), (21, .s61 y2), (22, .i (y3 : Int)), (23, .i y4), (34, .agg [.i y5, .i y6, .s y7]), (35, .agg [.i y8, .i y9, .s y10]), (36, .b false), (38, .b false), (39, .s y0)]
abbrev L79 (y0 : ByteArray) (y1 : Int) (y2 : List S61) (y3 : Nat) (y4 : Int) (y5 : Int) (y6 : Int) (y7 : ByteArray) (y8 : Int) (y9 : Int) (y10 : ByteArray) : SL := [(0, .s y0), (4, .ptr 4 0 0), (5, .i y1), (6, .ptr 6 0 0), (8, .ptr 8 0 0), (21, .s61 y2), (22, .i (y3 : Int)), (23, .i y4), (34, .agg [.i y5, .i y6, .s y7]), (35, .agg [.i y8, .i y9, .s y10]), (36, .b false), (38, .b false), (39, .s y0), (40, .b true), (41, .b true)]
abbrev L80 (y0 : ByteArray) (y1 : Int) (y2 : List S61) (y3 : Nat) (y4 : Int) : SL := [(0, .s y0), (4, .ptr 4 0 0), (5, .i y1), (6, .ptr 6 0 0), (8, .ptr 8 0 0), (21, .s61 y2), (22, .i (y3 : Int)), (23, .i y4), (34, .tup []), (35, .tup []), (36, .tup []), (38, .b false), (39, .s y0)]
abbrev L81 (y0 : ByteArray) (y1 : Int) (y2 : List S61) (y3 : Nat) (y4 : Int) : SL := [(0, .s y0), (4, .ptr 4 0 0), (5, .i y1), (6, .ptr 6 0 0), (8, .ptr 8 0 0), (21, .s61 y2), (22, .i (y3 : Int)), (23, .i y4), (34, .tup []), (35, .tup []), (36, .tup []), (38, .b false), (39, .s y0), (40, .b true), (41, .b true)]
abbrev L82 (y0 : ByteArray) (y1 : Int) (y2 : List S61) (y3 : Nat) (y4 : Int) : SL := [(0, .s y0), (4, .ptr 4 0 0), (5, .i y1), (6, .ptr 6 0 0), (8, .ptr 8 0 0), (21, .s61 y2), (22, .i (y3 : Int)), (23, .i y4), (34, .tup []), (35, .tup []), (36, .tup [])]
abbrev L83 (y0 : Nat) (y1 : List (List S61)) (y2 : Nat) (y3 : Int) : SL := [(3, .ptr 3 0 0), (4, .ptr 4 0 0), (5, .ref 20 0 y0), (8, .ls61 y1), (9, .i (y2 : Int)), (10, .i y3)]
abbrev L84 (y0 : Nat) (y1 : List S61) (y2 : List (List S61)) (y3 : Nat) (y4 : Int) : SL := [(3, .ptr 3 0 0), (4, .ptr 4 0 0), (5, .ref 20 0 y0), (7, .s61 y1), (8, .ls61 y2), (9, .i (y3 : Int)), (10, .i y4)]
abbrev L85 (y0 : List (List S61)) (y1 : List (List S61)) (y2 : Nat) (y3 : Int) : SL := [(0, .ls61 y0), (1, .ls61 y1), (12, .i (y2 : Int)), (13, .i y3)]
abbrev L86 (y0 : List (List S61)) (y1 : List S75) (y2 : Int) : SL := [(0, .ls61 y0), (3, .s75 y1), (4, .i y2), (6, .ptr 6 0 0), (7, .ptr 7 0 0), (69, .b true)]
abbrev L87 (y0 : List (List S61)) (y1 : List S75) (y2 : Int) : SL := [(0, .ls61 y0), (3, .s75 y1), (4, .i y2), (6, .ptr 6 0 0), (7, .ptr 7 0 0), (65, .b false)]
abbrev L88 (y0 : List (List S61)) (y1 : List S75) (y2 : Int) : SL := [(0, .ls61 y0), (3, .s75 y1), (4, .i y2), (6, .ptr 6 0 0), (7, .ptr 7 0 0), (11, .ptr 11 0 0)]
abbrev L89 (y0 : List (List S61)) (y1 : List S75) (y2 : Int) : SL := [(0, .ls61 y0), (3, .s75 y1), (4, .i y2), (6, .ptr 6 0 0), (11, .ptr 11 0 0)]
abbrev L90 (y0 : List (List S61)) (y1 : List S75) (y2 : List (List S61)) (y3 : Int) : SL := [(0, .ls61 y0), (3, .s75 y1), (6, .ptr 6 0 0), (11, .ptr 11 0 0), (12, .ls61 y2), (13, .i y3)]
abbrev L91 (y0 : List (List S61)) (y1 : List S75) (y2 : List (List S61)) (y3 : Int) (y4 : Int) : SL := [(0, .ls61 y0), (3, .s75 y1), (6, .ptr 6 0 0), (11, .ptr 11 0 0), (12, .ls61 y2), (13, .i y3), (14, .i y4)]
abbrev L92 (y0 : List (List S61)) (y1 : List S75) (y2 : List (List S61)) (y3 : Int) (y4 : Int) : SL := [(0, .ls61 y0), (3, .s75 y1), (6, .ptr 6 0 0), (11, .ptr 11 0 0), (12, .ls61 y2), (13, .i y3), (14, .i y4), (114, .b true)]
abbrev L93 (y0 : List S75) (y1 : List (List S61)) (y2 : Int) (y3 : List (List S61)) : SL := [(3, .s75 y0), (6, .ptr 6 0 0), (12, .ls61 y1), (13, .i y2), (130, .ls61 y3)]
abbrev L94 (y0 : List S75) (y1 : List (List S61)) (y2 : Int) (y3 : List (List S61)) : SL := [(3, .s75 y0), (6, .ptr 6 0 0), (12, .ls61 y1), (13, .i y2), (15, .ls61 y3)]
abbrev L95 (y0 : List S75) (y1 : List (List S61)) (y2 : Int) (y3 : List (List S61)) (y4 : Nat) : SL := [(3, .s75 y0), (6, .ptr 6 0 0), (12, .ls61 y1), (13, .i y2), (15, .ls61 y3), (16, .ref 181 0 y4)]
abbrev L96 (y0 : List S75) (y1 : List (List S61)) (y2 : Int) (y3 : List (List S61)) (y4 : Nat) (y5 : List S61) : SL := [(3, .s75 y0), (6, .ptr 6 0 0), (12, .ls61 y1), (13, .i y2), (15, .ls61 y3), (16, .ref 181 0 y4), (18, .s61 y5)]
abbrev L97 (y0 : List S75) (y1 : List (List S61)) (y2 : Int) (y3 : List (List S61)) (y4 : Nat) (y5 : List S61) (y6 : Nat) : SL := [(3, .s75 y0), (6, .ptr 6 0 0), (12, .ls61 y1), (13, .i y2), (15, .ls61 y3), (16, .ref 181 0 y4), (18, .s61 y5), (19, .ref 161 0 y6)]
abbrev L98 (y0 : List S75) (y1 : List (List S61)) (y2 : Int) (y3 : List (List S61)) (y4 : Nat) (y5 : List S61) (y6 : Nat) (y7 : Nat) (y8 : Int) (y9 : List (List S61)) (y10 : Nat) (y11 : Int) : SL := [(3, .s75 y0), (6, .ptr 6 0 0), (12, .ls61 y1), (13, .i y2), (15, .ls61 y3), (16, .ref 181 0 y4), (18, .s61 y5), (19, .ref 161 0 y6), (133, .ls61 y3), (134, .i (y7 : Int)), (135, .i y8), (143, .ls61 y9), (144, .i (y10 : Int)), (145, .i y11)]
abbrev L99 (y0 : List S75) (y1 : List (List S61)) (y2 : Int) (y3 : List (List S61)) (y4 : Nat) (y5 : Nat) (y6 : Nat) (y7 : Int) : SL := [(3, .s75 y0), (6, .ptr 6 0 0), (12, .ls61 y1), (13, .i y2), (15, .ls61 y3), (16, .ref 181 0 y4), (19, .ref 161 0 y5), (133, .ls61 y3), (134, .i (y6 : Int)), (135, .i y7)]
abbrev L100 (y0 : List S75) (y1 : List (List S61)) (y2 : Int) (y3 : List (List S61)) (y4 : Nat) (y5 : Nat) : SL := [(3, .s75 y0), (6, .ptr 6 0 0), (12, .ls61 y1), (13, .i y2), (15, .ls61 y3), (16, .ref 181 0 y4), (19, .ref 161 0 y5)]
abbrev L101 (y0 : List S75) (y1 : List (List S61)) (y2 : Int) (y3 : List (List S61)) (y4 : Nat) (y5 : Nat) (y6 : Nat) (y7 : Nat) (y8 : Int) (y9 : Nat) : SL := [(3, .s75 y0), (6, .ptr 6 0 0), (12, .ls61 y1), (13, .i y2), (15, .ls61 y3), (16, .ref 181 0 y4), (19, .ref 161 0 y5), (22, .ref 164 0 y6), (133, .ls61 y3), (134, .i (y7 : Int)), (135, .i y8), (165, .s75 y0), (166, .i (y9 : Int))]
attribute [simp] H1 H2 H3 H4 H5 H6 H7 H8 H9 H10 H11 H12 H13 H14 H15 H16 H17 H18 H19 H20 H21 H22 H23 H24 H25 H26 H27 H28 H29 H30 H31 H32 H33 H34 H35 H36 H37 H38 H39 H40 H41 H42 H43 H44 H45 H46 H47 H48 H49 L1 L2 L3 L4 L5 L6 L7 L8 L9 L10 L11 L12 L13 L14 L15 L16 L17 L18 L19 L20 L21 L22 L23 L24 L25 L26 L27 L28 L29 L30 L31 L32 L33 L34 L35 L36 L37 L38 L39 L40 L41 L42 L43 L44 L45 L46 L47 L48 L49 L50 L51 L52 L53 L54 L55 L56 L57 L58 L59 L60 L61 L62 L63 L64 L65 L66 L67 L68 L69 L70 L71 L72 L73 L74 L75 L76 L77 L78 L79 L80 L81 L82 L83 L84 L85 L86 L87 L88 L89 L90 L91 L92 L93 L94 L95 L96 L97 L98 L99 L100 L101
end Go.Proofs.YtimkkjiplioohaaGreatDoor
