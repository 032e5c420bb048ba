/- The hash join's table: a map whose values are rows of their own. -/
import Derived.Test.YtimkkjiplioohaaGreatDoorJa0
import Derived.Test.YtimkkjiplioohaaGreatDoorA4
namespace Go.Ab
open Go.Proofs.YtimkkjiplioohaaGreatDoor Go.Proofs

def encR (m : List (ByteArray × List (List S61))) : List (MKey × List (List D)) := m.map fun p => (MKey.sk p.1, p.2.map (cL cS61))
abbrev MRm (m : List (ByteArray × List (List S61))) := MR .string 57 1 (encR m) none
abbrev MRo (m : List (ByteArray × List (List S61))) (k : ByteArray) := MR .string 57 1 (encR m) (some (MKey.sk k))
theorem rlk_encR (m : List (ByteArray × List (List S61))) (k : ByteArray) : (rlk (encR m) (MKey.sk k)).getD [] = ((mget m k).getD []).map (cL cS61) := by
  induction m with
  | nil => rfl
  | cons p m ih =>
    rw [mget_cons]
    unfold encR at ih ⊢
    rw [List.map_cons, rlk]
    by_cases h : p.1 = k
    · rw [if_pos (by rw [h]), if_pos h]; rfl
    · rw [if_neg (fun e => h (sk_inj _ _ e)), if_neg h]; exact ih
theorem mput_cons (p : ByteArray × List (List S61)) (m : List (ByteArray × List (List S61))) (k : ByteArray) (v : List (List S61)) (hn : ((p :: m).map (·.1)).Nodup) : mput (p :: m) k v = if p.1 = k then (k, v) :: m else p :: mput m k v := by
  unfold mput
  rw [mget_cons]
  rw [List.map_cons, List.nodup_cons] at hn
  by_cases h : p.1 = k
  · rw [if_pos h, if_pos h]
    simp only [Option.isSome_some, if_true, List.map_cons, h]
    congr 1
    have : ∀ q ∈ m, (if q.1 = k then (k, v) else q) = q := fun q hq => if_neg fun e => hn.1 (by rw [h, ← e]; exact List.mem_map.2 ⟨q, hq, rfl⟩)
    rw [List.map_congr_left this, List.map_id']
  · rw [if_neg h, if_neg h]
    split
    · rw [List.map_cons, if_neg h]
    · rfl
theorem rput_encR (k : ByteArray) (v : List (List S61)) : ∀ (m : List (ByteArray × List (List S61))), (m.map (·.1)).Nodup → rput (encR m) (MKey.sk k) (v.map (cL cS61)) = encR (mput m k v)
  | [], _ => rfl
  | p :: m, hn => by
    rw [mput_cons p m k v hn]
    have ih := rput_encR k v m (by rw [List.map_cons, List.nodup_cons] at hn; exact hn.2)
    unfold encR at ih ⊢
    rw [List.map_cons, rput]
    by_cases h : p.1 = k
    · rw [if_pos (by rw [h]), if_pos h, List.map_cons]
    · rw [if_neg (fun e => h (sk_inj _ _ e)), if_neg h, List.map_cons, ih]
theorem MV.nodup {Z : Nat → Prop} {w : World} {T n : Nat} {hole : Option MKey} : ∀ {l : List (MKey × List (List D))} {es : List MapEntry} {ls : List Loc}, MV Z w T n hole l es ls → es.map (·.key) = l.map fun p => p.1.enc
  | [], _, _, h => by rw [h.1]; rfl
  | (k, r) :: l, _, ls, ⟨e, es', h1, h2, h3⟩ => by
    subst h1
    rw [List.map_cons, List.map_cons, h2]
    rcases h3 with ⟨_, g2⟩ | ⟨_, ℓ, ls', _, _, g3⟩
    · rw [g2.nodup]
    · rw [g3.nodup]
theorem encR_mp (m : List (ByteArray × List (List S61))) : (encR m).map (fun p => (p.1, V.d (.sl p.2))) = encM MKey.sk (vO (cL cS61)) m := by
  unfold encR encM vO
  rw [List.map_map]
  rfl
theorem Sub.mapRows {S : St} (id : Nat) (hH : S.hp id = some (.mp .string (encM MKey.sk (vO (cL cS61)) ([] : List (ByteArray × List (List S61)))))) : Sub S (S.setH id (some (.hid (MRm [])))) := Sub.mrMake id 57 1 hH
theorem Sub.rowsMap {S : St} (id : Nat) (m : List (ByteArray × List (List S61))) (hid : S.rts.contains id = false) (hH : S.hp id = some (.hid (MRm m))) : Sub S (S.setH id (some (.mp .string (encM MKey.sk (vO (cL cS61)) m)))) := by
  rw [← encR_mp]
  exact Sub.mrFreeze id hid hH
theorem Chain.lookRow {ops : Array Oper} {o : Oper} {l : List Oper} {S : St} {Q : St → Prop} (m : List (ByteArray × List (List S61))) (k : ByteArray) {vs : List (List S61)} (hvs : (mget m k).getD [] = vs) {x i : Operand} {id d : Nat} (hw : wantedV ops S o = some true) (ho : o.op = .lookup 133 x i false)
    (hm : S.ev x = .mref id) (hH : S.hp id = some (.hid (MRm m))) (hk : S.ev i = .d (.lit (.string k))) (hdst : o.dst = some d) (hdr : S.rts.contains d = false) (hir : S.rts.contains id = false) (hne : d ≠ id)
    (h : Chain false Tryz.prog ops l ((((S.setH id (some (.hid (MRo m k)))).kill d).setH d (some (.arr 57 1 (vs.map (cL cS61))))).put (some d) (.ref d 0 vs.length)) Q) : Chain false Tryz.prog ops (o :: l) S Q := by
  refine Chain.lookOpen (k := MKey.sk k) hw ho ty133 rfl ty9 rfl ty48 rfl hm hH (by rw [hk]; rfl) rfl (by decide) hdst hdr hir hne ?_
  rw [rlk_encR, hvs, List.length_map]
  exact h
/-- the keys of a map of rows differ -/
theorem Chain.keysR {P : Program} {ops : Array Oper} {l : List Oper} {S : St} {Q : St → Prop} (id : Nat) {m : List (ByteArray × List (List S61))} {k : ByteArray} (hH : S.hp id = some (.hid (MRo m k))) (h : (m.map (·.1)).Nodup → Chain false P ops l S Q) : Chain false P ops l S Q := by
  intro fx a w Q' ⟨E, md⟩ hq
  obtain ⟨_, _, _, _, _, es, clock, ls, _, hst, hmv, _⟩ := md.ok.hold _ _ hH
  refine h ?_ fx a w Q' ⟨E, md⟩ hq
  have h1 := hst.2.2
  rw [hmv.nodup] at h1
  unfold encR at h1
  rw [List.map_map] at h1
  have h2 := List.pairwise_map.1 h1
  exact List.pairwise_map.2 (h2.imp fun hab e => hab (by show Value.string _ = Value.string _; rw [e]))
theorem Chain.updRow {ops : Array Oper} {o : Oper} {l : List Oper} {S : St} {Q : St → Prop} (m : List (ByteArray × List (List S61))) (k : ByteArray) (vs : List (List S61)) {y i x : Operand} {id rid : Nat} (hw : wantedV ops S o = some true) (ho : o.op = .mapUpdate 133 y i x)
    (hm : S.ev y = .mref id) (hH : S.hp id = some (.hid (MRo m k))) (hk : S.ev i = .d (.lit (.string k))) (hx : S.ev x = .ref rid 0 vs.length) (hR : S.hp rid = some (.arr 57 1 (vs.map (cL cS61)))) (hrr : S.rts.contains rid = false) (hir : S.rts.contains id = false) (hne : rid ≠ id)
    (h : Chain false Tryz.prog ops l (((S.kill rid).setH id (some (.hid (MRm (mput m k vs))))).put o.dst (.tup [])) Q) : Chain false Tryz.prog ops (o :: l) S Q := by
  refine Chain.keysR id hH fun hn => ?_
  refine Chain.updClose (k := MKey.sk k) (r := vs.map (cL cS61)) hw ho ty133 rfl ty9 rfl hm hH (by rw [hk]; rfl) rfl (by rw [List.length_map]; exact hx) hR hrr hir hne ?_
  rw [rput_encR k vs m hn]
  exact h
end Go.Ab
