/- The abstract machine: writes into own blocks. -/
import Derived.Test.YtabjbkdlacibjaaAb8
namespace Go.Ab
open Go.RowKit

theorem grownBy_setCell (w : World) (b i : Nat) (u : Value) : w.grownBy (w.setCell ⟨b, i, none⟩ u) (some b) :=
  ⟨rfl, rfl, rfl, by simp [World.setCell], fun k _ hk => Below.heap_setCell _ _ _ _ (fun e => hk (by rw [e]))⟩
theorem grownBy_trans {a b c : World} {r : Option Nat} (h : a.grownBy b r) (g : b.grownBy c r) : a.grownBy c r :=
  ⟨g.os.trans h.os, g.tape.trans h.tape, g.output.trans h.output, Nat.le_trans h.size g.size, fun k hk hr => (g.block k (Nat.lt_of_lt_of_le hk h.size) hr).trans (h.block k hk hr)⟩
theorem grownBy_setCells (b : Nat) : ∀ (vs : List Value) (o : Nat) (w : World), w.grownBy (w.setCells b o vs) (some b)
  | [], _, w => ⟨rfl, rfl, rfl, Nat.le_refl _, fun _ _ _ => rfl⟩
  | v :: r, o, w => grownBy_trans (grownBy_setCell w b o v) (grownBy_setCells b r (o + 1) _)
theorem size_setCells (b : Nat) : ∀ (vs : List Value) (o : Nat) (w : World), (w.setCells b o vs).heap.size = w.heap.size
  | [], _, _ => rfl
  | v :: r, o, w => by rw [World.setCells, size_setCells b r]; simp [World.setCell]

theorem list_set_splice (l : List Value) (o : Nat) (v : Value) (vs : List Value) (h : o < l.length) :
    (l.set o v).take (o + 1) ++ (vs ++ (l.set o v).drop (o + 1 + vs.length)) = l.take o ++ (v :: vs ++ l.drop (o + (vs.length + 1))) := by
  have e1 : (l.set o v).take (o + 1) = l.take o ++ [v] := by
    rw [List.take_succ_eq_append_getElem (by simpa using h), List.take_set_of_le (Nat.le_refl _)]
    simp
  have e2 : (l.set o v).drop (o + 1 + vs.length) = l.drop (o + 1 + vs.length) := by
    rw [List.drop_set_of_lt (by omega)]
  rw [e1, e2, show o + 1 + vs.length = o + (vs.length + 1) by omega]
  simp

theorem heap_setCells (b : Nat) {T : TypeId} {fr : Nat × Nat} : ∀ (vs : List Value) (o : Nat) (w : World) (c : Array Value), w.heap[b]? = some (.cells c T fr) → o + vs.length ≤ c.size →
    ∃ c' : Array Value, (w.setCells b o vs).heap[b]? = some (.cells c' T fr) ∧ c'.toList = c.toList.take o ++ (vs ++ c.toList.drop (o + vs.length))
  | [], o, w, c, h, _ => ⟨c, h, by simp⟩
  | v :: r, o, w, c, h, hl => by
    simp only [List.length_cons] at hl
    obtain ⟨c', h1, h2⟩ := heap_setCells b r (o + 1) (w.setCell ⟨b, o, none⟩ v) (c.setIfInBounds o v) (Rp.heap_setCell_at h v) (by simp; omega)
    refine ⟨c', h1, ?_⟩
    rw [h2, Array.toList_setIfInBounds, list_set_splice _ _ _ _ (by simp; omega)]
    simp

theorem rangeAt_store {w : World} {b o : Nat} {vs us : List Value} (h : w.rangeAt b o vs) {off : Nat} (hle : off + us.length ≤ vs.length) : (w.setCells b (o + off) us).rangeAt b o (vs.take off ++ (us ++ vs.drop (off + us.length))) := by
  have some : ∀ j, j < us.length → (w.cell? ⟨b, o + off + j, none⟩).isSome = true := fun j hj => by
    have := h (off + j) vs[off + j] (List.getElem?_eq_getElem (by omega))
    rw [← Nat.add_assoc] at this
    rw [this]; rfl
  intro j v hv
  have ht : (vs.take off).length = off := by rw [List.length_take]; omega
  rcases Nat.lt_or_ge j off with hj | hj
  · rw [List.getElem?_append_left (by omega), List.getElem?_take_of_lt hj] at hv
    rw [World.cell?_setCells_out b us (o + off) w _ (fun _ _ => .inl (by show o + j < _; omega))]
    exact h j v hv
  · rw [List.getElem?_append_right (by omega), ht] at hv
    rcases Nat.lt_or_ge (j - off) us.length with hj2 | hj2
    · rw [List.getElem?_append_left hj2] at hv
      have := World.cell?_setCells_in b us (o + off) w some (j - off) hj2
      rw [show o + off + (j - off) = o + j by omega] at this
      rw [this, ← hv, List.getElem?_eq_getElem hj2]
    · rw [List.getElem?_append_right hj2, List.getElem?_drop] at hv
      rw [World.cell?_setCells_out b us (o + off) w _ (fun _ _ => .inr (by show _ ≤ o + j; omega))]
      refine h j v ?_
      rw [← hv]; congr 1; omega

/-- values that are data -/
def toD : V → Option D
  | .d x => some x
  | _ => none
def toDs : List V → Option (List D)
  | [] => some []
  | c :: cs => match toD c, toDs cs with
    | some x, some xs => some (x :: xs)
    | _, _ => none
theorem toDs_sound : ∀ {cs : List V} {ds : List D}, toDs cs = some ds → cs = ds.map V.d
  | [], ds, h => by injection h with h; subst h; rfl
  | c :: cs, ds, h => by
    simp only [toDs] at h
    split at h
    · rename_i x xs hx hxs
      injection h with h; subst h
      unfold toD at hx
      split at hx
      · injection hx with hx; subst hx; rw [List.map_cons, ← toDs_sound hxs]
      · cases hx
    · cases h

theorem RDe_set {w : World} {Z : Nat → Prop} {n : Nat} : ∀ {es : List (List D)} {flat : List Value}, RDe w Z es flat → (∀ e ∈ es, e.length = n) → ∀ {i : Nat} {e e' : List D} {us : List Value}, es[i]? = some e → e'.length = n → RDs w Z e' us →
    RDe w Z (es.set i e') (flat.take (i * n) ++ (us ++ flat.drop (i * n + n)))
  | [], _, _, _, i, e, e', us, he, _, _ => by simp at he
  | x :: es, _, ⟨a, r, h, h1, h2⟩, hn, 0, e, e', us, he, hl, hu => by
    subst h
    have ha : a.length = n := by rw [RDs_length h1, hn x (.head _)]
    refine ⟨us, r, ?_, hu, h2⟩
    simp [← ha]
  | x :: es, _, ⟨a, r, h, h1, h2⟩, hn, i + 1, e, e', us, he, hl, hu => by
    subst h
    have ha : a.length = n := by rw [RDs_length h1, hn x (.head _)]
    have ih := RDe_set h2 (fun e he => hn e (.tail _ he)) (i := i) (e := e) (e' := e') (us := us) (by simpa using he) hl hu
    refine ⟨a, _, ?_, h1, ih⟩
    have e1 : (a ++ r).take ((i + 1) * n) = a ++ r.take (i * n) := by
      rw [Nat.add_mul, Nat.one_mul, Nat.add_comm, ← ha, List.take_length_add_append]
    have e2 : (a ++ r).drop ((i + 1) * n + n) = r.drop (i * n + n) := by
      rw [show (i + 1) * n + n = a.length + (i * n + n) by rw [ha, Nat.add_mul]; omega, ← List.drop_drop, List.drop_left]
    rw [e1, e2, List.append_assoc]

/-- cells put into a row -/
def setD (e : List D) (off : Nat) (ds : List D) : List D := e.take off ++ (ds ++ e.drop (off + ds.length))
theorem RDs_set {w : World} {Z : Nat → Prop} {e ds : List D} {vs us : List Value} (h : RDs w Z e vs) (g : RDs w Z ds us) (off : Nat) : RDs w Z (setD e off ds) (vs.take off ++ (us ++ vs.drop (off + us.length))) := by
  have tk : ∀ {e : List D} {vs : List Value} (k : Nat), RDs w Z e vs → RDs w Z (e.take k) (vs.take k) := by
    intro e
    induction e with
    | nil => intro vs k h; have : vs = [] := h; subst this; simp [RDs]
    | cons x e ih =>
      intro vs k h
      obtain ⟨v, r, rfl, h1, h2⟩ := h
      cases k with
      | zero => simp [RDs]
      | succ k => exact ⟨v, r.take k, rfl, h1, ih k h2⟩
  unfold setD
  rw [RDs_length g]
  exact RDs_append (tk _ h) (RDs_append g (RDs_drop _ h))

/-- a store -/
def stV (S : St) (size : Nat) (p x : V) : Option St :=
  match p with
  | .ptr id i off => match S.hp id with
    | some (.box cs) => if i = 0 ∧ (cellsV x).all V.cell = true ∧ (cellsV x).length = size ∧ off + size ≤ cs.length then some (S.setH id (some (.box (setL cs off (cellsV x))))) else none
    | some (.arr T n es) => match es[i]?, toDs (cellsV x) with
      | some e, some ds => if ds.length = size ∧ off + size ≤ e.length then some (S.setH id (some (.arr T n (es.set i (setD e off ds))))) else none
      | _, _ => none
    | _ => none
  | _ => none

theorem run_storeVar {P : Program} {T : TypeId} {ti : TI} (ht : tyOf P T = some ti) {w : World} {b o : Nat} {v : Value} (hsz : v.cells.size = ti.size) (h1 : ∀ u ∈ v.cells.toList, u.oneCell' = true) (hth : w.there b o v.cells.size) :
    (Instr.storeAt T (.pointer (some ⟨b, o, none⟩)) v).run P w = .ok () (w.setCells b o v.cells.toList) := by
  have := run_storeCells_cells (P := P) b o v.cells.toList 0 w (fun j hj => by simpa using (hth j (by simpa using hj)).1) (fun j hj => by simpa using (hth j (by simpa using hj)).2) h1
  simp only [Nat.add_zero] at this
  simp [Instr.storeAt, Instr.sureAddr, storeVar, run_sizeOf ht w, hsz, this]

theorem stV_sound {P : Program} {T : TypeId} {ti : TI} (ht : tyOf P T = some ti) {fx : Fx} {S S' : St} {E : Env} {a : Act} {w : World} (m : Mod fx S E a w) {p x : V} {pv xv : Value} (hp : RV E w p pv) (hx : RV E w x xv) (h : stV S ti.size p x = some S') :
    ∃ w', (Instr.storeAt T pv xv).run P w = .ok () w' ∧ Mod fx S' E a w' := by
  unfold stV at h
  split at h
  · rename_i id i off
    obtain ⟨hn, rfl⟩ := hp
    split at h
    · rename_i cs hH
      split at h
      · rename_i hc
        obtain ⟨rfl, h1, h2, h3⟩ := hc
        injection h with h; subst h
        have hv := cellsV_sound hx h1
        have hvl := RVs_length hv
        obtain ⟨_, g1, vs, g2, g3, g4, g5⟩ := m.ok.hold _ _ hH
        have hvsl := RVs_length g2
        have hsz : xv.cells.size = ti.size := by rw [← h2, ← hvl]; simp
        simp only [Nat.zero_mul, Nat.add_zero]
        refine ⟨_, run_storeVar ht hsz (RVs_cell hv (fun c hc => List.all_eq_true.1 h1 c hc)) (fun j hj => ?_), m.wr hH hn (grownBy_setCells _ _ _ _) ?_⟩
        · have := g3 (off + j) vs[off + j] (List.getElem?_eq_getElem (by omega))
          rw [← Nat.add_assoc] at this
          refine ⟨by rw [this]; rfl, ?_⟩
          have := g4 (off + j) (by omega)
          rwa [← Nat.add_assoc] at this
        · have hlen : xv.cells.toList.length = ti.size := by simp [hsz]
          have hgb := grownBy_setCells (E.loc id).b xv.cells.toList ((E.loc id).o + off) w
          have hk : Keeps E.Z w (w.setCells (E.loc id).b ((E.loc id).o + off) xv.cells.toList) := Keeps.grown m.ok hgb fun b hb => by injection hb with hb; rw [← hb]; exact m.ok.apart id (by rw [hH]; simp) hn
          refine ⟨hn, fun c hc => ?_, _, RVs.keep hk (fun _ h => h) rfl _ _ (RVs_set g2 hv (off := off) (by omega)), rangeAt_store g3 (by omega), fun j hj => ?_, by rw [size_setCells]; exact g5⟩
          · unfold setL at hc
            rcases List.mem_append.1 hc with hc | hc
            · exact g1 c (List.mem_of_mem_take hc)
            · rcases List.mem_append.1 hc with hc | hc
              · exact List.all_eq_true.1 h1 c hc
              · exact g1 c (List.mem_of_mem_drop hc)
          · rw [World.frozen?_setCells]
            refine g4 j ?_
            simp only [List.length_append, List.length_take, List.length_drop] at hj
            omega
      · cases h
    · rename_i T' n es hH
      split at h
      · rename_i e ds he hds
        split at h
        · rename_i hc
          obtain ⟨h2, h3⟩ := hc
          injection h with h; subst h
          have hcd := toDs_sound hds
          have hall : (cellsV x).all V.cell = true := by rw [hcd, List.all_eq_true]; intro c hc; obtain ⟨y, _, rfl⟩ := List.mem_map.1 hc; rfl
          have hv := cellsV_sound hx hall
          rw [hcd] at hv
          have hvd := RVs_d.1 hv
          have hvl := RDs_length hvd
          obtain ⟨hln, hlo, hlen, hpos, hh⟩ := m.ok.hold _ _ hH
          rcases hh with ⟨hnil, _⟩ | ⟨_, c, flat, g1, g2, g3, g4, g5, g6⟩
          · rw [hn] at hnil; cases hnil
          · obtain ⟨c1, vs, c2, k1, k2, k3⟩ := RDe_get g5 hlen he
            have hel : e.length = n := hlen e (List.mem_of_getElem? he)
            have hvs : vs.length = n := by rw [RDs_length k3, hel]
            have hi : i < es.length := (List.getElem?_eq_some_iff.1 he).1
            have hfl : flat.length = es.length * n := RDe_length g5 hlen
            have hin : i * n + n ≤ es.length * n := by
              have : (i + 1) * n ≤ es.length * n := Nat.mul_le_mul_right _ hi
              rwa [Nat.add_mul, Nat.one_mul] at this
            have hcap : es.length * n ≤ c.size := by rw [g4]; exact Nat.mul_le_mul_right _ g2
            have hsz : xv.cells.size = ti.size := by rw [← h2, ← hvl]; simp
            have hul : xv.cells.toList.length = ti.size := by simp [hsz]
            have hoff : (E.loc id).o + i * (E.loc id).n + off = i * n + off := by rw [hlo, hln, Nat.zero_add]
            rw [hoff]
            obtain ⟨c', q1, q2⟩ := heap_setCells (E.loc id).b xv.cells.toList (i * n + off) w c g1 (by rw [hul]; omega)
            have hfr : ∀ k, w.frozen? ⟨(E.loc id).b, k, none⟩ = false := fun k => by simp [World.frozen?, g1]
            refine ⟨_, run_storeVar ht hsz (fun u hu => ?_) (fun j hj => ⟨?_, hfr _⟩), m.wr hH hn (grownBy_setCells _ _ _ _) ?_⟩
            · exact RVs_cell hv (fun c hc => by obtain ⟨y, _, rfl⟩ := List.mem_map.1 hc; rfl) u hu
            · simp only [World.cell?, g1, Option.isSome_none, Bool.false_eq_true, if_false]
              rw [Array.getElem?_eq_getElem (by omega)]
              rfl
            · have hgb := grownBy_setCells (E.loc id).b xv.cells.toList (i * n + off) w
              have hk : Keeps E.Z w (w.setCells (E.loc id).b (i * n + off) xv.cells.toList) := Keeps.grown m.ok hgb fun b hb => by injection hb with hb; rw [← hb]; exact m.ok.apart id (by rw [hH]; simp) hn
              have hset := RDs_set k3 hvd off
              have hsl : (setD e off ds).length = n := by
                unfold setD; simp only [List.length_append, List.length_take, List.length_drop]; omega
              have hnew := RDe_set g5 hlen he hsl hset
              refine ⟨hln, hlo, fun e' he' => ?_, hpos, .inr ⟨hn, c', _, q1, by rw [List.length_set]; exact g2, g3, ?_, RDe.keep hk (fun _ h => h) _ _ hnew, ?_⟩⟩
              · rcases List.mem_or_eq_of_mem_set he' with h | h
                · exact hlen e' h
                · rw [h]; exact hsl
              · have : c'.toList.length = c.toList.length := by
                  rw [q2]; simp only [List.length_append, List.length_take, List.length_drop, Array.length_toList]
                  rw [hsz]; omega
                rw [← g4]; simpa using this
              · rw [q2, List.length_set]
                have hct : c.toList.take (es.length * n) = flat := g6
                -- both sides, place by place
                have hflat : flat = c1 ++ (vs ++ c2) := k1
                have hc1 : c.toList.take (i * n + off) = c1 ++ vs.take off := by
                  have : c.toList.take (i * n + off) = flat.take (i * n + off) := by rw [← hct, List.take_take, Nat.min_eq_left (by omega)]
                  rw [this, hflat, ← k2, List.take_length_add_append, List.take_append_of_le_length (by omega)]
                have ht1 : flat.take (i * n) = c1 := by rw [hflat, ← k2, List.take_left]
                have ht2 : flat.drop (i * n + n) = c2 := by
                  rw [hflat, ← k2, ← hvs, ← List.append_assoc, show c1.length + vs.length = (c1 ++ vs).length by simp, List.drop_left]
                rw [hc1, ht1, ht2]
                have hc2 : (c.toList.drop (i * n + off + xv.cells.toList.length)).take (es.length * n - (i * n + off + xv.cells.toList.length)) = vs.drop (off + xv.cells.toList.length) ++ c2 := by
                  rw [← List.drop_take, hct, hflat, ← k2, show c1.length + off + xv.cells.toList.length = c1.length + (off + xv.cells.toList.length) by omega, ← List.drop_drop, List.drop_left, List.drop_append_of_le_length (by omega)]
                have hl1 : (c1 ++ vs.take off).length = i * n + off := by rw [List.length_append, k2, List.length_take]; omega
                rw [List.take_append, hl1, List.take_of_length_le (by omega), List.take_append, List.take_of_length_le (l := xv.cells.toList) (by omega)]
                rw [show es.length * n - (i * n + off) - xv.cells.toList.length = es.length * n - (i * n + off + xv.cells.toList.length) by omega, hc2]
                simp
        · cases h
      · cases h
    · cases h
  · cases h
end Go.Ab
