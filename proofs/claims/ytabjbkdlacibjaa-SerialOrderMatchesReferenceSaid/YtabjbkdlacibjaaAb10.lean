/- The abstract machine: new blocks, appends. -/
import Derived.Test.YtabjbkdlacibjaaAb9
import Derived.Laws.OwnMore
import Derived.Laws.AppendOwnNone
import Derived.Laws.MakeOwn
namespace Go.Ab
open Go.RowKit

theorem run_append_where {P : Program} (w : World) (base : Nat) (t ty e : TypeId) (i : TypeInfo) (z : Value) (size bytes : Nat) (ht : P.underlying t = some (.slice e)) (hi : P.info? e = some i) (hz : i.zero = some z)
    (hsize : i.size = size) (hby : i.bytes = bytes) (hzs : z.cells.size = size) (hsz : 0 < size)
    (v : Value) (n : Nat) (flat : List Value) (hown : w.ownsRow base e size v n flat)
    (a : Addr) (m c : Nat) (news : List Value) (hl : news.length = m * size) (hnews : ∀ j u, news[j]? = some u → w.cell? (a.add j) = some u) (h1 : ∀ u ∈ news, u.oneCell' = true)
    (hbytes : (n + m) * bytes ≤ Rp.reach) (hb0 : 0 < bytes) (hbase : base ≤ w.heap.size) :
    ∃ v' w', (Builtin.append_ #[t, t] ty #[v, .slice (some a) m c]).run P w = .ok v' w' ∧ w'.ownsRow base e size v' (n + m) (flat ++ news) ∧ w.grownBy w' v.ownBlock ∧
      (v'.ownBlock = v.ownBlock ∨ ∃ g, v'.ownBlock = some g ∧ w.heap.size ≤ g) := by
  have h63 : n + m ≤ maxLen := by
    have h2 : (n + m) * 1 ≤ (n + m) * bytes := Nat.mul_le_mul_left _ hb0
    unfold Rp.reach at hbytes
    unfold maxLen
    omega
  obtain ⟨v', w', hr, h2, h3, _⟩ := run_append_own (P := P) w base t ty e i z size bytes ht hi hz hsize hby hzs hsz v n flat hown a m c news hl hnews h1 h63 hbytes hbase
  refine ⟨v', w', hr, h2, h3, ?_⟩
  rcases hown.2 with ⟨rfl, h0⟩ | ⟨g, cap, cur, rfl, hbg, hg, hnc, hcm, hcs, htake⟩
  · by_cases hm : m = 0
    · rw [hm] at hr
      have : (Builtin.append_ #[t, t] ty #[.slice none 0 0, .slice (some a) 0 c]).run P w = .ok (.slice none 0 0) w := by
        simp [Builtin.append_, run_underlying ht, sizeOf, typeInfo, hi, Builtin.lenOf, Builtin.firstCells, loadCells, loadCellsFrom]
      rw [this] at hr
      injection hr with e1 e2
      subst e1
      exact .inl rfl
    · have := run_append_nil (P := P) w t ty e i z ht hi hz a m c news (by rw [hsize]; exact hl) hnews (by omega) (by unfold maxLen at h63; omega) (by rw [hby]; unfold Rp.reach at hbytes; rw [h0, Nat.zero_add] at hbytes; exact Nat.le_trans hbytes (by decide))
      rw [this] at hr
      injection hr with e1 e2
      subst e1
      exact .inr ⟨_, rfl, Nat.le_refl _⟩
  · by_cases hroom : n + m ≤ cap
    · have hfit : n * i.size + news.length ≤ cur.size := by rw [hl, hcs, hsize, ← Nat.add_mul]; exact Nat.mul_le_mul_right _ hroom
      have := run_append_room (P := P) w t ty e i ht hi g n cap cur hg a m c news (by rw [hsize]; exact hl) hnews h1 hroom hfit
      rw [this] at hr
      injection hr with e1 e2
      subst e1
      exact .inl rfl
    · have holds : ∀ j u, flat[j]? = some u → w.cell? ((⟨g, 0, none⟩ : Addr).add j) = some u := hown.cells (g := g) rfl
      have := run_append_grow (P := P) w t ty e i z ht hi hz ⟨g, 0, none⟩ n cap flat (by rw [hsize]; exact hown.1) holds a m c news (by rw [hsize]; exact hl) hnews (by omega) (by unfold maxLen at h63; omega) (growslice_fits (by omega) (by rw [hby]; exact hbytes))
      rw [this] at hr
      injection hr with e1 e2
      subst e1
      exact .inr ⟨_, rfl, Nat.le_refl _⟩

/-- the elements of a slice that is read from -/
def srcV (H : Heap) : V → Option (List (List D))
  | .d (.sl es) | .dx es => some es
  | .d (.lit (.slice none 0 0)) => some []
  | .ref id off len => match H id with
    | some (.arr _ _ es) => if off + len ≤ es.length then some ((es.drop off).take len) else none
    | _ => none
  | _ => none

/-- the elements lie at an address -/
def Src (w : World) (Z : Nat → Prop) (n : Nat) (v : Value) (ys : List (List D)) : Prop :=
  (v = .slice none 0 0 ∧ ys = []) ∨ ∃ a cap flat, v = .slice (some a) ys.length cap ∧ RDe w Z ys flat ∧ ∀ j u, flat[j]? = some u → w.cell? (a.add j) = some u

theorem srcV_sound {E : Env} {H : Heap} {w : World} (ok : E.ok H w) {x : V} {v : Value} (h : RV E w x v) {ys : List (List D)} (hs : srcV H x = some ys) (n : Nat) : Src w E.Z n v ys := by
  have key : ∀ es : List (List D), RD w E.Z (.sl es) v → Src w E.Z n v es := by
    rintro es ⟨A, cap, rfl, h1, h2, h3, h4⟩
    cases A with
    | none =>
      have := h3 rfl
      subst this
      have : es = [] := List.eq_nil_of_length_eq_zero (by omega)
      subst this
      exact .inl ⟨rfl, rfl⟩
    | some a =>
      by_cases hes : es = []
      · subst hes
        exact .inr ⟨a, cap, [], rfl, rfl, fun j u hu => by simp at hu⟩
      · obtain ⟨b, o, n, flat, ha, hz, h5, h6, h7⟩ := h4 hes
        injection ha with ha
        subst ha
        exact .inr ⟨_, cap, flat, rfl, h6, fun j u hu => by rw [add_addr]; exact h7 j u hu⟩
  unfold srcV at hs
  split at hs
  · injection hs with hs; subst hs; exact key _ h
  · injection hs with hs; subst hs; exact key _ h.1
  · injection hs with hs; subst hs; obtain ⟨rfl, _⟩ := h; exact .inl ⟨rfl, rfl⟩
  · rename_i id off len
    split at hs
    · rename_i T n' es hH
      split at hs
      · rename_i hle
        injection hs with hs; subst hs
        obtain ⟨g1, g2, g3, g4, g5⟩ := ok.hold _ _ hH
        rcases h with ⟨h1, h2, h3, rfl⟩ | ⟨h1, h2, a, rfl, h4⟩
        · subst h3; exact .inl ⟨rfl, by simp⟩
        · rcases g5 with ⟨g6, _⟩ | ⟨_, c, flat, k1, k2, k3, k4, k5, k6⟩
          · rw [h1] at g6; cases g6
          · have hlt := (Array.getElem?_eq_some_iff.1 k1).1
            have hl : ((es.drop off).take len).length = len := by rw [List.length_take, List.length_drop]; omega
            by_cases hc : off < (E.loc id).cap
            · have ha := h4 (.inr hc)
              rw [g2, g1, Nat.zero_add] at ha
              refine .inr ⟨⟨(E.loc id).b, a, none⟩, (E.loc id).cap - off, (flat.drop (off * n')).take (len * n'), by rw [hl], RDe_take len (RDe_drop off k5 g3) (fun e he => g3 e (List.mem_of_mem_drop he)), fun j u hu => ?_⟩
              have := rangeAt_take (rangeAt_drop (arr_range k1 ⟨_, k6⟩) (off * n')) (len * n')
              rw [Nat.zero_add] at this
              rw [add_addr, ha]; exact this j u hu
            · have h0 : len = 0 := by omega
              subst h0
              exact .inr ⟨⟨(E.loc id).b, a, none⟩, (E.loc id).cap - off, [], by simp, by simp [RDe], (fun j v hv => by simp at hv)⟩
      · cases hs
    · cases hs
  · cases hs

/-- append: the name of the row, its elements before -/
def rowOf (H : Heap) (d : Nat) (e : TypeId) (size : Nat) : V → Option (Nat × List (List D))
  | .d (.lit (.slice none 0 0)) => some (d, [])
  | .ref id 0 len => match H id with
    | some (.arr T n es) => if len = es.length ∧ T = e ∧ n = size then some (id, es) else none
    | _ => none
  | _ => none

def apV (S : St) (d : Nat) (e : TypeId) (te : TI) (s x : V) : Option (St × V) :=
  match rowOf S.hp d e te.size s, srcV S.hp x with
  | some (id, es), some ys =>
    if id ∈ S.rts then none else
    if 0 < te.size ∧ 0 < te.bytes ∧ te.zero.cells.size = te.size ∧ ys.all (fun y => y.length = te.size) = true ∧ (es.length + ys.length) * te.bytes ≤ Rp.reach then
      some ((S.kill id).setH id (some (.arr e te.size (es ++ ys))), .ref id 0 (es.length + ys.length))
    else none
  | _, _ => none

theorem RDe_cell {w : World} {Z : Nat → Prop} : ∀ {es : List (List D)} {vs : List Value}, RDe w Z es vs → ∀ u ∈ vs, u.oneCell' = true
  | [], _, h, u, hu => by
    have : _ = [] := h
    rw [this] at hu; cases hu
  | e :: es, _, ⟨a, r, h, h1, h2⟩, u, hu => by
    subst h
    rcases List.mem_append.1 hu with hu | hu
    · have h1' := (RVs_d (E := ⟨fun _ => default, Z⟩)).2 h1
      exact RVs_cell h1' (fun c hc => by obtain ⟨y, _, rfl⟩ := List.mem_map.1 hc; rfl) u hu
    · exact RDe_cell h2 u hu

theorem rangeAt_add {w : World} {b o : Nat} {vs : List Value} (h : w.rangeAt b o vs) : ∀ j u, vs[j]? = some u → w.cell? ((⟨b, o, none⟩ : Addr).add j) = some u := fun j u hu => by
  rw [add_addr]; exact h j u hu

theorem apV_sound {P : Program} {t e ty : TypeId} {tt te : TI} (ht : tyOf P t = some tt) (hd : tt.desc = .slice e) (he : tyOf P e = some te) {fx : Fx} {S S' : St} {E : Env} {a : Act} {w : World} (m : Mod fx S E a w) {d : Nat} {s x r : V} {sv xv : Value}
    (hs : RV E w s sv) (hx : RV E w x xv) (h : apV S d e te s x = some (S', r)) :
    ∃ u w' E', (Builtin.append_ #[t, t] ty #[sv, xv]).run P w = .ok u w' ∧ Mod fx S' E' a w' ∧ RV E' w' r u := by
  unfold apV at h
  split at h
  · rename_i id es ys hrow hsrc
    split at h
    · cases h
    · rename_i hid
      split at h
      · rename_i hc
        obtain ⟨hpos, hpb, hzc, hall, hbytes⟩ := hc
        simp only [Option.some.injEq, Prod.mk.injEq] at h
        obtain ⟨rfl, rfl⟩ := h
        obtain ⟨hu, i0, hi0, hi1, hi2, hi3⟩ := tyOf_spec he
        have htu : P.underlying t = some (.slice e) := by rw [(tyOf_spec ht).1, hd]
        have hys : ∀ y ∈ ys, y.length = te.size := fun y hy => of_decide_eq_true (List.all_eq_true.1 hall y hy)
        -- the row before
        have hown : ∃ flat, w.ownsRow 0 e te.size sv es.length flat ∧ RDe w E.Z es flat ∧ (∀ x ∈ es, x.length = te.size) ∧ (∀ b, sv.ownBlock = some b → S.hp id ≠ none ∧ (E.loc id).nil = false ∧ (E.loc id).b = b) := by
          unfold rowOf at hrow
          split at hrow
          · simp only [Option.some.injEq, Prod.mk.injEq] at hrow
            obtain ⟨rfl, rfl⟩ := hrow
            obtain ⟨rfl, _⟩ := hs
            exact ⟨[], World.ownsRow_nil _ _ _ _, rfl, (fun x hx => by cases hx), (fun b hb => by cases hb)⟩
          · rename_i id' len
            split at hrow
            · rename_i T n es' hH
              split at hrow
              · rename_i hcc
                obtain ⟨rfl, rfl, rfl⟩ := hcc
                simp only [Option.some.injEq, Prod.mk.injEq] at hrow
                obtain ⟨rfl, rfl⟩ := hrow
                obtain ⟨g1, g2, g3, g4, g5⟩ := m.ok.hold _ _ hH
                rcases hs with ⟨h1, _, h3, rfl⟩ | ⟨h1, h2, aa, rfl, h4⟩
                · have : es' = [] := List.eq_nil_of_length_eq_zero h3
                  subst this
                  exact ⟨[], World.ownsRow_nil _ _ _ _, rfl, (fun x hx => by cases hx), (fun b hb => by cases hb)⟩
                · rcases g5 with ⟨g6, _⟩ | ⟨_, c, flat, k1, k2, k3, k4, k5, k6⟩
                  · rw [h1] at g6; cases g6
                  · have hlen := RDe_length k5 g3
                    have ha := h4 (.inl rfl)
                    rw [g2] at ha
                    simp only [Nat.zero_mul, Nat.add_zero, Nat.sub_zero] at ha ⊢
                    subst ha
                    exact ⟨flat, ⟨hlen, .inr ⟨_, _, c, rfl, Nat.zero_le _, k1, k2, k3, k4, k6⟩⟩, k5, g3, fun b hb => ⟨by rw [hH]; simp, h1, by injection hb⟩⟩
              · cases hrow
            · cases hrow
          · cases hrow
        obtain ⟨flat, hrow1, hrow2, hrow3, hrow4⟩ := hown
        have fin : ∀ u w' news, w'.ownsRow 0 e te.size u (es.length + ys.length) (flat ++ news) → RDe w E.Z ys news → w.grownBy w' sv.ownBlock → (u.ownBlock = sv.ownBlock ∨ ∃ g, u.ownBlock = some g ∧ w.heap.size ≤ g) →
            ∃ E', Mod fx ((S.kill id).setH id (some (.arr e te.size (es ++ ys)))) E' a w' ∧ RV E' w' (.ref id 0 (es.length + ys.length)) u := by
          intro u w' news hown' hnews hg hwhere
          have hz : ∀ b, sv.ownBlock = some b → ¬ E.Z b := fun b hb => by
            obtain ⟨h1, h2, h3⟩ := hrow4 b hb
            rw [← h3]; exact m.ok.apart id h1 h2
          have hk := Keeps.grown m.ok hg hz
          have hall2 : ∀ y ∈ es ++ ys, y.length = te.size := fun y hy => (List.mem_append.1 hy).elim (hrow3 y) (hys y)
          have hcat := RDe.keep hk (fun _ h => h) _ _ (RDe_append hrow2 hnews)
          rcases hown'.2 with ⟨rfl, h0⟩ | ⟨g, cap, cur, rfl, _, hgc, hnc, hcm, hcs, htake⟩
          · have he0 : es ++ ys = [] := List.eq_nil_of_length_eq_zero (by rw [List.length_append]; exact h0)
            refine ⟨_, m.re hid hg hrow4 ⟨0, 0, te.size, 0, true⟩ ⟨by simp [Env.at], by simp [Env.at], hall2, hpos, .inl ⟨by simp [Env.at], he0⟩⟩ (fun h => by cases h), .inl ⟨by simp [Env.at], rfl, h0, rfl⟩⟩
          · refine ⟨_, m.re hid hg hrow4 ⟨g, 0, te.size, cap, false⟩ ⟨by simp [Env.at], by simp [Env.at], hall2, hpos, .inr ⟨by simp [Env.at], cur, _, by simpa [Env.at] using hgc, by simpa [Env.at] using hnc, by simpa [Env.at] using hcm, by simpa [Env.at] using hcs, hcat, by rw [List.length_append]; exact htake⟩⟩ (fun _ => ?_), .inr ⟨by simp [Env.at], by simpa [Env.at] using hnc, 0, by simp [Env.at], fun _ => by simp [Env.at]⟩⟩
            rcases hwhere with h | ⟨g', h, hle⟩
            · exact .inl h
            · have : g = g' := by injection h
              exact .inr (by rw [this]; exact hle)
        rcases srcV_sound m.ok hx hsrc te.size with ⟨rfl, rfl⟩ | ⟨aa, cap, news, rfl, h1, h2⟩
        · have hrun := run_append_owned_none (P := P) (w := w) 0 t ty e i0 te.size htu hi0 sv es.length flat hrow1
          obtain ⟨E', h1, h2⟩ := fin sv w [] (by simpa using hrow1) rfl ⟨rfl, rfl, rfl, Nat.le_refl _, fun _ _ _ => rfl⟩ (.inl rfl)
          exact ⟨sv, w, E', hrun, h1, h2⟩
        · obtain ⟨u, w', hrun, g1, g2, g3⟩ := run_append_where (P := P) w 0 t ty e i0 te.zero te.size te.bytes htu hi0 hi3 hi1 hi2 hzc hpos sv es.length flat hrow1 aa ys.length cap news
            (RDe_length h1 hys) h2 (RDe_cell h1) hbytes hpb (Nat.zero_le _)
          obtain ⟨E', k1, k2⟩ := fin u w' news g1 h1 g2 g3
          exact ⟨u, w', E', hrun, k1, k2⟩
      · cases h
  · cases h
end Go.Ab
