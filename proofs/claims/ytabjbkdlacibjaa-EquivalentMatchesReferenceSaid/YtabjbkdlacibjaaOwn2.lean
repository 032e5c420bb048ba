/- Appends to owned rows inside regions that draw their order. -/
import Derived.Test.YtabjbkdlacibjaaOwn
import Derived.Deep.RegionLaw
import Derived.Laws.AppendOwnNone
namespace Go.Rp
open Go.RowKit

theorem step_append_rep {P : Program} {α : Type} [Rep α] [FlatRep α] {ops : Array Oper} {o : Oper} {a : Act} {w : World} {K : Act → World → Prop} {Q : Exit → Act → World → Prop} {E : Prop}
    (hgd : o.guard = none) (s x : Operand) (t : TypeId) (ho : o.op = .call { callee := .builtin .append, args := #[s, x], argTypes := #[t, t] })
    (base : Nat) (e : TypeId) (bytes : Nat) (he : Elem P t e α bytes)
    (v : Value) (xs ys : List α) (hs : a.eval s = v) (hown : Own w base e v xs) (ad : Addr) (c : Nat) (hx : a.eval x = .slice (some ad) ys.length c)
    (news : List Value) (hys : Flat w w.heap.size ys news) (hnews : ∀ j u, news[j]? = some u → w.cell? (ad.add j) = some u)
    (hbytes : (xs.length + ys.length) * bytes ≤ reach) (hbase : base ≤ w.heap.size)
    (h : ∀ v' w', Own w' base e v' (xs ++ ys) → w.grownBy w' v.ownBlock → (v'.ownBlock = v.ownBlock ∨ ∃ g, v'.ownBlock = some g ∧ w.heap.size ≤ g) → K (a.put o.dst v') w') :
    if Region.wanted o (yielded ops a.tmps) = true then Oper.wp P o a w K Q else E := by
  have hw : Region.wanted o (yielded ops a.tmps) = true := by simp [Region.wanted, hgd]
  rw [if_pos hw]
  obtain ⟨flat, hr, hf⟩ := hown
  obtain ⟨i, z, hi, hz, hsize, hby, hzs⟩ := he.inf
  obtain ⟨v', w', hrun, h2, h3, h4⟩ := run_append_rep (P := P) w base t o.type e i z bytes he.ht hi hz hsize hby hzs he.pos v xs ys flat hr ad c news hf hys hnews hys.one' hbytes he.posb hbase
    (fun w' _ => (hf.any).append hys.any)
  have := h v' w' h2 h3 h4
  unfold Oper.wp execOp
  simp only [ho, resolve, invoke, builtin, Sem.run_bind, Sem.run_pure, Result.andThen_ok, List.map_toArray, List.map_cons, List.map_nil, hs, hx, hrun]
  exact this


/-- a slice whose elements read as ys, to be appended from -/
def Src {α : Type} [Rep α] (w : World) (x : Value) (ys : List α) : Prop :=
  (x = .slice none 0 0 ∧ ys = []) ∨ ∃ ad c news, x = .slice (some ad) ys.length c ∧ Flat w w.heap.size ys news ∧ ∀ j u, news[j]? = some u → w.cell? (ad.add j) = some u

theorem Own.src {α : Type} [Rep α] {w : World} {base : Nat} {e : TypeId} {v : Value} {xs : List α} (h : Own w base e v xs) : Src w v xs := by
  obtain ⟨flat, hr, hf⟩ := h
  have hr' := hr
  rcases hr.2 with ⟨rfl, h0⟩ | ⟨g, cap, cur, rfl, hbg, hg, hnc, hcm, hcs, htake⟩
  · exact .inl ⟨rfl, List.eq_nil_of_length_eq_zero h0⟩
  · exact .inr ⟨⟨g, 0, none⟩, cap, flat, rfl, hf, hr'.cells (g := g) rfl⟩

theorem is_src {α : Type} [Rep α] {w : World} {B : Nat} {x : Value} {xs : List α} (hn : 0 < Rep.n α) (h : Rep.is w B xs [x]) (hB : B ≤ w.heap.size) : Src w x xs := by
  have h' := h
  obtain ⟨A, cap, hv, h1, h2, h3, h4, h5⟩ := h
  simp only [List.cons.injEq, and_true] at hv
  subst hv
  cases A with
  | none =>
    have hc := h4 rfl
    subst hc
    have hx : xs = [] := List.eq_nil_of_length_eq_zero (by omega)
    subst hx
    exact .inl ⟨rfl, rfl⟩
  | some a =>
    obtain ⟨flat, hf, hc⟩ := list_flat hn h'
    exact .inr ⟨a, cap, flat, rfl, hf.mono hB, hc⟩

theorem Src.below {α : Type} [Rep α] {w w' : World} {x : Value} {ys : List α} (h : Src w x ys) (hb : Below w.heap.size w w') : Src w' x ys := by
  rcases h with h | ⟨ad, c, news, hx, hf, hc⟩
  · exact .inl h
  · refine .inr ⟨ad, c, news, hx, (hf.below hb).mono hb.size, fun j u hu => ?_⟩
    have := hc j u hu
    rw [hb.cell (World.block_lt_of_cell? w _ this)]
    exact this

theorem wp_append_src {P : Program} {α : Type} [Rep α] [FlatRep α] {o : Oper} {a : Act} {w : World} {K : Act → World → Prop} {Q : Exit → Act → World → Prop}
    (s x : Operand) (t : TypeId) (ho : o.op = .call { callee := .builtin .append, args := #[s, x], argTypes := #[t, t] })
    (base : Nat) (e : TypeId) (bytes : Nat) (he : Elem P t e α bytes)
    (v u : Value) (xs ys : List α) (hs : a.eval s = v) (hx : a.eval x = u) (hown : Own w base e v xs) (hys : Src w u ys)
    (hbytes : (xs.length + ys.length) * bytes ≤ reach) (hbase : base ≤ w.heap.size)
    (h : ∀ v' w', Own w' base e v' (xs ++ ys) → w.grownBy w' v.ownBlock → (v'.ownBlock = v.ownBlock ∨ ∃ g, v'.ownBlock = some g ∧ w.heap.size ≤ g) → K (a.put o.dst v') w') : Oper.wp P o a w K Q := by
  obtain ⟨i, z, hi, hz, hsize, hby, hzs⟩ := he.inf
  rcases hys with ⟨rfl, rfl⟩ | ⟨ad, c, news, rfl, hf2, hc⟩
  · have hown' := hown
    obtain ⟨flat, hr, hf⟩ := hown
    have hrun := run_append_owned_none (P := P) (w := w) base t o.type e i (Rep.n α) he.ht hi v xs.length flat hr
    unfold Oper.wp execOp
    simp only [ho, resolve, invoke, builtin, Sem.run_bind, Sem.run_pure, Result.andThen_ok, List.map_toArray, List.map_cons, List.map_nil, hs, hx, hrun]
    exact h v w (by rw [List.append_nil]; exact hown') (grownBy_refl _ _) (.inl rfl)
  · obtain ⟨flat, hr, hf⟩ := hown
    obtain ⟨v', w', hrun, h2, h3, h4⟩ := run_append_rep (P := P) w base t o.type e i z bytes he.ht hi hz hsize hby hzs he.pos v xs ys flat hr ad c news hf hf2 hc hf2.one' hbytes he.posb hbase
      (fun w' _ => (hf.any).append hf2.any)
    have := h v' w' h2 h3 h4
    unfold Oper.wp execOp
    simp only [ho, resolve, invoke, builtin, Sem.run_bind, Sem.run_pure, Result.andThen_ok, List.map_toArray, List.map_cons, List.map_nil, hs, hx, hrun]
    exact this

theorem wpList_append_src {P : Program} {α : Type} [Rep α] [FlatRep α] {ops : Array Oper} {rest : List Oper} {o : Oper} {a : Act} {w : World} {Q : Exit → Act → World → Prop} (hgd : o.guard = none)
    (s x : Operand) (t : TypeId) (ho : o.op = .call { callee := .builtin .append, args := #[s, x], argTypes := #[t, t] })
    (base : Nat) (e : TypeId) (bytes : Nat) (he : Elem P t e α bytes)
    (v u : Value) (xs ys : List α) (hs : a.eval s = v) (hx : a.eval x = u) (hown : Own w base e v xs) (hys : Src w u ys)
    (hbytes : (xs.length + ys.length) * bytes ≤ reach) (hbase : base ≤ w.heap.size)
    (h : ∀ v' w', Own w' base e v' (xs ++ ys) → w.grownBy w' v.ownBlock → (v'.ownBlock = v.ownBlock ∨ ∃ g, v'.ownBlock = some g ∧ w.heap.size ≤ g) → wpList P ops Q rest (a.put o.dst v') w') : wpList P ops Q (o :: rest) a w :=
  wpList_plain hgd fun _ hK => wp_append_src s x t ho base e bytes he v u xs ys hs hx hown hys hbytes hbase fun v' w' h1 h2 h3 => hK _ _ (h v' w' h1 h2 h3)

theorem step_append_src {P : Program} {α : Type} [Rep α] [FlatRep α] {ops : Array Oper} {o : Oper} {a : Act} {w : World} {K : Act → World → Prop} {Q : Exit → Act → World → Prop} {E : Prop}
    (hgd : o.guard = none) (s x : Operand) (t : TypeId) (ho : o.op = .call { callee := .builtin .append, args := #[s, x], argTypes := #[t, t] })
    (base : Nat) (e : TypeId) (bytes : Nat) (he : Elem P t e α bytes)
    (v u : Value) (xs ys : List α) (hs : a.eval s = v) (hx : a.eval x = u) (hown : Own w base e v xs) (hys : Src w u ys)
    (hbytes : (xs.length + ys.length) * bytes ≤ reach) (hbase : base ≤ w.heap.size)
    (h : ∀ v' w', Own w' base e v' (xs ++ ys) → w.grownBy w' v.ownBlock → (v'.ownBlock = v.ownBlock ∨ ∃ g, v'.ownBlock = some g ∧ w.heap.size ≤ g) → K (a.put o.dst v') w') :
    if Region.wanted o (yielded ops a.tmps) = true then Oper.wp P o a w K Q else E := by
  have hw : Region.wanted o (yielded ops a.tmps) = true := by simp [Region.wanted, hgd]
  rw [if_pos hw]
  exact wp_append_src s x t ho base e bytes he v u xs ys hs hx hown hys hbytes hbase h

/-- a row of one element that was just made -/
theorem Own.made1 {α : Type} [Rep α] [FlatRep α] (w : World) (base : Nat) (e : TypeId) (x : α) (cs : List Value) {B : Nat} (hx : Rep.is w B x cs) {n : Nat} (hn : w.heap.size = n) (hb : base ≤ n) : Own (w.alloc (.cells cs.toArray e)) base e (.slice (some ⟨n, 0, none⟩) 1 1) [x] := by
  subst hn
  have hl := Rep.len hx
  refine ⟨cs, ⟨by rw [hl]; simp, .inr ⟨w.heap.size, 1, cs.toArray, rfl, hb, ?_, Nat.le_refl _, by unfold maxLen; omega, by simp [hl], by simp [← hl]⟩⟩, Flat.one (FlatRep.any hx)⟩
  show (w.heap.push _)[w.heap.size]? = _
  simp

end Go.Rp
