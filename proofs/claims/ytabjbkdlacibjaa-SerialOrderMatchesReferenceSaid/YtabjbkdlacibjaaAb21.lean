/- The abstract machine: names changed, rows cut short; the ends of functions that change what they are lent. -/
import Derived.Test.YtabjbkdlacibjaaAb20
namespace Go.Ab
open Go.RowKit

theorem mem_back : ∀ {l : List (Nat × Nat)} {k c : Nat}, back l c = some k → (k, c) ∈ l
  | (a, b) :: r, k, c, h => by
    simp only [back] at h
    split at h
    · rename_i e
      injection h with h; subst h; subst e
      exact .head _
    · exact .tail _ (mem_back h)
theorem tlook_mem : ∀ {l : List (Nat × V)} (i : Nat), tlook l i = .junk ∨ (i, tlook l i) ∈ l
  | [], _ => .inl rfl
  | (k, v) :: r, i => by
    simp only [tlook]
    by_cases e : i = k
    · rw [if_pos e, e]; exact .inr (.head _)
    · rw [if_neg e]; exact (tlook_mem i).imp (fun h => h) (fun h => .tail _ h)
theorem hlook_mem3 : ∀ {l : List (Nat × Option Blk)} (i : Nat), hlook l i = none ∨ (i, hlook l i) ∈ l
  | [], _ => .inl rfl
  | (k, v) :: r, i => by
    simp only [hlook]
    by_cases e : i = k
    · rw [if_pos e, e]; exact .inr (.head _)
    · rw [if_neg e]; exact (hlook_mem3 i).imp (fun h => h) (fun h => .tail _ h)

/-- own blocks under other names: ρ pairs the old names with the new -/
theorem Sub.names {nt : Nat} {l l' : List (Nat × V)} {h h' : List (Nat × Option Blk)} {rts : List Nat} (ρ : List (Nat × Nat)) (h1 : (ρ.map (·.1)).Nodup) (h2 : (ρ.map (·.2)).Nodup) (hr : ∀ r ∈ rts, back ρ r = some r)
    (hl : ∀ p ∈ l', (tlook l p.1).rnm ρ = some p.2) (hh : ∀ p ∈ h', ((back ρ p.1).bind fun i => (hlook h i).bind (Blk.rnm ρ)) = p.2) : Sub (mk nt rts l h) (mk nt rts l' h') := .of fun fx a w E m => by
  have hloc : ∀ i k, (i, k) ∈ ρ → (⟨fun k => match back ρ k with | some i => E.loc i | none => E.loc k, E.Z⟩ : Env).loc k = E.loc i := fun i k hp => by
    show (match back ρ k with | some i => E.loc i | none => E.loc k) = _
    rw [back_mem h2 hp]
  generalize hE : (⟨fun k => match back ρ k with | some i => E.loc i | none => E.loc k, E.Z⟩ : Env) = E' at hloc
  have hZ : E'.Z = E.Z := by rw [← hE]
  have hlk : ∀ i k, lk2 ρ i = some k → E'.loc k = E.loc i := fun i k h => hloc i k (lk2_mem h)
  have hz : ∀ b, E.Z b → E'.Z b := fun b h => by rw [hZ]; exact h
  have get : ∀ k, hlook h' k ≠ none → ∃ i b b', (i, k) ∈ ρ ∧ hlook h i = some b ∧ b.rnm ρ = some b' ∧ hlook h' k = some b' := fun k hk => by
    rcases hlook_mem3 (l := h') k with e | e
    · exact absurd e hk
    · have := hh _ e
      cases hb : back ρ k with
      | none => rw [hb] at this; exact absurd this.symm hk
      | some i =>
        rw [hb] at this
        have this : (hlook h i).bind (Blk.rnm ρ) = hlook h' k := this
        cases hi : hlook h i with
        | none => rw [hi] at this; exact absurd this.symm hk
        | some b =>
          rw [hi] at this
          have this : b.rnm ρ = hlook h' k := this
          cases hb' : b.rnm ρ with
          | none => rw [hb'] at this; exact absurd this.symm hk
          | some b' => exact ⟨i, b, b', mem_back hb, hi, hb', by rw [← this, hb']⟩
  refine ⟨E', m.nt, fun t => ?_, m.dfr, ⟨fun k b hk => ?_, fun k k' hk hk' n n' hne => ?_, fun k hk n => ?_, fun b h => m.ok.zlt b (by rw [hZ] at h; exact h)⟩, m.frame, fun k hk n => ?_, fun b h => m.z b (by rw [hZ] at h; exact h), fun r hr' => ?_⟩
  · show RV E' w (tlook l' t) _
    rcases tlook_mem (l := l') t with e | e
    · rw [e]; trivial
    · exact RV.rnm hlk hz _ _ _ (hl _ e) (m.slots t)
  · have hk : hlook h' k = some b := hk
    obtain ⟨i, b0, b', g1, g2, g3, g4⟩ := get k (by rw [hk]; simp)
    rw [g4] at hk; injection hk with hk; subst hk
    exact Hold.rnm hlk hz (hloc i k g1) g3 (m.ok.hold i b0 g2)
  · obtain ⟨i, b0, _, g1, g2, _, _⟩ := get k hk
    obtain ⟨j, b1, _, q1, q2, _, _⟩ := get k' hk'
    rw [hloc i k g1] at n ⊢; rw [hloc j k' q1] at n' ⊢
    refine m.ok.inj i j ?_ ?_ n n' fun e => hne ?_
    · show hlook h i ≠ none
      rw [g2]; simp
    · show hlook h j ≠ none
      rw [q2]; simp
    · subst e; exact nodup_fst h1 g1 q1
  · obtain ⟨i, b0, _, g1, g2, _, _⟩ := get k hk
    rw [hloc i k g1] at n ⊢
    rw [hZ]
    refine m.ok.apart i ?_ n
    show hlook h i ≠ none
    rw [g2]; simp
  · obtain ⟨i, b0, _, g1, g2, _, _⟩ := get k hk
    rw [hloc i k g1] at n ⊢
    refine m.mine i ?_ n
    show hlook h i ≠ none
    rw [g2]; simp
  · obtain ⟨q1, q2⟩ := m.roots r hr'
    refine ⟨q1, ?_⟩
    rw [hloc _ _ (mem_back (hr r.1 q1))]; exact q2

/-- an own row, what lies behind k forgotten -/
theorem Sub.cut {nt : Nat} {rts : List Nat} {l : List (Nat × V)} {h : List (Nat × Option Blk)} (id k : Nat) {T n : Nat} {es : List (List D)} (hes : hlook h id = some (.arr T n es)) : Sub (mk nt rts l h) (mk nt rts l (hupd h id (some (.arr T n (es.take k))))) := .of fun fx a w E m => by
  refine ⟨E, m.nt, m.slots, m.dfr, ⟨fun i b hi => ?_, fun i j hi hj => m.ok.inj i j ?_ ?_, fun i hi => m.ok.apart i ?_, m.ok.zlt⟩, m.frame, fun i hi => m.mine i ?_, m.z, m.roots⟩
  · have hi : hlook (hupd h id (some (.arr T n (es.take k)))) i = some b := hi
    rw [hlook_hupd] at hi
    by_cases e : i = id
    · rw [if_pos e] at hi
      injection hi with hi; subst hi; subst e
      obtain ⟨g1, g2, g3, g4, g5⟩ := m.ok.hold i _ hes
      refine ⟨g1, g2, fun e he => g3 e (List.mem_of_mem_take he), g4, ?_⟩
      rcases g5 with ⟨g6, g7⟩ | ⟨hn, c, flat, k1, k2, k3, k4, k5, k6⟩
      · exact .inl ⟨g6, by rw [g7]; simp⟩
      · refine .inr ⟨hn, c, flat.take (k * n), k1, by rw [List.length_take]; omega, k3, k4, RDe_take k k5 g3, ?_⟩
        rw [List.length_take, ← k6, List.take_take]
        congr 1
        rcases Nat.le_total k es.length with h | h
        · rw [Nat.min_eq_left h, Nat.min_eq_left (Nat.mul_le_mul_right n h)]
        · rw [Nat.min_eq_right h, Nat.min_eq_right (Nat.mul_le_mul_right n h)]
    · rw [if_neg e] at hi
      exact m.ok.hold i b hi
  all_goals
    have other : ∀ i, hlook (hupd h id (some (.arr T n (es.take k)))) i ≠ none → hlook h i ≠ none := fun i hi => by
      rw [hlook_hupd] at hi
      by_cases e : i = id
      · rw [e, hes]; simp
      · rw [if_neg e] at hi; exact hi
  · exact other i hi
  · exact other j hj
  · exact other i hi
  · exact other i hi

/-- the end of a function that changes what it is lent -/
def FinM (P : Program) (fn : Func) (Q : V → Heap → Prop) (e : Exit) (S : St) : Prop :=
  (e = .normal ∨ e = .ret) ∧ ∃ r, outV (tyOf P) fn.results.toList S = some r ∧ Q r S.hp
theorem FinM.ret {P : Program} {fn : Func} {S : St} {Q : V → Heap → Prop} (h : ∀ K : V → Prop, (∀ r, Q r S.hp → K r) → Ab.outK K (outV (tyOf P) fn.results.toList S)) : FinM P fn Q .ret S := by
  have h := h _ (fun _ h => h)
  unfold Ab.outK at h
  split at h
  · rename_i r hr; exact ⟨.inr rfl, r, hr, h⟩
  · exact h.elim
theorem FinM.normal {P : Program} {fn : Func} {S : St} {Q : V → Heap → Prop} (h : FinM P fn Q .ret S) : FinM P fn Q .normal S := ⟨.inl rfl, h.2⟩
theorem Ctr.fin {P : Program} {f : FuncId} {fn : Func} {c : Code} {args : List V} {h0 : List (Nat × Option Blk)} {rts : List Nat} {Q : V → Heap → Prop} (hf : P.funcs[f]? = some fn) (hb : fn.body = some c) (hle : args.length ≤ fn.ntmps)
    (h : AW P c (mk fn.ntmps rts (enterL args 0) h0) (FinM P fn Q)) : Ctr P f args (hlook h0) rts Q := Ctr.of hf hb hle h

attribute [simp] V.rnm rnmL Blk.rnm lk2 back St.drops St.moves St.sets St.after
end Go.Ab
