/- The abstract machine: the rule for calls that change their caller's blocks. -/
import Derived.Test.YtabjbkdlacibjaaAb19
namespace Go.Ab
open Go.RowKit

theorem nodup_fst {α β : Type} {l : List (α × β)} (h : (l.map (·.1)).Nodup) {a : α} {b c : β} (h1 : (a, b) ∈ l) (h2 : (a, c) ∈ l) : b = c := by
  induction l with
  | nil => cases h1
  | cons p r ih =>
    rw [List.map_cons, List.nodup_cons] at h
    rcases List.mem_cons.1 h1 with e1 | h1
    · rcases List.mem_cons.1 h2 with e2 | h2
      · rw [← e2] at e1; injection e1
      · exact absurd (List.mem_map.2 ⟨_, h2, by rw [← e1]⟩) h.1
    · rcases List.mem_cons.1 h2 with e2 | h2
      · exact absurd (List.mem_map.2 ⟨_, h1, by rw [← e2]⟩) h.1
      · exact ih h.2 h1 h2
theorem nodup_snd {α β : Type} {l : List (α × β)} (h : (l.map (·.2)).Nodup) {a b : α} {c : β} (h1 : (a, c) ∈ l) (h2 : (b, c) ∈ l) : a = b := by
  induction l with
  | nil => cases h1
  | cons p r ih =>
    rw [List.map_cons, List.nodup_cons] at h
    rcases List.mem_cons.1 h1 with e1 | h1
    · rcases List.mem_cons.1 h2 with e2 | h2
      · rw [← e2] at e1; injection e1
      · exact absurd (List.mem_map.2 ⟨_, h2, by rw [← e1]⟩) h.1
    · rcases List.mem_cons.1 h2 with e2 | h2
      · exact absurd (List.mem_map.2 ⟨_, h1, by rw [← e2]⟩) h.1
      · exact ih h.2 h1 h2

def back : List (Nat × Nat) → Nat → Option Nat
  | [], _ => none
  | (a, b) :: r, i => if i = b then some a else back r i
theorem back_mem : ∀ {l : List (Nat × Nat)} {k c : Nat}, (l.map (·.2)).Nodup → (k, c) ∈ l → back l c = some k
  | (a, b) :: r, k, c, hn, h => by
    rw [List.map_cons, List.nodup_cons] at hn
    simp only [back]
    rcases List.mem_cons.1 h with e | h
    · injection e with e1 e2; subst e1; subst e2; rw [if_pos rfl]
    · rw [if_neg (fun e => hn.1 (by rw [← show c = b from e]; exact List.mem_map.2 ⟨_, h, rfl⟩))]
      exact back_mem hn.2 h

/-- the callee's names: what each stands for -/
def Env.lend (E : Env) (lent : List (Nat × Nat)) : Env := ⟨fun c => match back lent c with | some k => E.loc k | none => default, E.Z⟩

/-- what the caller must show of a call's end: pl pairs the callee's names with its own, bl are the blocks it keeps -/
structure Back (S : St) (lent : List (Nat × Nat)) (rts rt : List Nat) (r : V) (H1 : Heap) (pl : List (Nat × Nat)) (bl : List (Nat × Blk)) (r' : V) : Prop where
  cs : (pl.map (·.1)).Nodup
  ks : (pl.map (·.2)).Nodup
  here : ∀ p ∈ pl, H1 p.1 ≠ none
  root : ∀ p ∈ pl, (rt.contains p.2 = true ∧ (p.2, p.1) ∈ lent ∧ p.1 ∈ rts) ∨ (rt.contains p.2 = false ∧ p.2 ∉ S.rts)
  blks : ∀ q ∈ bl, ∃ c b, (c, q.1) ∈ pl ∧ H1 c = some b ∧ b.rnm pl = some q.2
  res : r.rnm pl = some r'

def St.after (S : St) (lent : List (Nat × Nat)) (rt : List Nat) (pl : List (Nat × Nat)) (bl : List (Nat × Blk)) (d : Option Nat) (r' : V) : St :=
  (St.sets bl (St.moves rt pl (St.drops lent S))).put d r'

theorem lend_ok {S : St} {E : Env} {w : World} {lent : List (Nat × Nat)} {H0 : Heap} (ok : E.ok S.hp w) (hks : (lent.map (·.1)).Nodup) (hcs : (lent.map (·.2)).Nodup)
    (hlent : ∀ p ∈ lent, ∃ b b', S.hp p.1 = some b ∧ b.rnm lent = some b' ∧ H0 p.2 = some b') (honly : ∀ i, H0 i ≠ none → ∃ p ∈ lent, p.2 = i) :
    (∀ p ∈ lent, (E.lend lent).loc p.2 = E.loc p.1) ∧ (E.lend lent).ok H0 w ∧ (∀ b, lof (E.lend lent) H0 b → ∃ k, S.hp k ≠ none ∧ (∃ c, (k, c) ∈ lent) ∧ (E.loc k).nil = false ∧ (E.loc k).b = b) := by
  have hloc : ∀ p ∈ lent, (E.lend lent).loc p.2 = E.loc p.1 := fun p hp => by
    show (match back lent p.2 with | some k => E.loc k | none => default) = _
    rw [back_mem hcs (k := p.1) (c := p.2) hp]
  refine ⟨hloc, ⟨fun c b' h => ?_, fun i j hi hj ni nj hij => ?_, fun i hi ni => ?_, ok.zlt⟩, ?_⟩
  · obtain ⟨⟨k, c'⟩, hp, rfl⟩ := honly c (by rw [h]; simp)
    obtain ⟨b, b2, h1, h2, h3⟩ := hlent _ hp
    rw [h] at h3; injection h3 with h3; subst h3
    refine Hold.rnm (E := E) (E' := E.lend lent) (ρ := lent) (fun i k hik => ?_) (fun _ h => h) (hloc _ hp) h2 (ok.hold _ _ h1)
    exact hloc (i, k) (lk2_mem hik)
  · obtain ⟨p, hp, rfl⟩ := honly i hi
    obtain ⟨q, hq, rfl⟩ := honly j hj
    obtain ⟨b1, _, h1, _, _⟩ := hlent _ hp
    obtain ⟨b2, _, h2, _, _⟩ := hlent _ hq
    rw [hloc _ hp] at ni ⊢; rw [hloc _ hq] at nj ⊢
    refine ok.inj p.1 q.1 (by rw [h1]; simp) (by rw [h2]; simp) ni nj fun e => hij ?_
    have hq' : (p.1, q.2) ∈ lent := by rw [e]; exact hq
    exact nodup_fst hks (a := p.1) hp hq'
  · obtain ⟨p, hp, rfl⟩ := honly i hi
    obtain ⟨b1, _, h1, _, _⟩ := hlent _ hp
    rw [hloc _ hp] at ni ⊢
    exact ok.apart p.1 (by rw [h1]; simp) ni
  · rintro b ⟨i, hi, ni, rfl⟩
    obtain ⟨p, hp, rfl⟩ := honly i hi
    obtain ⟨b1, _, h1, _, _⟩ := hlent _ hp
    rw [hloc _ hp] at ni ⊢
    exact ⟨p.1, by rw [h1]; simp, ⟨p.2, hp⟩, ni, rfl⟩

theorem Mod.after {fx : Fx} {S : St} {E : Env} {a : Act} {w w' : World} (m : Mod fx S E a w) {lent : List (Nat × Nat)} {H0 : Heap} {rts rt : List Nat} (hks : (lent.map (·.1)).Nodup) (hcs : (lent.map (·.2)).Nodup)
    (hlent : ∀ p ∈ lent, ∃ b b', S.hp p.1 = some b ∧ b.rnm lent = some b' ∧ H0 p.2 = some b') (honly : ∀ i, H0 i ≠ none → ∃ p ∈ lent, p.2 = i)
    {E' : Env} {r : V} {H1 : Heap} {v : Value} (hr : RV E' w' r v) (hp : Post (fxOf w (E.lend lent) H0 rts) E' H1 w')
    {pl : List (Nat × Nat)} {bl : List (Nat × Blk)} {r' : V} (hb : Back S lent rts rt r H1 pl bl r') (d : Option Nat) : Models fx (S.after lent rt pl bl d r') (a.put d v) w' := by
  obtain ⟨hloc, hok, hL⟩ := lend_ok m.ok hks hcs hlent honly
  have f := hp.frame
  have hLf : ∀ b, lof (E.lend lent) H0 b → fx.w0.heap.size ≤ b ∨ fx.L b := fun b h => by
    obtain ⟨k, h1, _, h2, rfl⟩ := hL b h
    exact m.mine k h1 h2
  have hLz : ∀ b, E.Z b → ¬ lof (E.lend lent) H0 b := fun b hz h => by
    obtain ⟨k, h1, _, h2, rfl⟩ := hL b h
    exact m.ok.apart k h1 h2 hz
  have hap : ∀ i, (St.drops lent S).hp i ≠ none → (E.loc i).nil = false → ¬ lof (E.lend lent) H0 (E.loc i).b := fun i hi hn h => by
    obtain ⟨h1, h2⟩ := drops_hp lent i hi
    obtain ⟨k, g1, ⟨c, g2⟩, g3, g4⟩ := hL _ h
    exact m.ok.inj k i g1 h1 g3 hn (h2 _ g2) g4
  have hlt : ∀ i, S.hp i ≠ none → (E.loc i).nil = false → (E.loc i).b < w.heap.size := fun i hi hn => by
    cases hk : S.hp i with
    | none => exact absurd hk hi
    | some k => exact (m.ok.hold i k hk).block_lt hn
  have m2 := (Mod.drops lent m).move (lof (E.lend lent) H0) f.os f.tape f.output f.size f.block hLf hap hLz
  have m3 := m2.moreZ (Zn := E'.Z) (fun b h => by
    refine ⟨hp.ok.zlt b h, fun i hi hn e => ?_, ?_⟩
    · subst e
      rcases hp.z _ h with g | g | g
      · exact m.ok.apart i (drops_hp lent i hi).1 hn g
      · have := hlt i (drops_hp lent i hi).1 hn
        have g : w.heap.size ≤ (E.loc i).b := g
        omega
      · exact hap i hi hn g
    · rcases hp.z _ h with g | g | g
      · exact m.z b g
      · exact .inr (.inl (Nat.le_trans m.frame.size g))
      · exact .inr (hLf b g))
  obtain ⟨E2, m4, g1, g2, g3, g4, g5⟩ := Mod.moves rt E'.loc pl m3 (fun p h => by
    rcases hb.root p h with ⟨q1, q2, q3⟩ | ⟨q1, q2⟩
    · refine .inl ⟨q1, ?_, ?_⟩
      · have e1 := hp.roots (p.1, (E.lend lent).loc p.1) (List.mem_map.2 ⟨p.1, q3, rfl⟩)
        have e1 : E'.loc p.1 = (E.lend lent).loc p.1 := e1
        rw [e1, hloc _ q2]
      · cases hk : (St.drops lent S).hp p.2 with
        | none => rfl
        | some b => exact absurd rfl ((drops_hp lent p.2 (by rw [hk]; simp)).2 _ q2)
    · exact .inr ⟨q1, by rw [drops_rts]; exact q2⟩) hb.ks
  have hZ2 : ∀ b, E'.Z b → E2.Z b := fun b h => by rw [g1]; exact .inr h
  have hl2 : ∀ i k, lk2 pl i = some k → E2.loc k = E'.loc i := fun i k h => g2 (i, k) (lk2_mem h)
  have m5 := Mod.lays (fun i => ∃ p ∈ pl, p.2 = i) bl m4 (fun q hq => by
      obtain ⟨c, b, h1, h2, h3⟩ := hb.blks q hq
      exact ⟨⟨_, h1, rfl⟩, Hold.rnm hl2 hZ2 (g2 _ h1) h3 (hp.ok.hold c b h2)⟩)
    (fun i ⟨p, h1, h2⟩ hn => by
      subst h2
      rw [g2 p h1] at hn ⊢
      have hH := hb.here p h1
      refine ⟨fun hz => ?_, ?_⟩
      · rw [g1] at hz
        rcases hz with hz | hz
        · rcases hp.mine _ hH hn with g | g
          · have := m.ok.zlt _ hz
            have g : w.heap.size ≤ (E'.loc p.1).b := g
            omega
          · exact hLz _ hz g
        · exact hp.ok.apart _ hH hn hz
      · rcases hp.mine _ hH hn with g | g
        · exact .inl (Nat.le_trans m.frame.size g)
        · exact hLf _ g)
    (fun i j ⟨p, h1, h2⟩ hj ni nj hij => by
      subst h2
      rw [g2 p h1] at ni ⊢
      have hH := hb.here p h1
      have other : (∃ q ∈ pl, q.2 = j) → (E'.loc p.1).b ≠ (E2.loc j).b := by
        rintro ⟨q, h3, rfl⟩
        rw [g2 q h3] at nj ⊢
        refine hp.ok.inj p.1 q.1 hH (hb.here q h3) ni nj fun e => hij ?_
        exact nodup_fst hb.cs (a := p.1) (b := p.2) (c := q.2) h1 (by rw [e]; exact h3)
      rcases hj with hj | hj
      · exact other hj
      · by_cases hin : ∃ q ∈ pl, q.2 = j
        · exact other hin
        · have e : E2.loc j = E.loc j := g3 j (fun q hq e => hin ⟨q, hq, e⟩)
          rw [e] at nj ⊢
          have hd := g4 j hj
          rcases hp.mine _ hH ni with g | g
          · have := hlt j (drops_hp lent j hd).1 nj
            have g : w.heap.size ≤ (E'.loc p.1).b := g
            omega
          · intro e
            exact hap j hd nj (by rw [← e]; exact g))
  exact ⟨E2, m5.put d (RV.rnm hl2 hZ2 r r' v hb.res hr)⟩

theorem hlook_mem2 : ∀ {l : List (Nat × Option Blk)} (i : Nat), hlook l i ≠ none → ∃ q ∈ l, q.1 = i
  | [], _, h => absurd rfl h
  | (k, b) :: r, i, h => by
    simp only [hlook] at h
    by_cases e : i = k
    · exact ⟨(k, b), .head _, e.symm⟩
    · rw [if_neg e] at h
      obtain ⟨q, h1, h2⟩ := hlook_mem2 i h
      exact ⟨q, .tail _ h1, h2⟩

/-- A CALL THAT CHANGES what it is lent: lent pairs the caller's names with the callee's; what else goes in is closed -/
theorem Chain.callM {P : Program} {ops : Array Oper} {o : Oper} {l : List Oper} {S : St} {Q' : St → Prop} {c : Call} {f : FuncId} {caps args : List V} {rts : List Nat} {h0 : List (Nat × Option Blk)} {Q : V → Heap → Prop} (lent : List (Nat × Nat)) (rt : List Nat)
    (hw : wantedV ops S o = some true) (ho : o.op = .call c)
    (hcal : calleeV S c = some (f, caps)) (hargs : rnmL lent (c.args.toList.map S.ev ++ caps) = some args) (hks : (lent.map (·.1)).Nodup) (hcs : (lent.map (·.2)).Nodup)
    (hlent : ∀ p ∈ lent, ∃ b b', S.hp p.1 = some b ∧ b.rnm lent = some b' ∧ hlook h0 p.2 = some b') (honly : ∀ q ∈ h0, ∃ p ∈ lent, p.2 = q.1)
    (hent : Rp.Enters P f) (hF : Ctr P f args (hlook h0) rts Q)
    (hrest : ∀ r H1, Q r H1 → ∃ pl bl r', Back S lent rts rt r H1 pl bl r' ∧ Chain false P ops l (S.after lent rt pl bl o.dst r') Q') : Chain false P ops (o :: l) S Q' := by
  have honly' : ∀ i, hlook h0 i ≠ none → ∃ p ∈ lent, p.2 = i := by
    intro i hi
    obtain ⟨q, hq, e⟩ := hlook_mem2 i hi
    obtain ⟨p, hp, e2⟩ := honly q hq
    exact ⟨p, hp, e2.trans e⟩
  intro fx a w Q'' ⟨E, m⟩ hq
  have hw' := wantedV_sound m hw
  unfold wpList
  rw [if_pos hw']
  refine .inl ?_
  obtain ⟨cv, hcv, hrun⟩ := calleeV_sound m.ev hcal hent ho
  unfold Oper.wp
  rw [hrun w]
  have hall := RVs_append (RVs_map m.ev c.args.toList) hcv
  obtain ⟨hloc, hok, hL⟩ := lend_ok m.ok hks hcs hlent honly'
  have hvs := RVs.rnm (E' := E.lend lent) (fun i k h => hloc (i, k) (lk2_mem h)) (fun _ h => h) _ _ _ hargs hall
  refine (hF w (E.lend lent) _ hok hvs).mono ?_
  rintro e w' ⟨v, E', r, H1, rfl, hQ, hr, hp⟩
  obtain ⟨pl, bl, r', hb, hc⟩ := hrest r H1 hQ
  have := Mod.after m hks hcs hlent honly' hr hp hb o.dst
  exact hc fx _ w' Q'' this hq
end Go.Ab
