/- The abstract machine: own blocks that come and turn. -/
import Derived.Test.YtabjbkdlacibjaaAb7
namespace Go.Ab
open Go.RowKit

mutual
def V.has (id : Nat) : V → Bool
  | .ref i _ _ => i == id
  | .ptr i _ _ => i == id
  | .mref i => i == id
  | .agg cs => hasL id cs
  | .tup cs => hasL id cs
  | .fn _ cs => hasL id cs
  | .d _ | .dx _ | .junk | .hole => false
def hasL (id : Nat) : List V → Bool
  | [] => false
  | c :: cs => c.has id || hasL id cs
end

def killC (id : Nat) : List V → List V
  | [] => []
  | c :: cs => (if c.has id then .hole else c) :: killC id cs
def Blk.killed (id : Nat) : Blk → Blk
  | .box cs => .box (killC id cs)
  | b => b
def St.kill (S : St) (id : Nat) : St :=
  { S with
    sl := fun t => if (S.sl t).has id then .junk else S.sl t
    hp := fun i => if i = id then none else (S.hp i).map (Blk.killed id) }
def St.setH (S : St) (id : Nat) (k : Option Blk) : St := { S with hp := fun i => if i = id then k else S.hp i }
def Env.at (E : Env) (id : Nat) (ℓ : Loc) : Env := { E with loc := fun i => if i = id then ℓ else E.loc i }

mutual
theorem RV.upd {E : Env} {w : World} {id : Nat} {ℓ : Loc} : ∀ (c : V) (x : Value), c.has id = false → RV E w c x → RV (E.at id ℓ) w c x
  | .d x, v, _, h => h
  | .ref i off len, v, hh, h => by
    have : i ≠ id := by simpa [V.has] using hh
    unfold RV at h ⊢
    simp only [Env.at, if_neg this]
    exact h
  | .ptr i k off, v, hh, h => by
    have : i ≠ id := by simpa [V.has] using hh
    unfold RV at h ⊢
    simp only [Env.at, if_neg this]
    exact h
  | .mref i, v, hh, h => by
    have : i ≠ id := by simpa [V.has] using hh
    unfold RV at h ⊢
    simp only [Env.at, if_neg this]
    exact h
  | .agg cs, v, hh, ⟨vs, h1, h2, h3⟩ => ⟨vs, h1, h2, RVs.upd cs vs hh h3⟩
  | .tup cs, v, hh, ⟨vs, h1, h2⟩ => ⟨vs, h1, RVs.upd cs vs hh h2⟩
  | .fn f cs, v, hh, ⟨vs, h1, h2⟩ => ⟨vs, h1, RVs.upd cs vs hh h2⟩
  | .dx es, v, _, h => h
  | .hole, _, _, h => h
  | .junk, _, _, _ => trivial
theorem RVs.upd {E : Env} {w : World} {id : Nat} {ℓ : Loc} : ∀ (cs : List V) (vs : List Value), hasL id cs = false → RVs E w cs vs → RVs (E.at id ℓ) w cs vs
  | [], vs, _, h => h
  | c :: cs, vs, hh, ⟨v, r, h1, h2, h3⟩ => by
    simp only [hasL, Bool.or_eq_false_iff] at hh
    exact ⟨v, r, h1, RV.upd c v hh.1 h2, RVs.upd cs r hh.2 h3⟩
end

mutual
theorem closed_has {id : Nat} : ∀ (c : V), c.closed = true → c.has id = false
  | .d _, _ => rfl
  | .dx _, _ => rfl
  | .ref .., h => by cases h
  | .ptr .., h => by cases h
  | .mref _, h => by cases h
  | .junk, h => by cases h
  | .hole, h => by cases h
  | .agg cs, h => closedL_has cs h
  | .tup cs, h => closedL_has cs h
  | .fn _ cs, h => closedL_has cs h
theorem closedL_has {id : Nat} : ∀ (cs : List V), closedL cs = true → hasL id cs = false
  | [], _ => rfl
  | c :: cs, h => by
    simp only [closedL, Bool.and_eq_true] at h
    simp only [hasL, closed_has c h.1, closedL_has cs h.2, Bool.or_self]
end
theorem REs.upd {E : Env} {w : World} {id : Nat} {ℓ : Loc} : ∀ (l : List (MKey × V)) (es : List MapEntry), REs E w l es → REs (E.at id ℓ) w l es
  | [], es, h => h
  | (k, v) :: l, es, ⟨e, r, h1, h2, h3, h4, h5⟩ => ⟨e, r, h1, h2, RV.upd v _ (closed_has v h4) h3, h4, REs.upd l r h5⟩

theorem killC_cell {id : Nat} : ∀ {cs : List V}, (∀ c ∈ cs, c.cell = true) → ∀ c ∈ killC id cs, c.cell = true
  | [], _, c, hc => by cases hc
  | x :: cs, h, c, hc => by
    rcases List.mem_cons.1 hc with rfl | hc
    · split
      · rfl
      · exact h x (.head _)
    · exact killC_cell (fun c h' => h c (.tail _ h')) c hc
theorem RVs.killC {E : Env} {w : World} {id : Nat} {ℓ : Loc} : ∀ {cs : List V} {vs : List Value}, (∀ c ∈ cs, c.cell = true) → RVs E w cs vs → RVs (E.at id ℓ) w (killC id cs) vs
  | [], vs, _, h => h
  | c :: cs, vs, hc, ⟨v, r, h1, h2, h3⟩ => by
    refine ⟨v, r, h1, ?_, RVs.killC (fun c h' => hc c (.tail _ h')) h3⟩
    split
    · exact RV_cell h2 (hc c (.head _))
    · rename_i hh
      exact RV.upd c v (by simpa using hh) h2
theorem Hold.upd {E : Env} {w : World} {i id : Nat} {ℓ : Loc} {k : Blk} (hi : i ≠ id) (h : Hold E w i k) : Hold (E.at id ℓ) w i (k.killed id) := by
  cases k with
  | arr T n es =>
    show Hold (E.at id ℓ) w i (.arr T n es)
    unfold Hold at h ⊢
    simp only [Env.at, if_neg hi]
    exact h
  | box cs =>
    obtain ⟨h1, h2, vs, h3, h4⟩ := h
    show Hold (E.at id ℓ) w i (.box (Ab.killC id cs))
    unfold Hold
    simp only [Env.at, if_neg hi]
    exact ⟨h1, killC_cell h2, vs, RVs.killC h2 h3, h4⟩
  | mp kd l =>
    obtain ⟨h1, h2, es, clock, h3, h4, h5⟩ := h
    show Hold (E.at id ℓ) w i (.mp kd l)
    unfold Hold
    simp only [Env.at, if_neg hi]
    exact ⟨h1, h2, es, clock, h3, h4, REs.upd l _ h5⟩

theorem kill_hp {S : St} {id i : Nat} {k : Blk} (h : (S.kill id).hp i = some k) : i ≠ id ∧ ∃ k0, S.hp i = some k0 ∧ k = k0.killed id := by
  simp only [St.kill] at h
  split at h
  · cases h
  · rename_i hi
    refine ⟨hi, ?_⟩
    cases hk : S.hp i with
    | none => rw [hk] at h; cases h
    | some k0 =>
      rw [hk] at h
      injection h with h
      exact ⟨k0, rfl, h.symm⟩

theorem Keeps.grown {E : Env} {H : Heap} {w w' : World} {row : Option Nat} (ok : E.ok H w) (hg : w.grownBy w' row) (hr : ∀ b, row = some b → ¬ E.Z b) : Keeps E.Z w w' := fun b hb =>
  hg.block b (ok.zlt b hb) (fun e => hr b e.symm hb)

/-- a block is made anew, or moved, under the name id -/
theorem Mod.re' {fx : Fx} {S : St} {E : Env} {a : Act} {w w' : World} (m : Mod fx S E a w) {id : Nat} (hid : id ∉ S.rts) {row : Option Nat} (hg : w.grownBy w' row)
    (hrow : ∀ b, row = some b → S.hp id ≠ none ∧ (E.loc id).nil = false ∧ (E.loc id).b = b) (ℓ : Loc) {blk : Blk} (hold : Hold (E.at id ℓ) w' id blk)
    (hnew : ℓ.nil = false → some ℓ.b = row ∨ (fx.w0.heap.size ≤ ℓ.b ∧ ¬ E.Z ℓ.b ∧ ∀ i, S.hp i ≠ none → (E.loc i).nil = false → (E.loc i).b ≠ ℓ.b)) : Mod fx ((S.kill id).setH id (some blk)) (E.at id ℓ) a w' := by
  have hz : ∀ b, row = some b → ¬ E.Z b := fun b hb => by
    obtain ⟨h1, h2, h3⟩ := hrow b hb
    rw [← h3]; exact m.ok.apart id h1 h2
  have hk := Keeps.grown m.ok hg hz
  have hloc : ∀ i, i ≠ id → (E.at id ℓ).loc i = E.loc i := fun i hi => by simp [Env.at, hi]
  have hloc0 : (E.at id ℓ).loc id = ℓ := by simp [Env.at]
  -- an older block is not the row
  have old : ∀ i k, (S.kill id).hp i = some k → S.hp i ≠ none ∧ i ≠ id ∧ ((E.loc i).nil = false → (E.loc i).b < w.heap.size ∧ some (E.loc i).b ≠ row) := fun i k h => by
    obtain ⟨h1, k0, h2, _⟩ := kill_hp h
    refine ⟨by rw [h2]; simp, h1, fun hn => ⟨(m.ok.hold i k0 h2).block_lt hn, fun e => ?_⟩⟩
    obtain ⟨g1, g2, g3⟩ := hrow _ e.symm
    exact m.ok.inj i id (by rw [h2]; simp) g1 hn g2 h1 g3.symm
  have hH : ∀ i, ((S.kill id).setH id (some blk)).hp i = if i = id then some blk else (S.kill id).hp i := fun i => rfl
  have get : ∀ i, ((S.kill id).setH id (some blk)).hp i ≠ none → i = id ∨ ∃ k, i ≠ id ∧ (S.kill id).hp i = some k := fun i h => by
    rw [hH] at h
    by_cases hi : i = id
    · exact .inl hi
    · rw [if_neg hi] at h
      cases hk : (S.kill id).hp i with
      | none => exact absurd hk h
      | some k => exact .inr ⟨k, hi, rfl⟩
  refine ⟨m.nt, fun t => ?_, m.dfr, ⟨?_, ?_, ?_, ?_⟩, ?_, ?_, ?_, ?_⟩
  · show RV _ _ (if (S.sl t).has id then .junk else S.sl t) _
    split
    · trivial
    · rename_i hh
      have := RV.upd (ℓ := ℓ) _ _ (by simpa using hh) (m.slots t)
      exact RV.keep (E := E.at id ℓ) hk (fun _ h => h) rfl _ _ this
  · intro i k h
    rw [hH] at h
    by_cases hi : i = id
    · subst hi
      rw [if_pos rfl] at h
      injection h with h; subst h
      exact hold
    · rw [if_neg hi] at h
      obtain ⟨h1, k0, h2, h3⟩ := kill_hp h
      obtain ⟨g1, g2, g3⟩ := old i k h
      subst h3
      have := (m.ok.hold i k0 h2).upd (ℓ := ℓ) h1
      refine this.keep (E' := E.at id ℓ) hk (fun _ h => h) rfl (fun hn => ?_) hg.size
      rw [hloc i hi] at hn ⊢
      exact hg.block _ (g3 hn).1 (g3 hn).2
  · intro i j hi hj hni hnj hij
    rcases get i hi with rfl | ⟨ki, hi1, hi2⟩
    · rcases get j hj with rfl | ⟨kj, hj1, hj2⟩
      · exact absurd rfl hij
      · rw [hloc0] at hni ⊢; rw [hloc j hj1] at hnj ⊢
        obtain ⟨gg, _, g⟩ := old j kj hj2
        have g := g hnj
        rcases hnew hni with e | e
        · intro h; exact g.2 (by rw [← h]; exact e)
        · exact fun h => e.2.2 j gg hnj h.symm
    · rcases get j hj with rfl | ⟨kj, hj1, hj2⟩
      · rw [hloc0] at hnj ⊢; rw [hloc i hi1] at hni ⊢
        obtain ⟨gg, _, g⟩ := old i ki hi2
        have g := g hni
        rcases hnew hnj with e | e
        · intro h; exact g.2 (by rw [h]; exact e)
        · exact e.2.2 i gg hni
      · rw [hloc i hi1] at hni ⊢; rw [hloc j hj1] at hnj ⊢
        exact m.ok.inj i j (old i ki hi2).1 (old j kj hj2).1 hni hnj hij
  · intro i hi hn hz'
    rcases get i hi with rfl | ⟨ki, hi1, hi2⟩
    · rw [hloc0] at hn hz'
      rcases hnew hn with e | e
      · exact hz _ e.symm hz'
      · exact e.2.1 hz'
    · rw [hloc i hi1] at hn hz'
      exact m.ok.apart i (old i ki hi2).1 hn hz'
  · exact fun b hb => Nat.lt_of_lt_of_le (m.ok.zlt b hb) hg.size
  · refine ⟨hg.os.trans m.frame.os, hg.tape.trans m.frame.tape, hg.output.trans m.frame.output, Nat.le_trans m.frame.size hg.size, fun b hb hl => ?_⟩
    refine (hg.block b (Nat.lt_of_lt_of_le hb m.frame.size) fun e => ?_).trans (m.frame.block b hb hl)
    obtain ⟨g1, g2, g3⟩ := hrow b e.symm
    rcases m.mine id g1 g2 with h | h
    · omega
    · rw [g3] at h; exact hl h
  · intro i hi hn
    rcases get i hi with rfl | ⟨ki, hi1, hi2⟩
    · rw [hloc0] at hn ⊢
      rcases hnew hn with e | e
      · obtain ⟨g1, g2, g3⟩ := hrow _ e.symm
        have := m.mine _ g1 g2
        rwa [g3] at this
      · exact .inl e.1
    · rw [hloc i hi1] at hn ⊢
      exact m.mine i (old i ki hi2).1 hn
  · exact m.z
  · intro r hr
    obtain ⟨h1, h2⟩ := m.roots r hr
    exact ⟨h1, by rw [hloc _ (fun e => hid (by rw [← e]; exact h1))]; exact h2⟩

theorem Mod.re {fx : Fx} {S : St} {E : Env} {a : Act} {w w' : World} (m : Mod fx S E a w) {id : Nat} (hid : id ∉ S.rts) {row : Option Nat} (hg : w.grownBy w' row)
    (hrow : ∀ b, row = some b → S.hp id ≠ none ∧ (E.loc id).nil = false ∧ (E.loc id).b = b) (ℓ : Loc) {blk : Blk} (hold : Hold (E.at id ℓ) w' id blk)
    (hnew : ℓ.nil = false → some ℓ.b = row ∨ w.heap.size ≤ ℓ.b) : Mod fx ((S.kill id).setH id (some blk)) (E.at id ℓ) a w' :=
  m.re' hid hg hrow ℓ hold fun h => (hnew h).imp (fun h => h) fun h => ⟨Nat.le_trans m.frame.size h, fun hz => by have := m.ok.zlt _ hz; omega, fun i hi hn => by
    cases hk : S.hp i with
    | none => exact absurd hk hi
    | some k => have := (m.ok.hold i k hk).block_lt hn; omega⟩

theorem Mod.kill {fx : Fx} {S : St} {E : Env} {a : Act} {w : World} (m : Mod fx S E a w) {id : Nat} (hid : id ∉ S.rts) (ℓ : Loc) : Mod fx (S.kill id) (E.at id ℓ) a w := by
  have hloc : ∀ i, i ≠ id → (E.at id ℓ).loc i = E.loc i := fun i hi => by simp [Env.at, hi]
  have get : ∀ i, (S.kill id).hp i ≠ none → i ≠ id ∧ S.hp i ≠ none := fun i h => by
    cases hk : (S.kill id).hp i with
    | none => exact absurd hk h
    | some k => obtain ⟨h1, k0, h2, _⟩ := kill_hp hk; exact ⟨h1, by rw [h2]; simp⟩
  refine ⟨m.nt, fun t => ?_, m.dfr, ⟨?_, ?_, ?_, m.ok.zlt⟩, m.frame, ?_, m.z, ?_⟩
  · show RV _ _ (if (S.sl t).has id then .junk else S.sl t) _
    split
    · trivial
    · rename_i hh
      exact RV.upd (ℓ := ℓ) _ _ (by simpa using hh) (m.slots t)
  · intro i k h
    obtain ⟨h1, k0, h2, h3⟩ := kill_hp h
    subst h3
    exact (m.ok.hold i k0 h2).upd (ℓ := ℓ) h1
  · intro i j hi hj hni hnj hij
    rw [hloc i (get i hi).1] at hni ⊢; rw [hloc j (get j hj).1] at hnj ⊢
    exact m.ok.inj i j (get i hi).2 (get j hj).2 hni hnj hij
  · intro i hi hn
    rw [hloc i (get i hi).1] at hn ⊢
    exact m.ok.apart i (get i hi).2 hn
  · intro i hi hn
    rw [hloc i (get i hi).1] at hn ⊢
    exact m.mine i (get i hi).2 hn
  · intro r hr
    obtain ⟨h1, h2⟩ := m.roots r hr
    exact ⟨h1, by rw [hloc _ (fun e => hid (by rw [← e]; exact h1))]; exact h2⟩

/-- later, with more that stays as it is -/
theorem Mod.growZ {fx : Fx} {S : St} {E : Env} {a : Act} {w w' : World} (m : Mod fx S E a w) (h : Grow w w') {Zn : Nat → Prop} (hz : ∀ b, Zn b → w.heap.size ≤ b ∧ b < w'.heap.size) : Mod fx S { E with Z := fun b => E.Z b ∨ Zn b } a w' := by
  have m0 := m
  have m := m.grow h
  refine ⟨m.nt, fun t => RV.keep (E' := { E with Z := fun b => E.Z b ∨ Zn b }) (fun _ _ => rfl) (fun _ h => .inl h) rfl _ _ (m.slots t), m.dfr, ⟨?_, m.ok.inj, ?_, ?_⟩, m.frame, m.mine, ?_, m.roots⟩
  · intro i k hk
    exact (m.ok.hold i k hk).keep (E' := { E with Z := fun b => E.Z b ∨ Zn b }) (fun _ _ => rfl) (fun _ h => .inl h) rfl (fun _ => rfl) (Nat.le_refl _)
  · intro i hi hn hb
    rcases hb with hb | hb
    · exact m.ok.apart i hi hn hb
    · cases hk : S.hp i with
      | none => exact hi hk
      | some k =>
        have h1 := (m0.ok.hold i k hk).block_lt hn
        have h2 := (hz _ hb).1
        exact Nat.lt_irrefl _ (Nat.lt_of_lt_of_le h1 h2)
  · intro b hb
    rcases hb with hb | hb
    · exact m.ok.zlt b hb
    · exact (hz b hb).2
  · intro b hb
    rcases hb with hb | hb
    · exact m.z b hb
    · exact .inr (.inl (Nat.le_trans m0.frame.size (hz b hb).1))

/-- the block id is written -/
theorem Mod.wr {fx : Fx} {S : St} {E : Env} {a : Act} {w w' : World} (m : Mod fx S E a w) {id : Nat} {k0 : Blk} (hH : S.hp id = some k0) (hn : (E.loc id).nil = false) (hg : w.grownBy w' (some (E.loc id).b))
    {blk : Blk} (hold : Hold E w' id blk) : Mod fx (S.setH id (some blk)) E a w' := by
  have h0 : S.hp id ≠ none := by rw [hH]; simp
  have hk : Keeps E.Z w w' := Keeps.grown m.ok hg fun b hb => by injection hb with hb; rw [← hb]; exact m.ok.apart id h0 hn
  have get : ∀ i, (S.setH id (some blk)).hp i ≠ none → S.hp i ≠ none := fun i h => by
    simp only [St.setH] at h
    by_cases hi : i = id
    · rw [hi]; exact h0
    · rw [if_neg hi] at h; exact h
  refine ⟨m.nt, fun t => RV.keep hk (fun _ h => h) rfl _ _ (m.slots t), m.dfr, ⟨?_, ?_, ?_, ?_⟩, ?_, ?_, m.z, m.roots⟩
  · intro i k h
    simp only [St.setH] at h
    by_cases hi : i = id
    · subst hi
      rw [if_pos rfl] at h
      injection h with h; subst h
      exact hold
    · rw [if_neg hi] at h
      refine (m.ok.hold i k h).keep hk (fun _ h => h) rfl (fun hni => ?_) hg.size
      refine hg.block _ ((m.ok.hold i k h).block_lt hni) fun e => ?_
      injection e with e
      exact m.ok.inj i id (by rw [h]; simp) h0 hni hn hi e
  · exact fun i j hi hj => m.ok.inj i j (get i hi) (get j hj)
  · exact fun i hi => m.ok.apart i (get i hi)
  · exact fun b hb => Nat.lt_of_lt_of_le (m.ok.zlt b hb) hg.size
  · refine ⟨hg.os.trans m.frame.os, hg.tape.trans m.frame.tape, hg.output.trans m.frame.output, Nat.le_trans m.frame.size hg.size, fun b hb hl => ?_⟩
    refine (hg.block b (Nat.lt_of_lt_of_le hb m.frame.size) fun e => ?_).trans (m.frame.block b hb hl)
    injection e with e
    rcases m.mine id h0 hn with h | h
    · omega
    · rw [← e] at h; exact hl h
  · exact fun i hi => m.mine i (get i hi)

/-- a block is laid that stays as it is -/
theorem Mod.lay {fx : Fx} {S : St} {E : Env} {a : Act} {w : World} (m : Mod fx S E a w) (o : Obj) : Mod fx S { E with Z := fun b => E.Z b ∨ b = w.heap.size } a (w.alloc o) := by
  have hg := World.grownBy_alloc w o none
  have hk : Keeps E.Z w (w.alloc o) := Keeps.grown m.ok hg fun b hb => by cases hb
  have hz : ∀ b, E.Z b → E.Z b ∨ b = w.heap.size := fun _ h => .inl h
  refine ⟨m.nt, fun t => RV.keep (E' := { E with Z := fun b => E.Z b ∨ b = w.heap.size }) hk hz rfl _ _ (m.slots t), m.dfr, ⟨?_, m.ok.inj, ?_, ?_⟩, ?_, m.mine, ?_, m.roots⟩
  · intro i k h
    exact (m.ok.hold i k h).keep (E' := { E with Z := fun b => E.Z b ∨ b = w.heap.size }) hk hz rfl (fun hn => hg.block _ ((m.ok.hold i k h).block_lt hn) (by simp)) hg.size
  · intro i hi hn hb
    rcases hb with hb | hb
    · exact m.ok.apart i hi hn hb
    · cases hk : S.hp i with
      | none => exact hi hk
      | some k => have := (m.ok.hold i k hk).block_lt hn; have hb' : (E.loc i).b = w.heap.size := hb; omega
  · intro b hb
    have := hg.size
    rcases hb with hb | hb
    · exact Nat.lt_of_lt_of_le (m.ok.zlt b hb) this
    · subst hb; show _ < (w.heap.push o).size; simp
  · exact m.frame.grow ((Below.refl _ _).alloc (Nat.le_refl _) o)
  · intro b hb
    rcases hb with hb | hb
    · exact m.z b hb
    · subst hb; exact .inr (.inl m.frame.size)
end Go.Ab
