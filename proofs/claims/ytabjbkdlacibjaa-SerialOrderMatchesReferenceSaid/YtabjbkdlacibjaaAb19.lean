/- The abstract machine: what a call that changes its caller's blocks leaves. -/
import Derived.Test.YtabjbkdlacibjaaAb18
namespace Go.Ab
open Go.RowKit

theorem Mod.drop {fx : Fx} {S : St} {E : Env} {a : Act} {w : World} (m : Mod fx S E a w) (k : Nat) : Mod fx (S.setH k none) E a w := by
  have get : ∀ i, (S.setH k none).hp i ≠ none → S.hp i ≠ none := fun i h => by
    simp only [St.setH] at h
    split at h
    · exact absurd rfl h
    · exact h
  refine ⟨m.nt, m.slots, m.dfr, ⟨fun i b h => ?_, fun i j hi hj => m.ok.inj i j (get i hi) (get j hj), fun i hi => m.ok.apart i (get i hi), m.ok.zlt⟩, m.frame, fun i hi => m.mine i (get i hi), m.z, m.roots⟩
  simp only [St.setH] at h
  split at h
  · cases h
  · exact m.ok.hold i b h

def St.drops : List (Nat × Nat) → St → St
  | [], S => S
  | (k, _) :: r, S => St.drops r (S.setH k none)
theorem Mod.drops {fx : Fx} {E : Env} {a : Act} {w : World} : ∀ (l : List (Nat × Nat)) {S : St}, Mod fx S E a w → Mod fx (St.drops l S) E a w
  | [], _, m => m
  | (k, _) :: r, _, m => Mod.drops r (m.drop k)
theorem drops_hp : ∀ (l : List (Nat × Nat)) {S : St} (i : Nat), (St.drops l S).hp i ≠ none → S.hp i ≠ none ∧ ∀ p ∈ l, p.1 ≠ i
  | [], _, _, h => ⟨h, fun p hp => by cases hp⟩
  | (k, c) :: r, S, i, h => by
    obtain ⟨h1, h2⟩ := drops_hp r i h
    simp only [St.setH] at h1
    split at h1
    · exact absurd rfl h1
    · rename_i hi
      refine ⟨h1, fun p hp => ?_⟩
      rcases List.mem_cons.1 hp with rfl | hp
      · exact fun e => hi e.symm
      · exact h2 p hp
theorem drops_rts : ∀ (l : List (Nat × Nat)) {S : St}, (St.drops l S).rts = S.rts
  | [], _ => rfl
  | (_, _) :: r, _ => drops_rts r

/-- a later world: blocks of L may have turned -/
theorem Mod.move {fx : Fx} {S : St} {E : Env} {a : Act} {w w' : World} (m : Mod fx S E a w) (L : Nat → Prop) (hos : w'.os = w.os) (htape : w'.tape = w.tape) (hout : w'.output = w.output) (hsize : w.heap.size ≤ w'.heap.size)
    (hb : ∀ b, b < w.heap.size → ¬ L b → w'.heap[b]? = w.heap[b]?) (hL : ∀ b, L b → fx.w0.heap.size ≤ b ∨ fx.L b) (hap : ∀ i, S.hp i ≠ none → (E.loc i).nil = false → ¬ L (E.loc i).b) (hz : ∀ b, E.Z b → ¬ L b) : Mod fx S E a w' := by
  have hk : Keeps E.Z w w' := fun b h => hb b (m.ok.zlt b h) (hz b h)
  refine ⟨m.nt, fun t => RV.keep hk (fun _ h => h) rfl _ _ (m.slots t), m.dfr, ⟨fun i k h => ?_, m.ok.inj, m.ok.apart, fun b h => Nat.lt_of_lt_of_le (m.ok.zlt b h) hsize⟩, ⟨hos.trans m.frame.os, htape.trans m.frame.tape, hout.trans m.frame.output, Nat.le_trans m.frame.size hsize, fun b h1 h2 => ?_⟩, m.mine, m.z, m.roots⟩
  · exact (m.ok.hold i k h).keep hk (fun _ h => h) rfl (fun hn => hb _ ((m.ok.hold i k h).block_lt hn) (hap i (by rw [h]; simp) hn)) hsize
  · refine (hb b (Nat.lt_of_lt_of_le h1 m.frame.size) fun h => ?_).trans (m.frame.block b h1 h2)
    rcases hL b h with h | h
    · omega
    · exact h2 h

theorem Mod.moreZ {fx : Fx} {S : St} {E : Env} {a : Act} {w : World} (m : Mod fx S E a w) {Zn : Nat → Prop} (hz : ∀ b, Zn b → b < w.heap.size ∧ (∀ i, S.hp i ≠ none → (E.loc i).nil = false → (E.loc i).b ≠ b) ∧ (fx.Z0 b ∨ fx.w0.heap.size ≤ b ∨ fx.L b)) :
    Mod fx S { E with Z := fun b => E.Z b ∨ Zn b } a w := by
  refine ⟨m.nt, fun t => RV.keep (E' := { E with Z := fun b => E.Z b ∨ Zn b }) (fun _ _ => rfl) (fun _ h => .inl h) rfl _ _ (m.slots t), m.dfr, ⟨fun i k h => ?_, m.ok.inj, fun i hi hn hb => ?_, fun b h => ?_⟩, m.frame, m.mine, fun b h => ?_, m.roots⟩
  · exact (m.ok.hold i k h).keep (E' := { E with Z := fun b => E.Z b ∨ Zn b }) (fun _ _ => rfl) (fun _ h => .inl h) rfl (fun _ => rfl) (Nat.le_refl _)
  · rcases hb with hb | hb
    · exact m.ok.apart i hi hn hb
    · exact (hz _ hb).2.1 i hi hn rfl
  · rcases h with h | h
    · exact m.ok.zlt b h
    · exact (hz b h).1
  · rcases h with h | h
    · exact m.z b h
    · exact (hz b h).2.2

/-- names move: pairs (the callee's name, the caller's); roots stay -/
def St.moves (rt : List Nat) : List (Nat × Nat) → St → St
  | [], S => S
  | (_, k) :: r, S => St.moves rt r (if rt.contains k then S else S.kill k)
theorem Mod.moves {fx : Fx} {a : Act} {w : World} (rt : List Nat) (f : Nat → Loc) : ∀ (pl : List (Nat × Nat)) {S : St} {E : Env}, Mod fx S E a w → (∀ p ∈ pl, (rt.contains p.2 = true ∧ E.loc p.2 = f p.1 ∧ S.hp p.2 = none) ∨ (rt.contains p.2 = false ∧ p.2 ∉ S.rts)) → (pl.map (·.2)).Nodup →
    ∃ E2, Mod fx (St.moves rt pl S) E2 a w ∧ E2.Z = E.Z ∧ (∀ p ∈ pl, E2.loc p.2 = f p.1) ∧ (∀ k, (∀ p ∈ pl, p.2 ≠ k) → E2.loc k = E.loc k) ∧ (∀ i, (St.moves rt pl S).hp i ≠ none → S.hp i ≠ none) ∧ (∀ p ∈ pl, (St.moves rt pl S).hp p.2 = none)
  | [], S, E, m, _, _ => ⟨E, m, rfl, fun p hp => (by cases hp), fun _ _ => rfl, fun _ h => h, fun p hp => (by cases hp)⟩
  | (c, k) :: r, S, E, m, hp, hnd => by
    rw [List.map_cons, List.nodup_cons] at hnd
    have hne : ∀ p ∈ r, p.2 ≠ k := fun p h e => hnd.1 (by rw [← e]; exact List.mem_map.2 ⟨p, h, rfl⟩)
    simp only [St.moves]
    rcases hp (c, k) (.head _) with ⟨h1, h2, h3⟩ | ⟨h1, h2⟩
    · rw [if_pos h1]
      obtain ⟨E2, m2, g1, g2, g3, g4, g5⟩ := Mod.moves rt f r m (fun p h => hp p (.tail _ h)) hnd.2
      refine ⟨E2, m2, g1, fun p h => ?_, fun k' h => g3 k' (fun p hpr => h p (.tail _ hpr)), g4, fun p h => ?_⟩
      · rcases List.mem_cons.1 h with rfl | h
        · rw [g3 k hne]; exact h2
        · exact g2 p h
      · rcases List.mem_cons.1 h with rfl | h
        · cases hk : (St.moves rt r S).hp k with
          | none => rfl
          | some b => exact absurd h3 (g4 k (by rw [hk]; simp))
        · exact g5 p h
    · rw [if_neg (by rw [h1]; simp)]
      have mk := m.kill h2 (f c)
      have hat : ∀ i, i ≠ k → (E.at k (f c)).loc i = E.loc i := fun i hi => by simp [Env.at, hi]
      have hat0 : (E.at k (f c)).loc k = f c := by simp [Env.at]
      have hkn : ∀ i, (S.kill k).hp i ≠ none → S.hp i ≠ none ∧ i ≠ k := fun i h => by
        cases hk : (S.kill k).hp i with
        | none => exact absurd hk h
        | some b => obtain ⟨e1, k0, e2, _⟩ := kill_hp hk; exact ⟨by rw [e2]; simp, e1⟩
      obtain ⟨E2, m2, g1, g2, g3, g4, g5⟩ := Mod.moves rt f r mk (fun p h => by
        rcases hp p (.tail _ h) with ⟨q1, q2, q3⟩ | q
        · refine .inl ⟨q1, by rw [hat _ (hne p h)]; exact q2, ?_⟩
          cases hk : (S.kill k).hp p.2 with
          | none => rfl
          | some b => exact absurd q3 (hkn _ (by rw [hk]; simp)).1
        · exact .inr q) hnd.2
      refine ⟨E2, m2, g1, fun p h => ?_, fun k' h => ?_, fun i h => (hkn i (g4 i h)).1, fun p h => ?_⟩
      · rcases List.mem_cons.1 h with rfl | h
        · rw [g3 k hne]; exact hat0
        · exact g2 p h
      · rw [g3 k' (fun p hpr => h p (.tail _ hpr))]
        exact hat _ (fun e => h (c, k) (.head _) e.symm)
      · rcases List.mem_cons.1 h with rfl | h
        · cases hk : (St.moves rt r (S.kill k)).hp k with
          | none => rfl
          | some b => exact absurd rfl (hkn k (g4 k (by rw [hk]; simp))).2
        · exact g5 p h

/-- blocks are laid -/
def St.sets : List (Nat × Blk) → St → St
  | [], S => S
  | (k, b) :: r, S => St.sets r (S.setH k (some b))
theorem Mod.lays {fx : Fx} {E : Env} {a : Act} {w : World} (New : Nat → Prop) : ∀ (bl : List (Nat × Blk)) {S : St}, Mod fx S E a w → (∀ p ∈ bl, New p.1 ∧ Hold E w p.1 p.2) →
    (∀ i, New i → (E.loc i).nil = false → ¬ E.Z (E.loc i).b ∧ (fx.w0.heap.size ≤ (E.loc i).b ∨ fx.L (E.loc i).b)) →
    (∀ i j, New i → New j ∨ S.hp j ≠ none → (E.loc i).nil = false → (E.loc j).nil = false → i ≠ j → (E.loc i).b ≠ (E.loc j).b) → Mod fx (St.sets bl S) E a w
  | [], _, m, _, _, _ => m
  | (k, b) :: r, S, m, hb, hn, hi => by
    obtain ⟨hk, hold⟩ := hb (k, b) (.head _)
    have get : ∀ i, (S.setH k (some b)).hp i ≠ none → i = k ∨ (i ≠ k ∧ S.hp i ≠ none) := fun i h => by
      simp only [St.setH] at h
      by_cases e : i = k
      · exact .inl e
      · rw [if_neg e] at h; exact .inr ⟨e, h⟩
    refine Mod.lays New r (S := S.setH k (some b)) ⟨m.nt, m.slots, m.dfr, ⟨fun i blk h => ?_, fun i j h1 h2 n1 n2 hij => ?_, fun i h n => ?_, m.ok.zlt⟩, m.frame, fun i h n => ?_, m.z, m.roots⟩ (fun p h => hb p (.tail _ h)) hn (fun i j h1 h2 => ?_)
    · simp only [St.setH] at h
      by_cases e : i = k
      · subst e; rw [if_pos rfl] at h; injection h with h; subst h; exact hold
      · rw [if_neg e] at h; exact m.ok.hold i blk h
    · rcases get i h1 with rfl | ⟨e1, q1⟩
      · rcases get j h2 with rfl | ⟨e2, q2⟩
        · exact absurd rfl hij
        · exact hi _ j hk (.inr q2) n1 n2 hij
      · rcases get j h2 with rfl | ⟨e2, q2⟩
        · exact fun e => hi _ i hk (.inr q1) n2 n1 (fun e => hij e.symm) e.symm
        · exact m.ok.inj i j q1 q2 n1 n2 hij
    · rcases get i h with rfl | ⟨e1, q1⟩
      · exact (hn _ hk n).1
      · exact m.ok.apart i q1 n
    · rcases get i h with rfl | ⟨e1, q1⟩
      · exact (hn _ hk n).2
      · exact m.mine i q1 n
    · rcases h2 with h2 | h2
      · exact hi i j h1 (.inl h2)
      · rcases get j h2 with rfl | ⟨_, q⟩
        · exact hi i _ h1 (.inl hk)
        · exact hi i j h1 (.inr q)
end Go.Ab
