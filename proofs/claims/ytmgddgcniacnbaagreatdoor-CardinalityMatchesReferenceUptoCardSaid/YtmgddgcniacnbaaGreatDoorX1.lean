/- An exact machine for closed calls: tables, blocks, and how they lie in memory. An exact machine for closed calls: operations that look. -/
import Derived.Test.YtmgddgcniacnbaaGreatDoorA1
import Derived.LoopN
section
namespace Go.Xm
open Go.Ab Go.RowKit
inductive Tr (α : Type) where
  | nil
  | node (l : Tr α) (v : Option α) (r : Tr α)
def Tr.get {α : Type} : Tr α → Nat → Option α
  | .nil, _ => none
  | .node l v r, i => match i with
    | 0 => v
    | n + 1 => match n % 2 with
      | 0 => l.get (n / 2)
      | _ + 1 => r.get (n / 2)
def Tr.set {α : Type} : Nat → Tr α → Nat → Option α → Tr α
  | 0, t, _, _ => t
  | k + 1, t, i, v => match i with
    | 0 => match t with
      | .nil => .node .nil v .nil
      | .node l _ r => .node l v r
    | n + 1 => match t with
      | .nil => match n % 2 with
        | 0 => .node (Tr.set k .nil (n / 2) v) none .nil
        | _ + 1 => .node .nil none (Tr.set k .nil (n / 2) v)
      | .node l u r => match n % 2 with
        | 0 => .node (Tr.set k l (n / 2) v) u r
        | _ + 1 => .node l u (Tr.set k r (n / 2) v)
def Tr.put {α : Type} (t : Tr α) (i : Nat) (v : α) : Tr α := Tr.set (i + 1) t i (some v)
def Tr.del {α : Type} (t : Tr α) (i : Nat) : Tr α := Tr.set (i + 1) t i none
theorem Tr.get_set {α : Type} : ∀ (k : Nat) (t : Tr α) (i j : Nat) (v : Option α), i < k → (Tr.set k t i v).get j = if j = i then v else t.get j
  | 0, _, i, _, _, h => absurd h (Nat.not_lt_zero i)
  | k + 1, t, 0, j, v, _ => by
    cases t with
    | nil =>
      cases j with
      | zero => rfl
      | succ m => 
        rw [if_neg (by omega)]
        show Tr.get (.node .nil v .nil) (m + 1) = none
        unfold Tr.get
        dsimp only
        split <;> rfl
    | node l u r =>
      cases j with
      | zero => rfl
      | succ m => rw [if_neg (by omega)]; rfl
  | k + 1, t, n + 1, j, v, h => by
    have ih := fun (t : Tr α) (j : Nat) => Tr.get_set k t (n / 2) j v (by omega)
    have hm : n % 2 = 0 ∨ n % 2 = 1 := by omega
    cases t with
    | nil =>
      rcases hm with hm | hm
      · have e : Tr.set (k + 1) (.nil : Tr α) (n + 1) v = .node (Tr.set k .nil (n / 2) v) none .nil := by simp only [Tr.set, hm]
        rw [e]
        cases j with
        | zero => rw [if_neg (by omega)]; rfl
        | succ m =>
          have hm2 : m % 2 = 0 ∨ m % 2 = 1 := by omega
          rcases hm2 with hm2 | hm2
          · have e2 : Tr.get (.node (Tr.set k .nil (n / 2) v) none .nil) (m + 1) = (Tr.set k .nil (n / 2) v).get (m / 2) := by simp only [Tr.get, hm2]
            rw [e2, ih]
            by_cases hq : m + 1 = n + 1
            · rw [if_pos hq, if_pos (by omega)]
            · rw [if_neg hq, if_neg (by omega)]; rfl
          · have e2 : Tr.get (.node (Tr.set k .nil (n / 2) v) none .nil) (m + 1) = (.nil : Tr α).get (m / 2) := by simp only [Tr.get, hm2]
            rw [e2, if_neg (by omega)]; rfl
      · have e : Tr.set (k + 1) (.nil : Tr α) (n + 1) v = .node .nil none (Tr.set k .nil (n / 2) v) := by simp only [Tr.set, hm]
        rw [e]
        cases j with
        | zero => rw [if_neg (by omega)]; rfl
        | succ m =>
          have hm2 : m % 2 = 0 ∨ m % 2 = 1 := by omega
          rcases hm2 with hm2 | hm2
          · have e2 : Tr.get (.node .nil none (Tr.set k .nil (n / 2) v)) (m + 1) = (.nil : Tr α).get (m / 2) := by simp only [Tr.get, hm2]
            rw [e2, if_neg (by omega)]; rfl
          · have e2 : Tr.get (.node .nil none (Tr.set k .nil (n / 2) v)) (m + 1) = (Tr.set k .nil (n / 2) v).get (m / 2) := by simp only [Tr.get, hm2]
            rw [e2, ih]
            by_cases hq : m + 1 = n + 1
            · rw [if_pos hq, if_pos (by omega)]
            · rw [if_neg hq, if_neg (by omega)]; rfl
    | node l u r =>
      rcases hm with hm | hm
      · have e : Tr.set (k + 1) (.node l u r) (n + 1) v = .node (Tr.set k l (n / 2) v) u r := by simp only [Tr.set, hm]
        rw [e]
        cases j with
        | zero => rw [if_neg (by omega)]; rfl
        | succ m =>
          have hm2 : m % 2 = 0 ∨ m % 2 = 1 := by omega
          rcases hm2 with hm2 | hm2
          · have e2 : Tr.get (.node (Tr.set k l (n / 2) v) u r) (m + 1) = (Tr.set k l (n / 2) v).get (m / 2) := by simp only [Tr.get, hm2]
            have e3 : Tr.get (.node l u r) (m + 1) = l.get (m / 2) := by simp only [Tr.get, hm2]
            rw [e2, ih, e3]
            by_cases hq : m + 1 = n + 1
            · rw [if_pos hq, if_pos (by omega)]
            · rw [if_neg hq, if_neg (by omega)]
          · have e2 : Tr.get (.node (Tr.set k l (n / 2) v) u r) (m + 1) = r.get (m / 2) := by simp only [Tr.get, hm2]
            have e3 : Tr.get (.node l u r) (m + 1) = r.get (m / 2) := by simp only [Tr.get, hm2]
            rw [e2, e3, if_neg (by omega)]
      · have e : Tr.set (k + 1) (.node l u r) (n + 1) v = .node l u (Tr.set k r (n / 2) v) := by simp only [Tr.set, hm]
        rw [e]
        cases j with
        | zero => rw [if_neg (by omega)]; rfl
        | succ m =>
          have hm2 : m % 2 = 0 ∨ m % 2 = 1 := by omega
          rcases hm2 with hm2 | hm2
          · have e2 : Tr.get (.node l u (Tr.set k r (n / 2) v)) (m + 1) = l.get (m / 2) := by simp only [Tr.get, hm2]
            have e3 : Tr.get (.node l u r) (m + 1) = l.get (m / 2) := by simp only [Tr.get, hm2]
            rw [e2, e3, if_neg (by omega)]
          · have e2 : Tr.get (.node l u (Tr.set k r (n / 2) v)) (m + 1) = (Tr.set k r (n / 2) v).get (m / 2) := by simp only [Tr.get, hm2]
            have e3 : Tr.get (.node l u r) (m + 1) = r.get (m / 2) := by simp only [Tr.get, hm2]
            rw [e2, ih, e3]
            by_cases hq : m + 1 = n + 1
            · rw [if_pos hq, if_pos (by omega)]
            · rw [if_neg hq, if_neg (by omega)]
theorem Tr.get_put {α : Type} (t : Tr α) (i j : Nat) (v : α) : (t.put i v).get j = if j = i then some v else t.get j := Tr.get_set _ _ _ _ _ (Nat.lt_succ_self i)
theorem Tr.get_del {α : Type} (t : Tr α) (i j : Nat) : (t.del i).get j = if j = i then none else t.get j := Tr.get_set _ _ _ _ _ (Nat.lt_succ_self i)
mutual
def ltV (n : Nat) : V → Bool
  | .ref i _ _ => Nat.blt i n
  | .ptr i _ _ => Nat.blt i n
  | .mref i => Nat.blt i n
  | .agg cs => ltL n cs
  | .tup cs => ltL n cs
  | .fn _ cs => ltL n cs
  | .d _ | .dx _ | .hole | .junk => true
def ltL (n : Nat) : List V → Bool
  | [] => true
  | c :: cs => ltV n c && ltL n cs
end
theorem blt_iff {i n : Nat} : Nat.blt i n = true ↔ i < n := by simp [Nat.blt, Nat.ble_eq, Nat.lt_iff_add_one_le]
mutual
theorem ltV_mono {n m : Nat} (h : n ≤ m) : ∀ (c : V), ltV n c = true → ltV m c = true
  | .ref _i _ _, hc => blt_iff.2 (Nat.lt_of_lt_of_le (blt_iff.1 hc) h)
  | .ptr _i _ _, hc => blt_iff.2 (Nat.lt_of_lt_of_le (blt_iff.1 hc) h)
  | .mref _i, hc => blt_iff.2 (Nat.lt_of_lt_of_le (blt_iff.1 hc) h)
  | .agg cs, hc => ltL_mono h cs hc
  | .tup cs, hc => ltL_mono h cs hc
  | .fn _ cs, hc => ltL_mono h cs hc
  | .d _, _ => rfl
  | .dx _, _ => rfl
  | .hole, _ => rfl
  | .junk, _ => rfl
theorem ltL_mono {n m : Nat} (h : n ≤ m) : ∀ (cs : List V), ltL n cs = true → ltL m cs = true
  | [], _ => rfl
  | c :: cs, hc => by
    simp only [ltL, Bool.and_eq_true] at hc ⊢
    exact ⟨ltV_mono h c hc.1, ltL_mono h cs hc.2⟩
end
theorem ltL_iff {n : Nat} : ∀ {cs : List V}, ltL n cs = true ↔ ∀ c ∈ cs, ltV n c = true
  | [] => by simp [ltL]
  | c :: cs => by simp [ltL, ltL_iff (cs := cs)]
def Agr (n : Nat) (E E' : Env) : Prop := ∀ i, i < n → E'.loc i = E.loc i
theorem Agr.refl (n : Nat) (E : Env) : Agr n E E := fun _ _ => rfl
theorem Agr.trans {n m : Nat} {E E' E'' : Env} (h : Agr n E E') (hm : n ≤ m) (h' : Agr m E' E'') : Agr n E E'' := fun i hi => (h' i (Nat.lt_of_lt_of_le hi hm)).trans (h i hi)
mutual
theorem RV.agr {n : Nat} {E E' : Env} {w w' : World} (ha : Agr n E E') (hz : ∀ b, ¬ E.Z b) (hz' : ∀ b, E.Z b → E'.Z b) : ∀ (c : V) (x : Value), ltV n c = true → RV E w c x → RV E' w' c x
  | .d x, v, _, h => Ab.RD.keep (fun b hb => absurd hb (hz b)) hz' x v h
  | .ref i off len, v, hc, h => by
    unfold RV at h ⊢
    rw [ha i (blt_iff.1 hc)]; exact h
  | .ptr i k off, v, hc, h => by
    unfold RV at h ⊢
    rw [ha i (blt_iff.1 hc)]; exact h
  | .mref i, v, hc, h => by
    unfold RV at h ⊢
    rw [ha i (blt_iff.1 hc)]; exact h
  | .agg cs, v, hc, ⟨vs, h1, h2, h3⟩ => ⟨vs, h1, h2, RVs.agr ha hz hz' cs vs hc h3⟩
  | .tup cs, v, hc, ⟨vs, h1, h2⟩ => ⟨vs, h1, RVs.agr ha hz hz' cs vs hc h2⟩
  | .fn f cs, v, hc, ⟨vs, h1, h2⟩ => ⟨vs, h1, RVs.agr ha hz hz' cs vs hc h2⟩
  | .dx es, v, _, ⟨h1, h2⟩ => ⟨Ab.RD.keep (fun b hb => absurd hb (hz b)) hz' (.sl es) v h1, h2⟩
  | .hole, _, _, h => h
  | .junk, _, _, _ => trivial
theorem RVs.agr {n : Nat} {E E' : Env} {w w' : World} (ha : Agr n E E') (hz : ∀ b, ¬ E.Z b) (hz' : ∀ b, E.Z b → E'.Z b) : ∀ (cs : List V) (vs : List Value), ltL n cs = true → RVs E w cs vs → RVs E' w' cs vs
  | [], vs, _, h => h
  | c :: cs, vs, hc, ⟨v, r, h1, h2, h3⟩ => by
    simp only [ltL, Bool.and_eq_true] at hc
    exact ⟨v, r, h1, RV.agr ha hz hz' c v hc.1 h2, RVs.agr ha hz hz' cs r hc.2 h3⟩
end
structure XB where
  T : TypeId
  n : Nat
  cs : List V
abbrev XH := Tr XB
def XHold (E : Env) (w : World) (i : Nat) (b : XB) : Prop :=
  (E.loc i).nil = false ∧ (E.loc i).o = 0 ∧ (E.loc i).n = b.n ∧ 0 < b.n ∧ (∀ c ∈ b.cs, c.cell = true) ∧
  ∃ c : Array Value, w.heap[(E.loc i).b]? = some (.cells c b.T (0, 0)) ∧ c.size = (E.loc i).cap * b.n ∧ (E.loc i).cap ≤ maxLen ∧ RVs E w b.cs (c.toList.take b.cs.length)
structure Pr where
  fl : Nat
  ids : List Nat
def notIn (i : Nat) : List Nat → Bool
  | [] => true
  | j :: l => match Nat.beq i j with
    | true => false
    | false => notIn i l
theorem notIn_iff {i : Nat} : ∀ {l : List Nat}, notIn i l = true → i ∉ l
  | [], _ => by simp
  | j :: l, h => by
    unfold notIn at h
    split at h
    · cases h
    · rename_i hb
      intro hm
      rcases List.mem_cons.1 hm with rfl | hm
      · rw [Nat.beq_refl] at hb; cases hb
      · exact notIn_iff h hm
def okW (p : Pr) (i : Nat) : Bool := Nat.ble p.fl i && notIn i p.ids
theorem okW_iff {p : Pr} {i : Nat} (h : okW p i = true) : p.fl ≤ i ∧ i ∉ p.ids := by
  simp only [okW, Bool.and_eq_true] at h
  exact ⟨Nat.le_of_ble_eq_true h.1, notIn_iff h.2⟩
structure Cx where
  w0 : World
  pr : Pr
  rb : Nat → Nat
  ob : Nat → Option Obj
  df : List Deferred
structure XW (C : Cx) (nx : Nat) (H : XH) (E : Env) (w : World) : Prop where
  hold : ∀ i b, H.get i = some b → XHold E w i b
  lt : ∀ i b, H.get i = some b → i < nx ∧ ltL nx b.cs = true
  inj : ∀ i j, H.get i ≠ none → H.get j ≠ none → i ≠ j → (E.loc i).b ≠ (E.loc j).b
  mine : ∀ i, C.pr.fl ≤ i → H.get i ≠ none → C.w0.heap.size ≤ (E.loc i).b
  z : ∀ b, ¬ E.Z b
  xs : ∀ i b, ¬ (E.loc i).xs b
  below : Below C.w0.heap.size C.w0 w
  kp : ∀ i ∈ C.pr.ids, H.get i ≠ none ∧ (E.loc i).b = C.rb i ∧ w.heap[C.rb i]? = C.ob i
theorem XHold.lt {E : Env} {w : World} {i : Nat} {b : XB} (h : XHold E w i b) : (E.loc i).b < w.heap.size := by
  obtain ⟨_, _, _, _, _, c, h1, _⟩ := h
  exact (Array.getElem?_eq_some_iff.1 h1).1
theorem XHold.keep {E E' : Env} {w w' : World} {i n : Nat} {b : XB} (h : XHold E w i b) (ha : Agr n E E') (hi : i < n) (hl : ltL n b.cs = true) (hz : ∀ b, ¬ E.Z b) (hz' : ∀ b, E.Z b → E'.Z b) (hb : w'.heap[(E.loc i).b]? = w.heap[(E.loc i).b]?) : XHold E' w' i b := by
  obtain ⟨h1, h2, h3, h4, h5, c, h6, h7, h8, h9⟩ := h
  unfold XHold
  rw [ha i hi]
  exact ⟨h1, h2, h3, h4, h5, c, hb.trans h6, h7, h8, RVs.agr ha hz hz' _ _ hl h9⟩
def stOf (nt : Nat) (sl : Tr V) (H : XH) : St := ⟨nt, [], fun t => (sl.get t).getD .junk, fun i => (H.get i).map fun b => .box b.cs⟩
theorem take_range {w : World} {b T : Nat} {c : Array Value} (h : w.heap[b]? = some (.cells c T (0, 0))) (k : Nat) : w.rangeAt b 0 (c.toList.take k) := arr_range h ⟨k, rfl⟩
theorem XHold.box {E : Env} {w : World} {i : Nat} {b : XB} (h : XHold E w i b) : Hold E w i (.box b.cs) := by
  have hlt := h.lt
  obtain ⟨h1, h2, h3, h4, h5, c, h6, h7, h8, h9⟩ := h
  refine ⟨h1, h5, _, h9, ?_, fun j _ => ?_, hlt⟩
  · rw [h2]; exact take_range h6 _
  · simp [World.frozen?, h6]
theorem XW.ok {C : Cx} {nx : Nat} {H : XH} {E : Env} {w : World} (h : XW C nx H E w) (nt : Nat) (sl : Tr V) : E.ok (stOf nt sl H).hp w where
  hold := fun id k hk => by
    simp only [stOf] at hk
    cases hg : H.get id with
    | none => simp [hg] at hk
    | some b =>
      simp only [hg, Option.map_some, Option.some.injEq] at hk
      subst hk
      exact (h.hold id b hg).box
  inj := fun i j hi hj hij b h1 h2 => by
    have g : ∀ i, (stOf nt sl H).hp i ≠ none → H.get i ≠ none := fun i hi e => hi (by simp [stOf, e])
    rcases h1 with ⟨_, rfl⟩ | h1
    · rcases h2 with ⟨_, h2⟩ | h2
      · exact h.inj i j (g i hi) (g j hj) hij h2.symm
      · exact h.xs _ _ h2
    · exact h.xs _ _ h1
  apart := fun i _ b _ hz => h.z b hz
  zlt := fun b hb => absurd hb (h.z b)
  xlt := fun i _ b hb => absurd hb (h.xs i b)
theorem RVs_lenq {E : Env} {w : World} {cs : List V} {c : Array Value} (h : RVs E w cs (c.toList.take cs.length)) : cs.length ≤ c.size := by
  have := RVs_length h
  rw [List.length_take] at this
  simp at this
  omega
theorem XW.new {C : Cx} {nx : Nat} {H : XH} {E : Env} {w w' : World} (h : XW C nx H E w) {c : Array Value} {T n cap : Nat} {cs : List V} (hn : 0 < n) (hc : ∀ x ∈ cs, x.cell = true) (hl : ltL nx cs = true)
    (hs : c.size = cap * n) (hm : cap ≤ maxLen) (hv : RVs E w cs (c.toList.take cs.length)) (hb : Below w.heap.size w w') (hnew : w'.heap[w.heap.size]? = some (.cells c T (0, 0))) :
    ∃ E', XW C (nx + 1) (H.put nx ⟨T, n, cs⟩) E' w' ∧ E'.loc nx = ⟨w.heap.size, 0, n, cap, false, fun _ => False⟩ ∧ Agr nx E E' := by
  let ℓ : Ab.Loc := ⟨w.heap.size, 0, n, cap, false, fun _ => False⟩
  have ha : Agr nx E (E.at nx ℓ) := fun i hi => by simp [Env.at, Nat.ne_of_lt hi]
  have hz' : ∀ b, E.Z b → (E.at nx ℓ).Z b := fun _ h => h
  have hloc0 : (E.at nx ℓ).loc nx = ℓ := by simp [Env.at]
  have old : ∀ i, H.get i ≠ none → i < nx ∧ i ≠ nx := fun i hi => by
    cases hg : H.get i with
    | none => exact absurd hg hi
    | some b => have := (h.lt i b hg).1; exact ⟨this, Nat.ne_of_lt this⟩
  have blt : ∀ i, H.get i ≠ none → (E.loc i).b < w.heap.size := fun i hi => by
    cases hg : H.get i with
    | none => exact absurd hg hi
    | some b => exact (h.hold i b hg).lt
  have get : ∀ i, (H.put nx ⟨T, n, cs⟩).get i ≠ none → i = nx ∨ H.get i ≠ none := fun i hi => by
    rw [Tr.get_put] at hi
    split at hi
    · rename_i e; exact .inl e
    · exact .inr hi
  refine ⟨E.at nx ℓ, ⟨fun i b hg => ?_, fun i b hg => ?_, fun i j hi hj hij => ?_, fun i hf hi => ?_, h.z, fun i b hx => ?_, ?_, fun i hi => ?_⟩, hloc0, ha⟩
  · rw [Tr.get_put] at hg
    split at hg
    · rename_i e
      subst e
      injection hg with hg; subst hg
      unfold XHold
      rw [hloc0]
      exact ⟨rfl, rfl, rfl, hn, hc, c, hnew, hs, hm, RVs.agr ha h.z hz' _ _ hl hv⟩
    · have hi := old i (by rw [hg]; simp)
      exact (h.hold i b hg).keep ha hi.1 (h.lt i b hg).2 h.z hz' (hb.block _ (h.hold i b hg).lt)
  · rw [Tr.get_put] at hg
    split at hg
    · rename_i e
      injection hg with hg; subst hg
      exact ⟨by omega, ltL_mono (Nat.le_succ _) _ hl⟩
    · exact ⟨Nat.lt_succ_of_lt (h.lt i b hg).1, ltL_mono (Nat.le_succ _) _ (h.lt i b hg).2⟩
  · rcases get i hi with e | hi'
    · rcases get j hj with e2 | hj'
      · exact absurd (e.trans e2.symm) hij
      · rw [e, hloc0, ha j (old j hj').1]
        exact fun e => Nat.lt_irrefl _ (e ▸ blt j hj')
    · rcases get j hj with e2 | hj'
      · rw [e2, hloc0, ha i (old i hi').1]
        exact fun e => Nat.lt_irrefl _ (e ▸ blt i hi')
      · rw [ha i (old i hi').1, ha j (old j hj').1]
        exact h.inj i j hi' hj' hij
  · rcases get i hi with e | hi'
    · rw [e, hloc0]; exact h.below.size
    · rw [ha i (old i hi').1]; exact h.mine i hf hi'
  · by_cases e : i = nx
    · subst e; rw [hloc0] at hx; exact hx
    · have : (E.at nx ℓ).loc i = E.loc i := by simp [Env.at, e]
      rw [this] at hx; exact h.xs i b hx
  · exact Below.trans h.below (Below.mono hb h.below.size)
  · obtain ⟨k1, k2, k3⟩ := h.kp i hi
    have hi' := old i k1
    refine ⟨by rw [Tr.get_put, if_neg hi'.2]; exact k1, by rw [ha i hi'.1]; exact k2, ?_⟩
    rw [← k3, ← k2]
    exact hb.block _ (blt i k1)
theorem XW.upd {C : Cx} {nx : Nat} {H : XH} {E : Env} {w w' : World} (h : XW C nx H E w) {i : Nat} {b : XB} (hf : okW C.pr i = true) (hg : H.get i = some b) {c c' : Array Value} {cs : List V} (hc0 : w.heap[(E.loc i).b]? = some (.cells c b.T (0, 0)))
    (hc : ∀ x ∈ cs, x.cell = true) (hl : ltL nx cs = true) (hs : c'.size = c.size) (hv : RVs E w cs (c'.toList.take cs.length)) (hgr : w.grownBy w' (some (E.loc i).b)) (hnew : w'.heap[(E.loc i).b]? = some (.cells c' b.T (0, 0))) :
    XW C nx (H.put i ⟨b.T, b.n, cs⟩) E w' := by
  have hkeep : ∀ {cs vs}, RVs E w cs vs → RVs E w' cs vs := fun {cs vs} hr => Ab.RVs.keep (fun b hb => absurd hb (h.z b)) (fun _ h => h) rfl cs vs hr
  have get : ∀ j, (H.put i ⟨b.T, b.n, cs⟩).get j ≠ none → H.get j ≠ none := fun j hj => by
    rw [Tr.get_put] at hj
    split at hj
    · rename_i e; rw [e, hg]; simp
    · exact hj
  refine ⟨fun j d hj => ?_, fun j d hj => ?_, fun j k hj hk hjk => h.inj j k (get j hj) (get k hk) hjk, fun j hf hj => h.mine j hf (get j hj), h.z, h.xs, ?_, fun j hj => ?_⟩
  · rw [Tr.get_put] at hj
    split at hj
    · rename_i e
      subst e
      injection hj with hj; subst hj
      obtain ⟨h1, h2, h3, h4, h5, c0, h6, h7, h8, h9⟩ := h.hold _ _ hg
      rw [hc0] at h6
      injection h6 with h6; injection h6 with h6
      subst h6
      exact ⟨h1, h2, h3, h4, hc, c', hnew, hs.trans h7, h8, hkeep hv⟩
    · rename_i hji
      have hne : (E.loc j).b ≠ (E.loc i).b := h.inj j i (by rw [hj]; simp) (by rw [hg]; simp) hji
      exact (h.hold j d hj).keep (Agr.refl nx E) (h.lt j d hj).1 (h.lt j d hj).2 h.z (fun _ h => h) (hgr.block _ (h.hold j d hj).lt (fun e => hne (Option.some.inj e)))
  · rw [Tr.get_put] at hj
    split at hj
    · rename_i e
      injection hj with hj; subst hj
      exact ⟨e ▸ (h.lt i b hg).1, hl⟩
    · exact h.lt j d hj
  · exact Below.grown h.below hgr h.below.size (fun k hk => by injection hk with hk; subst hk; exact h.mine i (okW_iff hf).1 (by rw [hg]; simp))
  · obtain ⟨k1, k2, k3⟩ := h.kp j hj
    have hji : j ≠ i := fun e => (okW_iff hf).2 (e ▸ hj)
    have hne : (E.loc j).b ≠ (E.loc i).b := h.inj j i k1 (by rw [hg]; simp) hji
    refine ⟨by rw [Tr.get_put, if_neg hji]; exact k1, k2, ?_⟩
    rw [← k3, ← k2]
    cases hq : H.get j with
    | none => exact absurd hq k1
    | some d => exact hgr.block _ (h.hold j d hq).lt (fun e => hne (Option.some.inj e))
theorem XW.del {C : Cx} {nx : Nat} {H : XH} {E : Env} {w : World} (h : XW C nx H E w) {i : Nat} (hf : i ∉ C.pr.ids) : XW C nx (H.del i) E w := by
  have get : ∀ j, ∀ {x}, (H.del i).get j = some x → H.get j = some x := fun j {x} hj => by
    rw [Tr.get_del] at hj
    split at hj
    · cases hj
    · exact hj
  have get' : ∀ j, (H.del i).get j ≠ none → H.get j ≠ none := fun j hj e => hj (by rw [Tr.get_del]; split <;> first | rfl | exact e)
  exact ⟨fun j d hj => h.hold j d (get j hj), fun j d hj => h.lt j d (get j hj), fun j k hj hk => h.inj j k (get' j hj) (get' k hk), fun j hf hj => h.mine j hf (get' j hj), h.z, h.xs, h.below, fun j hj => by
    obtain ⟨k1, k2, k3⟩ := h.kp j hj
    exact ⟨by rw [Tr.get_del, if_neg (fun e => hf (by rw [← e]; exact hj))]; exact k1, k2, k3⟩⟩
theorem XW.later {C : Cx} {nx : Nat} {H : XH} {E : Env} {w w' : World} (h : XW C nx H E w) (hb : Below w.heap.size w w') : XW C nx H E w' :=
  ⟨fun i b hg => (h.hold i b hg).keep (Agr.refl nx E) (h.lt i b hg).1 (h.lt i b hg).2 h.z (fun _ h => h) (hb.block _ (h.hold i b hg).lt), h.lt, h.inj, h.mine, h.z, h.xs, Below.trans h.below (Below.mono hb h.below.size), fun i hi => by
    obtain ⟨k1, k2, k3⟩ := h.kp i hi
    refine ⟨k1, k2, ?_⟩
    rw [← k3, ← k2]
    cases hq : H.get i with
    | none => exact absurd hq k1
    | some d => exact hb.block _ (h.hold i d hq).lt⟩
end Go.Xm
end
section
namespace Go.Xm
open Go.Ab Go.RowKit
theorem bounds_x {P : Program} {E : Env} {w w' : World} {ρ : Operand → Value} {ev : Operand → V} (hev : ∀ x, RV E w (ev x) (ρ x)) {lo hi : Option Operand} {b : Bool} {len top cap h l : Nat} (hlc : len ≤ cap) (htc : top ≤ cap)
    (hh : bnd (hi.map ev) len top = some h) (hl : bnd (lo.map ev) 0 h = some l) : (Instr.sliceBounds b len cap (lo.map ρ) (hi.map ρ) none).run P w' = .ok (l, h, cap) w' ∧ l ≤ h ∧ (h ≤ top ∨ h = len) := by
  have hlow : ∀ code, ((match lo.map ρ with | some v => Instr.sliceBound v h code | none => pure 0 : Sem Nat)).run P w' = .ok l w' ∧ l ≤ h := fun code => by
    cases lo with
    | none => have := bnd_none hl; subst this; exact ⟨rfl, Nat.zero_le _⟩
    | some o => exact bnd_some (P := P) (hev o) hl (Nat.le_refl _) code
  cases hi with
  | none =>
    have := bnd_none hh; subst this
    refine ⟨?_, (hlow .index).2, .inr rfl⟩
    cases lo with
    | none => have := bnd_none hl; subst this; simp [Instr.sliceBounds]
    | some o => simp [Instr.sliceBounds, (bnd_some (P := P) (hev o) hl (Nat.le_refl _) _).1]
  | some o2 =>
    have h2 := fun code => bnd_some (P := P) (w' := w') (hev o2) hh htc code
    refine ⟨?_, (hlow .index).2, .inl (h2 .index).2⟩
    cases lo with
    | none => have := bnd_none hl; subst this; simp [Instr.sliceBounds, (h2 _).1]
    | some o => simp [Instr.sliceBounds, (h2 _).1, (bnd_some (P := P) (hev o) hl (Nat.le_refl _) _).1]
def slX (ty : TypeId → Option TI) (S : St) (H : XH) (T : TypeId) (x : Operand) (lo hi : Option Operand) : Option V :=
  (ty T).bind fun ti => match ti.desc with
  | .slice e => (ty e).bind fun te => match S.ev x with
    | .ref id off len => match H.get id with
      | some b => match Nat.beq te.size b.n with
        | true => (bnd (hi.map S.ev) len (max len (b.cs.length / b.n - off))).bind fun h => (bnd (lo.map S.ev) 0 h).bind fun l => some (.ref id (off + l) (h - l))
        | false => none
      | none => none
    | .d (.lit (.slice none 0 0)) => (bnd (hi.map S.ev) 0 0).bind fun h => (bnd (lo.map S.ev) 0 h).bind fun _ => some (.d (.lit (.slice none 0 0)))
    | _ => none
  | _ => none
def ixX (ty : TypeId → Option TI) (S : St) (H : XH) (T : TypeId) (x i : Operand) : Option V :=
  match S.ev x, S.ev i with
  | .ref id off len, .d (.lit (.int _ k)) => (ty T).bind fun ti => match ti.desc with
    | .slice e => (ty e).bind fun te => match H.get id with
      | some b => if Nat.beq te.size b.n = true ∧ 0 ≤ k ∧ k < len then some (.ptr id 0 ((off + k.toNat) * b.n)) else none
      | none => none
    | _ => none
  | _, _ => none
def pX (ty : TypeId → Option TI) (S : St) (H : XH) (o : Op) : Option V :=
  match pureV ty S o with
  | some v => some v
  | none => match o with
    | .indexAddr T x i => ixX ty S H T x i
    | .slice T x lo hi none => slX ty S H T x lo hi
    | _ => none
theorem XHold.capn {E : Env} {w : World} {i : Nat} {b : XB} (h : XHold E w i b) : b.cs.length ≤ (E.loc i).cap * b.n := by
  obtain ⟨_, _, _, _, _, c, _, h7, _, h9⟩ := h
  have := RVs_lenq h9
  omega
theorem slX_sound {P : Program} {C : Cx} {nx nt : Nat} {sl : Tr V} {H : XH} {E : Env} {w : World} (hw : XW C nx H E w) {ρ : Operand → Value} (hev : ∀ x, RV E w ((stOf nt sl H).ev x) (ρ x)) {T : TypeId} {x : Operand} {lo hi : Option Operand} {v : V}
    (h : slX (tyOf P) (stOf nt sl H) H T x lo hi = some v) : ∃ u, RV E w v u ∧ ∀ w', (Instr.sliceAt T (ρ x) (lo.map ρ) (hi.map ρ) none).run P w' = .ok u w' := by
  unfold slX at h
  cases hT : tyOf P T with
  | none => simp [hT] at h
  | some ti =>
    simp only [hT, Option.bind_some] at h
    split at h
    · rename_i e hd
      cases hE : tyOf P e with
      | none => simp [hE] at h
      | some te =>
        simp only [hE, Option.bind_some] at h
        have hx := hev x
        split at h
        · rename_i id off len hs
          rw [hs] at hx
          split at h
          · rename_i b hg
            split at h
            · rename_i hn
              have hn : te.size = b.n := Nat.eq_of_beq_eq_true hn
              have hH := hw.hold id b hg
              have hcap := hH.capn
              obtain ⟨g1, g2, g3, g4, _⟩ := hH
              rcases hx with ⟨h1, _⟩ | ⟨h1, h2, a, h4, h5⟩
              · rw [g1] at h1; cases h1
              · have hdiv : b.cs.length / b.n ≤ (E.loc id).cap := by
                  rw [Nat.div_le_iff_le_mul_add_pred g4]
                  have := Nat.mul_comm b.n (E.loc id).cap
                  omega
                cases hh : bnd (hi.map (stOf nt sl H).ev) len (max len (b.cs.length / b.n - off)) with
                | none => simp [hh] at h
                | some hq =>
                  cases hl : bnd (lo.map (stOf nt sl H).ev) 0 hq with
                  | none => simp [hh, hl] at h
                  | some lq =>
                    simp only [hh, hl, Option.bind_some, Option.some.injEq] at h
                    subst h
                    have hB := fun w' => bounds_x (P := P) (w' := w') hev (b := true) (cap := (E.loc id).cap - off) (by omega) (by omega) hh hl
                    obtain ⟨_, hb1, hb2⟩ := hB w
                    have hqc : hq ≤ (E.loc id).cap - off := by omega
                    refine ⟨.slice (if (E.loc id).cap - off = lq then some ⟨(E.loc id).b, a, none⟩ else (some ⟨(E.loc id).b, a, none⟩ : Option Addr).map (·.add (lq * te.size))) (hq - lq) ((E.loc id).cap - off - lq), .inr ⟨h1, by omega, ?_⟩, fun w' => ?_⟩
                    · by_cases hc : (E.loc id).cap - off = lq
                      · refine ⟨a, by rw [if_pos hc]; congr 1; omega, fun hlt => ?_⟩
                        have hl0 : lq = 0 := by omega
                        have ho0 : off = 0 := by omega
                        subst hl0; subst ho0
                        exact h5 (.inl rfl)
                      · refine ⟨a + lq * te.size, ?_, fun hlt => ?_⟩
                        · rw [if_neg hc]
                          simp only [Option.map_some, add_addr]
                          congr 1; omega
                        · by_cases ho : off < (E.loc id).cap
                          · rw [h5 (.inr ho), g3, hn, Nat.add_mul, Nat.add_assoc]
                          · have ho0 : off = 0 := by omega
                            subst ho0
                            rw [h5 (.inl rfl), g3, hn, Nat.add_mul, Nat.add_assoc]
                    · have u1 := run_und hT w'
                      rw [hd] at u1
                      have hb := (hB w').1
                      simp [Instr.sliceAt, Instr.slice, u1, h4, hb, Ab.run_sizeOf hE w']
            · cases h
          · cases h
        · rename_i hs
          rw [hs] at hx
          have hx := RD_lit hx
          cases hh : bnd (hi.map (stOf nt sl H).ev) 0 0 with
          | none => simp [hh] at h
          | some hq =>
            cases hl : bnd (lo.map (stOf nt sl H).ev) 0 hq with
            | none => simp [hh, hl] at h
            | some lq =>
              simp only [hh, hl, Option.bind_some, Option.some.injEq] at h
              subst h
              have hB := fun w' => bounds_x (P := P) (w' := w') hev (b := true) (cap := 0) (Nat.le_refl _) (Nat.le_refl _) hh hl
              obtain ⟨_, hb1, hb2⟩ := hB w
              have hq0 : hq = 0 := by omega
              have hl0 : lq = 0 := by omega
              subst hq0; subst hl0
              refine ⟨_, ⟨rfl, rfl⟩, fun w' => ?_⟩
              have u1 := run_und hT w'
              rw [hd] at u1
              have hb := (hB w').1
              simp [Instr.sliceAt, Instr.slice, u1, hx, hb, Ab.run_sizeOf hE w']
        · cases h
    · cases h
theorem pX_any {P : Program} {C : Cx} {nx nt : Nat} {sl : Tr V} {H : XH} {E : Env} {w : World} (hw : XW C nx H E w) {ρ : Operand → Value} (hev : ∀ x, RV E w ((stOf nt sl H).ev x) (ρ x)) {o : Op} {v : V} {oo : Oper} (ho : oo.op = o)
    (h : pX (tyOf P) (stOf nt sl H) H o = some v) : ∃ u, RV E w v u ∧ ∀ w', (isLoad o = true → Below w.heap.size w w') → (execOp ρ oo).run P w' = .ok (.value u) w' := by
  unfold pX at h
  split at h
  · rename_i v0 hv
    injection h with h; subst h
    exact pureV_any hv E w ρ oo ho (hw.ok nt sl) hev
  · split at h
    · rename_i T x i _
      unfold ixX at h
      have hx := hev x
      have hi := hev i
      split at h
      · rename_i id off len kk k hs hk
        rw [hs] at hx; rw [hk] at hi
        have hi := RD_lit hi
        cases hT : tyOf P T with
        | none => simp [hT] at h
        | some ti =>
          simp only [hT, Option.bind_some] at h
          split at h
          · rename_i e hd
            cases hE : tyOf P e with
            | none => simp [hE] at h
            | some te =>
              simp only [hE, Option.bind_some] at h
              split at h
              · rename_i b hg
                split at h
                · rename_i hc
                  obtain ⟨hn, k0, k1⟩ := hc
                  have hn : te.size = b.n := Nat.eq_of_beq_eq_true hn
                  injection h with h; subst h
                  obtain ⟨g1, g2, g3, g4, _⟩ := hw.hold id b hg
                  rcases hx with ⟨h1, _⟩ | ⟨h1, h2, a, h4, h5⟩
                  · rw [g1] at h1; cases h1
                  · have ha := h5 (.inr (by omega))
                    refine ⟨.pointer (some ⟨(E.loc id).b, (E.loc id).o + 0 * (E.loc id).n + (off + k.toNat) * b.n, none⟩), ⟨h1, rfl⟩, fun w' _ => ?_⟩
                    have u1 := run_und hT w'
                    rw [hd] at u1
                    unfold execOp
                    rw [ho]
                    have e1 : a + k.toNat * te.size = (E.loc id).o + 0 * (E.loc id).n + (off + k.toNat) * b.n := by
                      rw [ha, g3, hn, Nat.zero_mul, Nat.add_mul]; omega
                    simp [h4, hi, Instr.indexAt, asIntOf, u1, k0, k1, Ab.run_sizeOf hE w', add_addr, e1]
                · cases h
              · cases h
          · cases h
      · cases h
    · rename_i T x lo hi _
      obtain ⟨u, hu, hrun⟩ := slX_sound hw hev h
      refine ⟨u, hu, fun w' _ => ?_⟩
      unfold execOp
      rw [ho]
      have := hrun w'
      simp only [Option.map_none] at this ⊢
      simp [this]
    · cases h
theorem load_held {P : Program} {C : Cx} {nx nt : Nat} {sl : Tr V} {H : XH} {E : Env} {w : World} (hw : XW C nx H E w) {ρ : Operand → Value} (hev : ∀ x, RV E w ((stOf nt sl H).ev x) (ρ x)) {T : TypeId} {a : Operand} {v : V} {oo : Oper} (ho : oo.op = .load T a)
    (h : pX (tyOf P) (stOf nt sl H) H (.load T a) = some v) {id k off : Nat} (hid : (stOf nt sl H).ev a = .ptr id k off) : ∃ u, RV E w v u ∧ ∀ w', w'.heap[(E.loc id).b]? = w.heap[(E.loc id).b]? → (execOp ρ oo).run P w' = .ok (.value u) w' := by
  have ok := hw.ok nt sl
  have h : pureV (tyOf P) (stOf nt sl H) (.load T a) = some v := by
    unfold pX at h
    split at h
    · rename_i v0 hv; rw [hv]; exact h
    · cases h
  unfold pureV at h
  cases hT : tyOf P T with
  | none => simp [hT] at h
  | some ti =>
    cases hc : cellsAt (stOf nt sl H).hp ((stOf nt sl H).ev a) with
    | none => simp [hT, hc] at h
    | some cs =>
      simp only [hT, hc, Option.bind_some] at h
      obtain ⟨b, o, vs, hp, h1, h2, h3, h4⟩ := cellsAt_sound ok (hev a) hc
      obtain ⟨x, hx, hrun⟩ := run_loadAt (P := P) hT h1 h2 h3 h
      have hb : b = (E.loc id).b := by
        have := hev a
        rw [hid] at this
        have := this.2
        rw [hp] at this
        simp only [Value.pointer.injEq, Option.some.injEq, Addr.mk.injEq] at this
        exact this.1
      refine ⟨x, hx, fun w' hg => ?_⟩
      unfold execOp
      rw [ho]
      simp only [hp, Sem.run_bind, hrun w' (rangeAt_block h2 (by rw [hb]; exact hg)), Result.andThen_ok, Sem.run_pure]
end Go.Xm
end
