/- Breadth-first search: the distances. Plain lists. Breadth-first search: the levels. Plain lists. The shortest cycle: the code's way. Plain lists. The shortest cycle: the reference's way, a search in depth. Plain lists. -/
import Derived.Test.YtabjbkdlacibjaaSoQ1
namespace Go.Proofs.Ytabjbkdlacibjaa
open Go.Ab Go.Rp

/-- a loop, by an invariant and a measure -/
theorem iter_post {τ ρ : Type} (step : τ → Option (τ ⊕ ρ)) (μ : τ → Nat) (Inv : τ → Prop) (Post : ρ → Prop)
    (h : ∀ s, Inv s → (∃ s', step s = some (.inl s') ∧ Inv s' ∧ μ s' < μ s) ∨ ∃ r, step s = some (.inr r) ∧ Post r) :
    ∀ (n : Nat) (s : τ), Inv s → μ s < n → ∃ r, iterN step n s = some r ∧ Post r := by
  intro n
  induction n with
  | zero => intro s _ h; omega
  | succ n ih =>
    intro s hi hm
    rcases h s hi with ⟨s', h1, h2, h3⟩ | ⟨r, h1, h2⟩
    · obtain ⟨r, h4, h5⟩ := ih s' h2 (by omega)
      exact ⟨r, by rw [iterN, h1]; exact h4, h5⟩
    · exact ⟨r, by rw [iterN, h1], h2⟩

/-- a walk of k edges from v to a, over nodes from a to 19 -/
def W (g : Nat → Nat → Bool) (a : Nat) : Nat → Nat → Bool
  | 0, v => v == a
  | k + 1, v => decide (a ≤ v ∧ v < 20) && (List.range 20).any fun w => g v w && W g a k w
theorem W_succ {g : Nat → Nat → Bool} {a k v : Nat} : W g a (k + 1) v = true ↔ a ≤ v ∧ v < 20 ∧ ∃ w, w < 20 ∧ g v w = true ∧ W g a k w = true := by
  rw [W, Bool.and_eq_true, decide_eq_true_iff, List.any_eq_true]
  constructor
  · rintro ⟨⟨h1, h2⟩, w, hw, h3⟩
    rw [Bool.and_eq_true] at h3
    exact ⟨h1, h2, w, List.mem_range.1 hw, h3.1, h3.2⟩
  · rintro ⟨h1, h2, w, hw, h3, h4⟩
    exact ⟨⟨h1, h2⟩, w, List.mem_range.2 hw, by rw [h3, h4]; rfl⟩
/-- the least length of a walk, up to m -/
def fd (g : Nat → Nat → Bool) (a : Nat) : Nat → Nat → Int
  | 0, _ => -1
  | m + 1, v => if fd g a m v < 0 ∧ W g a (m + 1) v = true then ((m + 1 : Nat) : Int) else fd g a m v
theorem fd_cases (g : Nat → Nat → Bool) (a v : Nat) : ∀ m, (fd g a m v = -1 ∧ ∀ k, 1 ≤ k → k ≤ m → W g a k v = false) ∨ ∃ k, 1 ≤ k ∧ k ≤ m ∧ fd g a m v = (k : Int) ∧ W g a k v = true ∧ ∀ j, 1 ≤ j → j < k → W g a j v = false
  | 0 => .inl ⟨rfl, fun k h1 h2 => by omega⟩
  | m + 1 => by
    rcases fd_cases g a v m with ⟨h1, h2⟩ | ⟨k, h1, h2, h3, h4, h5⟩
    · cases hw : W g a (m + 1) v with
      | true =>
        refine .inr ⟨m + 1, by omega, Nat.le_refl _, ?_, hw, fun j hj hl => h2 j hj (by omega)⟩
        rw [fd, if_pos ⟨by omega, hw⟩]
      | false =>
        refine .inl ⟨?_, fun k hk hl => ?_⟩
        · rw [fd, if_neg (by rw [hw]; simp), h1]
        · by_cases h : k = m + 1
          · rw [h]; exact hw
          · exact h2 k hk (by omega)
    · refine .inr ⟨k, h1, by omega, ?_, h4, h5⟩
      rw [fd, if_neg (by omega), h3]

def tabN (f : Nat → Int) : List Int := (List.range 20).map f
@[simp] theorem tabN_len (f : Nat → Int) : (tabN f).length = 20 := by simp [tabN]
theorem tabN_at (f : Nat → Int) {i : Nat} (h : i < 20) : (tabN f)[i]? = some (f i) := by
  unfold tabN
  rw [List.getElem?_map, List.getElem?_range h]
  rfl
theorem tabN_of {L : List Int} {f : Nat → Int} (h1 : L.length = 20) (h2 : ∀ i, i < 20 → L[i]? = some (f i)) : L = tabN f := by
  apply List.ext_getElem?
  intro i
  by_cases hi : i < 20
  · rw [h2 i hi, tabN_at f hi]
  · rw [List.getElem?_eq_none (by omega), List.getElem?_eq_none (by rw [tabN_len]; omega)]
theorem tabN_congr {f h : Nat → Int} (e : ∀ i, i < 20 → f i = h i) : tabN f = tabN h :=
  tabN_of (by simp) fun i hi => by rw [tabN_at f hi, e i hi]
theorem tabN_set (f : Nat → Int) {k : Nat} (hk : k < 20) (x : Int) : (tabN f).set k x = tabN fun u => if u = k then x else f u :=
  tabN_of (by simp) fun i hi => by
    rw [List.getElem?_set, tabN_at f hi]
    by_cases h : k = i
    · rw [if_pos h, if_pos (by rw [tabN_len]; omega), if_pos h.symm]
    · rw [if_neg h, if_neg (fun e => h e.symm)]
def unset (L : List Int) : Nat := L.countP fun x => decide (x < 0)
theorem unset_le (L : List Int) : unset L ≤ L.length := List.countP_le_length
theorem unset_set {L : List Int} {k : Nat} {y x : Int} (hk : L[k]? = some y) (hy : y < 0) (hx : 0 ≤ x) : unset (L.set k x) + 1 = unset L := by
  unfold unset
  obtain ⟨hl, he⟩ := List.getElem?_eq_some_iff.1 hk
  have h1 := List.countP_set (p := fun x : Int => decide (x < 0)) (a := x) hl
  have h2 : 0 < L.countP fun x => decide (x < 0) := by
    rw [List.countP_pos_iff]
    exact ⟨L[k], List.getElem_mem hl, by rw [he]; simpa using hy⟩
  rw [he, if_pos (by simpa using hy), if_neg (by simp; omega)] at h1
  omega

/-- what the search holds while it visits -/
def Vis (f : Nat → Int) (d : Int) (h : Nat → Bool) (c : Nat) (p : List Int × List Int) : Prop :=
  p.1 = tabN (fun u => if h u = true then d else f u) ∧ (∀ x, x ∈ p.2 ↔ ∃ u : Nat, x = u ∧ u < 20 ∧ h u = true) ∧ p.2.length + unset p.1 = c
theorem Vis.cong {f : Nat → Int} {d : Int} {h h' : Nat → Bool} {c : Nat} {p : List Int × List Int} (hv : Vis f d h c p) (e : ∀ u, u < 20 → h u = h' u) : Vis f d h' c p := by
  refine ⟨by rw [hv.1]; exact tabN_congr fun i hi => by rw [e i hi], fun x => ?_, hv.2.2⟩
  rw [hv.2.1]
  constructor
  · rintro ⟨u, h1, h2, h3⟩
    exact ⟨u, h1, h2, by rw [← e u h2]; exact h3⟩
  · rintro ⟨u, h1, h2, h3⟩
    exact ⟨u, h1, h2, by rw [e u h2]; exact h3⟩

theorem inner63 {N : Nat} (hN : bigN N) (g : Nat → Nat → Bool) (f : Nat → Int) {a b : Nat} (ha : a < 20) (hb : b < 20) {d : Int} (hd : 0 < d) (h : Nat → Bool) {c : Nat} (hc : c ≤ 20) (p : List Int × List Int) (hv : Vis f d h c p) :
    ∃ r, iterN (σ := ((List Int) × (List Int) × Int)) (ρ := ((List Int) × (List Int))) (fun ((l1348, l1349, v1350) : ((List Int) × (List Int) × Int)) =>
      if v1350 < 20 then
        Option.bind (α := Bool) ((arrI v1350 20).bind fun k1399 => (arrI (b : Int) 20).bind fun k1400 => ((tab g)[k1399 * 20 + k1400]?).bind fun x1401 => if x1401 = true then (l1348[k1399]?).bind fun x1403 => some (decide (x1403 < 0)) else some false) fun (v1398 : Bool) =>
        if v1398 = true then (arrI v1350 20).bind fun k1405 => (setN l1348 (k1405) d).bind fun l1406 => (appL 8 l1349 [v1350]).bind fun _ => (chkI (v1350 + 1)).bind fun v1408 => some (.inl (l1406, (l1349 ++ [v1350]), v1408))
        else (chkI (v1350 + 1)).bind fun v1409 => some (.inl (l1348, l1349, v1409))
      else some (.inr (l1348, l1349))) N (p.1, p.2, (a : Int)) = some r ∧ Vis f d (fun u => h u || (decide (a ≤ u) && (g u b && decide (f u < 0)))) c r := by
  refine iter_post _ (fun s => 20 - s.2.2.toNat) (fun s => ∃ k : Nat, s.2.2 = (k : Int) ∧ a ≤ k ∧ k ≤ 20 ∧ Vis f d (fun u => h u || (decide (a ≤ u ∧ u < k) && (g u b && decide (f u < 0)))) c (s.1, s.2.1)) _ ?_ N _ ?_ ?_
  · rintro ⟨L, nx, v⟩ ⟨k, hk, hak, hk20, hvis⟩
    have hk : v = k := hk
    subst hk
    simp only []
    by_cases hlt : k < 20
    · left
      rw [if_pos (by omega), arrI_nat hlt, Option.bind_some, arrI_nat hb, Option.bind_some, tab_get g hlt hb, Option.bind_some]
      have hL : L = tabN _ := hvis.1
      have hLk := tabN_at (fun u => if (h u || (decide (a ≤ u ∧ u < k) && (g u b && decide (f u < 0)))) = true then d else f u) hlt
      rw [← hL] at hLk
      have hself : (h k || (decide (a ≤ k ∧ k < k) && (g k b && decide (f k < 0)))) = h k := by simp
      rw [hself] at hLk
      by_cases hcond : g k b = true ∧ h k = false ∧ f k < 0
      · obtain ⟨hg, hh, hf⟩ := hcond
        have hLk : L[k]? = some (f k) := by rw [hLk, hh]; rfl
        have hun := unset_set hLk hf (show 0 ≤ d by omega)
        have hcnt : nx.length + unset L = c := hvis.2.2
        rw [if_pos hg, hLk, Option.bind_some, Option.bind_some, if_pos (by simpa using hf), Option.bind_some]
        unfold setN
        rw [if_pos (by rw [hL, tabN_len]; exact hlt), Option.bind_some, appL_of (by simp only [List.length_cons, List.length_nil]; exact Nat.le_trans (Nat.mul_le_mul_right 8 (show nx.length + (0 + 1) ≤ 30 by omega)) (by decide)), Option.bind_some, chkI_20 hlt, Option.bind_some]
        refine ⟨_, rfl, ⟨k + 1, by simp, by omega, by omega, ?_, ?_, ?_⟩, by simp; omega⟩
        · show L.set k d = _
          rw [hL, tabN_set _ hlt]
          refine tabN_congr fun u hu => ?_
          by_cases huk : u = k
          · subst huk
            simp [hg, hf, hak]
          · rw [if_neg huk]
            have : decide (a ≤ u ∧ u < k) = decide (a ≤ u ∧ u < k + 1) := decide_eq_decide.2 (by omega)
            simp only [this]
        · intro x
          show x ∈ nx ++ [(k : Int)] ↔ _
          rw [List.mem_append, hvis.2.1, List.mem_singleton]
          constructor
          · rintro (⟨u, h1, h2, h3⟩ | rfl)
            · refine ⟨u, h1, h2, ?_⟩
              rw [Bool.or_eq_true] at h3 ⊢
              rcases h3 with h3 | h3
              · exact .inl h3
              · rw [Bool.and_eq_true, decide_eq_true_iff] at h3 ⊢
                exact .inr ⟨⟨h3.1.1, by omega⟩, h3.2⟩
            · exact ⟨k, rfl, hlt, by simp [hg, hf, hak]⟩
          · rintro ⟨u, h1, h2, h3⟩
            by_cases huk : u = k
            · exact .inr (by rw [h1, huk])
            · refine .inl ⟨u, h1, h2, ?_⟩
              simp only []
              have : decide (a ≤ u ∧ u < k) = decide (a ≤ u ∧ u < k + 1) := decide_eq_decide.2 (by omega)
              rw [this]
              exact h3
        · show (nx ++ [(k : Int)]).length + unset (L.set k d) = c
          rw [List.length_append]
          simp
          omega
      · have hb2 : (if g k b = true then (L[k]?).bind fun x1403 => some (decide (x1403 < 0)) else some false) = some false := by
          by_cases hg : g k b = true
          · rw [if_pos hg, hLk, Option.bind_some]
            cases hh : h k with
            | true => simp; omega
            | false => simp; exact Int.not_lt.1 fun hf => hcond ⟨hg, hh, hf⟩
          · rw [if_neg hg]
        rw [hb2, Option.bind_some, if_neg (by simp), chkI_20 hlt, Option.bind_some]
        refine ⟨_, rfl, ⟨k + 1, by simp, by omega, by omega, hvis.cong fun u hu => ?_⟩, by simp; omega⟩
        by_cases huk : u = k
        · subst huk
          rw [hself]
          by_cases hg : g u b = true
          · cases hh : h u with
            | true => simp
            | false =>
              have : ¬ f u < 0 := fun hf => hcond ⟨hg, hh, hf⟩
              simp [this]
          · simp [hg]
        · have : decide (a ≤ u ∧ u < k) = decide (a ≤ u ∧ u < k + 1) := decide_eq_decide.2 (by omega)
          rw [this]
    · right
      rw [if_neg (by omega)]
      refine ⟨_, rfl, hvis.cong fun u hu => ?_⟩
      have : decide (a ≤ u ∧ u < k) = decide (a ≤ u) := decide_eq_decide.2 (by omega)
      rw [this]
  · exact ⟨a, rfl, Nat.le_refl _, by omega, hv.cong fun u hu => by
      have : decide (a ≤ u ∧ u < a) = false := decide_eq_false (by omega)
      rw [this]; simp⟩
  · unfold bigN at hN
    omega

/-- found on a level -/
def lev (g : Nat → Nat → Bool) (a : Nat) (f : Nat → Int) (F : List Int) (u : Nat) : Bool := decide (a ≤ u) && (decide (f u < 0) && F.any fun x => g u x.toNat)
theorem middle63 {N : Nat} (hN : bigN N) (g : Nat → Nat → Bool) (f : Nat → Int) {a : Nat} (ha : a < 20) {d : Int} (hd : 0 < d) {F : List Int} (hF : ∀ x ∈ F, ∃ b : Nat, x = b ∧ b < 20) (hFl : F.length ≤ 20) {c : Nat} (hc : c ≤ 20) (h0 : unset (tabN f) = c) :
    ∃ r, iterN (σ := ((List Int) × (List Int) × Int)) (ρ := ((List Int) × (List Int))) (fun ((l1151, l1152, v1153) : ((List Int) × (List Int) × Int)) =>
      if v1153 < (F.length : Int) then (idx F v1153).bind fun x1328 =>
        Option.bind (α := ((List Int) × (List Int))) (iterN (σ := ((List Int) × (List Int) × Int)) (ρ := ((List Int) × (List Int))) (fun ((l1348, l1349, v1350) : ((List Int) × (List Int) × Int)) =>
          if v1350 < 20 then
            Option.bind (α := Bool) ((arrI v1350 20).bind fun k1399 => (arrI x1328 20).bind fun k1400 => ((tab g)[k1399 * 20 + k1400]?).bind fun x1401 => if x1401 = true then (l1348[k1399]?).bind fun x1403 => some (decide (x1403 < 0)) else some false) fun (v1398 : Bool) =>
            if v1398 = true then (arrI v1350 20).bind fun k1405 => (setN l1348 (k1405) d).bind fun l1406 => (appL 8 l1349 [v1350]).bind fun _ => (chkI (v1350 + 1)).bind fun v1408 => some (.inl (l1406, (l1349 ++ [v1350]), v1408))
            else (chkI (v1350 + 1)).bind fun v1409 => some (.inl (l1348, l1349, v1409))
          else some (.inr (l1348, l1349))) N (l1151, l1152, (a : Int))) fun ((l1390, l1391) : ((List Int) × (List Int))) =>
        (chkI (v1153 + 1)).bind fun v1410 => some (.inl (l1390, l1391, v1410))
      else some (.inr (l1151, l1152))) N (tabN f, ([] : List Int), 0) = some r ∧ Vis f d (lev g a f F) c r := by
  refine iter_post _ (fun s => F.length - s.2.2.toNat) (fun s => ∃ k : Nat, s.2.2 = (k : Int) ∧ k ≤ F.length ∧ Vis f d (lev g a f (F.take k)) c (s.1, s.2.1)) _ ?_ N _ ?_ ?_
  · rintro ⟨L, nx, v⟩ ⟨k, hk, hkl, hvis⟩
    have hk : v = (k : Int) := hk
    subst hk
    simp only []
    by_cases hlt : k < F.length
    · left
      obtain ⟨x, hx⟩ := getAt hlt
      obtain ⟨b, rfl, hb⟩ := hF x (List.mem_of_getElem? hx)
      obtain ⟨r, hr, hv⟩ := inner63 hN g f ha hb hd (lev g a f (F.take k)) hc (L, nx) hvis
      rw [if_pos (by omega), idx_nat hx, Option.bind_some, hr, Option.bind_some]
      rw [chkI_of (by omega) (by omega), Option.bind_some]
      refine ⟨_, rfl, ⟨k + 1, by simp, by omega, hv.cong fun u hu => ?_⟩, by simp; omega⟩
      unfold lev
      rw [take_snoc hx, List.any_append, List.any_cons, List.any_nil, Bool.or_false, Int.toNat_natCast]
      cases decide (a ≤ u) <;> cases decide (f u < 0) <;> cases ((F.take k).any fun x => g u x.toNat) <;> cases g u b <;> rfl
    · right
      rw [if_neg (by omega)]
      have : k = F.length := by omega
      subst this
      rw [List.take_length] at hvis
      exact ⟨_, rfl, hvis⟩
  · refine ⟨0, rfl, Nat.zero_le _, ?_, fun x => ?_, ?_⟩
    · exact tabN_congr fun i hi => by simp [lev]
    · simp [lev]
    · simpa using h0
  · unfold bigN at hN
    omega

/-- on the search's front -/
def onF (g : Nat → Nat → Bool) (a m u : Nat) : Prop := (m = 0 ∧ u = a) ∨ (1 ≤ m ∧ fd g a m u = (m : Int))
/-- distances -/
def Dist (g : Nat → Nat → Bool) (a : Nat) (f : Nat → Int) : Prop :=
  ∀ u, u < 20 → (f u = -1 ∧ ∀ k, 1 ≤ k → W g a k u = false) ∨ ∃ k : Nat, 1 ≤ k ∧ k ≤ 30 ∧ f u = (k : Int) ∧ W g a k u = true ∧ ∀ j, 1 ≤ j → j < k → W g a j u = false

theorem least {p : Nat → Bool} {k : Nat} (hk : 1 ≤ k) (h : p k = true) : ∃ j, 1 ≤ j ∧ j ≤ k ∧ p j = true ∧ ∀ i, 1 ≤ i → i < j → p i = false := by
  induction k using Nat.strongRecOn with
  | ind k ih =>
    by_cases hs : ∃ i, 1 ≤ i ∧ i < k ∧ p i = true
    · obtain ⟨i, h1, h2, h3⟩ := hs
      obtain ⟨j, h4, h5, h6, h7⟩ := ih i h2 h1 h3
      exact ⟨j, h4, by omega, h6, h7⟩
    · refine ⟨k, hk, Nat.le_refl _, h, fun i h1 h2 => ?_⟩
      cases hp : p i with
      | false => rfl
      | true => exact absurd ⟨i, h1, h2, hp⟩ hs
theorem least_pred {g : Nat → Nat → Bool} {a k u : Nat} (hk : 2 ≤ k) (h : W g a k u = true) (hl : ∀ i, 1 ≤ i → i < k → W g a i u = false) : ∃ w, w < 20 ∧ W g a (k - 1) w = true ∧ ∀ i, 1 ≤ i → i < k - 1 → W g a i w = false := by
  obtain ⟨m, rfl⟩ : ∃ m, k = m + 1 := ⟨k - 1, by omega⟩
  obtain ⟨h1, h2, w, hw, h3, h4⟩ := W_succ.1 h
  refine ⟨w, hw, h4, fun i hi hl2 => ?_⟩
  cases hp : W g a i w with
  | false => rfl
  | true =>
    have := hl (i + 1) (by omega) (by omega)
    rw [W_succ.2 ⟨h1, h2, w, hw, h3, hp⟩] at this
    cases this
theorem no_more {g : Nat → Nat → Bool} {a m : Nat} (hm : 1 ≤ m) (h : ∀ u, u < 20 → ¬ fd g a m u = (m : Int)) : ∀ (n k u : Nat), k = m + n → u < 20 → W g a k u = true → ¬ ∀ i, 1 ≤ i → i < k → W g a i u = false := by
  intro n
  induction n with
  | zero =>
    intro k u hk hu hw hl
    have : k = m := by omega
    subst this
    rcases fd_cases g a u k with ⟨_, h2⟩ | ⟨j, h1, h2, h3, h4, h5⟩
    · rw [h2 k hm (Nat.le_refl _)] at hw
      cases hw
    · by_cases hj : j = k
      · exact h u hu (by rw [h3, hj])
      · rw [hl j h1 (by omega)] at h4
        cases h4
  | succ n ih =>
    intro k u hk hu hw hl
    obtain ⟨w, hw20, h1, h2⟩ := least_pred (by omega) hw hl
    exact ih (k - 1) w (by omega) hw20 h1 h2

theorem dist_of {g : Nat → Nat → Bool} {a m : Nat} (ha : a < 20) (hm : m ≤ 30) (h : ∀ u, u < 20 → ¬ onF g a m u) : Dist g a (fd g a m) := by
  have hm1 : 1 ≤ m := by
    by_cases h0 : m = 0
    · exact absurd (.inl ⟨h0, rfl⟩) (h a ha)
    · omega
  intro u hu
  rcases fd_cases g a u m with ⟨h1, h2⟩ | ⟨k, h1, h2, h3, h4, h5⟩
  · refine .inl ⟨h1, fun k hk => ?_⟩
    cases hw : W g a k u with
    | false => rfl
    | true =>
      obtain ⟨j, h3, h4, h5, h6⟩ := least (p := fun k => W g a k u) hk hw
      by_cases hj : j ≤ m
      · rw [h2 j h3 hj] at h5
        cases h5
      · exact absurd h6 (no_more hm1 (fun u hu e => h u hu (.inr ⟨hm1, e⟩)) (j - m) j u (by omega) hu h5)
  · exact .inr ⟨k, h1, by omega, h3, h4, h5⟩

/-- one level is right -/
theorem lev_fd {g : Nat → Nat → Bool} {a m : Nat} {F : List Int} (hF : ∀ x, x ∈ F ↔ ∃ u : Nat, x = u ∧ u < 20 ∧ onF g a m u) {u : Nat} (hu : u < 20) : lev g a (fd g a m) F u = true ↔ fd g a m u < 0 ∧ W g a (m + 1) u = true := by
  unfold lev
  rw [Bool.and_eq_true, Bool.and_eq_true, decide_eq_true_iff, decide_eq_true_iff, List.any_eq_true]
  constructor
  · rintro ⟨h1, h2, x, hx, h3⟩
    obtain ⟨w, rfl, hw, ho⟩ := (hF x).1 hx
    refine ⟨h2, W_succ.2 ⟨h1, hu, w, hw, h3, ?_⟩⟩
    rcases ho with ⟨rfl, rfl⟩ | ⟨hm, ho⟩
    · simp [W]
    · rcases fd_cases g a w m with ⟨e, _⟩ | ⟨k, _, _, e, e2, _⟩
      · omega
      · have : k = m := by omega
        rw [← this]; exact e2
  · rintro ⟨h2, h3⟩
    obtain ⟨h1, _, w, hw, h4, h5⟩ := W_succ.1 h3
    refine ⟨h1, h2, (w : Int), (hF _).2 ⟨w, rfl, hw, ?_⟩, h4⟩
    by_cases hm : m = 0
    · subst hm
      exact .inl ⟨rfl, by simpa [W] using h5⟩
    · refine .inr ⟨by omega, ?_⟩
      rcases fd_cases g a w m with ⟨_, e⟩ | ⟨k, e1, e2, e3, e4, _⟩
      · rw [e m (by omega) (Nat.le_refl _)] at h5
        cases h5
      · by_cases hk : k = m
        · rw [e3, hk]
        · rcases fd_cases g a u m with ⟨_, e⟩ | ⟨j, _, _, e5, _⟩
          · have := e (k + 1) (by omega) (by omega)
            rw [W_succ.2 ⟨h1, hu, w, hw, h4, e4⟩] at this
            cases this
          · omega

theorem outer63 {N : Nat} (hN : bigN N) (g : Nat → Nat → Bool) {a : Nat} (ha : a < 20) :
    ∃ L, iterN (σ := ((List Int) × (List Int) × Int)) (ρ := List Int) (fun ((l367, l368, v369) : ((List Int) × (List Int) × Int)) =>
      if (l368.length : Int) > 0 then
        Option.bind (α := ((List Int) × (List Int))) (iterN (σ := ((List Int) × (List Int) × Int)) (ρ := ((List Int) × (List Int))) (fun ((l1151, l1152, v1153) : ((List Int) × (List Int) × Int)) =>
          if v1153 < (l368.length : Int) then (idx l368 v1153).bind fun x1328 =>
            Option.bind (α := ((List Int) × (List Int))) (iterN (σ := ((List Int) × (List Int) × Int)) (ρ := ((List Int) × (List Int))) (fun ((l1348, l1349, v1350) : ((List Int) × (List Int) × Int)) =>
              if v1350 < 20 then
                Option.bind (α := Bool) ((arrI v1350 20).bind fun k1399 => (arrI x1328 20).bind fun k1400 => ((tab g)[k1399 * 20 + k1400]?).bind fun x1401 => if x1401 = true then (l1348[k1399]?).bind fun x1403 => some (decide (x1403 < 0)) else some false) fun (v1398 : Bool) =>
                if v1398 = true then (arrI v1350 20).bind fun k1405 => (setN l1348 (k1405) v369).bind fun l1406 => (appL 8 l1349 [v1350]).bind fun _ => (chkI (v1350 + 1)).bind fun v1408 => some (.inl (l1406, (l1349 ++ [v1350]), v1408))
                else (chkI (v1350 + 1)).bind fun v1409 => some (.inl (l1348, l1349, v1409))
              else some (.inr (l1348, l1349))) N (l1151, l1152, (a : Int))) fun ((l1390, l1391) : ((List Int) × (List Int))) =>
            (chkI (v1153 + 1)).bind fun v1410 => some (.inl (l1390, l1391, v1410))
          else some (.inr (l1151, l1152))) N (l367, ([] : List Int), 0)) fun ((l1325, l1326) : ((List Int) × (List Int))) =>
        (chkI (v369 + 1)).bind fun v1411 => some (.inl (l1325, l1326, v1411))
      else some (.inr l367)) N (tabN (fun _ => -1), ([(a : Int)] : List Int), 1) = some L ∧ ∃ f, L = tabN f ∧ Dist g a f := by
  refine iter_post _ (fun s => unset s.1 + (if s.2.1 = [] then 0 else 1)) (fun s => ∃ m : Nat, s.2.2 = (m : Int) + 1 ∧ s.1 = tabN (fd g a m) ∧ (∀ x : Int, x ∈ s.2.1 ↔ ∃ u : Nat, x = (u : Int) ∧ u < 20 ∧ onF g a m u) ∧ m + unset s.1 ≤ 20 + (if s.2.1 = [] then 1 else 0) ∧ s.2.1.length ≤ 20) (fun L => ∃ f, L = tabN f ∧ Dist g a f) ?_ N _ ?_ ?_
  · rintro ⟨L, F, d⟩ ⟨m, hd, hL, hF, hm, hl⟩
    simp only [] at hd hL hF hm hl ⊢
    subst hd hL
    by_cases hne : F = []
    · right
      subst hne
      rw [if_neg (by simp)]
      rw [if_pos rfl] at hm
      exact ⟨_, rfl, _, rfl, dist_of ha (by omega) fun u hu ho => by
        have := (hF (u : Int)).2 ⟨u, rfl, hu, ho⟩
        cases this⟩
    · left
      have hpos : 0 < F.length := List.length_pos_iff.2 hne
      rw [if_neg hne] at hm
      have hun := unset_le (tabN (fd g a m))
      rw [tabN_len] at hun
      obtain ⟨r, hr, hv⟩ := middle63 hN g (fd g a m) ha (d := (m : Int) + 1) (by omega) (F := F) (fun x hx => by
        obtain ⟨u, h1, h2, _⟩ := (hF x).1 hx
        exact ⟨u, h1, h2⟩) hl hun rfl
      rw [if_pos (by omega), hr, Option.bind_some]
      rw [chkI_of (by omega) (by omega), Option.bind_some]
      obtain ⟨L', nx⟩ := r
      obtain ⟨hv1, hv2, hv3⟩ := hv
      simp only [] at hv1 hv2 hv3
      have hL' : L' = tabN (fd g a (m + 1)) := by
        rw [hv1]
        refine tabN_congr fun u hu => ?_
        rw [fd]
        by_cases hh : lev g a (fd g a m) F u = true
        · rw [if_pos hh, if_pos ((lev_fd hF hu).1 hh)]
          rfl
        · rw [if_neg hh, if_neg (fun h => hh ((lev_fd hF hu).2 h))]
      refine ⟨(L', nx, (m : Int) + 1 + 1), rfl, ⟨m + 1, by simp, hL', fun x => ?_, ?_, by simp only []; omega⟩, ?_⟩
      · simp only []
        rw [hv2]
        constructor
        · rintro ⟨u, h1, h2, h3⟩
          refine ⟨u, h1, h2, .inr ⟨by omega, ?_⟩⟩
          rw [fd, if_pos ((lev_fd hF h2).1 h3)]
        · rintro ⟨u, h1, h2, h3⟩
          refine ⟨u, h1, h2, ?_⟩
          rcases h3 with ⟨h3, _⟩ | ⟨_, h3⟩
          · omega
          · refine (lev_fd hF h2).2 ?_
            rw [fd] at h3
            by_cases hh : fd g a m u < 0 ∧ W g a (m + 1) u = true
            · exact hh
            · rw [if_neg hh] at h3
              rcases fd_cases g a u m with ⟨e, _⟩ | ⟨k, _, _, e, _⟩ <;> omega
      · simp only []
        by_cases hn : nx = []
        · subst hn
          rw [if_pos rfl]
          simp at hv3
          omega
        · have := List.length_pos_iff.2 hn
          rw [if_neg hn]
          omega
      · simp only []
        rw [if_neg hne]
        by_cases hn : nx = []
        · subst hn
          rw [if_pos rfl]
          simp at hv3
          omega
        · have := List.length_pos_iff.2 hn
          rw [if_neg hn]
          omega
  · refine ⟨0, by simp, rfl, fun x => ?_, ?_, by simp⟩
    · simp only [List.mem_singleton]
      constructor
      · intro h
        exact ⟨a, h, ha, .inl ⟨rfl, rfl⟩⟩
      · rintro ⟨u, h1, h2, h3⟩
        rcases h3 with ⟨_, h3⟩ | ⟨h3, _⟩
        · rw [h1, h3]
        · omega
    · have := unset_le (tabN (fun _ => -1))
      rw [tabN_len] at this
      simp
      omega
  · have := unset_le (tabN (fun _ => -1))
    rw [tabN_len] at this
    unfold bigN at hN
    simp
    omega
theorem init63 {N : Nat} (hN : bigN N) :
    iterN (σ := ((List Int) × Int)) (ρ := List Int) (fun ((l4, v5) : ((List Int) × Int)) =>
      if v5 < 20 then (arrI v5 20).bind fun k18 => (setN l4 (k18) (-1)).bind fun l19 => (chkI (v5 + 1)).bind fun v20 => some (.inl (l19, v20))
      else some (.inr l4)) N ((List.replicate 20 0), 0) = some (tabN fun _ => -1) := by
  obtain ⟨r, hr, hp⟩ := iter_post (fun ((l4, v5) : ((List Int) × Int)) =>
      if v5 < 20 then (arrI v5 20).bind fun k18 => (setN l4 (k18) (-1)).bind fun l19 => (chkI (v5 + 1)).bind fun v20 => some (.inl (l19, v20))
      else some (.inr l4)) (fun s => 20 - s.2.toNat) (fun s => ∃ k : Nat, s.2 = (k : Int) ∧ k ≤ 20 ∧ s.1.length = 20 ∧ ∀ i, i < k → s.1[i]? = some (-1)) (fun r => r = tabN fun _ => -1) (by
    rintro ⟨L, v⟩ ⟨k, hk, hk20, hl, hv⟩
    simp only [] at hk hl hv
    subst hk
    by_cases hlt : k < 20
    · left
      simp only []
      rw [if_pos (by omega), arrI_nat hlt, Option.bind_some]
      unfold setN
      rw [if_pos (by omega), Option.bind_some, chkI_20 hlt, Option.bind_some]
      refine ⟨_, rfl, ⟨k + 1, by simp, by omega, by simpa using hl, fun i hi => ?_⟩, by simp; omega⟩
      simp only []
      rw [List.getElem?_set]
      by_cases h : k = i
      · rw [if_pos h, if_pos (by omega)]
      · rw [if_neg h]
        exact hv i (by omega)
    · right
      simp only []
      rw [if_neg (by omega)]
      exact ⟨_, rfl, tabN_of hl fun i hi => hv i (by omega)⟩) N ((List.replicate 20 0), 0) ⟨0, rfl, by omega, by simp, fun i hi => by omega⟩ (by unfold bigN at hN; simp; omega)
  rw [hr, hp]

def First (a : Nat) (P : Nat → Bool) (b : Nat) : Prop := a < b ∧ b < 20 ∧ P b = true ∧ ∀ c, a < c → c < b → P c = false
theorem First.uniq {a : Nat} {P : Nat → Bool} {b c : Nat} (h1 : First a P b) (h2 : First a P c) : b = c := by
  rcases Nat.lt_trichotomy b c with h | h | h
  · have := h2.2.2.2 b h1.1 h
    rw [h1.2.2.1] at this
    cases this
  · exact h
  · have := h1.2.2.2 c h2.1 h
    rw [h2.2.2.1] at this
    cases this
theorem first_of {a w : Nat} {P : Nat → Bool} (h1 : a < w) (h2 : w < 20) (h3 : P w = true) : ∃ b, First a P b := by
  induction w using Nat.strongRecOn with
  | ind w ih =>
    by_cases hs : ∃ c, a < c ∧ c < w ∧ P c = true
    · obtain ⟨c, h4, h5, h6⟩ := hs
      exact ih c h5 h4 (by omega) h6
    · refine ⟨w, h1, h2, h3, fun c h4 h5 => ?_⟩
      cases hp : P c with
      | false => rfl
      | true => exact absurd ⟨c, h4, h5, hp⟩ hs
/-- the first from a on that is wanted -/
noncomputable def pick20 (a : Nat) (P : Nat → Bool) : Nat := open Classical in if h : ∃ b, First a P b then h.choose else 0
theorem pick20_of {a b : Nat} {P : Nat → Bool} (h : First a P b) : pick20 a P = b := by
  have hx : ∃ b, First a P b := ⟨b, h⟩
  unfold pick20
  rw [dif_pos hx]
  exact hx.choose_spec.uniq h
noncomputable def gr (g : Nat → Nat → Bool) (a : Nat) (q : Nat → Nat → Bool) : Nat → Nat → List Int
  | 0, _ => []
  | r + 1, u => ((pick20 a fun b => g u b && q (r + 1) b : Nat) : Int) :: gr g a q r (pick20 a fun b => g u b && q (r + 1) b)
theorem gr_len (g : Nat → Nat → Bool) (a : Nat) (q : Nat → Nat → Bool) : ∀ r u, (gr g a q r u).length = r
  | 0, _ => rfl
  | r + 1, u => by rw [gr, List.length_cons, gr_len]
def isD (f : Nat → Int) (r b : Nat) : Bool := decide (f b = (r : Int))

theorem Dist.of_W {g : Nat → Nat → Bool} {a : Nat} {f : Nat → Int} (hf : Dist g a f) {u k : Nat} (hu : u < 20) (hk : 1 ≤ k) (hw : W g a k u = true) (hl : ∀ j, 1 ≤ j → j < k → W g a j u = false) : f u = (k : Int) := by
  rcases hf u hu with ⟨_, h⟩ | ⟨j, h1, _, h3, h4, h5⟩
  · rw [h k hk] at hw
    cases hw
  · rcases Nat.lt_trichotomy j k with h | h | h
    · rw [hl j h1 h] at h4
      cases h4
    · rw [h3, h]
    · rw [h5 k hk h] at hw
      cases hw
theorem Dist.next {g : Nat → Nat → Bool} {a : Nat} {f : Nat → Int} (hf : Dist g a f) {u r k : Nat} (hu : u < 20) (hr : 1 ≤ r) (hfu : f u = ((r + 1 : Nat) : Int)) (hfa : f a = (k : Int)) (hk : r < k) : ∃ b, First a (fun b => g u b && isD f r b) b := by
  rcases hf u hu with ⟨h, _⟩ | ⟨j, h1, _, h3, h4, h5⟩
  · omega
  · have hj : j = r + 1 := by omega
    subst hj
    have hw1 := h4
    obtain ⟨ha1, _, w', hw', hg', hW'⟩ := W_succ.1 hw1
    have hlw : ∀ i, 1 ≤ i → i < r → W g a i w' = false := by
      intro i hi hir
      cases hp : W g a i w' with
      | false => rfl
      | true =>
        have := h5 (i + 1) (by omega) (by omega)
        rw [W_succ.2 ⟨ha1, hu, w', hw', hg', hp⟩] at this
        cases this
    have hfw := hf.of_W hw' hr hW' hlw
    have haw : a ≤ w' := by
      obtain ⟨m, rfl⟩ : ∃ m, r = m + 1 := ⟨r - 1, by omega⟩
      exact (W_succ.1 hW').1
    have hne : w' ≠ a := by
      intro e
      rw [e] at hfw
      omega
    exact first_of (w := w') (by omega) hw' (by simp [isD, hg', hfw])

theorem step63 {N : Nat} (hN : bigN N) (g : Nat → Nat → Bool) {a : Nat} (f : Nat → Int) {u r : Nat} (hu : u < 20) (hr : r ≤ 30) (ha : a < 20) {b : Nat} (hb : First a (fun b => g u b && isD f r b) b) :
    iterN (σ := Int) (ρ := Int) (fun (v1652 : Int) =>
      if v1652 < 20 then
        Option.bind (α := Bool) ((arrI (u : Int) 20).bind fun k1695 => (arrI v1652 20).bind fun k1696 => ((tab g)[k1695 * 20 + k1696]?).bind fun x1697 => if x1697 = true then ((tabN f)[k1696]?).bind fun x1699 => (chkI (((r + 1 : Nat) : Int) - 1)).bind fun v1700 => some (x1699 == v1700) else some false) fun (v1694 : Bool) =>
        if v1694 = true then some (.inr v1652) else (chkI (v1652 + 1)).bind fun v1702 => some (.inl v1702)
      else some (.inr (u : Int))) N ((a : Int) + 1) = some (b : Int) := by
  have hb0 := hb
  obtain ⟨hb1, hb2, hb3, hb4⟩ := hb
  obtain ⟨x, hx, hp⟩ := iter_post (fun (v1652 : Int) =>
      if v1652 < 20 then
        Option.bind (α := Bool) ((arrI (u : Int) 20).bind fun k1695 => (arrI v1652 20).bind fun k1696 => ((tab g)[k1695 * 20 + k1696]?).bind fun x1697 => if x1697 = true then ((tabN f)[k1696]?).bind fun x1699 => (chkI (((r + 1 : Nat) : Int) - 1)).bind fun v1700 => some (x1699 == v1700) else some false) fun (v1694 : Bool) =>
        if v1694 = true then some (.inr v1652) else (chkI (v1652 + 1)).bind fun v1702 => some (.inl v1702)
      else some (.inr (u : Int))) (fun v => 20 - v.toNat) (fun v => ∃ k : Nat, v = (k : Int) ∧ a < k ∧ k ≤ b) (fun x => x = (b : Int)) (by
    rintro v ⟨k, rfl, hk1, hk2⟩
    have hk20 : k < 20 := by omega
    have e : (if g u k = true then ((tabN f)[k]?).bind fun x1699 => (chkI (((r + 1 : Nat) : Int) - 1)).bind fun v1700 => some (x1699 == v1700) else some false) = some (g u k && isD f r k) := by
      rw [tabN_at f hk20, Option.bind_some, chkI_of (by omega) (by omega), Option.bind_some]
      unfold isD
      have e2 : (f k == ((r + 1 : Nat) : Int) - 1) = decide (f k = (r : Int)) := by
        rw [Bool.eq_iff_iff, beq_iff_eq, decide_eq_true_iff]
        omega
      rw [e2]
      cases g u k <;> rfl
    rw [if_pos (by omega), arrI_nat hu, Option.bind_some, arrI_nat hk20, Option.bind_some, tab_get g hu hk20, Option.bind_some, e, Option.bind_some]
    by_cases hkb : k = b
    · right
      subst hkb
      rw [if_pos hb3]
      exact ⟨_, rfl, rfl⟩
    · left
      have : (g u k && isD f r k) = false := hb4 k hk1 (by omega)
      rw [this, if_neg (by simp), chkI_20 hk20, Option.bind_some]
      exact ⟨_, rfl, ⟨k + 1, by simp, by omega, by omega⟩, by simp; omega⟩) N ((a : Int) + 1) ⟨a + 1, by simp, by omega, by omega⟩ (by unfold bigN at hN; omega)
  rw [hx, hp]

/-- the cycle that the code finds from a -/
def Cyc (g : Nat → Nat → Bool) (a : Nat) (c : List Int) : Prop :=
  (c = [] ∧ ∀ k, 1 ≤ k → W g a k a = false) ∨ ∃ (f : Nat → Int) (k : Nat), Dist g a f ∧ 1 ≤ k ∧ k ≤ 30 ∧ f a = (k : Int) ∧ c = (a : Int) :: gr g a (isD f) (k - 1) a

theorem d63_eq {N : Nat} (hN : bigN N) (g : Nat → Nat → Bool) {a : Nat} (ha : a < 20) : ∃ c, d63 N (tab g) (a : Int) = some c ∧ Cyc g a c := by
  unfold d63
  rw [init63 hN, Option.bind_some]
  obtain ⟨L, hL, f, rfl, hf⟩ := outer63 hN g ha
  rw [hL, Option.bind_some, arrI_nat ha, Option.bind_some, tabN_at f ha, Option.bind_some]
  rcases hf a ha with ⟨h1, h2⟩ | ⟨k, h1, h2, h3, h4, h5⟩
  · rw [if_pos (by omega)]
    exact ⟨_, rfl, .inl ⟨rfl, h2⟩⟩
  · rw [if_neg (by omega), Option.bind_some, h3]
    obtain ⟨c, hc, hp⟩ := iter_post (fun ((l1485, v1486, v1487) : ((List Int) × Int × Int)) =>
        if v1487 > 1 then (chkI ((a : Int) + 1)).bind fun v1635 =>
          Option.bind (α := Int) (iterN (σ := Int) (ρ := Int) (fun (v1652 : Int) =>
            if v1652 < 20 then
              Option.bind (α := Bool) ((arrI v1486 20).bind fun k1695 => (arrI v1652 20).bind fun k1696 => ((tab g)[k1695 * 20 + k1696]?).bind fun x1697 => if x1697 = true then ((tabN f)[k1696]?).bind fun x1699 => (chkI (v1487 - 1)).bind fun v1700 => some (x1699 == v1700) else some false) fun (v1694 : Bool) =>
              if v1694 = true then some (.inr v1652) else (chkI (v1652 + 1)).bind fun v1702 => some (.inl v1702)
            else some (.inr v1486)) N v1635) fun (v1686 : Int) =>
          (appL 8 l1485 [v1686]).bind fun _ => (chkI (v1487 - 1)).bind fun v1704 => some (.inl ((l1485 ++ [v1686]), v1686, v1704))
        else some (.inr l1485))
      (fun s => s.2.2.toNat) (fun s => ∃ u r : Nat, s.2.1 = (u : Int) ∧ u < 20 ∧ s.2.2 = ((r + 1 : Nat) : Int) ∧ f u = ((r + 1 : Nat) : Int) ∧ s.1.length + r = k ∧ r < k ∧ s.1 ++ gr g a (isD f) r u = (a : Int) :: gr g a (isD f) (k - 1) a)
      (fun c => c = (a : Int) :: gr g a (isD f) (k - 1) a) (by
        rintro ⟨cyc, v1, v2⟩ ⟨u, r, e1, hu, e2, hfu, hlen, hrk, hcat⟩
        simp only [] at e1 e2 hlen hcat
        subst e1 e2
        by_cases hr : 1 ≤ r
        · left
          obtain ⟨b, hb⟩ := hf.next hu hr hfu h3 hrk
          obtain ⟨m, rfl⟩ : ∃ m, r = m + 1 := ⟨r - 1, by omega⟩
          simp only []
          rw [if_pos (by omega), chkI_20 ha, Option.bind_some, step63 hN g f hu (by omega) ha hb, Option.bind_some, appL_of (by simp only [List.length_cons, List.length_nil]; exact Nat.le_trans (Nat.mul_le_mul_right 8 (show cyc.length + (0 + 1) ≤ 60 by omega)) (by decide)), Option.bind_some, chkI_of (by omega) (by omega), Option.bind_some]
          have hfb : f b = ((m + 1 : Nat) : Int) := by
            have := hb.2.2.1
            rw [Bool.and_eq_true] at this
            simpa [isD] using this.2
          refine ⟨_, rfl, ⟨b, m, rfl, hb.2.1, by simp only []; omega, hfb, by simp; omega, by omega, ?_⟩, by simp only []; omega⟩
          rw [← hcat, gr, pick20_of hb]
          simp
        · right
          have : r = 0 := by omega
          subst this
          simp only []
          rw [if_neg (by omega)]
          refine ⟨_, rfl, ?_⟩
          rw [← hcat, gr, List.append_nil]) N (([(a : Int)] : List Int), (a : Int), (k : Int)) ⟨a, k - 1, rfl, ha, by simp only []; omega, by rw [h3]; congr 1; omega, by simp; omega, by omega, rfl⟩ (by unfold bigN at hN; simp only []; omega)
    refine ⟨c, ?_, .inr ⟨f, k, hf, h1, h2, h3, hp⟩⟩
    refine Eq.trans (congrArg (fun o => Option.bind o _) hc) ?_
    rfl
theorem Cyc.least {g : Nat → Nat → Bool} {a : Nat} {c : List Int} (ha : a < 20) (h : Cyc g a c) : (c = [] ∧ ∀ k, 1 ≤ k → W g a k a = false) ∨ (c ≠ [] ∧ 2 ≤ c.length + 1 ∧ W g a c.length a = true ∧ ∀ j, 1 ≤ j → j < c.length → W g a j a = false) := by
  rcases h with h | ⟨f, k, hf, h1, h2, h3, rfl⟩
  · exact .inl h
  · right
    have hl : ((a : Int) :: gr g a (isD f) (k - 1) a).length = k := by
      rw [List.length_cons, gr_len]
      omega
    rw [hl]
    refine ⟨by simp, by omega, ?_⟩
    rcases hf a ha with ⟨h, _⟩ | ⟨j, _, _, h5, h6, h7⟩
    · omega
    · have : j = k := by omega
      subst this
      exact ⟨h6, h7⟩

/-- the best cycle among the first n starts -/
def Best (g : Nat → Nat → Bool) (n : Nat) (l : List Int) : Prop :=
  (l = [] ∧ ∀ a, a < n → ∀ k, 1 ≤ k → W g a k a = false) ∨
  ∃ a, a < n ∧ Cyc g a l ∧ l ≠ [] ∧ (∀ b, b < n → ∀ j, 1 ≤ j → j < l.length → W g b j b = false) ∧ ∀ b, b < a → ∀ j, 1 ≤ j → j ≤ l.length → W g b j b = false

theorem d29_eq {N : Nat} (hN : bigN N) {xs : List Op27} (hs : small xs) :
    (checkH xs ≠ 0 ∧ d29 N xs = some ([], checkH xs)) ∨ (checkH xs = 0 ∧ ∃ l, Best (pN xs) 20 l ∧ d29 N xs = some (if l = [] then ([], 4) else (l, 0))) := by
  unfold d29
  rw [d18_eq hN hs, Option.bind_some]
  by_cases hc : checkH xs = 0
  · right
    refine ⟨hc, ?_⟩
    rw [if_neg (show ¬ ((checkH xs != 0) = true) by simp [hc]), d56_eq hN hc, Option.bind_some, lenL_zero, Option.bind_some, lenL_tab, Option.bind_some]
    obtain ⟨l, hl, hp⟩ := iter_post (fun ((l16, v17) : ((List Int) × Int)) =>
        if v17 < 20 then (lenL 400 (tab (pN xs))).bind fun _ => (d63 N (tab (pN xs)) v17).bind fun r45 =>
          Option.bind (α := Bool) (if (r45.length : Int) > 0 then if ((l16.length : Int) == 0) = true then some true else some (decide ((r45.length : Int) < (l16.length : Int))) else some false) fun (v48 : Bool) =>
          if v48 = true then (chkI (v17 + 1)).bind fun v52 => some (.inl (r45, v52)) else (chkI (v17 + 1)).bind fun v53 => some (.inl (l16, v53))
        else some (.inr l16))
      (fun s => 20 - s.2.toNat) (fun s => ∃ k : Nat, s.2 = (k : Int) ∧ k ≤ 20 ∧ Best (pN xs) k s.1) (fun l => Best (pN xs) 20 l) (by
        rintro ⟨l, v⟩ ⟨k, e, hk, hb⟩
        simp only [] at e hb
        subst e
        by_cases hlt : k < 20
        · left
          obtain ⟨c, hc, hcy⟩ := d63_eq hN (pN xs) hlt
          simp only []
          rw [if_pos (by omega), lenL_tab, Option.bind_some, hc, Option.bind_some]
          have hle := hcy.least hlt
          by_cases hwin : c ≠ [] ∧ (l = [] ∨ c.length < l.length)
          · obtain ⟨hc0, hw⟩ := hwin
            have hcl := List.length_pos_iff.2 hc0
            have e : (if (c.length : Int) > 0 then if ((l.length : Int) == 0) = true then some true else some (decide ((c.length : Int) < (l.length : Int))) else some false) = some true := by
              rw [if_pos (by omega)]
              rcases hw with rfl | hw
              · rfl
              · rw [if_neg (by simp; intro h; rw [h] at hw; simp at hw)]
                congr 1
                simpa using hw
            rw [e, Option.bind_some, if_pos rfl, chkI_20 hlt, Option.bind_some]
            refine ⟨_, rfl, ⟨k + 1, by simp, by omega, ?_⟩, by simp; omega⟩
            rcases hle with ⟨h, _⟩ | ⟨_, _, _, hmin⟩
            · exact absurd h hc0
            · have hold : ∀ b, b < k → ∀ j, 1 ≤ j → j ≤ c.length → W (pN xs) b j b = false := by
                intro b hbk j hj hjl
                rcases hb with ⟨_, hb⟩ | ⟨a, _, _, hl0, hb, _⟩
                · exact hb b hbk j hj
                · rcases hw with hw | hw
                  · exact absurd hw hl0
                  · exact hb b hbk j hj (by omega)
              refine .inr ⟨k, by omega, hcy, hc0, fun b hbk j hj hjl => ?_, hold⟩
              have hjl : j < c.length := hjl
              by_cases hbk2 : b = k
              · rw [hbk2]; exact hmin j hj hjl
              · exact hold b (by omega) j hj (by omega)
          · have e : (if (c.length : Int) > 0 then if ((l.length : Int) == 0) = true then some true else some (decide ((c.length : Int) < (l.length : Int))) else some false) = some false := by
              by_cases hc0 : c = []
              · subst hc0; rfl
              · have hcl := List.length_pos_iff.2 hc0
                have h1 : l ≠ [] := fun h => hwin ⟨hc0, .inl h⟩
                have h2 : ¬ c.length < l.length := fun h => hwin ⟨hc0, .inr h⟩
                have h3 := List.length_pos_iff.2 h1
                rw [if_pos (by omega), if_neg (by simp; exact h1)]
                congr 1
                simpa using h2
            rw [e, Option.bind_some, if_neg (by simp), chkI_20 hlt, Option.bind_some]
            refine ⟨_, rfl, ⟨k + 1, by simp, by omega, ?_⟩, by simp; omega⟩
            rcases hb with ⟨h1, h2⟩ | ⟨a, h1, h2, h3, h4, h5⟩
            · rcases hle with ⟨_, h⟩ | ⟨h, _⟩
              · refine .inl ⟨h1, fun b hbk j hj => ?_⟩
                by_cases hbk2 : b = k
                · rw [hbk2]; exact h j hj
                · exact h2 b (by omega) j hj
              · exact absurd ⟨h, .inl h1⟩ hwin
            · refine .inr ⟨a, by omega, h2, h3, fun b hbk j hj hjl => ?_, h5⟩
              have hjl : j < l.length := hjl
              by_cases hbk2 : b = k
              · rw [hbk2]
                rcases hle with ⟨_, h⟩ | ⟨h, _, _, hmin⟩
                · exact h j hj
                · by_cases hlc : c.length < l.length
                  · exact absurd ⟨h, .inr hlc⟩ hwin
                  · exact hmin j hj (by omega)
              · exact h4 b (by omega) j hj hjl
        · right
          simp only []
          rw [if_neg (by omega)]
          have : k = 20 := by omega
          subst this
          exact ⟨_, rfl, hb⟩) N (([] : List Int), 0) ⟨0, rfl, by omega, .inl ⟨rfl, fun a ha => by omega⟩⟩ (by unfold bigN at hN; simp; omega)
    refine ⟨l, hp, ?_⟩
    refine Eq.trans (congrArg (fun o => Option.bind o _) hl) ?_
    show (if ((l.length : Int) == 0) = true then _ else _) = _
    by_cases h : l = []
    · subst h; rfl
    · rw [if_neg (by simp; exact h), if_neg h]
  · left
    exact ⟨hc, by rw [if_pos (show (checkH xs != 0) = true by simp [hc])]⟩

theorem pL_mem (s t : Int) : ∀ l : List Op27, pL s t l = true → (∃ x ∈ l, x.Tx = s) ∧ ∃ x ∈ l, x.Tx = t
  | [], h => by cases h
  | x :: l, h => by
    unfold pL at h
    rcases (Bool.or_eq_true _ _).mp h with h | h
    · rw [List.any_eq_true] at h
      obtain ⟨y, hy, h⟩ := h
      simp [hit] at h
      exact ⟨⟨x, by simp, h.2.1⟩, ⟨y, by simp [hy], h.2.2⟩⟩
    · obtain ⟨⟨y, hy, h1⟩, z, hz, h2⟩ := pL_mem s t l h
      exact ⟨⟨y, by simp [hy], h1⟩, ⟨z, by simp [hz], h2⟩⟩
/-- the transactions, as numbers -/
def nd (xs : List Op27) : List Nat := (List.range' 0 20).filter fun (v : Nat) => xs.any fun x => x.Tx == (v : Int)
theorem txs_nd (xs : List Op27) : txs xs = (nd xs).map fun (v : Nat) => (v : Int) := rfl
theorem nd_lt (xs : List Op27) {v : Nat} (h : v ∈ nd xs) : v < 20 := by
  have := (List.mem_filter.1 h).1
  rw [List.mem_range'_1] at this
  omega
theorem nd_sorted (xs : List Op27) : (nd xs).Pairwise (· < ·) := List.Pairwise.filter _ (List.pairwise_lt_range')
theorem nd_len (xs : List Op27) : (nd xs).length ≤ 20 := Nat.le_trans (List.length_filter_le _ _) (by simp)
theorem nd_edge {xs : List Op27} {u c : Nat} (h : pN xs u c = true) (hu : u < 20) (hc : c < 20) : u ∈ nd xs ∧ c ∈ nd xs := by
  obtain ⟨⟨x, hx, h1⟩, y, hy, h2⟩ := pL_mem _ _ _ h
  have key : ∀ (z : Op27) (v : Nat), z ∈ xs → z.Tx = (v : Int) → v < 20 → v ∈ nd xs := fun z v hz hv h20 => by
    refine List.mem_filter.2 ⟨by rw [List.mem_range'_1]; omega, ?_⟩
    rw [List.any_eq_true]
    exact ⟨z, hz, by simp [hv]⟩
  exact ⟨key x u hx h1 hu, key y c hy h2 hc⟩
theorem nd_at {xs : List Op27} {j k c v : Nat} (h1 : (nd xs)[j]? = some c) (h2 : (nd xs)[k]? = some v) (h : c < v) : j < k := by
  obtain ⟨hj, ej⟩ := List.getElem?_eq_some_iff.1 h1
  obtain ⟨hk, ek⟩ := List.getElem?_eq_some_iff.1 h2
  have hs := List.pairwise_iff_getElem.1 (nd_sorted xs)
  rcases Nat.lt_trichotomy j k with h3 | h3 | h3
  · exact h3
  · subst h3
    omega
  · have := hs k j hk hj h3
    omega

theorem d86_eq {N : Nat} {xs : List Int} (hN : xs.length < N) (hs : small xs) (y : Int) : d86 N xs y = some (optI (xs.findIdx? fun x => y == x)) :=
  indexFunc_eq N xs (fun x => some (y == x)) (fun x => y == x) (fun _ _ => rfl) hN hs
theorem d57_eq {N : Nat} {xs : List Int} (hN : xs.length < N) (hs : small xs) (y : Int) : d57 N xs y = some (xs.any fun x => y == x) := by
  unfold d57
  rw [d86_eq hN hs, Option.bind_some, optI_ge]

/-- the path that the search has taken -/
structure Path (g : Nat → Nat → Bool) (x u : Nat) (p : List Nat) : Prop where
  head : p[0]? = some x
  last : p[p.length - 1]? = some u
  lt : ∀ b ∈ p, x ≤ b ∧ b < 20
  back : ∀ b ∈ p, ∃ j, j < p.length ∧ ∀ m, W g x m b = true → W g x (j + m) x = true
  tail : ∀ m, W g x m u = true → W g x (p.length - 1 + m) x = true
theorem Path.pos {g : Nat → Nat → Bool} {x u : Nat} {p : List Nat} (h : Path g x u p) : 0 < p.length := by
  cases p with
  | nil => have := h.head; cases this
  | cons _ _ => simp
theorem Path.memLast {g : Nat → Nat → Bool} {x u : Nat} {p : List Nat} (h : Path g x u p) : u ∈ p := List.mem_of_getElem? h.last
theorem Path.one (g : Nat → Nat → Bool) {x : Nat} (hx : x < 20) : Path g x x [x] :=
  ⟨rfl, rfl, fun b hb => by rw [List.mem_singleton.1 hb]; omega, fun b hb => ⟨0, by simp, fun m h => by rw [Nat.zero_add, ← List.mem_singleton.1 hb]; exact List.mem_singleton.1 hb ▸ h⟩, fun m h => by simpa using h⟩
theorem Path.snoc {g : Nat → Nat → Bool} {x u v : Nat} {p : List Nat} (h : Path g x u p) (hg : g u v = true) (hx : x < v) (hv : v < 20) : Path g x v (p ++ [v]) := by
  have hpos := h.pos
  have hu := h.lt u h.memLast
  have step : ∀ m, W g x m v = true → W g x (p.length + m) x = true := fun m hm => by
    have := h.tail (m + 1) (W_succ.2 ⟨hu.1, hu.2, v, hv, hg, hm⟩)
    rwa [show p.length - 1 + (m + 1) = p.length + m by omega] at this
  refine ⟨?_, ?_, fun b hb => ?_, fun b hb => ?_, fun m hm => ?_⟩
  · rw [List.getElem?_append_left hpos]
    exact h.head
  · rw [List.length_append, show p.length + [v].length - 1 = p.length by simp, List.getElem?_append_right (Nat.le_refl _)]
    simp
  · rcases List.mem_append.1 hb with hb | hb
    · exact h.lt b hb
    · rw [List.mem_singleton.1 hb]
      omega
  · rcases List.mem_append.1 hb with hb | hb
    · obtain ⟨j, h1, h2⟩ := h.back b hb
      exact ⟨j, by rw [List.length_append]; omega, h2⟩
    · rw [List.mem_singleton.1 hb]
      exact ⟨p.length, by simp, step⟩
  · rw [List.length_append, show p.length + [v].length - 1 = p.length by simp]
    exact step m hm

theorem W_one {g : Nat → Nat → Bool} {x u : Nat} (hx : x < 20) (h1 : x ≤ u) (h2 : u < 20) : W g x 1 u = g u x := by
  rw [Bool.eq_iff_iff, W_succ]
  constructor
  · rintro ⟨_, _, w, _, h3, h4⟩
    have : w = x := by simpa [W] using h4
    rw [← this]; exact h3
  · intro h
    exact ⟨h1, h2, x, hx, h, by simp [W]⟩

theorem d32_eq {xs : List Op27} {x L : Nat} (hx : x < 20) (hL : L ≤ 30) (hmin : ∀ k, 1 ≤ k → k < L → W (pN xs) x k x = false) (p1 : Int → Int → Option Bool) (hp : ∀ s t : Int, p1 s t = some (qP xs s t)) :
    ∀ (r N : Nat) (p : List Nat) (u : Nat), 100 + r ≤ N → p.length + r = L → Path (pN xs) x u p →
      d32 N (txs xs) p1 (p.map fun (v : Nat) => (v : Int)) (L : Int) = some (if W (pN xs) x (r + 1) u = true then (p.map fun (v : Nat) => (v : Int)) ++ gr (pN xs) x (W (pN xs) x) r u else []) := by
  intro r
  induction r with
  | zero =>
    intro N p u hN hl hpa
    obtain ⟨N, rfl⟩ : ∃ M, N = M + 1 := ⟨N - 1, by omega⟩
    have hpos := hpa.pos
    have hu := hpa.lt u hpa.memLast
    have e0 : idx (p.map fun (v : Nat) => (v : Int)) 0 = some (x : Int) := by
      have : (p.map fun (v : Nat) => (v : Int))[0]? = some (x : Int) := by rw [List.getElem?_map, hpa.head]; rfl
      exact idx_nat this
    have e1 : idx (p.map fun (v : Nat) => (v : Int)) (((p.map fun (v : Nat) => (v : Int)).length : Int) - 1) = some (u : Int) := by
      have : (p.map fun (v : Nat) => (v : Int))[p.length - 1]? = some (u : Int) := by rw [List.getElem?_map, hpa.last]; rfl
      rw [List.length_map, show (p.length : Int) - 1 = ((p.length - 1 : Nat) : Int) by omega]
      exact idx_nat this
    rw [d32, chkI_of (by omega) (by rw [List.length_map]; omega), Option.bind_some, e1, Option.bind_some, if_pos (by rw [List.length_map]; simp; omega), e0, Option.bind_some, hp, Option.bind_some, W_one hx hu.1 hu.2, gr, List.append_nil]
    show (if pN xs u x = true then _ else _) = _
    cases pN xs u x <;> rfl
  | succ r ih =>
    intro N p u hN hl hpa
    obtain ⟨N, rfl⟩ : ∃ M, N = M + 1 := ⟨N - 1, by omega⟩
    have hpos := hpa.pos
    have hu := hpa.lt u hpa.memLast
    have e0 : idx (p.map fun (v : Nat) => (v : Int)) 0 = some (x : Int) := by
      have : (p.map fun (v : Nat) => (v : Int))[0]? = some (x : Int) := by rw [List.getElem?_map, hpa.head]; rfl
      exact idx_nat this
    have e1 : idx (p.map fun (v : Nat) => (v : Int)) (((p.map fun (v : Nat) => (v : Int)).length : Int) - 1) = some (u : Int) := by
      have : (p.map fun (v : Nat) => (v : Int))[p.length - 1]? = some (u : Int) := by rw [List.getElem?_map, hpa.last]; rfl
      rw [List.length_map, show (p.length : Int) - 1 = ((p.length - 1 : Nat) : Int) by omega]
      exact idx_nat this
    have hnl := nd_len xs
    -- who is in the path closes a shorter cycle
    have hout : ∀ b, b ∈ p → W (pN xs) x (r + 1) b = false := fun b hb => by
      obtain ⟨j, h1, h2⟩ := hpa.back b hb
      cases hw : W (pN xs) x (r + 1) b with
      | false => rfl
      | true =>
        have := h2 _ hw
        rw [hmin (j + (r + 1)) (by omega) (by omega)] at this
        cases this
    have hany : ∀ v : Nat, ((p.map fun (v : Nat) => (v : Int)).any fun y => (v : Int) == y) = decide (v ∈ p) := fun v => by
      rw [Bool.eq_iff_iff, List.any_eq_true, decide_eq_true_iff]
      constructor
      · rintro ⟨y, hy, h⟩
        obtain ⟨z, hz, rfl⟩ := List.mem_map.1 hy
        have : v = z := by
          have := eq_of_beq h
          omega
        rw [this]; exact hz
      · intro h
        exact ⟨v, List.mem_map.2 ⟨v, h, rfl⟩, by simp⟩
    rw [d32, chkI_of (by omega) (by rw [List.length_map]; omega), Option.bind_some, e1, Option.bind_some, if_neg (by rw [List.length_map]; simp; omega)]
    obtain ⟨o, ho, hpost⟩ := iter_post (fun (v29 : Int) =>
        if v29 < ((txs xs).length : Int) then (idx (txs xs) v29).bind fun x76 =>
          Option.bind (α := Bool) ((idx (p.map fun (v : Nat) => (v : Int)) 0).bind fun x85 => if x76 > x85 then (d57 N (p.map fun (v : Nat) => (v : Int)) x76).bind fun r88 => if (!r88) = true then (p1 (u : Int) x76).bind fun r90 => some r90 else some false else some false) fun (v84 : Bool) =>
          if v84 = true then (appL 8 (p.map fun (v : Nat) => (v : Int)) [x76]).bind fun _ => (d32 N (txs xs) p1 ((p.map fun (v : Nat) => (v : Int)) ++ [x76]) (L : Int)).bind fun r93 =>
            if (r93.length : Int) > 0 then some (.inr (.ret r93)) else (chkI (v29 + 1)).bind fun v95 => some (.inl v95)
          else (chkI (v29 + 1)).bind fun v96 => some (.inl v96)
        else some (.inr (.go () : Out Unit (List Int))))
      (fun v => (nd xs).length - v.toNat) (fun v => ∃ k : Nat, v = (k : Int) ∧ k ≤ (nd xs).length ∧ ∀ j c, j < k → (nd xs)[j]? = some c → x < c → (pN xs u c && W (pN xs) x (r + 1) c) = false)
      (fun o => (∃ b, First x (fun b => pN xs u b && W (pN xs) x (r + 1) b) b ∧ o = .ret ((p.map fun (v : Nat) => (v : Int)) ++ (b : Int) :: gr (pN xs) x (W (pN xs) x) r b)) ∨ (o = .go () ∧ ∀ c, x < c → c < 20 → (pN xs u c && W (pN xs) x (r + 1) c) = false)) (by
        rintro v ⟨k, rfl, hk, hno⟩
        by_cases hlt : k < (nd xs).length
        · obtain ⟨c, hc⟩ := getAt hlt
          have hc20 := nd_lt xs (List.mem_of_getElem? hc)
          have hct : (txs xs)[k]? = some (c : Int) := by rw [txs_nd, List.getElem?_map, hc]; rfl
          have htl : (txs xs).length = (nd xs).length := by rw [txs_nd, List.length_map]
          rw [if_pos (by omega), idx_nat hct, Option.bind_some, e0, Option.bind_some, d57_eq (by rw [List.length_map]; omega) (by unfold small; rw [List.length_map]; omega), Option.bind_some, hp, Option.bind_some, hany]
          have ec : (if (c : Int) > (x : Int) then if (!decide (c ∈ p)) = true then some (qP xs u c) else some false else some false) = some (decide (x < c) && (!decide (c ∈ p) && pN xs u c)) := by
            by_cases h : x < c
            · rw [if_pos (by omega)]
              by_cases h2 : c ∈ p
              · simp [h2]
              · simp [h, h2]; rfl
            · rw [if_neg (by omega)]
              simp [h]
          rw [ec, Option.bind_some]
          have hnext : (pN xs u c && W (pN xs) x (r + 1) c) = false ∨ ¬ x < c → ∀ j c', j < k + 1 → (nd xs)[j]? = some c' → x < c' → (pN xs u c' && W (pN xs) x (r + 1) c') = false := by
            intro hor j c' hj hc' hx'
            by_cases hjk : j = k
            · subst hjk
              rw [hc] at hc'
              injection hc' with e
              subst e
              rcases hor with h | h
              · exact h
              · exact absurd hx' h
            · exact hno j c' (by omega) hc' hx'
          by_cases hcond : (decide (x < c) && (!decide (c ∈ p) && pN xs u c)) = true
          · rw [if_pos hcond]
            rw [Bool.and_eq_true, Bool.and_eq_true, decide_eq_true_iff] at hcond
            obtain ⟨hxc, _, hg⟩ := hcond
            have hrec := ih N (p ++ [c]) c (by omega) (by rw [List.length_append]; simp; omega) (hpa.snoc hg hxc hc20)
            rw [List.map_append, List.map_cons, List.map_nil] at hrec
            rw [appL_of (by simp only [List.length_cons, List.length_nil, List.length_map]; exact Nat.le_trans (Nat.mul_le_mul_right 8 (show p.length + (0 + 1) ≤ 60 by omega)) (by decide)), Option.bind_some, hrec, Option.bind_some]
            by_cases hw : W (pN xs) x (r + 1) c = true
            · right
              rw [if_pos hw, if_pos (by simp; omega)]
              refine ⟨_, rfl, .inl ⟨c, ⟨hxc, hc20, by simp [hg, hw], fun c' h1 h2 => ?_⟩, by simp⟩⟩
              show (pN xs u c' && W (pN xs) x (r + 1) c') = false
              cases hb : (pN xs u c' && W (pN xs) x (r + 1) c') with
              | false => rfl
              | true =>
                rw [Bool.and_eq_true] at hb
                obtain ⟨j, hj⟩ := List.mem_iff_getElem?.1 (nd_edge hb.1 hu.2 (by omega)).2
                have := hno j c' (nd_at hj hc h2) hj h1
                rw [hb.1, hb.2] at this
                cases this
            · left
              rw [if_neg hw, if_neg (by simp), chkI_of (by omega) (by omega), Option.bind_some]
              exact ⟨_, rfl, ⟨k + 1, by simp, by omega, hnext (.inl (by simp [hw]))⟩, by simp; omega⟩
          · left
            rw [if_neg hcond, chkI_of (by omega) (by omega), Option.bind_some]
            refine ⟨_, rfl, ⟨k + 1, by simp, by omega, hnext ?_⟩, by simp; omega⟩
            by_cases hxc : x < c
            · by_cases hcp : c ∈ p
              · exact .inl (by rw [hout c hcp, Bool.and_false])
              · refine .inl ?_
                cases hg : pN xs u c with
                | false => rfl
                | true => exact absurd (by simp [hxc, hcp, hg]) hcond
            · exact .inr hxc
        · right
          have htl : (txs xs).length = (nd xs).length := by rw [txs_nd, List.length_map]
          rw [if_neg (by omega)]
          refine ⟨_, rfl, .inr ⟨rfl, fun c h1 h2 => ?_⟩⟩
          cases hb : (pN xs u c && W (pN xs) x (r + 1) c) with
          | false => rfl
          | true =>
            rw [Bool.and_eq_true] at hb
            obtain ⟨j, hj⟩ := List.mem_iff_getElem?.1 (nd_edge hb.1 hu.2 h2).2
            have hjl := (List.getElem?_eq_some_iff.1 hj).1
            have := hno j c (by omega) hj h1
            rw [hb.1, hb.2] at this
            cases this) N 0 ⟨0, rfl, Nat.zero_le _, fun j c h => by omega⟩ (by omega)
    refine Eq.trans (congrArg (fun o => bindO o _) ho) ?_
    rcases hpost with ⟨b, hb, rfl⟩ | ⟨rfl, hno⟩
    · have hP := hb.2.2.1
      rw [Bool.and_eq_true] at hP
      rw [if_pos (W_succ.2 ⟨hu.1, hu.2, b, hb.2.1, hP.1, hP.2⟩), gr, pick20_of hb]
      rfl
    · have hw : ¬ W (pN xs) x (r + 1 + 1) u = true := by
        intro h
        obtain ⟨_, _, w, hw, h3, h4⟩ := W_succ.1 h
        have hxw : x ≤ w := (W_succ.1 h4).1
        by_cases hwx : w = x
        · subst hwx
          rw [hmin (r + 1) (by omega) (by omega)] at h4
          cases h4
        · have := hno w (by omega) hw
          rw [h3, h4] at this
          cases this
      rw [if_neg hw]
      rfl
end Go.Proofs.Ytabjbkdlacibjaa
