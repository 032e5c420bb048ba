/- SerialOrder: cycles and orders. Plain lists. The functional program of SerialOrder yields true. Plain lists. The law's argument as the functional program takes it. -/
import Derived.Test.YtabjbkdlacibjaaSoQ2
namespace Go.Proofs.Ytabjbkdlacibjaa
open Go.Ab Go.Rp

theorem pick20_congr {a : Nat} {P Q : Nat → Bool} (h : ∀ b, b < 20 → P b = Q b) : pick20 a P = pick20 a Q := by
  have key : ∀ b, First a P b ↔ First a Q b := by
    intro b
    constructor
    · rintro ⟨h1, h2, h3, h4⟩
      exact ⟨h1, h2, by rw [← h b h2]; exact h3, fun c h5 h6 => by rw [← h c (by omega)]; exact h4 c h5 h6⟩
    · rintro ⟨h1, h2, h3, h4⟩
      exact ⟨h1, h2, by rw [h b h2]; exact h3, fun c h5 h6 => by rw [h c (by omega)]; exact h4 c h5 h6⟩
  by_cases hx : ∃ b, First a P b
  · obtain ⟨b, hb⟩ := hx
    rw [pick20_of hb, pick20_of ((key b).1 hb)]
  · have hy : ¬ ∃ b, First a Q b := fun ⟨b, hb⟩ => hx ⟨b, (key b).2 hb⟩
    unfold pick20
    rw [dif_neg hx, dif_neg hy]
theorem gr_congr {g : Nat → Nat → Bool} {a k : Nat} {f : Nat → Int} (hf : Dist g a f) (hfa : f a = (k : Int)) : ∀ (r u : Nat), u < 20 → r < k → f u = ((r + 1 : Nat) : Int) → gr g a (isD f) r u = gr g a (W g a) r u := by
  intro r
  induction r with
  | zero => intro u _ _ _; rfl
  | succ r ih =>
    intro u hu hrk hfu
    obtain ⟨b, hb⟩ := hf.next hu (by omega) hfu hfa hrk
    have hP : ∀ c, c < 20 → (g u c && isD f (r + 1) c) = (g u c && W g a (r + 1) c) := by
      intro c hc
      cases hg : g u c with
      | false => rfl
      | true =>
        rw [Bool.true_and, Bool.true_and, Bool.eq_iff_iff]
        unfold isD
        rw [decide_eq_true_iff]
        constructor
        · intro h
          rcases hf c hc with ⟨h1, _⟩ | ⟨j, _, _, h3, h4, _⟩
          · omega
          · have : j = r + 1 := by omega
            rw [← this]; exact h4
        · intro hw
          refine hf.of_W hc (by omega) hw fun j hj hjr => ?_
          cases hp : W g a j c with
          | false => rfl
          | true =>
            rcases hf u hu with ⟨h1, _⟩ | ⟨i, h1, _, h3, h4, h5⟩
            · omega
            · have hau : a ≤ u := by
                obtain ⟨m, rfl⟩ : ∃ m, i = m + 1 := ⟨i - 1, by omega⟩
                exact (W_succ.1 h4).1
              have := h5 (j + 1) (by omega) (by omega)
              rw [W_succ.2 ⟨hau, hu, c, hc, hg, hp⟩] at this
              cases this
    have e := pick20_congr (a := a) hP
    rw [gr, gr, ← e, pick20_of hb]
    congr 1
    have hfb : f b = ((r + 1 : Nat) : Int) := by
      have := hb.2.2.1
      rw [Bool.and_eq_true] at this
      simpa [isD] using this.2
    exact ih b hb.2.1 (by omega) hfb

/-! ### orders -/
theorem mem_rest {rem : List Int} {i : Nat} {t v : Int} (ht : rem[i]? = some t) (hv : v ∈ rem) (hne : v ≠ t) : v ∈ rem.take i ++ rem.drop (i + 1) := by
  obtain ⟨j, hj⟩ := List.mem_iff_getElem?.1 hv
  rw [List.mem_append]
  rcases Nat.lt_trichotomy j i with h | h | h
  · refine .inl (List.mem_of_getElem? (i := j) ?_)
    rw [List.getElem?_take, if_pos h, hj]
  · subst h
    rw [hj] at ht
    injection ht with ht
    exact absurd ht hne
  · refine .inr (List.mem_of_getElem? (i := j - (i + 1)) ?_)
    rw [List.getElem?_drop, show i + 1 + (j - (i + 1)) = j by omega, hj]
theorem rest_len {rem : List Int} {i : Nat} {t : Int} (ht : rem[i]? = some t) : (rem.take i ++ rem.drop (i + 1)).length + 1 = rem.length := by
  obtain ⟨h, _⟩ := List.getElem?_eq_some_iff.1 ht
  rw [List.length_append, List.length_take, List.length_drop]
  omega
theorem firstFree_at {q : Int → Int → Bool} {rem : List Int} {i : Nat} {t : Int} (h : firstFree q rem = some i) (ht : rem[i]? = some t) : ∀ s ∈ rem, q s t = false := by
  obtain ⟨h1, h2, _⟩ := List.findIdx?_eq_some_iff_getElem.1 h
  obtain ⟨h3, h4⟩ := List.getElem?_eq_some_iff.1 ht
  rw [h4, List.all_eq_true] at h2
  intro s hs
  have := h2 s hs
  simpa using this
theorem topo_some (q : Int → Int → Bool) : ∀ (n : Nat) (rem ord o : List Int), n = rem.length → topo q n rem ord = some o → ∀ C : Int → Prop, (∀ v, C v → v ∈ rem) → (∀ v, C v → ∃ u, C u ∧ q u v = true) → ∀ v, ¬ C v := by
  intro n
  induction n with
  | zero =>
    intro rem ord o hn _ C h1 _ v hv
    have := h1 v hv
    rw [List.length_eq_zero_iff.1 hn.symm] at this
    cases this
  | succ n ih =>
    intro rem ord o hn h C h1 h2 v hv
    unfold topo at h
    split at h
    · cases h
    · rename_i i hf
      split at h
      · rename_i t ht
        have hnt : ¬ C t := fun hc => by
          obtain ⟨u, hu, hq⟩ := h2 t hc
          rw [firstFree_at hf ht u (h1 u hu)] at hq
          cases hq
        have hr := rest_len ht
        exact ih _ _ o (by omega) h C (fun w hw => mem_rest ht (h1 w hw) fun e => hnt (e ▸ hw)) h2 v hv
      · cases h
theorem topo_none (q : Int → Int → Bool) : ∀ (n : Nat) (rem ord : List Int), n = rem.length → topo q n rem ord = none → ∃ C : List Int, C ≠ [] ∧ (∀ v ∈ C, v ∈ rem) ∧ ∀ v ∈ C, ∃ u ∈ C, q u v = true := by
  intro n
  induction n with
  | zero => intro rem ord _ h; cases h
  | succ n ih =>
    intro rem ord hn h
    unfold topo at h
    split at h
    · rename_i hf
      refine ⟨rem, (fun e => by rw [e] at hn; cases hn), fun v hv => hv, fun v hv => ?_⟩
      have := List.findIdx?_eq_none_iff.1 hf v hv
      rw [← Bool.not_eq_true, List.all_eq_true] at this
      refine Classical.byContradiction fun hno => this fun u hu => ?_
      cases hq : q u v with
      | false => rfl
      | true => exact absurd ⟨u, hu, hq⟩ hno
    · rename_i i hf
      split at h
      · rename_i t ht
        have hr := rest_len ht
        obtain ⟨C, h1, h2, h3⟩ := ih _ _ (by omega) h
        exact ⟨C, h1, fun v hv => mem_part (h2 v hv), h3⟩
      · rename_i ht
        have := firstFree_lt hf
        rw [List.getElem?_eq_none_iff] at ht
        omega

/-! ### from a set where each has one ahead of it to a closed walk -/
theorem exists_min : ∀ C : List Nat, C ≠ [] → ∃ x ∈ C, ∀ y ∈ C, x ≤ y
  | [], h => absurd rfl h
  | [x], _ => ⟨x, by simp, fun y hy => by rw [List.mem_singleton.1 hy]; omega⟩
  | x :: y :: C, _ => by
    obtain ⟨z, hz, h⟩ := exists_min (y :: C) (by simp)
    by_cases hxz : x ≤ z
    · refine ⟨x, by simp, fun w hw => ?_⟩
      rcases List.mem_cons.1 hw with rfl | hw
      · omega
      · have := h w hw
        omega
    · refine ⟨z, by simp [List.mem_cons.1 hz], fun w hw => ?_⟩
      rcases List.mem_cons.1 hw with rfl | hw
      · omega
      · exact h w hw
theorem closed_of {g : Nat → Nat → Bool} : ∀ (n : Nat) (C : List Nat), C.length ≤ n → C ≠ [] → (∀ v ∈ C, v < 20) → (∀ v ∈ C, ∃ u ∈ C, g u v = true) → ∃ x, x < 20 ∧ ∃ k, 1 ≤ k ∧ W g x k x = true := by
  intro n
  induction n with
  | zero => intro C h h2; exact absurd (List.length_eq_zero_iff.1 (by omega)) h2
  | succ n ih =>
    intro C hn hne h20 hpred
    obtain ⟨x, hx, hmin⟩ := exists_min C hne
    by_cases hself : ∃ k, 1 ≤ k ∧ W g x k x = true
    · exact ⟨x, h20 x hx, hself⟩
    · have hx20 := h20 x hx
      have hB : ∀ v, v ∈ C.filter (fun v => @decide (∃ k, 1 ≤ k ∧ W g x k v = true) (Classical.propDecidable _)) ↔ v ∈ C ∧ ∃ k, 1 ≤ k ∧ W g x k v = true := fun v => by
        rw [List.mem_filter]
        simp
      refine ih (C.filter (fun v => @decide (∃ k, 1 ≤ k ∧ W g x k v = true) (Classical.propDecidable _))) ?_ ?_ (fun v hv => h20 v ((hB v).1 hv).1) fun v hv => ?_
      · have hlt : (C.filter (fun v => @decide (∃ k, 1 ≤ k ∧ W g x k v = true) (Classical.propDecidable _))).length < C.length := by
          rw [List.length_filter_lt_length_iff_exists]
          exact ⟨x, hx, by simpa using fun k hk h => hself ⟨k, hk, h⟩⟩
        omega
      · obtain ⟨u, hu, hg⟩ := hpred x hx
        have : u ∈ C.filter (fun v => @decide (∃ k, 1 ≤ k ∧ W g x k v = true) (Classical.propDecidable _)) := (hB u).2 ⟨hu, 1, Nat.le_refl _, by rw [W_one hx20 (hmin u hu) (h20 u hu)]; exact hg⟩
        exact fun e => by rw [e] at this; cases this
      · obtain ⟨hv1, k, hk, hw⟩ := (hB v).1 hv
        obtain ⟨u, hu, hg⟩ := hpred v hv1
        exact ⟨u, (hB u).2 ⟨hu, k + 1, by omega, W_succ.2 ⟨hmin u hu, h20 u hu, v, h20 v hv1, hg, hw⟩⟩, hg⟩
/-- a closed walk, seen as a set -/
theorem closed_set {g : Nat → Nat → Bool} {x : Nat} : ∀ (k v : Nat), W g x k v = true → x < 20 → (v = x ∨ ∃ w, w < 20 ∧ g v w = true ∧ (W g x (k - 1) w = true) ∧ 1 ≤ k)
  | 0, v, h, _ => .inl (by simpa [W] using h)
  | k + 1, v, h, _ => by
    obtain ⟨_, _, w, hw, h1, h2⟩ := W_succ.1 h
    exact .inr ⟨w, hw, h1, h2, by omega⟩
theorem pigeon {D : Nat → Nat → Prop} (hD : ∀ v i j, D v i → D v j → i = j) : ∀ (k : Nat) (l : List Nat), (∀ i, 1 ≤ i → i ≤ k → ∃ v ∈ l, D v i) → k ≤ l.length := by
  intro k
  induction k with
  | zero => intro l _; omega
  | succ k ih =>
    intro l h
    obtain ⟨v, hv, hd⟩ := h (k + 1) (by omega) (Nat.le_refl _)
    have := ih (l.erase v) fun i h1 h2 => by
      obtain ⟨w, hw, hdw⟩ := h i h1 (by omega)
      refine ⟨w, (List.mem_erase_of_ne fun e => ?_).2 hw, hdw⟩
      rw [e] at hdw
      have := hD v i (k + 1) hdw hd
      omega
    rw [List.length_erase_of_mem hv] at this
    have := List.length_pos_of_mem hv
    omega
theorem short_closed {xs : List Op27} {x k : Nat} (hx : x < 20) (hk : 1 ≤ k) (hw : W (pN xs) x k x = true) : ∃ j, 1 ≤ j ∧ j ≤ (nd xs).length ∧ W (pN xs) x j x = true := by
  obtain ⟨j, h1, _, h3, h4⟩ := least (p := fun k => W (pN xs) x k x) hk hw
  refine ⟨j, h1, ?_, h3⟩
  refine pigeon (D := fun v i => W (pN xs) x i v = true ∧ 1 ≤ i ∧ ∀ m, 1 ≤ m → m < i → W (pN xs) x m v = false) (fun v i m hi hm => ?_) j (nd xs) ?_
  · rcases Nat.lt_trichotomy i m with h | h | h
    · have := hm.2.2 i hi.2.1 h
      rw [hi.1] at this
      cases this
    · exact h
    · have := hi.2.2 m hm.2.1 h
      rw [hm.1] at this
      cases this
  · have key : ∀ n i, n + i = j → 1 ≤ i → ∃ v, v < 20 ∧ W (pN xs) x i v = true ∧ ∀ m, 1 ≤ m → m < i → W (pN xs) x m v = false := by
      intro n
      induction n with
      | zero =>
        intro i hi _
        have : i = j := by omega
        subst this
        exact ⟨x, hx, h3, h4⟩
      | succ n ih =>
        intro i hi h1
        obtain ⟨v, hv, h5, h6⟩ := ih (i + 1) (by omega) (by omega)
        obtain ⟨w, hw, h7, h8⟩ := least_pred (by omega) h5 h6
        exact ⟨w, hw, h7, h8⟩
    intro i h1 h2
    obtain ⟨v, hv, h5, h6⟩ := key (j - i) i (by omega) h1
    obtain ⟨m, rfl⟩ : ∃ m, i = m + 1 := ⟨i - 1, by omega⟩
    obtain ⟨_, _, w, hw2, hg, _⟩ := W_succ.1 h5
    exact ⟨v, (nd_edge hg hv hw2).1, h5, h1, h6⟩

/-- forward walks -/
def Fw (g : Nat → Nat → Bool) (x : Nat) : Nat → Nat → Prop
  | 0, v => v = x
  | j + 1, v => v < 20 ∧ ∃ u, u < 20 ∧ Fw g x j u ∧ g u v = true
theorem Fw.back {g : Nat → Nat → Bool} {x : Nat} : ∀ (k j v : Nat), 1 ≤ k → W g x k v = true → Fw g x j v → ∃ w i, w < 20 ∧ Fw g x i w ∧ g w x = true := by
  intro k
  induction k with
  | zero => intro j v h; omega
  | succ k ih =>
    intro j v _ hw hf
    obtain ⟨_, hv, w, hw20, hg, hW⟩ := W_succ.1 hw
    by_cases hk : k = 0
    · subst hk
      have : w = x := by simpa [W] using hW
      subst this
      exact ⟨v, j, hv, hf, hg⟩
    · exact ih (j + 1) w (by omega) hW ⟨hw20, v, hv, hf, hg⟩
theorem open_of_topo {xs : List Op27} {o : List Int} (h : topo (qP xs) (txs xs).length (txs xs) [] = some o) {x k : Nat} (hx : x < 20) (hk : 1 ≤ k) : W (pN xs) x k x = false := by
  cases hw : W (pN xs) x k x with
  | false => rfl
  | true =>
    obtain ⟨w, i, hw20, hfw, hg⟩ := Fw.back k 0 x hk hw rfl
    have hpred : ∀ j v, v < 20 → Fw (pN xs) x j v → ∃ u i, u < 20 ∧ Fw (pN xs) x i u ∧ pN xs u v = true := by
      intro j v hv hf
      cases j with
      | zero =>
        have : v = x := hf
        subst this
        exact ⟨w, i, hw20, hfw, hg⟩
      | succ j =>
        obtain ⟨_, u, hu, h1, h2⟩ := hf
        exact ⟨u, j, hu, h1, h2⟩
    refine absurd (?_ : (fun v : Int => ∃ m : Nat, v = m ∧ m < 20 ∧ ∃ j, Fw (pN xs) x j m) (x : Int)) (topo_some (qP xs) _ _ _ o rfl h (fun v : Int => ∃ m : Nat, v = m ∧ m < 20 ∧ ∃ j, Fw (pN xs) x j m) ?_ ?_ (x : Int))
    · exact ⟨x, rfl, hx, 0, rfl⟩
    · rintro v ⟨m, rfl, hm, j, hj⟩
      obtain ⟨u, i, hu, _, hg⟩ := hpred j m hm hj
      rw [txs_nd]
      exact List.mem_map.2 ⟨m, (nd_edge hg hu hm).2, rfl⟩
    · rintro v ⟨m, rfl, hm, j, hj⟩
      obtain ⟨u, i, hu, hf, hg⟩ := hpred j m hm hj
      exact ⟨(u : Int), ⟨u, rfl, hu, i, hf⟩, hg⟩
theorem closed_of_topo {xs : List Op27} (h : topo (qP xs) (txs xs).length (txs xs) [] = none) : ∃ x, x < 20 ∧ ∃ k, 1 ≤ k ∧ W (pN xs) x k x = true := by
  obtain ⟨C, h1, h2, h3⟩ := topo_none (qP xs) _ _ _ rfl h
  refine closed_of (g := pN xs) (C.map Int.toNat).length (C.map Int.toNat) (Nat.le_refl _) (by simpa using h1) (fun v hv => ?_) fun v hv => ?_
  · obtain ⟨z, hz, rfl⟩ := List.mem_map.1 hv
    obtain ⟨k, hk, rfl⟩ := mem_txs (h2 z hz)
    simpa using hk
  · obtain ⟨z, hz, rfl⟩ := List.mem_map.1 hv
    obtain ⟨k, hk, rfl⟩ := mem_txs (h2 z hz)
    obtain ⟨u, hu, hq⟩ := h3 _ hz
    obtain ⟨m, hm, rfl⟩ := mem_txs (h2 u hu)
    exact ⟨m, List.mem_map.2 ⟨_, hu, rfl⟩, hq⟩

/-- the reference's cycle -/
def Ref (xs : List Op27) (l : List Int) : Prop :=
  ∃ x L : Nat, x ∈ nd xs ∧ 1 ≤ L ∧ W (pN xs) x L x = true ∧ (∀ y, y < 20 → ∀ k, 1 ≤ k → k < L → W (pN xs) y k y = false) ∧ (∀ y, y < x → W (pN xs) y L y = false) ∧ l = (x : Int) :: gr (pN xs) x (W (pN xs) x) (L - 1) x
theorem closed_nd {xs : List Op27} {x k : Nat} (hk : 1 ≤ k) (hw : W (pN xs) x k x = true) : x ∈ nd xs := by
  obtain ⟨m, rfl⟩ : ∃ m, k = m + 1 := ⟨k - 1, by omega⟩
  obtain ⟨_, hx, w, hw2, hg, _⟩ := W_succ.1 hw
  exact (nd_edge hg hx hw2).1
theorem best_ref {xs : List Op27} {l l' : List Int} (hb : Best (pN xs) 20 l) (hr : Ref xs l') : l = l' ∧ l ≠ [] := by
  obtain ⟨x, L, hx, hL, hw, hmin, hfirst, rfl⟩ := hr
  have hx20 := nd_lt xs hx
  rcases hb with ⟨_, h⟩ | ⟨a, ha, hcy, hne, hm, hf⟩
  · rw [h x hx20 L hL] at hw
    cases hw
  · refine ⟨?_, hne⟩
    rcases hcy.least ha with ⟨h, _⟩ | ⟨_, _, hwa, _⟩
    · exact absurd h hne
    · have hpos := List.length_pos_iff.2 hne
      have e1 : ¬ L < l.length := fun h => by
        rw [hm x hx20 L hL h] at hw
        cases hw
      have e2 : ¬ l.length < L := fun h => by
        rw [hmin a ha _ hpos h] at hwa
        cases hwa
      have e3 : l.length = L := by omega
      have e4 : ¬ x < a := fun h => by
        rw [hf x h L hL (by omega)] at hw
        cases hw
      have e5 : ¬ a < x := fun h => by
        have := hfirst a h
        rw [e3] at hwa
        rw [hwa] at this
        cases this
      have e6 : a = x := by omega
      subst e6
      rcases hcy with ⟨h, _⟩ | ⟨f, k, hd, h1, h2, h3, h4⟩
      · exact absurd h hne
      · have hk : l.length = k := by
          rw [h4, List.length_cons, gr_len]
          omega
        rw [h4]
        congr 1
        rw [show L - 1 = k - 1 by omega]
        exact gr_congr hd h3 (k - 1) a ha (by omega) (by rw [h3]; congr 1; omega)

/-- the reference's search for one length -/
theorem len_loop {N : Nat} (hN : bigN N) {xs : List Op27} {L : Nat} (hL1 : 1 ≤ L) (hL : L ≤ 30) (hmin : ∀ y, y < 20 → ∀ k, 1 ≤ k → k < L → W (pN xs) y k y = false) (p1 : Int → Int → Option Bool) (hp : ∀ s t : Int, p1 s t = some (qP xs s t)) :
    ∃ r, iterN (σ := ((List Int) × Int)) (ρ := List Int) (fun ((l145, v146) : ((List Int) × Int)) =>
      if v146 < ((txs xs).length : Int) then (idx (txs xs) v146).bind fun x163 => (d32 N (txs xs) p1 ([x163] : List Int) (L : Int)).bind fun r165 =>
        if (r165.length : Int) > 0 then some (.inr r165) else (chkI (v146 + 1)).bind fun v167 => some (.inl (r165, v167))
      else some (.inr l145)) N (([] : List Int), 0) = some r ∧ ((r = [] ∧ ∀ y, y < 20 → W (pN xs) y L y = false) ∨ Ref xs r) := by
  refine iter_post _ (fun s => (nd xs).length - s.2.toNat) (fun s => ∃ k : Nat, s.2 = (k : Int) ∧ k ≤ (nd xs).length ∧ s.1 = [] ∧ ∀ j c, j < k → (nd xs)[j]? = some c → W (pN xs) c L c = false) (fun r => (r = [] ∧ ∀ y, y < 20 → W (pN xs) y L y = false) ∨ Ref xs r) ?_ N _ ⟨0, rfl, Nat.zero_le _, rfl, fun j c h => by omega⟩ ?_
  · rintro ⟨l, v⟩ ⟨k, e1, hk, e2, hno⟩
    simp only [] at e1 e2
    subst e1 e2
    have htl : (txs xs).length = (nd xs).length := by rw [txs_nd, List.length_map]
    have hnl := nd_len xs
    simp only []
    by_cases hlt : k < (nd xs).length
    · obtain ⟨c, hc⟩ := getAt hlt
      have hcm := List.mem_of_getElem? hc
      have hc20 := nd_lt xs hcm
      have hct : (txs xs)[k]? = some (c : Int) := by rw [txs_nd, List.getElem?_map, hc]; rfl
      have hd := d32_eq hc20 hL (hmin c hc20) p1 hp (L - 1) N [c] c (by unfold bigN at hN; omega) (by simp; omega) (Path.one _ hc20)
      rw [List.map_cons, List.map_nil, show L - 1 + 1 = L by omega] at hd
      rw [if_pos (by omega), idx_nat hct, Option.bind_some, hd, Option.bind_some]
      by_cases hw : W (pN xs) c L c = true
      · right
        rw [if_pos hw, if_pos (by simp)]
        refine ⟨_, rfl, .inr ⟨c, L, hcm, hL1, hw, hmin, fun y hy => ?_, rfl⟩⟩
        cases hwy : W (pN xs) y L y with
        | false => rfl
        | true =>
          obtain ⟨j, hj⟩ := List.mem_iff_getElem?.1 (closed_nd hL1 hwy)
          have := hno j y (nd_at hj hc hy) hj
          rw [hwy] at this
          cases this
      · left
        rw [if_neg hw, if_neg (by simp), chkI_of (by omega) (by omega), Option.bind_some]
        refine ⟨_, rfl, ⟨k + 1, by simp, by omega, rfl, fun j c' hj hc' => ?_⟩, by simp; omega⟩
        by_cases hjk : j = k
        · subst hjk
          rw [hc] at hc'
          injection hc' with e
          rw [← e]
          simpa using hw
        · exact hno j c' (by omega) hc'
    · right
      rw [if_neg (by omega)]
      refine ⟨_, rfl, .inl ⟨rfl, fun y _ => ?_⟩⟩
      cases hwy : W (pN xs) y L y with
      | false => rfl
      | true =>
        obtain ⟨j, hj⟩ := List.mem_iff_getElem?.1 (closed_nd hL1 hwy)
        have := hno j y (by have := (List.getElem?_eq_some_iff.1 hj).1; omega) hj
        rw [hwy] at this
        cases this
  · have := nd_len xs
    unfold bigN at hN
    omega
theorem W_irr (xs : List Op27) {y : Nat} (hy : y < 20) : W (pN xs) y 1 y = false := by
  rw [W_one hy (Nat.le_refl _) hy]
  cases h : pN xs y y with
  | false => rfl
  | true => exact absurd rfl (pL_ne _ _ _ h)
theorem ref_loop {N : Nat} (hN : bigN N) {xs : List Op27} (p1 : Int → Int → Option Bool) (hp : ∀ s t : Int, p1 s t = some (qP xs s t)) :
    ∃ l, iterN (σ := ((List Int) × Int)) (ρ := List Int) (fun ((l62, v63) : ((List Int) × Int)) =>
      Option.bind (α := Bool) (if v63 ≤ ((txs xs).length : Int) then some ((l62.length : Int) == 0) else some false) fun (v136 : Bool) =>
      if v136 = true then
        Option.bind (α := List Int) (iterN (σ := ((List Int) × Int)) (ρ := List Int) (fun ((l145, v146) : ((List Int) × Int)) =>
          if v146 < ((txs xs).length : Int) then (idx (txs xs) v146).bind fun x163 => (d32 N (txs xs) p1 ([x163] : List Int) v63).bind fun r165 =>
            if (r165.length : Int) > 0 then some (.inr r165) else (chkI (v146 + 1)).bind fun v167 => some (.inl (r165, v167))
          else some (.inr l145)) N (l62, 0)) fun (l161 : List Int) =>
        (chkI (v63 + 1)).bind fun v168 => some (.inl (l161, v168))
      else some (.inr l62)) N (([] : List Int), 2) = some l ∧ ((l = [] ∧ ∀ y, y < 20 → ∀ k, 1 ≤ k → k ≤ (nd xs).length → W (pN xs) y k y = false) ∨ Ref xs l) := by
  have htl : (txs xs).length = (nd xs).length := by rw [txs_nd, List.length_map]
  have hnl := nd_len xs
  refine iter_post _ (fun s => 40 - s.2.toNat) (fun s => ∃ L : Nat, s.2 = (L : Int) ∧ 2 ≤ L ∧ L ≤ 22 ∧ ((s.1 = [] ∧ ∀ y, y < 20 → ∀ k, 1 ≤ k → k < L → W (pN xs) y k y = false) ∨ Ref xs s.1)) (fun l => (l = [] ∧ ∀ y, y < 20 → ∀ k, 1 ≤ k → k ≤ (nd xs).length → W (pN xs) y k y = false) ∨ Ref xs l) ?_ N _ ⟨2, rfl, Nat.le_refl _, by omega, .inl ⟨rfl, fun y hy k h1 h2 => ?_⟩⟩ ?_
  · rintro ⟨l, v⟩ ⟨L, e, hL2, hL22, hor⟩
    simp only [] at e hor
    subst e
    simp only []
    by_cases hle : L ≤ (nd xs).length
    · rw [if_pos (by omega), Option.bind_some]
      rcases hor with ⟨rfl, hmin⟩ | href
      · left
        obtain ⟨r, hr, hpost⟩ := len_loop hN (by omega) (by omega) hmin p1 hp
        rw [if_pos (by simp), hr, Option.bind_some, chkI_of (by omega) (by omega), Option.bind_some]
        refine ⟨_, rfl, ⟨L + 1, by simp, by omega, by omega, ?_⟩, by simp; omega⟩
        rcases hpost with ⟨h1, h2⟩ | h
        · refine .inl ⟨h1, fun y hy k hk1 hk2 => ?_⟩
          by_cases hkL : k = L
          · rw [hkL]; exact h2 y hy
          · exact hmin y hy k hk1 (by omega)
        · exact .inr h
      · right
        have hne : l ≠ [] := by
          obtain ⟨_, _, _, _, _, _, _, rfl⟩ := href
          simp
        rw [if_neg (by simp; exact hne)]
        exact ⟨_, rfl, .inr href⟩
    · right
      rw [if_neg (by omega), Option.bind_some, if_neg (by simp)]
      refine ⟨_, rfl, ?_⟩
      rcases hor with ⟨h1, h2⟩ | h
      · exact .inl ⟨h1, fun y hy k hk1 hk2 => h2 y hy k hk1 (by omega)⟩
      · exact .inr h
  · have : k = 1 := by omega
    rw [this]
    exact W_irr xs hy
  · unfold bigN at hN
    simp
    omega
theorem d22_self {N : Nat} (hN : bigN N) {xs : List Int} (hs : small xs) : d22 N xs xs = some true := by
  have h := equal_eq N xs xs (fun x y => x != y) (fun x y => by simp) (hs.lt hN) hs
  refine Eq.trans h ?_
  simp
theorem topo_len (q : Int → Int → Bool) : ∀ (n : Nat) (rem ord o : List Int), topo q n rem ord = some o → o.length ≤ ord.length + n := by
  intro n
  induction n with
  | zero => intro rem ord o h; injection h with h; rw [h]; omega
  | succ n ih =>
    intro rem ord o h
    unfold topo at h
    split at h
    · cases h
    · split at h
      · have := ih _ _ _ h
        simp at this
        omega
      · cases h

theorem d6_true {N : Nat} (hN : bigN N) (h15 : d15 N = some true) {xs : List Op27} (hz : xs.length * 32 ≤ reach) : d6 N xs = some true := by
  have hs : small xs := by unfold small; unfold reach at hz; omega
  unfold d6
  rw [h15, Option.bind_some, if_neg (by simp), d11_eq hN hz, Option.bind_some, d28_eq hN hs, Option.bind_some, Option.bind_some]
  rcases d29_eq hN hs with ⟨hc, h29⟩ | ⟨hc, l6, hbest, h29⟩
  · rw [h29, Option.bind_some, d12_eq hN hs, Option.bind_some, if_pos (show checkH xs ≠ 0 from hc), if_pos (show (checkH xs != 0) = true by simp [hc])]
    simp
  · have hp : ∀ s t : Int, d30 N s t xs = some (qP xs s t) := fun s t => by
      unfold d30
      rw [d19_eq hN hc, Option.bind_some]
      rfl
    have htl := txs_len xs
    rw [h29, Option.bind_some, d12_eq hN hs, Option.bind_some, if_neg (show ¬ (checkH xs ≠ 0) by simp [hc]), if_neg (show ¬ ((checkH xs != 0) = true) by simp [hc]), d23_eq hN hs, Option.bind_some, d31_eq hN (fun b0 b1 => d30 N b0 b1 xs) (qP xs) (by omega) (fun s _ t _ => hp s t), Option.bind_some]
    cases ho : topo (qP xs) (txs xs).length (txs xs) [] with
    | some o =>
      have hol := topo_len _ _ _ _ _ ho
      have hl6 : l6 = [] := by
        rcases hbest with ⟨h, _⟩ | ⟨a, ha, hcy, hne, _⟩
        · exact h
        · rcases hcy.least ha with ⟨h, _⟩ | ⟨_, _, hwa, _⟩
          · exact h
          · rw [open_of_topo ho ha (List.length_pos_iff.2 hne)] at hwa
            cases hwa
      subst hl6
      have e22 := d22_self hN (show small o by unfold small; simp at hol; omega)
      simp [e22]
    | none =>
      obtain ⟨x, hx, k, hk, hw⟩ := closed_of_topo ho
      obtain ⟨j, hj1, hj2, hwj⟩ := short_closed hx hk hw
      obtain ⟨l, hl, hpost⟩ := ref_loop hN (xs := xs) (fun b0 b1 => d30 N b0 b1 xs) hp
      have href : Ref xs l := by
        rcases hpost with ⟨_, h⟩ | h
        · rw [h x hx j hj1 hj2] at hwj
          cases hwj
        · exact h
      obtain ⟨heq, hne⟩ := best_ref hbest href
      subst heq
      have hsm : small l6 := by
        obtain ⟨_, L, _, _, _, _, _, e⟩ := href
        rcases hbest with ⟨h, _⟩ | ⟨a, _, hcy, _⟩
        · exact absurd h hne
        · rcases hcy with ⟨h, _⟩ | ⟨f, k, _, _, h2, _, h4⟩
          · exact absurd h hne
          · unfold small
            rw [h4, List.length_cons, gr_len]
            omega
      have e22 := d22_self hN hsm
      rw [if_neg (show ¬ ((([] : List Int), false).2 = true) by simp)]
      refine Eq.trans (congrArg (fun o => Option.bind o _) hl) ?_
      rw [Option.bind_some, if_neg hne]
      simp [e22]
open Go.Ab.Enc (eC eV)

abbrev ROp := Rp.St (Int × Int × ByteArray × Unit)
def toOp (t : ROp) : Op27 := ⟨t.val.1, t.val.2.1, t.val.2.2.1⟩
theorem eC_rop (t : ROp) : (eC t : List D) = cS27 (toOp t) := rfl

theorem serialorder_fun (a : List ROp) (hz : a.length * 32 ≤ reach) : Fun Try.prog 6 [eV a] (fun r _ => r = .d (.lit (.bool true))) := by
  have h := p6 9223372036854775808 (a.map toOp) true (d6_true (Nat.le_refl _) (by kernel_rfl) (by simpa using hz))
  have e1 : (eV a : V) = .d (.sl ((a.map toOp).map cS27)) := by
    show V.d (.sl (a.map eC)) = _
    rw [List.map_map]
    rfl
  rw [e1]
  exact h.2.mono fun _ _ h => h.1
end Go.Proofs.Ytabjbkdlacibjaa
