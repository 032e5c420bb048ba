/- The plain law of Join: numerals, and the text of a key: different keys have different texts. The plain law of Join: keys, their texts, equal rows. The plain law of Join: what a join yields; the functions that check and put together. The plain law of Join: rows that match; what a join yields. The plain law of Join: the hash join and the semijoin. The plain law of Join: the law. The law's arguments as the functional program takes them. -/
import Derived.Test.YtimkkjiplioohaaGreatDoorJa8
import Derived.Lib.ItoaLen
import Derived.Lib.ItoaMem
import Derived.KernelRfl
section
namespace Go.Proofs.YtimkkjiplioohaaGreatDoor
open Go.Ab Go.Rp

/-! ### numerals -/
theorem dec_lt {n : Nat} (h : n < 10) : Lib.decDigits n = [UInt8.ofNat (48 + n)] := by rw [Lib.decDigits, dif_pos h]
theorem dec_ge {n : Nat} (h : ¬ n < 10) : Lib.decDigits n = Lib.decDigits (n / 10) ++ [UInt8.ofNat (48 + n % 10)] := by rw [Lib.decDigits, dif_neg h]
theorem digit_inj {a b : Nat} (ha : a < 10) (hb : b < 10) (h : UInt8.ofNat (48 + a) = UInt8.ofNat (48 + b)) : a = b := by
  have := congrArg UInt8.toNat h
  simp at this
  omega
theorem dec_mem {n : Nat} : ∀ x ∈ Lib.decDigits n, x ≠ 44 ∧ x ≠ 45 := by
  induction n using Nat.strongRecOn with
  | ind n ih =>
    have one : ∀ d, d < 10 → UInt8.ofNat (48 + d) ≠ 44 ∧ UInt8.ofNat (48 + d) ≠ 45 := fun d hd => by
      have : ((List.range 10).all fun d => UInt8.ofNat (48 + d) != 44 && UInt8.ofNat (48 + d) != 45) = true := by decide
      have := List.all_eq_true.1 this d (List.mem_range.2 hd)
      simpa using this
    intro x hx
    by_cases h : n < 10
    · rw [dec_lt h] at hx
      obtain rfl := List.mem_singleton.1 hx
      exact one n h
    · rw [dec_ge h] at hx
      rcases List.mem_append.1 hx with hx | hx
      · exact ih (n / 10) (by omega) x hx
      · obtain rfl := List.mem_singleton.1 hx
        exact one _ (Nat.mod_lt _ (by omega))
theorem dec_ne {n : Nat} : Lib.decDigits n ≠ [] := by
  by_cases h : n < 10
  · rw [dec_lt h]; simp
  · rw [dec_ge h]; simp
theorem dec_inj : ∀ {n m : Nat}, Lib.decDigits n = Lib.decDigits m → n = m := by
  intro n
  induction n using Nat.strongRecOn with
  | ind n ih =>
    intro m h
    by_cases hn : n < 10
    · rw [dec_lt hn] at h
      by_cases hm : m < 10
      · rw [dec_lt hm] at h
        injection h with h
        exact digit_inj hn hm h
      · rw [dec_ge hm] at h
        have hl := congrArg List.length h
        have : Lib.decDigits (m / 10) ≠ [] := dec_ne
        have := List.length_pos_iff.2 this
        simp only [List.length_append, List.length_cons, List.length_nil] at hl
        omega
    · rw [dec_ge hn] at h
      by_cases hm : m < 10
      · rw [dec_lt hm] at h
        have hl := congrArg List.length h
        have : Lib.decDigits (n / 10) ≠ [] := dec_ne
        have := List.length_pos_iff.2 this
        simp only [List.length_append, List.length_cons, List.length_nil] at hl
        omega
      · rw [dec_ge hm] at h
        obtain ⟨h1, h2⟩ := List.append_inj' h rfl
        injection h2 with h2
        have e1 := ih (n / 10) (by omega) h1
        have e2 := digit_inj (Nat.mod_lt n (by omega)) (Nat.mod_lt m (by omega)) h2
        omega
theorem ito_mem {n : Int} : ∀ x ∈ Lib.itoa n, x ≠ 44 := by
  intro x hx
  unfold Lib.itoa at hx
  split at hx
  · rcases List.mem_cons.1 hx with rfl | hx
    · decide
    · exact (dec_mem x hx).1
  · exact (dec_mem x hx).1
theorem ito_inj {n m : Int} (h : Lib.itoa n = Lib.itoa m) : n = m := by
  unfold Lib.itoa at h
  split at h
  · split at h
    · injection h with _ h
      have := dec_inj h
      omega
    · exfalso
      have : (45 : UInt8) ∈ Lib.decDigits m.toNat := by rw [← h]; exact List.mem_cons_self ..
      exact (dec_mem _ this).2 rfl
  · split at h
    · exfalso
      have : (45 : UInt8) ∈ Lib.decDigits n.toNat := by rw [h]; exact List.mem_cons_self ..
      exact (dec_mem _ this).2 rfl
    · have := dec_inj h
      omega

/-! ### the text of a key -/
def vtx (v : S61) : List UInt8 := Lib.itoa v.Kind ++ 44 :: (Lib.itoa v.Int ++ 44 :: (Lib.itoa (v.Text.size : Int) ++ 44 :: v.Text.data.toList))
def txt : List S61 → List UInt8
  | [] => []
  | v :: k => vtx v ++ txt k
theorem cut44 : ∀ {a b : List UInt8} {r s : List UInt8}, (∀ x ∈ a, x ≠ 44) → (∀ x ∈ b, x ≠ 44) → a ++ 44 :: r = b ++ 44 :: s → a = b ∧ r = s
  | [], [], r, s, _, _, h => by injection h with _ h; exact ⟨rfl, h⟩
  | [], y :: b, r, s, _, hb, h => by
    injection h with h _
    exact absurd h.symm (hb y (.head _))
  | x :: a, [], r, s, ha, _, h => by
    injection h with h _
    exact absurd h (ha x (.head _))
  | x :: a, y :: b, r, s, ha, hb, h => by
    injection h with h1 h2
    obtain ⟨g1, g2⟩ := cut44 (fun z hz => ha z (.tail _ hz)) (fun z hz => hb z (.tail _ hz)) h2
    exact ⟨by rw [h1, g1], g2⟩
theorem vtx_inj {v w : S61} {r s : List UInt8} (h : vtx v ++ r = vtx w ++ s) : v = w ∧ r = s := by
  unfold vtx at h
  simp only [List.append_assoc, List.cons_append] at h
  obtain ⟨h1, h⟩ := cut44 ito_mem ito_mem h
  obtain ⟨h2, h⟩ := cut44 ito_mem ito_mem h
  obtain ⟨h3, h⟩ := cut44 ito_mem ito_mem h
  have e1 := ito_inj h1
  have e2 := ito_inj h2
  have e3 := ito_inj h3
  have hl : v.Text.data.toList.length = w.Text.data.toList.length := by
    have a1 : v.Text.data.toList.length = v.Text.size := Array.length_toList
    have a2 : w.Text.data.toList.length = w.Text.size := Array.length_toList
    omega
  obtain ⟨h4, h5⟩ := List.append_inj h hl
  refine ⟨?_, h5⟩
  obtain ⟨k, i, t⟩ := v
  obtain ⟨k', i', t'⟩ := w
  dsimp only at e1 e2 h4
  subst e1 e2
  congr 1
  obtain ⟨d⟩ := t
  obtain ⟨d'⟩ := t'
  congr 1
  exact Array.toList_inj.1 h4
theorem vtx_ne (v : S61) : vtx v ≠ [] := by unfold vtx; simp
theorem txt_inj : ∀ {k k' : List S61}, txt k = txt k' → k = k'
  | [], [], _ => rfl
  | [], w :: k', h => by
    have := congrArg List.length h
    have h2 := List.length_pos_iff.2 (vtx_ne w)
    simp only [txt, List.length_append, List.length_nil] at this
    omega
  | v :: k, [], h => by
    have := congrArg List.length h
    have h2 := List.length_pos_iff.2 (vtx_ne v)
    simp only [txt, List.length_append, List.length_nil] at this
    omega
  | v :: k, w :: k', h => by
    obtain ⟨h1, h2⟩ := vtx_inj h
    rw [h1, txt_inj h2]
theorem txt_append (a b : List S61) : txt (a ++ b) = txt a ++ txt b := by
  induction a with
  | nil => rfl
  | cons v a ih => simp [txt, ih]

/-! ### loops over a list -/
theorem chk_ok {n : Int} (h1 : -9223372036854775808 ≤ n) (h2 : n ≤ 9223372036854775807) : chkI n = some n := by
  unfold chkI
  rw [if_pos ⟨h1, h2⟩]
theorem idx_nat {α : Type} {xs : List α} {i : Nat} {x : α} (h : xs[i]? = some x) : idx xs (i : Int) = some x := by
  unfold idx
  rw [if_pos (by omega), Int.toNat_natCast, h]
theorem ite_tt {α : Type} (a b : α) : (if true = true then a else b) = a := if_pos rfl
theorem ite_ft {α : Type} (a b : α) : (if false = true then a else b) = b := if_neg (by decide)
/-- a loop that goes through the states S 0, S 1, .. -/
theorem loop_st {σ ρ : Type} (step : σ → Option (σ ⊕ ρ)) (S : Nat → σ) (r : ρ) : ∀ (n k N : Nat), (∀ j, k ≤ j → j < k + n → step (S j) = some (.inl (S (j + 1)))) → step (S (k + n)) = some (.inr r) → n < N → iterN step N (S k) = some r
  | 0, k, N, _, he, hN => by
    obtain ⟨N, rfl⟩ : ∃ x, N = x + 1 := ⟨N - 1, by omega⟩
    rw [iterN_succ, show S k = S (k + 0) from rfl, he]
  | n + 1, k, N, hb, he, hN => by
    obtain ⟨N, rfl⟩ : ∃ x, N = x + 1 := ⟨N - 1, by omega⟩
    rw [iterN_succ, hb k (Nat.le_refl k) (by omega)]
    exact loop_st step S r n (k + 1) N (fun j h1 h2 => hb j (by omega) (by omega)) (by rw [show k + 1 + n = k + (n + 1) by omega]; exact he) (by omega)
/-- a loop that may end ahead of time -/
theorem iter_post {τ ρ : Type} (step : τ → Option (τ ⊕ ρ)) (μ : τ → Nat) (Inv : τ → Prop) (Post : ρ → Prop)
    (h : ∀ s, Inv s → (∃ s', step s = some (.inl s') ∧ Inv s' ∧ μ s' < μ s) ∨ ∃ r, step s = some (.inr r) ∧ Post r) :
    ∀ (n : Nat) (s : τ), Inv s → μ s < n → ∃ r, iterN step n s = some r ∧ Post r := by
  intro n
  induction n with
  | zero => intro s _ h; omega
  | succ n ih =>
    intro s hi hm
    rw [iterN_succ]
    rcases h s hi with ⟨s', h1, h2, h3⟩ | ⟨r, h1, h2⟩
    · rw [h1]; exact ih s' h2 (by omega)
    · rw [h1]; exact ⟨r, rfl, h2⟩
theorem bindO_ex {β ρ : Type} {d : Option (Out β ρ)} {k : β → Option ρ} {P : Out β ρ → Prop} {Q : ρ → Prop} (h : ∃ s, d = some s ∧ P s) (h1 : ∀ x, P (.ret x) → Q x) (h2 : ∀ b, P (.go b) → ∃ r, k b = some r ∧ Q r) : ∃ r, bindO d k = some r ∧ Q r := by
  obtain ⟨s, rfl, hp⟩ := h
  cases s with
  | go b => exact h2 b hp
  | ret x => exact ⟨x, rfl, h1 x hp⟩
theorem take_succ' {α : Type} {xs : List α} {j : Nat} {x : α} (h : xs[j]? = some x) : xs.take (j + 1) = xs.take j ++ [x] := by
  rw [List.take_add_one, h]; rfl
end Go.Proofs.YtimkkjiplioohaaGreatDoor
end
section
namespace Go.Proofs.YtimkkjiplioohaaGreatDoor
open Go.Ab Go.Rp

/-- a value as the arguments hold them -/
structure OKv (v : S61) : Prop where
  k : -9223372036854775808 ≤ v.Kind ∧ v.Kind ≤ 9223372036854775807
  i : -9223372036854775808 ≤ v.Int ∧ v.Int ≤ 9223372036854775807
  t : v.Text.size ≤ 140737488355328
def bs (l : List UInt8) : ByteArray := ⟨l.toArray⟩
theorem bs_size (l : List UInt8) : (bs l).size = l.length := by simp [bs, ByteArray.size]
theorem bs_inj {a b : List UInt8} (h : bs a = bs b) : a = b := by
  injection h with h
  exact List.toArray_inj h
theorem cat_ok {a b : List UInt8} (h : a.length + b.length ≤ 9223372036854775807) : catB (bs a) (bs b) = some (bs (a ++ b)) := by
  unfold catB
  rw [if_pos (by rw [bs_size, bs_size]; exact h)]
  congr 1
theorem vtx_len {v : S61} (h : OKv v) : (vtx v).length ≤ 281474976710656 := by
  have h1 := Lib.itoa_length_le v.Kind h.k.1 h.k.2
  have h2 := Lib.itoa_length_le v.Int h.i.1 h.i.2
  have ht := h.t
  have h3 := Lib.itoa_length_le (v.Text.size : Int) (by omega) (by omega)
  have h4 : v.Text.data.toList.length = v.Text.size := Array.length_toList
  unfold vtx
  simp only [List.length_append, List.length_cons]
  omega
theorem txt_len : ∀ {k : List S61}, (∀ v ∈ k, OKv v) → (txt k).length ≤ k.length * 281474976710656
  | [], _ => Nat.le_refl _
  | v :: k, h => by
    have h1 := vtx_len (h v (.head _))
    have h2 := txt_len (fun w hw => h w (.tail _ hw))
    simp only [txt, List.length_append, List.length_cons]
    omega
theorem d99_ok (N : Nat) {n : Int} (h : -9223372036854775808 ≤ n ∧ n ≤ 9223372036854775807) : d99 N n = some (bs (Lib.itoa n)) := by
  unfold d99
  rw [if_pos h]
  rfl
theorem d61_ok {N : Nat} (hN : 100 ≤ N) {k : List S61} (hk : ∀ v ∈ k, OKv v) (hl : k.length ≤ 20) : d61 N k = some (bs (txt k)) := by
  unfold d61
  have hlen : ∀ j, (txt (k.take j)).length ≤ 20 * 281474976710656 := fun j => by
    have h1 := txt_len (k := k.take j) (fun v hv => hk v (List.mem_of_mem_take hv))
    have h2 : (k.take j).length ≤ 20 := Nat.le_trans (by rw [List.length_take]; omega) hl
    exact Nat.le_trans h1 (Nat.mul_le_mul_right _ h2)
  have := loop_st (fun (s : ByteArray × Int) => match s with | (v14, v15) => if v15 < (k.length : Int) then ((idx k v15).bind fun x48 => (d99 N x48.Kind).bind fun r50 => (catB r50 (ByteArray.mk #[44])).bind fun v51 => (d99 N x48.Int).bind fun r52 => (catB v51 r52).bind fun v53 => (catB v53 (ByteArray.mk #[44])).bind fun v54 => (d99 N (x48.Text.size : Int)).bind fun r55 => (catB v54 r55).bind fun v56 => (catB v56 (ByteArray.mk #[44])).bind fun v57 => (catB v57 x48.Text).bind fun v58 => (catB v14 v58).bind fun v59 => (chkI (v15 + 1)).bind fun v60 => some (.inl (v59, v60))) else some (.inr v14)) (fun j => (bs (txt (k.take j)), (j : Int))) (bs (txt k)) k.length 0 N (fun j _ hj => ?_) ?_ (by omega)
  · rw [show ((ByteArray.mk #[]), (0 : Int)) = (bs (txt (k.take 0)), ((0 : Nat) : Int)) from rfl]
    rw [this]
    rfl
  · dsimp only
    have hx := List.getElem?_eq_getElem (l := k) (i := j) (by omega)
    have hv := hk k[j] (List.getElem_mem _)
    generalize k[j] = v at hx hv
    have t1 := Lib.itoa_length_le v.Kind hv.k.1 hv.k.2
    have t2 := Lib.itoa_length_le v.Int hv.i.1 hv.i.2
    have tt := hv.t
    have t3 := Lib.itoa_length_le (v.Text.size : Int) (by omega) (by omega)
    have t4 : v.Text.data.toList.length = v.Text.size := Array.length_toList
    have tl := hlen j
    have e44 : ByteArray.mk #[44] = bs [44] := rfl
    have eT : v.Text = bs v.Text.data.toList := rfl
    rw [if_pos (by omega), idx_nat hx, Option.bind_some, d99_ok N hv.k, Option.bind_some, e44, cat_ok (by simp only [List.length_singleton]; omega), Option.bind_some, d99_ok N hv.i, Option.bind_some, cat_ok (by simp only [List.length_append, List.length_singleton]; omega), Option.bind_some,
      cat_ok (by simp only [List.length_append, List.length_singleton]; omega), Option.bind_some, d99_ok N ⟨by omega, by omega⟩, Option.bind_some, cat_ok (by simp only [List.length_append, List.length_singleton]; omega), Option.bind_some, cat_ok (by simp only [List.length_append, List.length_singleton]; omega), Option.bind_some]
    rw [show catB (bs (Lib.itoa v.Kind ++ [44] ++ Lib.itoa v.Int ++ [44] ++ Lib.itoa (v.Text.size : Int) ++ [44])) v.Text = catB (bs (Lib.itoa v.Kind ++ [44] ++ Lib.itoa v.Int ++ [44] ++ Lib.itoa (v.Text.size : Int) ++ [44])) (bs v.Text.data.toList) from rfl,
      cat_ok (by simp only [List.length_append, List.length_singleton]; omega), Option.bind_some, cat_ok (by simp only [List.length_append, List.length_singleton]; omega), Option.bind_some, chk_ok (by omega) (by omega), Option.bind_some, take_succ' hx, txt_append]
    have : txt [v] = Lib.itoa v.Kind ++ [44] ++ Lib.itoa v.Int ++ [44] ++ Lib.itoa (v.Text.size : Int) ++ [44] ++ v.Text.data.toList := by
      simp [txt, vtx]
    rw [this]
    rfl
  · dsimp only
    rw [Nat.zero_add, if_neg (by omega), List.take_length]

/-! ### equal rows -/
instance : DecidableEq S61 := fun x y => decidable_of_iff (beqS61 x y = true) (beqS61_iff x y)
theorem d47_ok {N : Nat} {a b : List S61} (hN : a.length < N) (_ha : a.length < 1000000) (hb : b.length < 1000000) : d47 N a b = some (decide (a = b)) := by
  unfold d47
  by_cases hl : a.length = b.length
  · rw [if_neg (by simp [hl])]
    have h : ∃ r, bindO (β := Unit) (ρ := Bool) (iterN (σ := Int) (ρ := (Out Unit Bool)) (fun (v7 : Int) => if v7 < (a.length : Int) then ((idx a v7).bind fun x22 => (idx b v7).bind fun x24 => if (!beqS61 x22 x24) = true then (some (.inr (.ret false))) else (chkI (v7 + 1)).bind fun v26 => some (.inl v26)) else some (.inr (.go ()))) N 0) (fun _ => some true) = some r ∧ r = decide (a = b) := by
      refine bindO_ex (P := fun o => match o with
        | .ret x => x = false ∧ a ≠ b
        | .go _ => a = b) ?_ (fun x hx => by rw [hx.1]; simp [hx.2]) fun _ hx => ⟨true, rfl, by rw [show a = b from hx]; simp⟩
      refine iter_post _ (fun s : Int => a.length - s.toNat) (fun s : Int => ∃ j : Nat, s = j ∧ j ≤ a.length ∧ a.take j = b.take j) _ ?_ N 0 ⟨0, rfl, Nat.zero_le _, rfl⟩ (by simpa using hN)
      rintro s ⟨j, rfl, hj, he⟩
      by_cases hlt : (j : Int) < (a.length : Int)
      · rw [if_pos hlt]
        have hx := List.getElem?_eq_getElem (l := a) (i := j) (by omega)
        have hy := List.getElem?_eq_getElem (l := b) (i := j) (by omega)
        generalize a[j] = x at hx
        generalize b[j] = y at hy
        rw [idx_nat hx, Option.bind_some, idx_nat hy, Option.bind_some]
        by_cases hxy : x = y
        · have : beqS61 x y = true := (beqS61_iff x y).2 hxy
          rw [this, if_neg (by simp), chk_ok (by omega) (by omega), Option.bind_some]
          exact .inl ⟨_, rfl, ⟨j + 1, by simp, by omega, by rw [take_succ' hx, take_succ' hy, he, hxy]⟩, by simp; omega⟩
        · have : beqS61 x y = false := by rw [← Bool.not_eq_true]; exact fun h => hxy ((beqS61_iff x y).1 h)
          rw [this, if_pos (show (!false) = true from rfl)]
          refine .inr ⟨_, rfl, rfl, fun h => hxy ?_⟩
          rw [h, hy] at hx
          injection hx with hx
          exact hx.symm
      · rw [if_neg hlt]
        refine .inr ⟨_, rfl, ?_⟩
        have : j = a.length := by omega
        subst this
        show a = b
        rw [List.take_length] at he
        rw [he, hl, List.take_length]
    obtain ⟨r, h1, h2⟩ := h
    rw [h1, h2]
  · rw [if_pos (by simp; omega)]
    rw [decide_eq_false (fun h => hl (by rw [h]))]
theorem d34_ok {N : Nat} {a : List S61} (hN : a.length < N) (ha : a.length < 1000000) : d34 N a a = some true := by
  have h := d47_ok (N := N) (a := a) (b := a) hN ha ha
  unfold d47 at h
  unfold d34
  rw [h]
  simp
theorem d28_ok {N : Nat} {l : List (List S61)} (hN : 1000 ≤ N) (hl : l.length < N) (hl2 : l.length < 1000000) (hr : ∀ r ∈ l, r.length ≤ 100) : d28 N l l = some true := by
  unfold d28
  rw [if_neg (by simp)]
  have h : ∃ r, bindO (β := Unit) (ρ := Bool) (iterN (σ := Int) (ρ := (Out Unit Bool)) (fun (v8 : Int) => if v8 < (l.length : Int) then ((idx l v8).bind fun x25 => (idx l v8).bind fun x27 => (d34 N x25 x27).bind fun r28 => if (!r28) = true then (some (.inr (.ret false))) else (chkI (v8 + 1)).bind fun v30 => some (.inl v30)) else some (.inr (.go ()))) N 0) (fun _ => some true) = some r ∧ r = true := by
    refine bindO_ex (P := fun o => match o with
      | .ret _ => False
      | .go _ => True) ?_ (fun x hx => hx.elim) fun _ _ => ⟨true, rfl, rfl⟩
    refine iter_post _ (fun s : Int => l.length - s.toNat) (fun s : Int => ∃ j : Nat, s = j ∧ j ≤ l.length) _ ?_ N 0 ⟨0, rfl, Nat.zero_le _⟩ (by simpa using hl)
    rintro s ⟨j, rfl, hj⟩
    by_cases hlt : (j : Int) < (l.length : Int)
    · rw [if_pos hlt]
      have hx := List.getElem?_eq_getElem (l := l) (i := j) (by omega)
      have hm := hr l[j] (List.getElem_mem _)
      generalize l[j] = x at hx hm
      rw [idx_nat hx, Option.bind_some, Option.bind_some, d34_ok (by omega) (by omega), Option.bind_some, if_neg (by simp), chk_ok (by omega) (by omega), Option.bind_some]
      exact .inl ⟨_, rfl, ⟨j + 1, by simp, by omega⟩, by simp; omega⟩
    · rw [if_neg hlt]
      exact .inr ⟨_, rfl, trivial⟩
  obtain ⟨r, h1, h2⟩ := h
  rw [h1, h2]

/-! ### keys -/
def get (r : List S61) (i : Int) : S61 := r.getD i.toNat ⟨0, 0, ⟨#[]⟩⟩
def keyS (r : List S61) (at_ : List Int) : Option (List S61) := if at_.all (fun i => (get r i).Kind != 0) then some (at_.map (get r)) else none
def In (r : List S61) (at_ : List Int) : Prop := ∀ i ∈ at_, 0 ≤ i ∧ i < r.length
theorem idx_get {r : List S61} {i : Int} (h : 0 ≤ i ∧ i < r.length) : idx r i = some (get r i) := by
  unfold idx get
  rw [if_pos h.1, List.getD_eq_getElem?_getD, List.getElem?_eq_getElem (show i.toNat < r.length by omega)]
  rfl
theorem keyS_len {r : List S61} {at_ : List Int} {k : List S61} (h : keyS r at_ = some k) : k.length = at_.length := by
  unfold keyS at h
  split at h
  · injection h with h; rw [← h]; simp
  · cases h
theorem get_mem {r : List S61} {i : Int} (h : 0 ≤ i ∧ i < r.length) : get r i ∈ r := by
  unfold get
  rw [List.getD_eq_getElem?_getD, List.getElem?_eq_getElem (show i.toNat < r.length by omega)]
  exact List.getElem_mem _
theorem keyS_ok {r : List S61} {at_ : List Int} {k : List S61} (h : keyS r at_ = some k) (hi : In r at_) (hr : ∀ v ∈ r, OKv v) : ∀ v ∈ k, OKv v := by
  unfold keyS at h
  split at h
  · injection h with h
    subst h
    intro v hv
    obtain ⟨i, h1, rfl⟩ := List.mem_map.1 hv
    exact hr _ (get_mem (hi i h1))
  · cases h
def keyR (r : List S61) (at_ : List Int) : List S61 × Bool := match keyS r at_ with
  | some k => (k, true)
  | none => ([], false)
theorem keyR_some {r : List S61} {at_ : List Int} {k : List S61} (h : keyS r at_ = some k) : keyR r at_ = (k, true) := by unfold keyR; rw [h]
theorem keyR_none {r : List S61} {at_ : List Int} (h : keyS r at_ = none) : keyR r at_ = ([], false) := by unfold keyR; rw [h]
theorem d58_ok {N : Nat} (hN : 1000 ≤ N) {r : List S61} {at_ : List Int} (hi : In r at_) (hl : at_.length ≤ 20) : d58 N r at_ = some (keyR r at_) := by
  have h : ∃ x, d58 N r at_ = some x ∧ x = keyR r at_ := by
    unfold d58
    refine bindO_ex (P := fun o => match o with
      | .ret x => x = ([], false) ∧ keyS r at_ = none
      | .go l => keyS r at_ = some l) ?_ (fun x hx => by rw [hx.1, keyR_none hx.2]) fun l hx => ⟨_, rfl, by rw [keyR_some (show keyS r at_ = some l from hx)]⟩
    refine iter_post _ (fun s : List S61 × Int => at_.length - s.2.toNat) (fun s : List S61 × Int => ∃ j : Nat, s.2 = j ∧ j ≤ at_.length ∧ s.1 = (at_.take j).map (get r) ∧ (at_.take j).all (fun i => (get r i).Kind != 0) = true) _ ?_ N _ ⟨0, rfl, Nat.zero_le _, rfl, rfl⟩ (by dsimp only; omega)
    rintro ⟨l, s⟩ ⟨j, hs, hj, hl1, ha⟩
    dsimp only at hs hl1 ⊢
    subst hs hl1
    by_cases hlt : (j : Int) < (at_.length : Int)
    · rw [if_pos hlt]
      have hx := List.getElem?_eq_getElem (l := at_) (i := j) (by omega)
      have hm := hi at_[j] (List.getElem_mem _)
      have hmem : at_[j] ∈ at_ := List.getElem_mem _
      generalize at_[j] = i at hx hm hmem
      rw [idx_nat hx, Option.bind_some, idx_get hm, Option.bind_some]
      by_cases hk : (get r i).Kind = 0
      · rw [if_pos (by simp [hk])]
        refine .inr ⟨_, rfl, rfl, ?_⟩
        unfold keyS
        rw [if_neg]
        intro h
        have := List.all_eq_true.1 h i hmem
        simp [hk] at this
      · have hlen : ((at_.take j).map (get r)).length ≤ 20 := by rw [List.length_map, List.length_take]; omega
        rw [if_neg (by simp [hk])]
        unfold appL
        rw [if_pos (by unfold Rp.reach; simp only [List.length_singleton]; omega), Option.bind_some, chk_ok (by omega) (by omega), Option.bind_some]
        refine .inl ⟨_, rfl, ⟨j + 1, by simp, by omega, by rw [take_succ' hx]; simp, by rw [take_succ' hx, List.all_append, ha]; simp [hk]⟩, by simp; omega⟩
    · rw [if_neg hlt]
      refine .inr ⟨_, rfl, ?_⟩
      have : j = at_.length := by omega
      subst this
      rw [List.take_length] at ha ⊢
      show keyS r at_ = _
      unfold keyS
      rw [if_pos ha]
  obtain ⟨x, h1, h2⟩ := h
  rw [h1, h2]
end Go.Proofs.YtimkkjiplioohaaGreatDoor
end
section
namespace Go.Proofs.YtimkkjiplioohaaGreatDoor
open Go.Ab Go.Rp

/-! ### checking -/
theorem any_ok {N : Nat} {rows : List (List S61)} (hN : rows.length < N) (hl : rows.length ≤ 1000000) (p : List S61 → Option Bool) (q : List S61 → Bool) (hp : ∀ r ∈ rows, p r = some (q r)) : d56 N rows p = some (rows.any q) := by
  have h : ∃ x, d98 N rows p = some x ∧ (x ≥ 0 ↔ rows.any q = true) := by
    unfold d98
    refine bindO_ex (P := fun o => match o with
      | .ret x => 0 ≤ x ∧ rows.any q = true
      | .go _ => rows.any q = false) ?_ (fun x hx => ⟨fun _ => hx.2, fun _ => hx.1⟩) fun _ hx => ⟨-1, rfl, ⟨fun h => by omega, fun h => by rw [show rows.any q = false from hx] at h; cases h⟩⟩
    refine iter_post _ (fun s : Int => rows.length - s.toNat) (fun s : Int => ∃ j : Nat, s = j ∧ j ≤ rows.length ∧ (rows.take j).any q = false) _ ?_ N 0 ⟨0, rfl, Nat.zero_le _, rfl⟩ (by simpa using hN)
    rintro s ⟨j, rfl, hj, ha⟩
    by_cases hlt : (j : Int) < (rows.length : Int)
    · rw [if_pos hlt]
      have hx := List.getElem?_eq_getElem (l := rows) (i := j) (by omega)
      have hm : rows[j] ∈ rows := List.getElem_mem _
      generalize rows[j] = x at hx hm
      rw [idx_nat hx, Option.bind_some, hp x hm, Option.bind_some]
      cases hq : q x with
      | true =>
        rw [ite_tt]
        exact .inr ⟨_, rfl, by omega, List.any_eq_true.2 ⟨x, hm, hq⟩⟩
      | false =>
        rw [ite_ft, chk_ok (by omega) (by omega), Option.bind_some]
        exact .inl ⟨_, rfl, ⟨j + 1, by simp, by omega, by rw [take_succ' hx, List.any_append, ha]; simp [hq]⟩, by simp; omega⟩
    · rw [if_neg hlt]
      refine .inr ⟨_, rfl, ?_⟩
      have : j = rows.length := by omega
      subst this
      rw [List.take_length] at ha
      exact ha
  obtain ⟨x, h1, h2⟩ := h
  unfold d56
  rw [h1, Option.bind_some]
  congr 1
  cases hq : rows.any q with
  | true => exact decide_eq_true (h2.2 hq)
  | false => exact decide_eq_false fun h => by have := h2.1 h; rw [hq] at this; cases this

/-- what a valid join is -/
structure Val (a b : List (List S61)) (on : S50) : Prop where
  len : on.Left.length = on.Right.length
  w0 : 0 ≤ on.RightWidth
  w1 : on.RightWidth ≤ 20
  l : ∀ r ∈ a, In r on.Left
  r : ∀ r ∈ b, In r on.Right
theorem side_ok {N : Nat} (hN : 1000 ≤ N) {rows : List (List S61)} (hl : rows.length ≤ 60) {at_ : List Int} (ha : at_.length ≤ 20) {β : Type} (c : Int) :
    ∃ o, iterN (σ := Int) (ρ := (Out Unit (Int ⊕ (Out β Int)))) (fun (v159 : Int) => if v159 < (at_.length : Int) then ((idx at_ v159).bind fun x182 => Option.bind (α := Bool) (if x182 < 0 then some true else (d56 N rows (fun b0 => d62 N b0 x182)).bind fun r188 => some r188) fun (v186 : Bool) => if v186 = true then some (.inr (.ret (.inr (.ret c)))) else (chkI (v159 + 1)).bind fun v190 => some (.inl v190)) else some (.inr (.go ()))) N 0 = some o ∧ ((o = .ret (.inr (.ret c))) ∨ (o = .go () ∧ ∀ r ∈ rows, In r at_)) := by
  refine iter_post _ (fun s : Int => at_.length - s.toNat) (fun s : Int => ∃ j : Nat, s = j ∧ j ≤ at_.length ∧ ∀ r ∈ rows, In r (at_.take j)) _ ?_ N 0 ⟨0, rfl, Nat.zero_le _, fun r _ i hi => by simp at hi⟩ (by simp; omega)
  rintro s ⟨j, rfl, hj, ha2⟩
  by_cases hlt : (j : Int) < (at_.length : Int)
  · rw [if_pos hlt]
    have hx := List.getElem?_eq_getElem (l := at_) (i := j) (by omega)
    generalize at_[j] = i at hx
    rw [idx_nat hx, Option.bind_some]
    by_cases h0 : i < 0
    · rw [if_pos h0, Option.bind_some, if_pos rfl]
      exact .inr ⟨_, rfl, .inl rfl⟩
    · have hany : d56 N rows (fun b0 => d62 N b0 i) = some (rows.any fun r => decide (i ≥ (r.length : Int))) := any_ok (by omega) (by omega) _ _ (fun r _ => rfl)
      rw [if_neg h0, hany, Option.bind_some, Option.bind_some]
      cases hq : rows.any fun r => decide (i ≥ (r.length : Int)) with
      | true =>
        rw [ite_tt]
        exact .inr ⟨_, rfl, .inl rfl⟩
      | false =>
        rw [ite_ft, chk_ok (by omega) (by omega), Option.bind_some]
        refine .inl ⟨_, rfl, ⟨j + 1, by simp, by omega, fun r hr i' hi' => ?_⟩, by simp; omega⟩
        rw [take_succ' hx] at hi'
        rcases List.mem_append.1 hi' with h | h
        · exact ha2 r hr i' h
        · obtain rfl := List.mem_singleton.1 h
          have := List.any_eq_false.1 hq r hr
          simp at this
          omega
  · rw [if_neg hlt]
    have : j = at_.length := by omega
    subst this
    rw [List.take_length] at ha2
    exact .inr ⟨_, rfl, .inr ⟨rfl, ha2⟩⟩
theorem d25_ok {N : Nat} (hN : 1000 ≤ N) {a b : List (List S61)} {on : S50} (ha : a.length ≤ 60) (hb : b.length ≤ 60) (hl : on.Left.length + on.Right.length ≤ 20) : ∃ e, d25 N a b on = some e ∧ (e = 0 → Val a b on) := by
  unfold d25
  rw [if_neg (by omega), if_neg (by omega), Option.bind_some]
  by_cases hw : on.RightWidth > 20
  · rw [if_pos (by simp [hw])]
    exact ⟨2, rfl, fun h => by cases h⟩
  rw [if_neg (by simp [hw])]
  by_cases hlen : on.Left.length = on.Right.length
  rotate_left
  · rw [if_pos (by simp; omega), Option.bind_some, if_pos rfl]
    exact ⟨3, rfl, fun h => by cases h⟩
  rw [if_neg (by simp [hlen]), Option.bind_some]
  by_cases hw0 : on.RightWidth < 0
  · rw [if_pos (by simp [hw0])]
    exact ⟨3, rfl, fun h => by cases h⟩
  rw [if_neg (by simp [hw0])]
  refine bindO_ex (P := fun o => match o with
    | .ret x => x = 3
    | .go _ => (∀ r ∈ a, In r on.Left) ∧ ∀ r ∈ b, In r on.Right) ?_ (fun x hx => by rw [show x = 3 from hx]; intro h; cases h) fun _ hv => ?_
  · obtain ⟨M, rfl⟩ : ∃ M, N = M + 3 := ⟨N - 3, by omega⟩
    obtain ⟨o1, g1, h1⟩ := side_ok (N := M + 3) (by omega) (rows := a) ha (at_ := on.Left) (by omega) (β := Unit) 3
    obtain ⟨o2, g2, h2⟩ := side_ok (N := M + 3) (by omega) (rows := b) hb (at_ := on.Right) (by omega) (β := Unit) 3
    have i0 : idx [S136.mk a on.Left, S136.mk b on.Right] 0 = some (S136.mk a on.Left) := rfl
    have i1 : idx [S136.mk a on.Left, S136.mk b on.Right] 1 = some (S136.mk b on.Right) := rfl
    have k1 : chkI (0 + 1) = some 1 := chk_ok (by omega) (by omega)
    have k2 : chkI (1 + 1) = some 2 := chk_ok (by omega) (by omega)
    rw [iterN_succ]
    rw [if_pos (by simp), i0, Option.bind_some, g1]
    rcases h1 with rfl | ⟨rfl, h1⟩
    · exact ⟨_, rfl, rfl⟩
    · simp only [bindO]
      rw [k1, Option.bind_some]
      show ∃ s, iterN _ (M + 2) 1 = some s ∧ _
      rw [iterN_succ]
      rw [if_pos (by simp), i1, Option.bind_some, g2]
      rcases h2 with rfl | ⟨rfl, h2⟩
      · exact ⟨_, rfl, rfl⟩
      · simp only
        rw [k2, Option.bind_some]
        show ∃ s, iterN _ (M + 1) 2 = some s ∧ _
        rw [iterN_succ]
        rw [if_neg (by simp)]
        exact ⟨_, rfl, h1, h2⟩
  · have hany : d56 N b (fun b0 => d63 N b0 on) = some (b.any fun r => (r.length : Int) != on.RightWidth) := any_ok (by omega) (by omega) _ _ (fun r _ => rfl)
    rw [hany, Option.bind_some]
    split
    · exact ⟨3, rfl, fun h => by cases h⟩
    · exact ⟨0, rfl, fun _ => ⟨hlen, by omega, by omega, hv.1, hv.2⟩⟩

/-! ### putting together -/
theorem d27_ok {N : Nat} (hN : 1000 ≤ N) {x y : List S61} (hx : x.length ≤ 50) (hy : y.length ≤ 50) : d27 N [x, y] = some (x ++ y) := by
  obtain ⟨M, rfl⟩ : ∃ M, N = M + 3 := ⟨N - 3, by omega⟩
  unfold d27
  have i0 : idx [x, y] 0 = some x := rfl
  have i1 : idx [x, y] 1 = some y := rfl
  have k1 : chkI 1 = some 1 := chk_ok (by omega) (by omega)
  have k2 : chkI 2 = some 2 := chk_ok (by omega) (by omega)
  have c1 : chkI (x.length : Int) = some (x.length : Int) := chk_ok (by omega) (by omega)
  have c2 : chkI ((x.length : Int) + (y.length : Int)) = some ((x.length : Int) + (y.length : Int)) := chk_ok (by omega) (by omega)
  have n1 : ¬ ((x.length : Int) < 0) := by omega
  have n2 : ¬ ((x.length : Int) + (y.length : Int) < 0) := by omega
  have a1 : appL 32 ([] : List S61) x = some x := by
    unfold appL; rw [if_pos (by unfold Rp.reach; simp only [List.length_nil]; omega)]; rfl
  have a2 : appL 32 x y = some (x ++ y) := by
    unfold appL; rw [if_pos (by unfold Rp.reach; omega)]
  have g : growL 32 ((x.length : Int) + (y.length : Int)) = some () := by
    unfold growL; rw [if_pos (by unfold Rp.reach; omega)]
  simp [iterN_succ, i0, i1, k1, k2, c1, c2, n1, n2, a1, a2, g]
theorem d59_ok {N : Nat} (hN : 1000 ≤ N) {x y : List S61} (hx : x.length ≤ 50) (hy : y.length ≤ 50) : d59 N x y = some (x ++ y) := by
  unfold d59
  rw [letv_eq, d27_ok hN hx hy]
  rfl
def zeros (n : Int) : List S61 := List.replicate n.toNat ⟨0, 0, ⟨#[]⟩⟩
theorem mkz_ok {n : Int} (h0 : 0 ≤ n) (h1 : n ≤ 20) : mkL 32 n (S61.mk 0 0 (ByteArray.mk #[])) = some (zeros n) := by
  unfold mkL
  rw [if_pos ⟨h0, by unfold Rp.reach; omega⟩]
  rfl
theorem d60_ok {N : Nat} (hN : 1000 ≤ N) {x : List S61} {on : S50} (hx : x.length ≤ 50) (h0 : 0 ≤ on.RightWidth) (h1 : on.RightWidth ≤ 20) : d60 N x on = some (x ++ zeros on.RightWidth) := by
  unfold d60
  rw [mkz_ok h0 h1, Option.bind_some, letv_eq, d27_ok hN hx (by simp [zeros]; omega)]
  rfl
end Go.Proofs.YtimkkjiplioohaaGreatDoor
end
section
namespace Go.Proofs.YtimkkjiplioohaaGreatDoor
open Go.Ab Go.Rp

theorem bind_is {α β : Type} {d : Option α} {a : α} {k : α → Option β} {x : Option β} (h : d = some a) (h2 : k a = x) : d.bind k = x := by rw [h]; exact h2
theorem loop_is {σ ρ : Type} {step : σ → Option (σ ⊕ ρ)} {s0 : σ} {N : Nat} (S : Nat → σ) (r : ρ) (n : Nat) (h0 : s0 = S 0) (hb : ∀ j, j < n → step (S j) = some (.inl (S (j + 1)))) (he : step (S n) = some (.inr r)) (hN : n < N) : iterN step N s0 = some r := by
  rw [h0]
  exact loop_st step S r n 0 N (fun j _ h => hb j (by omega)) (by rw [Nat.zero_add]; exact he) hN

def mt (on : S50) (x y : List S61) : Bool := match keyS x on.Left with
  | some k => decide (keyS y on.Right = some k)
  | none => false
theorem mt_iff {on : S50} (hlen : on.Left.length = on.Right.length) (x y : List S61) : mt on x y = true ↔ ∀ (i : Nat) l r, on.Left[i]? = some l → on.Right[i]? = some r → (get x l).Kind ≠ 0 ∧ get x l = get y r := by
  have pair : ∀ {i : Nat} {l : Int}, on.Left[i]? = some l → ∃ r, on.Right[i]? = some r := fun {i l} h => by
    have := (List.getElem?_eq_some_iff.1 h).1
    exact ⟨_, List.getElem?_eq_getElem (by omega)⟩
  have pair2 : ∀ {i : Nat} {r : Int}, on.Right[i]? = some r → ∃ l, on.Left[i]? = some l := fun {i r} h => by
    have := (List.getElem?_eq_some_iff.1 h).1
    exact ⟨_, List.getElem?_eq_getElem (by omega)⟩
  unfold mt keyS
  constructor
  · intro h i l r hl hr
    split at h
    · rename_i k hk
      split at hk
      · rename_i ha
        injection hk with hk
        have h := of_decide_eq_true h
        split at h
        · injection h with h
          have h1 := List.all_eq_true.1 ha l (List.mem_of_getElem? hl)
          refine ⟨by simpa using h1, ?_⟩
          have h2 := congrArg (fun l => l[i]?) (hk.trans h.symm)
          simp only [List.getElem?_map, hl, hr, Option.map_some, Option.some.injEq] at h2
          exact h2
        · cases h
      · cases hk
    · cases h
  · intro h
    have ha : on.Left.all (fun i => (get x i).Kind != 0) = true := List.all_eq_true.2 fun l hl => by
      obtain ⟨i, hi⟩ := List.getElem?_of_mem hl
      obtain ⟨r, hr⟩ := pair hi
      have := (h i l r hi hr).1
      simpa using this
    have hb : on.Right.all (fun i => (get y i).Kind != 0) = true := List.all_eq_true.2 fun r hr => by
      obtain ⟨i, hi⟩ := List.getElem?_of_mem hr
      obtain ⟨l, hl⟩ := pair2 hi
      have := h i l r hl hi
      rw [← this.2]
      simpa using this.1
    rw [if_pos ha, if_pos hb]
    apply decide_eq_true
    congr 1
    apply List.ext_getElem?
    intro i
    rw [List.getElem?_map, List.getElem?_map]
    cases hl : on.Left[i]? with
    | none =>
      have : on.Right[i]? = none := by
        rw [List.getElem?_eq_none_iff] at hl ⊢
        omega
      rw [this]
      rfl
    | some l =>
      obtain ⟨r, hr⟩ := pair hl
      rw [hr]
      simp [(h i l r hl hr).2]
theorem d26_ok {N : Nat} (hN : 1000 ≤ N) {on : S50} (hlen : on.Left.length = on.Right.length) (hl : on.Left.length ≤ 20) {x y : List S61} (hx : In x on.Left) (hy : In y on.Right) : d26 N x y on = some (mt on x y) := by
  have h : ∃ r, d26 N x y on = some r ∧ r = mt on x y := by
    unfold d26
    refine bindO_ex (P := fun o => match o with
      | .ret r => r = mt on x y
      | .go _ => mt on x y = true) ?_ (fun r hr => hr) fun _ hr => ⟨true, rfl, (show mt on x y = true from hr).symm⟩
    refine iter_post _ (fun s : Int => on.Left.length - s.toNat) (fun s : Int => ∃ j : Nat, s = j ∧ j ≤ on.Left.length ∧ ∀ (i : Nat) l r, i < j → on.Left[i]? = some l → on.Right[i]? = some r → (get x l).Kind ≠ 0 ∧ get x l = get y r) _ ?_ N 0 ⟨0, rfl, Nat.zero_le _, fun i l r h => by omega⟩ (by simp; omega)
    rintro s ⟨j, rfl, hj, ha⟩
    by_cases hlt : (j : Int) < (on.Left.length : Int)
    · rw [if_pos hlt]
      have h1 := List.getElem?_eq_getElem (l := on.Left) (i := j) (by omega)
      have h2 := List.getElem?_eq_getElem (l := on.Right) (i := j) (by omega)
      have m1 := hx on.Left[j] (List.getElem_mem _)
      have m2 := hy on.Right[j] (List.getElem_mem _)
      generalize on.Left[j] = l at h1 m1
      generalize on.Right[j] = r at h2 m2
      have no : ((get x l).Kind = 0 ∨ get x l ≠ get y r) → mt on x y = false := fun h => by
        rw [← Bool.not_eq_true, mt_iff hlen]
        intro hall
        have := hall j l r h1 h2
        rcases h with h | h
        · exact this.1 h
        · exact h this.2
      rw [idx_nat h1, Option.bind_some, idx_get m1, Option.bind_some]
      by_cases hk : (get x l).Kind = 0
      · rw [if_pos (by simp [hk]), Option.bind_some, if_pos rfl]
        exact .inr ⟨_, rfl, (no (.inl hk)).symm⟩
      · rw [if_neg (by simp [hk]), idx_nat h2, Option.bind_some, idx_get m2, Option.bind_some, Option.bind_some]
        by_cases he : get x l = get y r
        · have : beqS61 (get x l) (get y r) = true := (beqS61_iff _ _).2 he
          rw [this, if_neg (by simp), chk_ok (by omega) (by omega), Option.bind_some]
          refine .inl ⟨_, rfl, ⟨j + 1, by simp, by omega, fun i l' r' hi hl' hr' => ?_⟩, by simp; omega⟩
          rcases Nat.lt_or_ge i j with h | h
          · exact ha i l' r' h hl' hr'
          · obtain rfl : i = j := by omega
            rw [h1] at hl'
            rw [h2] at hr'
            injection hl' with hl'
            injection hr' with hr'
            subst hl' hr'
            exact ⟨hk, he⟩
        · have : beqS61 (get x l) (get y r) = false := by rw [← Bool.not_eq_true]; exact fun h => he ((beqS61_iff _ _).1 h)
          rw [this, if_pos (show (!false) = true from rfl)]
          exact .inr ⟨_, rfl, (no (.inr he)).symm⟩
    · rw [if_neg hlt]
      refine .inr ⟨_, rfl, (mt_iff hlen x y).2 fun i l r hl' hr' => ha i l r ?_ hl' hr'⟩
      have := (List.getElem?_eq_some_iff.1 hl').1
      omega
  obtain ⟨r, h1, h2⟩ := h
  rw [h1, h2]

/-- the arguments of a law that is not passed over -/
structure Hyp (a b : List (List S61)) (on : S50) : Prop where
  v : Val a b on
  a60 : a.length ≤ 60
  b60 : b.length ≤ 60
  ra : ∀ r ∈ a, r.length ≤ 10
  rb : ∀ r ∈ b, r.length ≤ 10
  l20 : on.Left.length + on.Right.length ≤ 20
  oa : ∀ r ∈ a, ∀ v ∈ r, OKv v
  ob : ∀ r ∈ b, ∀ v ∈ r, OKv v

def ms (b : List (List S61)) (on : S50) (x : List S61) : List (List S61) := b.filter (mt on x)
def one (b : List (List S61)) (on : S50) (x : List S61) : List (List S61) := (ms b on x).map (x ++ ·) ++ (if ((ms b on x).isEmpty && on.Outer) = true then [x ++ zeros on.RightWidth] else [])
def outS (a b : List (List S61)) (on : S50) : List (List S61) := a.flatMap (one b on)
def has (b : List (List S61)) (on : S50) (x : List S61) : Bool := !(ms b on x).isEmpty
def semS (a b : List (List S61)) (on : S50) (anti : Bool) : List (List S61) := a.filter fun x => !(has b on x == anti)
theorem ms_len (b : List (List S61)) (on : S50) (x : List S61) : (ms b on x).length ≤ b.length := List.length_filter_le _ _
theorem one_len {b : List (List S61)} (h : b.length ≤ 60) (on : S50) (x : List S61) : (one b on x).length ≤ 61 := by
  have := ms_len b on x
  unfold one
  rw [List.length_append, List.length_map]
  split <;> simp <;> omega
theorem flat_len {f : List S61 → List (List S61)} (hf : ∀ x, (f x).length ≤ 61) : ∀ l : List (List S61), (l.flatMap f).length ≤ l.length * 61
  | [] => Nat.le_refl _
  | x :: l => by
    have := flat_len hf l
    have := hf x
    rw [List.flatMap_cons, List.length_append, List.length_cons]
    omega
theorem app24 {l m : List (List S61)} (h : l.length + m.length ≤ 100000) : appL 24 l m = some (l ++ m) := by
  unfold appL
  rw [if_pos (by unfold Rp.reach; omega)]
theorem acc_len {b : List (List S61)} (h : b.length ≤ 60) (on : S50) {a : List (List S61)} (ha : a.length ≤ 60) (j : Nat) : ((a.take j).flatMap (one b on)).length ≤ 3660 := by
  have h1 := flat_len (one_len h on) (a.take j)
  have h2 : (a.take j).length ≤ 60 := by rw [List.length_take]; omega
  omega
theorem take_flat {a : List (List S61)} {f : List S61 → List (List S61)} {j : Nat} {x : List S61} (h : a[j]? = some x) : (a.take (j + 1)).flatMap f = (a.take j).flatMap f ++ f x := by
  rw [take_succ' h, List.flatMap_append]; simp
theorem take_filt {a : List (List S61)} {p : List S61 → Bool} {j : Nat} {x : List S61} (h : a[j]? = some x) : (a.take (j + 1)).filter p = (a.take j).filter p ++ (if p x = true then [x] else []) := by
  rw [take_succ' h, List.filter_append, List.filter_cons, List.filter_nil]

theorem d22_ok {N : Nat} (hN : 1000 ≤ N) {a b : List (List S61)} {on : S50} (H : Hyp a b on) (h25 : d25 N a b on = some 0) : d22 N a b on = some (outS a b on, 0) := by
  have a60 := H.a60
  have b60 := H.b60
  have l20 := H.l20
  have hlen := H.v.len
  unfold d22
  rw [h25, Option.bind_some, if_neg (by simp)]
  refine bind_is (loop_is (fun j => ((a.take j).flatMap (one b on), (j : Int))) (outS a b on) a.length rfl (fun j hj => ?_) ?_ (by omega)) rfl
  · dsimp only
    have hx := List.getElem?_eq_getElem (l := a) (i := j) hj
    have hxm : a[j] ∈ a := List.getElem_mem _
    generalize a[j] = x at hx hxm
    have hxi := H.v.l x hxm
    have hx10 := H.ra x hxm
    have hacc := acc_len b60 on a60 j
    rw [if_pos (by omega), idx_nat hx, Option.bind_some, d58_ok hN hxi (by omega), Option.bind_some, take_flat hx]
    generalize hA : (a.take j).flatMap (one b on) = A at *
    refine bind_is (a := (A ++ (ms b on x).map (x ++ ·), has b on x)) (loop_is (fun i => (A ++ ((b.take i).filter (mt on x)).map (x ++ ·), !((b.take i).filter (mt on x)).isEmpty, (keyS x on.Left).isSome, (i : Int))) _ b.length (by cases hkx : keyS x on.Left with | some k => simp [keyR_some hkx] | none => simp [keyR_none hkx]) (fun i hi => ?_) ?_ (by omega)) ?_
    · dsimp only
      have hy := List.getElem?_eq_getElem (l := b) (i := i) hi
      have hym : b[i] ∈ b := List.getElem_mem _
      generalize b[i] = y at hy hym
      have hyi := H.v.r y hym
      have hy10 := H.rb y hym
      have hfl : ((b.take i).filter (mt on x)).length ≤ 60 := Nat.le_trans (List.length_filter_le _ _) (by rw [List.length_take]; omega)
      rw [if_pos (by omega), idx_nat hy, Option.bind_some, d58_ok hN hyi (by omega), Option.bind_some, take_filt hy]
      have hm : (if (keyS x on.Left).isSome = true then (if (keyR y on.Right).2 = true then (d47 N (keyR x on.Left).1 (keyR y on.Right).1).bind fun r349 => some (true, r349) else some (true, false)) else some (false, false)) = some ((keyS x on.Left).isSome, mt on x y) := by
        unfold mt
        cases hkx : keyS x on.Left with
        | none => rfl
        | some k =>
          rw [keyR_some hkx]
          cases hky : keyS y on.Right with
          | none => rw [keyR_none hky]; rfl
          | some k' =>
            rw [keyR_some hky]
            have e1 := keyS_len hkx
            have e2 := keyS_len hky
            simp only [Option.isSome_some, if_true]
            rw [d47_ok (by omega) (by omega) (by omega), Option.bind_some]
            congr 2
            rw [decide_eq_decide]
            constructor
            · rintro rfl; rfl
            · intro h; injection h with h; exact h.symm
      rw [hm, Option.bind_some]
      dsimp only
      cases hmt : mt on x y with
      | true =>
        rw [ite_tt, d59_ok hN (by omega) (by omega), Option.bind_some, app24 (by simp; omega), Option.bind_some, chk_ok (by omega) (by omega), Option.bind_some]
        simp
      | false =>
        rw [ite_ft, chk_ok (by omega) (by omega), Option.bind_some]
        simp
    · dsimp only
      rw [if_neg (by omega), List.take_length]
      rfl
    · dsimp only
      have hml := ms_len b on x
      have hO : (if (!has b on x) = true then some on.Outer else some false) = some ((ms b on x).isEmpty && on.Outer) := by
        unfold has
        cases (ms b on x).isEmpty <;> simp
      rw [hO, Option.bind_some]
      unfold one
      cases ho : ((ms b on x).isEmpty && on.Outer) with
      | true =>
        rw [ite_tt, d60_ok hN (by omega) H.v.w0 H.v.w1, Option.bind_some, app24 (by simp; omega), Option.bind_some, chk_ok (by omega) (by omega), Option.bind_some]
        simp
      | false =>
        rw [ite_ft, chk_ok (by omega) (by omega), Option.bind_some]
        simp
  · dsimp only
    rw [if_neg (by omega), List.take_length]
    rfl
end Go.Proofs.YtimkkjiplioohaaGreatDoor
end
section
namespace Go.Proofs.YtimkkjiplioohaaGreatDoor
open Go.Ab Go.Rp

/-- the row's key as the table knows it -/
def kt (on : S50) (y : List S61) : Option ByteArray := (keyS y on.Right).map fun k => bs (txt k)
theorem kt_iff {on : S50} {x y : List S61} {k : List S61} (h : keyS x on.Left = some k) : (kt on y = some (bs (txt k))) ↔ mt on x y = true := by
  unfold kt mt
  rw [h]
  cases hy : keyS y on.Right with
  | none => simp
  | some k' =>
    simp only [Option.map_some, Option.some.injEq, decide_eq_true_eq]
    exact ⟨fun e => txt_inj (bs_inj e), fun e => by rw [e]⟩
theorem kt_filter {on : S50} {x : List S61} {k : List S61} (b : List (List S61)) (h : keyS x on.Left = some k) : b.filter (fun y => decide (kt on y = some (bs (txt k)))) = ms b on x := by
  unfold ms
  congr 1
  funext y
  cases hm : mt on x y with
  | true => exact decide_eq_true ((kt_iff h).2 hm)
  | false => exact decide_eq_false fun e => by rw [(kt_iff h).1 e] at hm; cases hm
theorem ms_none {on : S50} {x : List S61} (b : List (List S61)) (h : keyS x on.Left = none) : ms b on x = [] := by
  unfold ms
  rw [List.filter_eq_nil_iff]
  intro y _
  unfold mt
  rw [h]
  simp
theorem bind_to {α β : Type} {d : Option α} {k : α → Option β} {P : α → Prop} {r : β} (h : ∃ s, d = some s ∧ P s) (h2 : ∀ s, P s → k s = some r) : d.bind k = some r := by
  obtain ⟨s, rfl, hp⟩ := h
  exact h2 s hp

theorem d23_ok {N : Nat} (hN : 1000 ≤ N) {a b : List (List S61)} {on : S50} (H : Hyp a b on) (h25 : d25 N a b on = some 0) : d23 N a b on = some (outS a b on, 0) := by
  have a60 := H.a60
  have b60 := H.b60
  have l20 := H.l20
  have hlen := H.v.len
  unfold d23
  rw [h25, Option.bind_some, if_neg (by simp)]
  refine bind_to (P := fun m : List (ByteArray × List (List S61)) => ∀ t, (mget m t).getD [] = b.filter (fun y => decide (kt on y = some t))) ?_ fun m hm => ?_
  · refine iter_post _ (fun s : List (ByteArray × List (List S61)) × Int => b.length - s.2.toNat) (fun s : List (ByteArray × List (List S61)) × Int => ∃ j : Nat, s.2 = j ∧ j ≤ b.length ∧ ∀ t, (mget s.1 t).getD [] = (b.take j).filter (fun y => decide (kt on y = some t))) _ ?_ N _ ⟨0, rfl, Nat.zero_le _, fun t => rfl⟩ (by dsimp only; omega)
    rintro ⟨m, s⟩ ⟨j, hs, hj, hm⟩
    dsimp only at hs hm ⊢
    subst hs
    by_cases hlt : (j : Int) < (b.length : Int)
    · have hy := List.getElem?_eq_getElem (l := b) (i := j) (by omega)
      have hym : b[j] ∈ b := List.getElem_mem _
      generalize b[j] = y at hy hym
      have hyi := H.v.r y hym
      rw [if_pos hlt, idx_nat hy, Option.bind_some, d58_ok hN hyi (by omega), Option.bind_some]
      cases hk : keyS y on.Right with
      | none =>
        rw [keyR_none hk, if_neg (by simp), chk_ok (by omega) (by omega), Option.bind_some]
        refine .inl ⟨_, rfl, ⟨j + 1, by simp, by omega, fun t => ?_⟩, by simp; omega⟩
        have : kt on y = none := by unfold kt; rw [hk]; rfl
        dsimp only
        rw [take_filt hy, this, hm t]
        simp
      | some k =>
        have hkl := keyS_len hk
        have hko := keyS_ok hk hyi (H.ob y hym)
        have hkt : kt on y = some (bs (txt k)) := by unfold kt; rw [hk]; rfl
        have hfl : ((mget m (bs (txt k))).getD []).length ≤ 60 := by
          rw [hm]
          exact Nat.le_trans (List.length_filter_le _ _) (by rw [List.length_take]; omega)
        rw [keyR_some hk, if_pos rfl, d61_ok (by omega) hko (by omega), Option.bind_some, Option.bind_some, letv_eq, app24 (by simp only [List.length_singleton]; omega), Option.bind_some, chk_ok (by omega) (by omega), Option.bind_some]
        refine .inl ⟨_, rfl, ⟨j + 1, by simp, by omega, fun t => ?_⟩, by simp; omega⟩
        dsimp only
        rw [mget_put, take_filt hy, hkt]
        by_cases ht : bs (txt k) = t
        · rw [if_pos ht, if_pos (by simp [ht]), Option.getD_some, hm, ht]
        · rw [if_neg ht, if_neg (by simp [ht]), List.append_nil, hm]
    · rw [if_neg hlt]
      refine .inr ⟨_, rfl, fun t => ?_⟩
      have : j = b.length := by omega
      subst this
      have := hm t
      rw [List.take_length] at this
      exact this
  refine bind_is (loop_is (fun j => ((a.take j).flatMap (one b on), (j : Int))) (outS a b on) a.length rfl (fun j hj => ?_) ?_ (by omega)) rfl
  · dsimp only
    have hx := List.getElem?_eq_getElem (l := a) (i := j) hj
    have hxm : a[j] ∈ a := List.getElem_mem _
    generalize a[j] = x at hx hxm
    have hxi := H.v.l x hxm
    have hx10 := H.ra x hxm
    have hacc := acc_len b60 on a60 j
    have hml := ms_len b on x
    have hmm : ∀ y ∈ ms b on x, y.length ≤ 10 := fun y hy => H.rb y (List.mem_filter.1 hy).1
    rw [if_pos (by omega), idx_nat hx, Option.bind_some, d58_ok hN hxi (by omega), Option.bind_some, take_flat hx]
    generalize hA : (a.take j).flatMap (one b on) = A at *
    have hl : (if (keyR x on.Left).2 = true then (d61 N (keyR x on.Left).1).bind fun r205 => letv ((mget m r205).getD []) fun v206 => some v206 else some ([] : List (List S61))) = some (ms b on x) := by
      cases hk : keyS x on.Left with
      | none => rw [keyR_none hk, if_neg (by simp), ms_none b hk]
      | some k =>
        have hkl := keyS_len hk
        rw [keyR_some hk, if_pos rfl, d61_ok (by omega) (keyS_ok hk hxi (H.oa x hxm)) (by omega), Option.bind_some, letv_eq, hm, kt_filter b hk]
    rw [hl, Option.bind_some]
    unfold one
    generalize ms b on x = M at *
    refine bind_is (a := A ++ M.map (x ++ ·)) (loop_is (fun i => (A ++ (M.take i).map (x ++ ·), (i : Int))) _ M.length (by simp) (fun i hi => ?_) ?_ (by omega)) ?_
    · dsimp only
      have hy := List.getElem?_eq_getElem (l := M) (i := i) hi
      have hym : M[i] ∈ M := List.getElem_mem _
      generalize M[i] = y at hy hym
      have hy10 := hmm y hym
      have htl : (M.take i).length ≤ 60 := by rw [List.length_take]; omega
      rw [if_pos (by omega), idx_nat hy, Option.bind_some, d59_ok hN (by omega) (by omega), Option.bind_some, app24 (by rw [List.length_append, List.length_map, List.length_singleton]; omega), Option.bind_some, chk_ok (by omega) (by omega), Option.bind_some, take_succ' hy]
      simp
    · dsimp only
      rw [if_neg (by omega), List.take_length]
    · have hO : (if ((M.length : Int) == 0) = true then some on.Outer else some false) = some (M.isEmpty && on.Outer) := by
        cases M <;> simp
        omega
      rw [hO, Option.bind_some]
      cases ho : (M.isEmpty && on.Outer) with
      | true =>
        rw [ite_tt, d60_ok hN (by omega) H.v.w0 H.v.w1, Option.bind_some, app24 (by rw [List.length_append, List.length_map, List.length_singleton]; omega), Option.bind_some, chk_ok (by omega) (by omega), Option.bind_some]
        simp
      | false =>
        rw [ite_ft, chk_ok (by omega) (by omega), Option.bind_some]
        simp
  · dsimp only
    rw [if_neg (by omega), List.take_length]
    rfl

theorem any_filter (q : List S61 → Bool) : ∀ b : List (List S61), b.any q = !(b.filter q).isEmpty
  | [] => rfl
  | y :: b => by
    rw [List.any_cons, List.filter_cons]
    cases hq : q y with
    | true => simp
    | false => simpa using any_filter q b
theorem d24_ok {N : Nat} (hN : 1000 ≤ N) {a b : List (List S61)} {on : S50} (H : Hyp a b on) (h25 : d25 N a b on = some 0) (anti : Bool) : d24 N a b on anti = some (semS a b on anti, 0) := by
  have a60 := H.a60
  have b60 := H.b60
  have l20 := H.l20
  have hlen := H.v.len
  unfold d24
  rw [h25, Option.bind_some, if_neg (by simp)]
  refine bind_to (P := fun m : List (ByteArray × Bool) => ∀ t, (mget m t).getD false = b.any (fun y => decide (kt on y = some t))) ?_ fun m hm => ?_
  · refine iter_post _ (fun s : List (ByteArray × Bool) × Int => b.length - s.2.toNat) (fun s : List (ByteArray × Bool) × Int => ∃ j : Nat, s.2 = j ∧ j ≤ b.length ∧ ∀ t, (mget s.1 t).getD false = (b.take j).any (fun y => decide (kt on y = some t))) _ ?_ N _ ⟨0, rfl, Nat.zero_le _, fun t => rfl⟩ (by dsimp only; omega)
    rintro ⟨m, s⟩ ⟨j, hs, hj, hm⟩
    dsimp only at hs hm ⊢
    subst hs
    by_cases hlt : (j : Int) < (b.length : Int)
    · have hy := List.getElem?_eq_getElem (l := b) (i := j) (by omega)
      have hym : b[j] ∈ b := List.getElem_mem _
      generalize b[j] = y at hy hym
      have hyi := H.v.r y hym
      rw [if_pos hlt, idx_nat hy, Option.bind_some, d58_ok hN hyi (by omega), Option.bind_some]
      cases hk : keyS y on.Right with
      | none =>
        rw [keyR_none hk, if_neg (by simp), chk_ok (by omega) (by omega), Option.bind_some]
        refine .inl ⟨_, rfl, ⟨j + 1, by simp, by omega, fun t => ?_⟩, by simp; omega⟩
        have : kt on y = none := by unfold kt; rw [hk]; rfl
        dsimp only
        rw [take_succ' hy, List.any_append, hm t]
        simp [this]
      | some k =>
        have hkl := keyS_len hk
        have hko := keyS_ok hk hyi (H.ob y hym)
        have hkt : kt on y = some (bs (txt k)) := by unfold kt; rw [hk]; rfl
        rw [keyR_some hk, if_pos rfl, d61_ok (by omega) hko (by omega), Option.bind_some, chk_ok (by omega) (by omega), Option.bind_some]
        refine .inl ⟨_, rfl, ⟨j + 1, by simp, by omega, fun t => ?_⟩, by simp; omega⟩
        dsimp only
        rw [mget_put, take_succ' hy, List.any_append]
        by_cases ht : bs (txt k) = t
        · rw [if_pos ht]
          simp [hkt, ht]
        · rw [if_neg ht, hm t]
          simp [hkt, ht]
    · rw [if_neg hlt]
      refine .inr ⟨_, rfl, fun t => ?_⟩
      have : j = b.length := by omega
      subst this
      have := hm t
      rw [List.take_length] at this
      exact this
  refine bind_is (loop_is (fun j => ((a.take j).filter (fun x => !(has b on x == anti)), (j : Int))) (semS a b on anti) a.length rfl (fun j hj => ?_) ?_ (by omega)) rfl
  · dsimp only
    have hx := List.getElem?_eq_getElem (l := a) (i := j) hj
    have hxm : a[j] ∈ a := List.getElem_mem _
    generalize a[j] = x at hx hxm
    have hxi := H.v.l x hxm
    have hx10 := H.ra x hxm
    have hfl : ((a.take j).filter (fun x => !(has b on x == anti))).length ≤ 60 := Nat.le_trans (List.length_filter_le _ _) (by rw [List.length_take]; omega)
    rw [if_pos (by omega), idx_nat hx, Option.bind_some, d58_ok hN hxi (by omega), Option.bind_some, take_filt hx]
    have hl : (if (keyR x on.Left).2 = true then (d61 N (keyR x on.Left).1).bind fun r100 => letv ((mget m r100).getD false) fun v101 => some (!(v101 == anti)) else some (!(false == anti))) = some (!(has b on x == anti)) := by
      cases hk : keyS x on.Left with
      | none =>
        rw [keyR_none hk, if_neg (by simp)]
        unfold has
        rw [ms_none b hk]
        rfl
      | some k =>
        have hkl := keyS_len hk
        rw [keyR_some hk, if_pos rfl, d61_ok (by omega) (keyS_ok hk hxi (H.oa x hxm)) (by omega), Option.bind_some, letv_eq, hm]
        have : (b.any fun y => decide (kt on y = some (bs (txt k)))) = has b on x := by
          unfold has
          rw [← kt_filter b hk]
          exact any_filter _ b
        rw [this]
    rw [hl, Option.bind_some]
    cases hh : (!(has b on x == anti)) with
    | true =>
      have h39 : d39 N x = some x := by unfold d39; rw [if_pos (by unfold Rp.reach; omega)]
      rw [ite_tt, h39, Option.bind_some, app24 (by simp only [List.length_singleton]; omega), Option.bind_some, chk_ok (by omega) (by omega), Option.bind_some]
      simp
    | false =>
      rw [ite_ft, chk_ok (by omega) (by omega), Option.bind_some]
      simp
  · dsimp only
    rw [if_neg (by omega), List.take_length]
    rfl
end Go.Proofs.YtimkkjiplioohaaGreatDoor
end
section
namespace Go.Proofs.YtimkkjiplioohaaGreatDoor
open Go.Ab Go.Rp

/-- is one of the lists too large -/
theorem wide_ok {N : Nat} (hN : 1000 ≤ N) {l : List (List (List S61))} (hl : l.length ≤ 10) : ∃ r, d21 N l = some r ∧ (r = false → ∀ x ∈ l, x.length ≤ 60 ∧ ∀ y ∈ x, y.length ≤ 10) := by
  unfold d21
  refine bindO_ex (P := fun o => match o with
    | .ret x => x = true
    | .go _ => ∀ x ∈ l, x.length ≤ 60 ∧ ∀ y ∈ x, y.length ≤ 10) ?_ (fun x hx => by rw [show x = true from hx]; intro h; cases h) fun _ hx => ⟨false, rfl, fun _ => hx⟩
  refine iter_post _ (fun s : Int => l.length - s.toNat) (fun s : Int => ∃ j : Nat, s = j ∧ j ≤ l.length ∧ ∀ x ∈ l.take j, x.length ≤ 60 ∧ ∀ y ∈ x, y.length ≤ 10) _ ?_ N 0 ⟨0, rfl, Nat.zero_le _, fun x hx => by simp at hx⟩ (by simp; omega)
  rintro s ⟨j, rfl, hj, ha⟩
  by_cases hlt : (j : Int) < (l.length : Int)
  · rw [if_pos hlt]
    have hx := List.getElem?_eq_getElem (l := l) (i := j) (by omega)
    generalize l[j] = x at hx
    rw [idx_nat hx, Option.bind_some]
    by_cases h60 : (x.length : Int) > 60
    · rw [if_pos h60, Option.bind_some, if_pos rfl]
      exact .inr ⟨_, rfl, rfl⟩
    · have hany : d56 N x (fun b0 => d57 N b0) = some (x.any fun r => decide ((r.length : Int) > 10)) := any_ok (by omega) (by omega) _ _ (fun r _ => rfl)
      rw [if_neg h60, hany, Option.bind_some, Option.bind_some]
      cases hq : x.any fun r => decide ((r.length : Int) > 10) with
      | true =>
        rw [ite_tt]
        exact .inr ⟨_, rfl, rfl⟩
      | false =>
        rw [ite_ft, chk_ok (by omega) (by omega), Option.bind_some]
        refine .inl ⟨_, rfl, ⟨j + 1, by simp, by omega, fun x' hx' => ?_⟩, by simp; omega⟩
        rw [take_succ' hx] at hx'
        rcases List.mem_append.1 hx' with h | h
        · exact ha x' h
        · obtain rfl := List.mem_singleton.1 h
          refine ⟨by omega, fun y hy => ?_⟩
          have := List.any_eq_false.1 hq y hy
          simp at this
          omega
  · rw [if_neg hlt]
    have : j = l.length := by omega
    subst this
    rw [List.take_length] at ha
    exact .inr ⟨_, rfl, ha⟩
theorem one_rows {a b : List (List S61)} {on : S50} (H : Hyp a b on) : ∀ r ∈ outS a b on, r.length ≤ 100 := by
  intro r hr
  obtain ⟨x, hx, h⟩ := List.mem_flatMap.1 hr
  have h10 := H.ra x hx
  have w1 := H.v.w1
  unfold one at h
  rcases List.mem_append.1 h with h | h
  · obtain ⟨y, hy, rfl⟩ := List.mem_map.1 h
    have := H.rb y (List.mem_filter.1 hy).1
    rw [List.length_append]; omega
  · split at h
    · obtain rfl := List.mem_singleton.1 h
      rw [List.length_append]
      simp [zeros]
      omega
    · cases h
theorem out_len {a b : List (List S61)} {on : S50} (H : Hyp a b on) : (outS a b on).length ≤ 3660 := by
  have := acc_len H.b60 on H.a60 a.length
  rw [List.take_length] at this
  exact this

/-- the law -/
theorem d5_ok {N : Nat} (hN : 100000 ≤ N) (a b : List (List S61)) (on : S50) (anti : Bool) (oa : ∀ r ∈ a, ∀ v ∈ r, OKv v) (ob : ∀ r ∈ b, ∀ v ∈ r, OKv v)
    (hlr : (on.Left.length : Int) + on.Right.length ≤ 9223372036854775807) : d5 N a b on anti = some true := by
  unfold d5 d9
  rw [Option.bind_some, if_neg (by decide), letv_eq]
  obtain ⟨r, h21, hw⟩ := wide_ok (show 1000 ≤ N by omega) (l := [a, b]) (by simp)
  rw [h21, Option.bind_some]
  cases r with
  | true => rw [ite_tt, Option.bind_some, if_pos rfl]
  | false =>
  rw [ite_ft, chk_ok (by omega) hlr, Option.bind_some, Option.bind_some]
  by_cases hl : (on.Left.length : Int) + on.Right.length > 20
  · rw [if_pos (by simpa using hl)]
  rw [if_neg (by simpa using hl)]
  have wa := hw rfl a (by simp)
  have wb := hw rfl b (by simp)
  obtain ⟨e, h25, hv⟩ := d25_ok (show 1000 ≤ N by omega) wa.1 wb.1 (on := on) (by omega)
  by_cases he : e = 0
  rotate_left
  · -- not valid
    have e1 : (e != 0) = true := by simp [he]
    have e22 : d22 N a b on = some ([], e) := by unfold d22; rw [h25, Option.bind_some, if_pos e1]
    have e23 : d23 N a b on = some ([], e) := by unfold d23; rw [h25, Option.bind_some, if_pos e1]
    have e24 : d24 N a b on anti = some ([], e) := by unfold d24; rw [h25, Option.bind_some, if_pos e1]
    rw [e22, Option.bind_some, e23, Option.bind_some, e24, Option.bind_some, h25, Option.bind_some, if_pos e1]
    have ee : (e == e) = true := by simp
    dsimp only
    rw [ee, ite_tt, ite_tt, ite_tt, chk_ok (by simp) (by simp), Option.bind_some, chk_ok (by simp) (by simp)]
    rfl
  subst he
  have H : Hyp a b on := ⟨hv rfl, wa.1, wb.1, wa.2, wb.2, by omega, oa, ob⟩
  have a60 := H.a60
  have b60 := H.b60
  have l20 := H.l20
  have hlen := H.v.len
  rw [d22_ok (by omega) H h25, Option.bind_some, d23_ok (by omega) H h25, Option.bind_some, d24_ok (by omega) H h25 anti, Option.bind_some, h25, Option.bind_some, if_neg (by simp)]
  refine bind_is (a := (outS a b on, semS a b on anti)) (loop_is (fun j => ((a.take j).flatMap (one b on), (a.take j).filter (fun x => !(has b on x == anti)), (j : Int))) _ a.length rfl (fun j hj => ?_) ?_ (by omega)) ?_
  · dsimp only
    have hx := List.getElem?_eq_getElem (l := a) (i := j) hj
    have hxm : a[j] ∈ a := List.getElem_mem _
    generalize a[j] = x at hx hxm
    have hxi := H.v.l x hxm
    have hx10 := H.ra x hxm
    have hacc := acc_len b60 on a60 j
    have hfl : ((a.take j).filter (fun x => !(has b on x == anti))).length ≤ 60 := Nat.le_trans (List.length_filter_le _ _) (by rw [List.length_take]; omega)
    have hml := ms_len b on x
    rw [if_pos (by omega), idx_nat hx, Option.bind_some, take_flat hx, take_filt hx]
    generalize hA : (a.take j).flatMap (one b on) = A at *
    generalize hB : (a.take j).filter (fun x => !(has b on x == anti)) = B at *
    refine bind_is (a := A ++ (ms b on x).map (x ++ ·)) (loop_is (fun i => (A ++ ((b.take i).filter (mt on x)).map (x ++ ·), (i : Int))) _ b.length (by simp) (fun i hi => ?_) ?_ (by omega)) ?_
    · dsimp only
      have hy := List.getElem?_eq_getElem (l := b) (i := i) hi
      have hym : b[i] ∈ b := List.getElem_mem _
      generalize b[i] = y at hy hym
      have hyi := H.v.r y hym
      have hy10 := H.rb y hym
      have hf2 : ((b.take i).filter (mt on x)).length ≤ 60 := Nat.le_trans (List.length_filter_le _ _) (by rw [List.length_take]; omega)
      rw [if_pos (by omega), idx_nat hy, Option.bind_some, d26_ok (by omega) hlen (by omega) hxi hyi, Option.bind_some, take_filt hy]
      cases hmt : mt on x y with
      | true =>
        rw [ite_tt, letv_eq, d27_ok (by omega) (by omega) (by omega), Option.bind_some, app24 (by rw [List.length_append, List.length_map, List.length_singleton]; omega), Option.bind_some, chk_ok (by omega) (by omega), Option.bind_some]
        simp
      | false =>
        rw [ite_ft, chk_ok (by omega) (by omega), Option.bind_some]
        simp
    · dsimp only
      rw [if_neg (by omega), List.take_length]
      rfl
    · have e1 : decide (((A ++ (ms b on x).map (x ++ ·)).length : Int) > (A.length : Int)) = has b on x := by
        unfold has
        rw [List.length_append, List.length_map]
        cases ms b on x with
        | nil => simp
        | cons y M => simp; omega
      have e2 : (((A ++ (ms b on x).map (x ++ ·)).length : Int) == (A.length : Int)) = (ms b on x).isEmpty := by
        rw [List.length_append, List.length_map]
        cases ms b on x with
        | nil => simp
        | cons y M => simp; omega
      have e3 : (if (!(has b on x == anti)) = true then (appL 24 B [x]).bind fun _ => some (B ++ [x]) else some B) = some (B ++ if (!(has b on x == anti)) = true then [x] else []) := by
        cases (!(has b on x == anti)) with
        | true => rw [ite_tt, ite_tt, app24 (by simp only [List.length_singleton]; omega)]; rfl
        | false => rw [ite_ft, ite_ft, List.append_nil]
      rw [e1, e3, Option.bind_some, e2]
      have hO : (if (ms b on x).isEmpty = true then some on.Outer else some false) = some ((ms b on x).isEmpty && on.Outer) := by
        cases (ms b on x).isEmpty <;> simp
      rw [hO, Option.bind_some]
      unfold one
      cases ho : ((ms b on x).isEmpty && on.Outer) with
      | true =>
        rw [ite_tt, mkz_ok H.v.w0 H.v.w1, Option.bind_some, letv_eq, d27_ok (by omega) (by omega) (by have := H.v.w1; simp [zeros]; omega), Option.bind_some, app24 (by rw [List.length_append, List.length_map, List.length_singleton]; omega), Option.bind_some, chk_ok (by omega) (by omega), Option.bind_some]
        simp
      | false =>
        rw [ite_ft, chk_ok (by omega) (by omega), Option.bind_some]
        simp
  · dsimp only
    rw [if_neg (by omega), List.take_length]
    rfl
  · dsimp only
    have ol := out_len H
    have sl : (semS a b on anti).length ≤ 60 := Nat.le_trans (List.length_filter_le _ _) a60
    have z : ((0 : Int) == 0) = true := rfl
    rw [z, ite_tt, ite_tt, ite_tt, d28_ok (by omega) (by omega) (by omega) (one_rows H), Option.bind_some, ite_tt, Option.bind_some, ite_tt, d28_ok (by omega) (by omega) (by omega) (fun r hr => by have := H.ra r (List.mem_filter.1 hr).1; omega)]
    rfl
end Go.Proofs.YtimkkjiplioohaaGreatDoor
end
section
namespace Go.Proofs.YtimkkjiplioohaaGreatDoor
open Go.Ab Go.Rp
open Go.Ab.Enc (eC eV)

abbrev RVal := Rp.St (Int × Int × ByteArray × Unit)
abbrev RRow := List RVal
abbrev RRows := List RRow
abbrev ROn := Rp.St (List Int × List Int × Bool × Int × Unit)
def toV (v : RVal) : S61 := ⟨v.val.1, v.val.2.1, v.val.2.2.1⟩
def toRs (a : RRows) : List (List S61) := a.map fun r => r.map toV
def toOn (o : ROn) : S50 := ⟨o.val.1, o.val.2.1, o.val.2.2.1, o.val.2.2.2.1⟩
theorem val_bnd {w : World} {B : Nat} {v : RVal} {cs : List Value} (h : Rep.is w B v cs) : OKv (toV v) := by
  obtain ⟨_, _, _, h1, _, _, _, h2, _, _, _, h3, _⟩ := h
  exact ⟨h1.2, h2.2, h3.2⟩
theorem rows_bnd {w : World} {B : Nat} {a : RRows} {cs : List Value} (h : Rep.is w B a cs) : ∀ r ∈ toRs a, ∀ v ∈ r, OKv v := by
  intro r hr v hv
  obtain ⟨x, hx, rfl⟩ := List.mem_map.1 hr
  obtain ⟨y, hy, rfl⟩ := List.mem_map.1 hv
  obtain ⟨_, _, _, _, _, _, _, h1⟩ := h
  obtain ⟨i, hi, rfl⟩ := List.getElem_of_mem hx
  obtain ⟨_, _, _, _, _, h2, _⟩ := h1 i hi
  obtain ⟨_, _, _, _, _, _, _, h3⟩ := h2
  obtain ⟨j, hj, rfl⟩ := List.getElem_of_mem hy
  obtain ⟨_, _, _, _, _, h4, _⟩ := h3 j hj
  exact val_bnd h4
theorem on_bnd {w : World} {B : Nat} {o : ROn} {cs : List Value} (h : Rep.is w B o cs) : ((toOn o).Left.length : Int) + (toOn o).Right.length ≤ 9223372036854775807 := by
  obtain ⟨_, _, _, h1, _, _, _, h2, _⟩ := h
  obtain ⟨_, _, _, _, _, g1, _⟩ := h1
  obtain ⟨_, _, _, _, _, g2, _⟩ := h2
  have e1 : (toOn o).Left.length * 8 ≤ 140737488355328 := g1
  have e2 : (toOn o).Right.length * 8 ≤ 140737488355328 := g2
  omega
theorem rows_enc (a : RRows) : (eV a : V) = .d (.sl ((toRs a).map (cL cS61))) := by
  show V.d (.sl (a.map eC)) = _
  unfold toRs
  rw [List.map_map]
  congr 2
  apply List.map_congr_left
  intro r _
  show [D.sl (r.map eC)] = [D.sl ((r.map toV).map cS61)]
  rw [List.map_map]
  rfl
theorem ja_fun (a b : RRows) (o : ROn) (anti : Bool) (oa : ∀ r ∈ toRs a, ∀ v ∈ r, OKv v) (ob : ∀ r ∈ toRs b, ∀ v ∈ r, OKv v) (hl : ((toOn o).Left.length : Int) + (toOn o).Right.length ≤ 9223372036854775807) :
    Fun Tryz.prog 5 [eV a, eV b, eV o, eV anti] (fun r _ => r = .d (.lit (.bool true))) := by
  have h := p5 9223372036854775808 (toRs a) (toRs b) (toOn o) anti true (d5_ok (by omega) _ _ _ _ oa ob hl)
  have e1 : (eV o : V) = .agg [.d (.sl ((toOn o).Left.map (cI .i64))), .d (.sl ((toOn o).Right.map (cI .i64))), .d (.lit (.bool (toOn o).Outer)), .d (.lit (.int .i64 (toOn o).RightWidth))] := rfl
  rw [rows_enc a, rows_enc b, e1]
  exact h.2.mono fun _ _ h => h.1
end Go.Proofs.YtimkkjiplioohaaGreatDoor
end
