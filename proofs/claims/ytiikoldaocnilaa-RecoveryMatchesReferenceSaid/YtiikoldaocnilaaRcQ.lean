/- Recovery as functional programs: lists, searches, deletions; what an append, an undo does. Recovery as functional programs: appending, undoing. Recovery as functional programs: what holds of a log. Recovery as functional programs: the engine's methods but Crash. Recovery as functional programs: Crash. Recovery as functional programs: the reference's Crash. Recovery as functional programs: one step of the law. Recovery as functional programs: the law returns true. The law's arguments as the functional program takes them. -/
import Derived.Test.YtiikoldaocnilaaRc12
section
namespace Go.Proofs.Ytiikoldaocnilaa
open Go.Ab Go.Rp

theorem iter_fwd {σ τ ρ : Type} (len : Nat) (mkS : σ → Int → τ) (step : τ → Option (τ ⊕ ρ)) (Inv : Nat → σ → Prop) (fin : σ → ρ)
  (hs : ∀ k s, k < len → Inv k s → ∃ s', step (mkS s k) = some (.inl (mkS s' ((k : Int) + 1))) ∧ Inv (k + 1) s') (he : ∀ s, Inv len s → step (mkS s len) = some (.inr (fin s)))
  (s0 : σ) (h0 : Inv 0 s0) {n : Nat} (hn : len < n) : ∃ s, iterN step n (mkS s0 0) = some (fin s) ∧ Inv len s := by
 have key : ∀ (m k : Nat) (s : σ), k ≤ len → len - k < m → Inv k s → ∃ s', iterN step m (mkS s k) = some (fin s') ∧ Inv len s' := by
  intro m
  induction m with
  | zero => intro k s _ h; omega
  | succ m ih =>
   intro k s hk hm hi
   rw [iterN_succ]
   by_cases hlt : k < len
   ·obtain ⟨s', h1, h2⟩ := hs k s hlt hi
    rw [h1]
    exact ih (k + 1) s' (by omega) (by omega) h2
   ·obtain rfl : k = len := by omega
    rw [he s hi]
    exact ⟨s, rfl, hi⟩
 exact key n 0 s0 (Nat.zero_le _) (by omega) h0
theorem rtake {α : Type} {xs : List α} {k : Nat} {x : α} (h : xs[k]? = some x) : (xs.take (k + 1)).reverse = x :: (xs.take k).reverse := by
 rw [List.take_add_one, h]
 simp
theorem get_of {α : Type} {l : List α} {k : Nat} (h : k < l.length) : ∃ a, l[k]? = some a := ⟨l[k], List.getElem?_eq_getElem h⟩

/-! ### searches -/
theorem d39_ok {N : Nat} (hN : bigN N) (xs : List Int) (a : Int) (hl : xs.length ≤ 140737488355328) : ∃ r, d39 N xs a = some r ∧ (decide (r ≥ 0) = decide (a ∈ xs)) := by
 have hN : 9223372036854775808 ≤ N := hN
 unfold d39
 have key : ∀ (m k : Nat), xs.length - k < m → k ≤ xs.length → a ∉ xs.take k → ∃ o, iterN (σ := Int) (ρ := Out Unit Int) (fun (v5 : Int) =>
   if v5 < (xs.length : Int) then (
    (idx xs v5).bind fun x18 =>
    if (a == x18) then (some (.inr (.ret v5))) else
    (chkI (v5 + 1)).bind fun v21 => some (.inl v21)
   ) else some (.inr (.go ()))) m (k : Int) = some o ∧ ((∃ r : Int, o = .ret r ∧ 0 ≤ r ∧ a ∈ xs) ∨ (o = .go () ∧ a ∉ xs)) := by
  intro m
  induction m with
  | zero => intro k h; omega
  | succ m ih =>
   intro k hm hk ha
   rw [iterN_succ]
   by_cases hlt : k < xs.length
   ·obtain ⟨x, hx⟩ := get_of hlt
    rw [if_pos (by omega), idx_nat hx, Option.bind_some]
    by_cases hax : a = x
    ·rw [if_pos (by simpa using hax)]
     exact ⟨_, rfl, .inl ⟨_, rfl, by omega, hax ▸ List.mem_of_getElem? hx⟩⟩
    ·rw [if_neg (by simpa using hax), chkI_of (by omega) (by omega), Option.bind_some]
     refine ih (k + 1) (by omega) (by omega) fun h => ?_
     rw [List.take_add_one, hx] at h
     simp at h
     rcases h with h | h
     ·exact ha h
     ·exact hax h
   ·obtain rfl : k = xs.length := by omega
    rw [if_neg (by omega)]
    exact ⟨_, rfl, .inr ⟨rfl, by simpa using ha⟩⟩
 obtain ⟨o, h1, h2⟩ := key N 0 (by omega) (Nat.zero_le _) (by simp)
 have h1' := h1
 rw [show ((0 : Nat) : Int) = 0 from rfl] at h1'
 rw [h1']
 rcases h2 with ⟨r, rfl, hr, ha⟩ | ⟨rfl, ha⟩
 ·exact ⟨r, rfl, by simp [hr, ha]⟩
 ·exact ⟨-1, rfl, by simp [ha]⟩
theorem d24_ok {N : Nat} (hN : bigN N) (xs : List Int) (a : Int) (hl : xs.length ≤ 140737488355328) : d24 N xs a = some (decide (a ∈ xs)) := by
 obtain ⟨r, h1, h2⟩ := d39_ok hN xs a hl
 unfold d24
 rw [h1, Option.bind_some, h2]

theorem d43_ok {N : Nat} (hN : bigN N) (xs : List Int) (a : Int) (hl : xs.length ≤ 140737488355328) : ∃ r, d43 N xs (fun b => some (b == a)) = some r ∧ ((r = -1 ∧ a ∉ xs) ∨ ∃ k : Nat, r = k ∧ xs[k]? = some a ∧ a ∉ xs.take k) := by
 have hN : 9223372036854775808 ≤ N := hN
 unfold d43
 have key : ∀ (m k : Nat), xs.length - k < m → k ≤ xs.length → a ∉ xs.take k → ∃ o, iterN (σ := Int) (ρ := Out Unit Int) (fun (v6 : Int) =>
   if v6 < (xs.length : Int) then (
    (idx xs v6).bind fun x21 =>
    ((some (x21 == a)) : Option Bool).bind fun r23 =>
    if r23 = true then (some (.inr (.ret v6))) else
    (chkI (v6 + 1)).bind fun v25 => some (.inl v25)
   ) else some (.inr (.go ()))) m (k : Int) = some o ∧ ((∃ k : Nat, o = .ret (k : Int) ∧ xs[k]? = some a ∧ a ∉ xs.take k) ∨ (o = .go () ∧ a ∉ xs)) := by
  intro m
  induction m with
  | zero => intro k h; omega
  | succ m ih =>
   intro k hm hk ha
   rw [iterN_succ]
   by_cases hlt : k < xs.length
   ·obtain ⟨x, hx⟩ := get_of hlt
    rw [if_pos (by omega), idx_nat hx, Option.bind_some, Option.bind_some]
    by_cases hax : x = a
    ·rw [if_pos (by simpa using hax)]
     exact ⟨_, rfl, .inl ⟨k, rfl, hax ▸ hx, ha⟩⟩
    ·rw [if_neg (by simpa using hax), chkI_of (by omega) (by omega), Option.bind_some]
     refine ih (k + 1) (by omega) (by omega) fun h => ?_
     rw [List.take_add_one, hx] at h
     simp at h
     rcases h with h | h
     ·exact ha h
     ·exact hax h.symm
   ·obtain rfl : k = xs.length := by omega
    rw [if_neg (by omega)]
    exact ⟨_, rfl, .inr ⟨rfl, by simpa using ha⟩⟩
 obtain ⟨o, h1, h2⟩ := key N 0 (by omega) (Nat.zero_le _) (by simp)
 have h1' := h1
 rw [show ((0 : Nat) : Int) = 0 from rfl] at h1'
 rw [h1']
 rcases h2 with ⟨k, rfl, hk, ha⟩ | ⟨rfl, ha⟩
 ·exact ⟨k, rfl, .inr ⟨k, rfl, hk, ha⟩⟩
 ·exact ⟨-1, rfl, .inl ⟨rfl, ha⟩⟩

/-- slices.DeleteFunc -/
theorem d31_ok {N : Nat} (hN : bigN N) (xs : List Int) (a : Int) (hl : xs.length ≤ 140737488355328) : d31 N xs (fun b => some (b == a)) = some (xs.filter (· != a)) := by
 have hN' : 9223372036854775808 ≤ N := hN
 obtain ⟨r, h1, h2⟩ := d43_ok hN xs a hl
 unfold d31
 rw [h1, Option.bind_some]
 rcases h2 with ⟨rfl, ha⟩ | ⟨k, rfl, hk, ha⟩
 ·rw [if_pos (show ((-1 : Int) == -1) = true from rfl)]
  congr 1
  rw [List.filter_eq_self.2]
  intro b hb
  simp
  exact fun e => ha (e ▸ hb)
 ·have hkl : k < xs.length := (List.getElem?_eq_some_iff.1 hk).1
  rw [if_neg (by simp), chkI_of (by omega) (by omega), Option.bind_some]
  -- the state: the kept ones ahead, then what was there
  have hsplit : ∀ j, k < j → j ≤ xs.length → (xs.take j).filter (· != a) = xs.take k ++ ((xs.take j).drop (k + 1)).filter (· != a) := fun j h1 h2 => by
   have e : xs.take j = xs.take k ++ a :: (xs.take j).drop (k + 1) := by
    have h3 : (xs.take j)[k]? = some a := by rw [List.getElem?_take_of_lt h1]; exact hk
    have h4 : (xs.take j).take k = xs.take k := by rw [List.take_take]; congr 1; omega
    have h5 := List.take_append_drop k (xs.take j)
    rw [h4, List.drop_eq_getElem_cons (by rw [List.length_take]; omega)] at h5
    rw [(List.getElem?_eq_some_iff.1 h3).2] at h5
    exact h5.symm
   conv => lhs; rw [e]
   rw [List.filter_append, List.filter_cons_of_neg (by simp), List.filter_eq_self.2]
   intro b hb
   simp
   exact fun e => ha (e ▸ hb)
  obtain ⟨s, hs1, hs2⟩ := iter_fwd (σ := List Int × Nat) (τ := List Int × Int × Int) (ρ := List Int × Int) (xs.length - (k + 1)) (fun s j => (s.1, (s.2 : Int), j + (k + 1 : Nat)))
   (fun ((l15, v16, v17) : ((List Int) × Int × Int)) =>
   if v17 < (l15.length : Int) then (
    (idx l15 v17).bind fun x46 =>
    ((some (x46 == a)) : Option Bool).bind fun r48 =>
    if (!r48) = true then (
     (idx l15 v16).bind fun x50 =>
     letv (setI l15 v16 x46) fun l52 =>
     (chkI (v16 + 1)).bind fun v53 =>
     (chkI (v17 + 1)).bind fun v54 =>
     some (.inl (l52, v53, v54))
    ) else
    (chkI (v17 + 1)).bind fun v55 =>
    some (.inl (l15, v16, v55))
   ) else
   some (.inr (l15, v16)))
   (fun j s => s.1.length = xs.length ∧ s.2 ≤ k + j ∧ s.1.take s.2 = (xs.take (k + 1 + j)).filter (· != a) ∧ s.1.drop (k + 1 + j) = xs.drop (k + 1 + j) ∧ s.2 = ((xs.take (k + 1 + j)).filter (· != a)).length)
   (fun s => (s.1, (s.2 : Int)))
   (fun j s hj hI => by
    obtain ⟨l, i⟩ := s
    obtain ⟨i1, i2, i3, i4, i5⟩ := hI
    simp only at i1 i2 i3 i4 i5
    have hjl : k + 1 + j < xs.length := by omega
    obtain ⟨x, hx⟩ := get_of hjl
    have hlx : l[k + 1 + j]? = some x := by
     have := congrArg (fun l => l[0]?) i4
     simp only [List.getElem?_drop, Nat.add_zero] at this
     rw [this]; exact hx
    have hdrop : ∀ (l' : List Int), l'.drop (k + 1 + j) = xs.drop (k + 1 + j) → l'.drop (k + 1 + (j + 1)) = xs.drop (k + 1 + (j + 1)) := fun l' h => by
     have := congrArg (List.drop 1) h
     simpa [List.drop_drop, Nat.add_assoc] using this
    have htk : xs.take (k + 1 + (j + 1)) = xs.take (k + 1 + j) ++ [x] := by
     rw [show k + 1 + (j + 1) = (k + 1 + j) + 1 from by omega, List.take_add_one, hx]; rfl
    have e1 : ((j : Int) + ((k + 1 : Nat) : Int)) = ((k + 1 + j : Nat) : Int) := by omega
    simp only [e1]
    rw [if_pos (by rw [i1]; omega), idx_nat hlx, Option.bind_some, Option.bind_some]
    by_cases hxa : x = a
    ·rw [if_neg (by simp [hxa]), chkI_of (by omega) (by omega), Option.bind_some]
     refine ⟨(l, i), ?_, i1, by simp only; omega, ?_, hdrop l i4, ?_⟩
     ·congr 4; omega
     ·rw [htk, List.filter_append, List.filter_cons_of_neg (by simp [hxa])]; simpa using i3
     ·rw [htk, List.filter_append, List.filter_cons_of_neg (by simp [hxa])]; simpa using i5
    ·obtain ⟨y, hy⟩ := get_of (l := l) (k := i) (by omega)
     rw [if_pos (by simp [hxa]), idx_nat hy, Option.bind_some, letv_eq, chkI_of (by omega) (by omega), Option.bind_some, chkI_of (by omega) (by omega), Option.bind_some]
     have hset : setI l (i : Int) x = l.set i x := rfl
     rw [hset]
     refine ⟨(l.set i x, i + 1), ?_, by simpa using i1, by simp only; omega, ?_, ?_, ?_⟩
     ·congr 4; omega
     ·rw [htk, List.filter_append, List.filter_cons_of_pos (by simp [hxa]), ← i3]
      simp only [List.filter_nil]
      rw [List.take_add_one, List.take_set_of_le (Nat.le_refl _), List.getElem?_set_self (by omega)]
      rfl
     ·simp only
      rw [List.drop_set_of_lt (by omega)]
      exact hdrop l i4
     ·rw [htk, List.filter_append, List.filter_cons_of_pos (by simp [hxa]), List.length_append, ← i5]
      rfl)
   (fun s hI => by
    obtain ⟨l, i⟩ := s
    obtain ⟨i1, i2, i3, i4, i5⟩ := hI
    simp only at i1 ⊢
    rw [if_neg (by rw [i1]; omega)])
   (xs, k) ⟨rfl, by simp, by rw [hsplit (k + 1 + 0) (by omega) (by omega)]; simp, rfl, by rw [hsplit (k + 1 + 0) (by omega) (by omega)]; simp; omega⟩ (n := N) (by omega)
  obtain ⟨l, i⟩ := s
  obtain ⟨i1, i2, i3, i4, i5⟩ := hs2
  have hs1' := hs1
  rw [show (((0 : Int) + ((k + 1 : Nat) : Int))) = (k : Int) + 1 from by omega] at hs1'
  simp only at hs1' i1 i2 i3 i5
  have hfull : xs.take (k + 1 + (xs.length - (k + 1))) = xs := List.take_of_length_le (by omega)
  rw [hfull] at i3 i5
  rw [hs1', Option.bind_some]
  simp only []
  have hil : i ≤ l.length := by omega
  have hpos : 0 < l.length - i := by omega
  rw [natI_nat hil, Option.bind_some, posN, if_pos hpos, Option.bind_some, letv_eq, natI_nat (by simp; omega), Option.bind_some, letv_eq]
  congr 1
  rw [List.take_append_of_le_length (by rw [List.length_take]; omega), List.take_take, Nat.min_self, i3]
end Go.Proofs.Ytiikoldaocnilaa
end
section
namespace Go.Proofs.Ytiikoldaocnilaa
open Go.Ab Go.Rp

theorem bind_of {α β : Type} {d : Option α} {k : α → Option β} {r : β} {σ : Type} {f : σ → α} {P : σ → Prop} (h : ∃ s, d = some (f s) ∧ P s) (h2 : ∀ s, P s → k (f s) = some r) : d.bind k = some r := by
 obtain ⟨s, h1, h3⟩ := h
 rw [h1]; exact h2 s h3
theorem bindO_of {β ρ : Type} {d : Option (Out β ρ)} {k : β → Option ρ} {r : ρ} {P : β → Prop} (h : ∃ b, d = some (.go b) ∧ P b) (h2 : ∀ b, P b → k b = some r) : bindO d k = some r := by
 obtain ⟨b, h1, h3⟩ := h
 rw [h1]; exact h2 b h3
theorem rangeL_inv {α β ρ : Type} (step : α → β → Option (Out β ρ)) (Inv : List α → β → Prop) (hs : ∀ x xs b, Inv (x :: xs) b → ∃ b', step x b = some (.go b') ∧ Inv xs b') :
  ∀ xs b, Inv xs b → ∃ b', rangeL step xs b = some (.go b') ∧ Inv [] b'
 | [], b, h => ⟨b, rfl, h⟩
 | x :: xs, b, h => by
  obtain ⟨b', h1, h2⟩ := hs x xs b h
  simp only [rangeL, h1]
  exact rangeL_inv step Inv hs xs b' h2

def cv (r : S80) : S84 := ⟨r.kind, r.tx, r.page, r.before, r.after⟩
/-- the updates that are not undone, the newest first; the log comes reversed -/
def opR : List S80 → List S80
 | [] => []
 | r :: rs => if r.kind = 1 then r :: opR rs else if r.kind = 2 then (opR rs).eraseP (fun u => u.tx == r.tx) else opR rs
def VR : List S80 → Prop
 | [] => True
 | r :: rs => VR rs ∧ (r.kind = 2 → ∃ u ∈ opR rs, u.tx = r.tx)
def stR (tx : Int) (rs : List S80) : List S80 := (opR rs).filter fun u => u.tx == tx
def okr (n : Nat) (r : S80) : Prop := (r.kind = 1 ∨ r.kind = 2 ∨ r.kind = 3) ∧ (r.kind ≠ 3 → 0 ≤ r.page ∧ r.page < n)

theorem filter_eraseP_ne {p q : S80 → Bool} (h : ∀ u, p u = true → q u = false) : ∀ l : List S80, (l.eraseP p).filter q = l.filter q
 | [] => rfl
 | u :: l => by
  by_cases hp : p u = true
  ·rw [List.eraseP_cons_of_pos hp, List.filter_cons_of_neg (by simp [h u hp])]
  ·rw [List.eraseP_cons_of_neg hp, List.filter_cons, List.filter_cons, filter_eraseP_ne h l]
theorem filter_eraseP_eq {p : S80 → Bool} : ∀ l : List S80, (l.eraseP p).filter p = (l.filter p).drop 1
 | [] => rfl
 | u :: l => by
  by_cases hp : p u = true
  ·rw [List.eraseP_cons_of_pos hp, List.filter_cons_of_pos hp]; rfl
  ·rw [List.eraseP_cons_of_neg hp, List.filter_cons_of_neg hp, List.filter_cons_of_neg hp, filter_eraseP_eq l]
theorem opR_cons (r : S80) (rs : List S80) : opR (r :: rs) = if r.kind = 1 then r :: opR rs else if r.kind = 2 then (opR rs).eraseP (fun u => u.tx == r.tx) else opR rs := rfl
theorem stR_ne {tx : Int} {r : S80} (rs : List S80) (h : r.tx ≠ tx) : stR tx (r :: rs) = stR tx rs := by
 unfold stR
 rw [opR_cons]
 split
 ·rw [List.filter_cons_of_neg (by simpa using h)]
 ·split
  ·refine filter_eraseP_ne (fun u hu => ?_) _
   have hu : u.tx = r.tx := by simpa using hu
   simpa [hu] using h
  ·rfl
theorem stR_1 {tx : Int} {r : S80} (rs : List S80) (h : r.tx = tx) (hk : r.kind = 1) : stR tx (r :: rs) = r :: stR tx rs := by
 unfold stR
 rw [opR_cons, if_pos hk, List.filter_cons_of_pos (by simpa using h)]
theorem stR_2 {tx : Int} {r : S80} (rs : List S80) (h : r.tx = tx) (hk : r.kind = 2) : stR tx (r :: rs) = (stR tx rs).drop 1 := by
 unfold stR
 rw [opR_cons, if_neg (by omega), if_pos hk, h]
 exact filter_eraseP_eq _
theorem stR_0 {tx : Int} {r : S80} (rs : List S80) (h1 : r.kind ≠ 1) (h2 : r.kind ≠ 2) : stR tx (r :: rs) = stR tx rs := by
 unfold stR
 rw [opR_cons, if_neg h1, if_neg h2]
theorem opR_mem : ∀ {rs : List S80} {u : S80}, u ∈ opR rs → u ∈ rs ∧ u.kind = 1
 | [], u, h => by simp [opR] at h
 | r :: rs, u, h => by
  unfold opR at h
  split at h
  ·rename_i hk
   rcases List.mem_cons.1 h with rfl | h
   ·exact ⟨List.mem_cons_self .., hk⟩
   ·exact ⟨List.mem_cons_of_mem _ (opR_mem h).1, (opR_mem h).2⟩
  ·split at h
   ·have h := List.mem_of_mem_eraseP h
    exact ⟨List.mem_cons_of_mem _ (opR_mem h).1, (opR_mem h).2⟩
   ·exact ⟨List.mem_cons_of_mem _ (opR_mem h).1, (opR_mem h).2⟩
theorem VR_drop : ∀ {rs : List S80} (k : Nat), VR rs → VR (rs.drop k)
 | _rs, 0, h => h
 | [], _k + 1, h => h
 | _r :: _rs, k + 1, h => VR_drop k h.1
theorem VR_take {xs : List S80} (h : VR xs.reverse) (k : Nat) : VR (xs.take k).reverse := by
 rw [List.reverse_take]
 exact VR_drop _ h

/-! ### appending -/
def appG (G : S74) (r : S80) : S74 := ⟨if r.kind = 3 then G.buffer else G.buffer.set r.page.toNat ⟨r.after, ((G.log ++ [r]).length : Int)⟩, G.disk, G.log ++ [r], G.flushed, G.lastID, G.active, G.writer⟩
def appM (M : S56) (r : S84) : S56 := ⟨if r.Kind < 3 then M.Buffer.set r.Page.toNat r.After else M.Buffer, M.Disk, M.DiskLSN, M.Log ++ [r], M.Flushed, M.LastID, M.Active⟩
theorem appG_blen (G : S74) (r : S80) : (appG G r).buffer.length = G.buffer.length := by
 unfold appG; simp only; split <;> simp
theorem appM_blen (M : S56) (r : S84) : (appM M r).Buffer.length = M.Buffer.length := by
 unfold appM; simp only; split <;> simp

theorem d25_ok (N : Nat) {G : S74} {r : S80} (hl : G.log.length + 1 ≤ 3518437208883) (h : okr G.buffer.length r) : d25 N G r = some (appG G r) := by
 obtain ⟨h1, h2⟩ := h
 unfold d25 appG
 rw [appL_of (by simp only [List.length_cons, List.length_nil]; unfold Rp.reach; omega), Option.bind_some]
 by_cases h3 : r.kind = 3
 ·rw [if_neg (by simp [h3]), if_pos h3]
 ·obtain ⟨h4, h5⟩ := h2 h3
  obtain ⟨x, hx⟩ := get_of (l := G.buffer) (k := r.page.toNat) (by omega)
  rw [if_pos (by simpa using h3), idx_toNat h4 hx, Option.bind_some, letv_eq, if_neg h3]
  rfl
theorem d27_ok (N : Nat) {M : S56} {r : S84} (hl : M.Log.length + 1 ≤ 3518437208883) (h : r.Kind < 3 → 0 ≤ r.Page ∧ r.Page < M.Buffer.length) : d27 N M r = some (appM M r) := by
 unfold d27 appM
 rw [appL_of (by simp only [List.length_cons, List.length_nil]; unfold Rp.reach; omega), Option.bind_some]
 by_cases h3 : r.Kind < 3
 ·obtain ⟨h4, h5⟩ := h h3
  obtain ⟨x, hx⟩ := get_of (l := M.Buffer) (k := r.Page.toNat) (by omega)
  rw [if_pos h3, idx_toNat h4 hx, Option.bind_some, letv_eq, if_pos h3]
  rfl
 ·rw [if_neg h3, if_neg h3]

def undoG (us : List S80) (tx : Int) (G : S74) : S74 := us.foldl (fun G u => appG G ⟨2, tx, u.page, u.after, u.before⟩) G
def undoM (us : List S84) (tx : Int) (M : S56) : S56 := us.foldl (fun M u => appM M ⟨2, tx, u.Page, u.After, u.Before⟩) M

def tup (G : S74) (s : Int) : List S78 × List S78 × List S80 × Int × Int × List Int × List Int × Int := (G.buffer, G.disk, G.log, G.flushed, G.lastID, G.active, G.writer, s)

set_option maxHeartbeats 1000000 in
theorem d41_ok (N : Nat) {G : S74} {tx : Int} (hok : ∀ r ∈ G.log, okr G.buffer.length r) (hl : G.log.length + (stR tx G.log.reverse).length ≤ 3518437208883) : d41 N G tx = some (undoG (stR tx G.log.reverse) tx G) := by
 have hl1 : G.log.length * 40 ≤ reach := by
  have : G.log.length ≤ 3518437208883 := Nat.le_trans (Nat.le_add_right _ _) hl
  clear hl
  unfold Rp.reach; omega
 unfold d41
 rw [show d44 N G.log = some G.log from by unfold d44; rw [if_pos hl1], Option.bind_some]
 refine bindO_of (rangeL_inv _ (fun ys b => ∃ (s : Nat) (G' : S74), b = tup G' s ∧ (∀ r ∈ ys, okr G'.buffer.length r) ∧ G'.log.length + ((stR tx ys).drop s).length ≤ 3518437208883 ∧ s + ys.length ≤ 3518437208883 ∧ undoG ((stR tx ys).drop s) tx G' = undoG (stR tx G.log.reverse) tx G) ?_ _ _ ⟨0, G, rfl, fun r hr => hok r (List.mem_reverse.1 hr), by simpa using hl, by simp; omega, by simp⟩) ?_
 ·rintro x xs b ⟨s, G', rfl, h1, h2, h3, h4⟩
  have h1' : ∀ r ∈ xs, okr G'.buffer.length r := fun r hr => h1 r (List.mem_cons_of_mem _ hr)
  simp only [List.length_cons] at h3
  simp only [tup]
  by_cases htx : x.tx = tx
  ·rw [if_neg (by simp [htx])]
   by_cases k2 : x.kind = 2
   ·rw [if_pos (by simp [k2]), chkI_of (by omega) (by omega), Option.bind_some]
    rw [stR_2 xs htx k2, List.drop_drop] at h2 h4
    exact ⟨_, rfl, s + 1, G', rfl, h1', by rw [Nat.add_comm s 1]; exact h2, by omega, by rw [Nat.add_comm s 1]; exact h4⟩
   ·rw [if_neg (by simp [k2])]
    by_cases k1 : x.kind = 1
    ·rw [if_pos (by simp [k1]), Option.bind_some]
     rw [stR_1 xs htx k1] at h2 h4
     cases s with
     | zero =>
      simp only [List.drop_zero, List.length_cons] at h2 h4
      have hokx := h1 x (List.mem_cons_self ..)
      rw [if_neg (by simp), if_pos (by simp [k1]), d25_ok N (G := S74.mk G'.buffer G'.disk G'.log G'.flushed G'.lastID G'.active G'.writer) (r := ⟨2, tx, x.page, x.after, x.before⟩) (by simp only; omega) ⟨.inr (.inl rfl), fun _ => hokx.2 (by omega)⟩, Option.bind_some]
      refine ⟨_, rfl, 0, appG G' ⟨2, tx, x.page, x.after, x.before⟩, rfl, fun r hr => by rw [appG_blen]; exact h1' r hr, ?_, by omega, h4⟩
      simp only [appG, List.length_append, List.length_cons, List.length_nil, List.drop_zero]
      omega
     | succ s =>
      simp only [List.drop_succ_cons] at h2 h4
      rw [if_pos (by simp; try omega), show (((s + 1 : Nat) : Int) - 1) = (s : Int) from by omega, chkI_of (by omega) (by omega), Option.bind_some]
      exact ⟨_, rfl, s, G', rfl, h1', h2, by omega, h4⟩
    ·rw [if_neg (by simp [k1]), Option.bind_some, if_neg (by simp), if_neg (by simp [k1])]
     rw [stR_0 xs k1 k2] at h2 h4
     exact ⟨_, rfl, s, G', rfl, h1', h2, by omega, h4⟩
  ·rw [if_pos (by simpa using htx)]
   rw [stR_ne xs htx] at h2 h4
   exact ⟨_, rfl, s, G', rfl, h1', h2, by omega, h4⟩
 ·rintro b ⟨s, G', rfl, _, _, _, h4⟩
  have : G' = undoG (stR tx G.log.reverse) tx G := by
   rw [← h4]
   simp [stR, opR, undoG]
  rw [← this]
  rfl

/-! ### the reference's rollback -/
def closeM (us : List S84) (tx : Int) (M : S56) : S56 :=
 let M1 := appM (undoM us tx M) ⟨3, tx, 0, 0, 0⟩
 ⟨M1.Buffer, M1.Disk, M1.DiskLSN, M1.Log, M1.Flushed, M1.LastID, M1.Active.filter (· != tx)⟩
theorem undoM_blen (tx : Int) : ∀ (us : List S84) (M : S56), (undoM us tx M).Buffer.length = M.Buffer.length
 | [], M => rfl
 | u :: us, M => by rw [undoM, List.foldl_cons]; exact (undoM_blen tx us _).trans (appM_blen M _)
theorem undoM_llen (tx : Int) : ∀ (us : List S84) (M : S56), (undoM us tx M).Log.length = M.Log.length + us.length
 | [], M => rfl
 | u :: us, M => by
  rw [undoM, List.foldl_cons]
  refine (undoM_llen tx us _).trans ?_
  simp [appM]; omega
theorem undoM_act (tx : Int) : ∀ (us : List S84) (M : S56), (undoM us tx M).Active = M.Active
 | [], M => rfl
 | u :: us, M => by rw [undoM, List.foldl_cons]; exact (undoM_act tx us _).trans rfl

theorem rev_take {l : List S80} : ((l.reverse).map cv).take (l.length - 1) = ((l.drop 1).reverse).map cv := by
 cases l with
 | nil => rfl
 | cons x l =>
  simp only [List.length_cons, Nat.add_sub_cancel, List.drop_succ_cons, List.drop_zero, List.reverse_cons, List.map_append]
  rw [List.take_append_of_le_length (by simp), List.take_of_length_le (by simp)]

def tupM (M : S56) (s : Int) : List Int × List Int × List Int × List S84 × Int × Int × List Int × Int := (M.Buffer, M.Disk, M.DiskLSN, M.Log, M.Flushed, M.LastID, M.Active, s)

theorem bd3 {a b n : Nat} (h : a + b + 1 ≤ n) : a + 1 ≤ n := by omega
theorem opR_len : ∀ rs : List S80, (opR rs).length ≤ rs.length
 | [] => Nat.le_refl _
 | r :: rs => by
  have ih := opR_len rs
  rw [opR_cons]
  split
  ·simpa using ih
  ·split
   ·exact Nat.le_trans (List.length_eraseP_le) (Nat.le_succ_of_le ih)
   ·exact Nat.le_succ_of_le ih
theorem stR_len (tx : Int) (rs : List S80) : (stR tx rs).length ≤ rs.length := Nat.le_trans (List.length_filter_le _ _) (opR_len rs)
set_option maxHeartbeats 1000000 in
theorem d30_ok {N : Nat} (hN : bigN N) {M : S56} {log : List S80} {tx : Int} (hL : M.Log = log.map cv) (hV : VR log.reverse) (hok : ∀ r ∈ log, okr M.Buffer.length r) (hl : log.length + (stR tx log.reverse).length + 1 ≤ 3518437208883) (ha : M.Active.length ≤ 140737488355328) :
  d30 N M tx = some (closeM ((stR tx log.reverse).map cv) tx M, ((stR tx log.reverse).length : Int)) := by
 have hN' : 9223372036854775808 ≤ N := hN
 unfold d30
 have hlen : M.Log.length = log.length := by rw [hL, List.length_map]
 refine bind_of (iter_fwd (σ := List S84) (τ := List S84 × Int) (ρ := List S84) M.Log.length (fun s j => (s, j)) _ (fun k s => s = ((stR tx (log.take k).reverse).reverse).map cv) (fun s => s) ?_ ?_ ([] : List S84) ?_ (by omega)) ?_
 ·intro k s hk hs
  subst hs
  rw [hlen] at hk
  obtain ⟨x, hx⟩ := get_of hk
  have hx' : M.Log[k]? = some (cv x) := by rw [hL, List.getElem?_map, hx]; rfl
  have hrt := rtake hx
  have hst : (stR tx (log.take k).reverse).length ≤ k := Nat.le_trans (stR_len _ _) (by rw [List.length_reverse, List.length_take]; exact Nat.min_le_left _ _)
  have hbd : log.length + 1 ≤ 3518437208883 := bd3 hl
  have hw : (x.tx = tx → x.kind = 1 → stR tx (log.take (k + 1)).reverse = x :: stR tx (log.take k).reverse) ∧ (x.tx = tx → x.kind = 2 → stR tx (log.take (k + 1)).reverse = (stR tx (log.take k).reverse).drop 1 ∧ 0 < (stR tx (log.take k).reverse).length) ∧ (x.kind ≠ 1 → x.kind ≠ 2 → stR tx (log.take (k + 1)).reverse = stR tx (log.take k).reverse) ∧ (x.tx ≠ tx → stR tx (log.take (k + 1)).reverse = stR tx (log.take k).reverse) := by
   rw [hrt]
   refine ⟨fun htx k1 => stR_1 _ htx k1, fun htx k2 => ⟨stR_2 _ htx k2, ?_⟩, fun k1 k2 => stR_0 _ k1 k2, fun htx => stR_ne _ htx⟩
   have hV2 : VR (log.take (k + 1)).reverse := VR_take hV _
   rw [hrt] at hV2
   obtain ⟨u, hu, hut⟩ := hV2.2 k2
   exact List.length_pos_of_mem (List.mem_filter.2 ⟨hu, by simp [hut, htx]⟩)
  obtain ⟨w1, w2, w3, w4⟩ := hw
  clear hl hV hok hrt
  generalize stR tx (log.take (k + 1)).reverse = st' at *
  generalize stR tx (log.take k).reverse = st at *
  simp only []
  rw [if_pos (by omega), idx_nat hx', Option.bind_some]
  by_cases htx : x.tx = tx
  ·rw [if_neg (by simp [cv, htx])]
   by_cases k1 : x.kind = 1
   ·have hap : appL 40 (st.reverse.map cv) [cv x] = some (st.reverse.map cv ++ [cv x]) := appL_of (by simp only [List.length_map, List.length_reverse, List.length_cons, List.length_nil]; unfold Rp.reach; omega)
    rw [if_pos (show ((cv x).Kind == 1) = true by simp [cv, k1]), hap, Option.bind_some, Option.bind_some, if_neg (by simp [cv, k1]), Option.bind_some, chkI_of (by omega) (by omega), Option.bind_some]
    exact ⟨_, rfl, by rw [w1 htx k1]; simp⟩
   ·rw [if_neg (by simp [cv, k1]), Option.bind_some]
    by_cases k2 : x.kind = 2
    ·obtain ⟨w2, hpos⟩ := w2 htx k2
     have hc : ((st.reverse.map cv).length : Int) - 1 = ((st.length - 1 : Nat) : Int) := by simp; omega
     rw [if_pos (show ((cv x).Kind == 2) = true by simp [cv, k2]), hc, chkI_of (by omega) (by omega), Option.bind_some, natI_nat (by simp), Option.bind_some, letv_eq, rev_take, Option.bind_some, chkI_of (by omega) (by omega), Option.bind_some]
     exact ⟨_, rfl, by rw [w2]⟩
    ·rw [if_neg (by simp [cv, k2]), Option.bind_some, chkI_of (by omega) (by omega), Option.bind_some]
     exact ⟨_, rfl, by rw [w3 k1 k2]⟩
  ·rw [if_pos (by simpa [cv] using htx), Option.bind_some, chkI_of (by omega) (by omega), Option.bind_some]
   exact ⟨_, rfl, by rw [w4 htx]⟩
 ·intro s hs
  simp only []
  rw [if_neg (by omega)]
 ·rfl
 ·intro s hs
  simp only [] at hs ⊢
  rw [hlen, List.take_length] at hs
  obtain ⟨us, hus⟩ : ∃ us, us = (stR tx log.reverse).map cv := ⟨_, rfl⟩
  have hsr : s = us.reverse := by rw [hs, hus, List.map_reverse]
  have hul : us.length = (stR tx log.reverse).length := by rw [hus, List.length_map]
  have huok : ∀ u ∈ us, 0 ≤ u.Page ∧ u.Page < M.Buffer.length := fun u hu => by
   rw [hus] at hu
   obtain ⟨v, hv, rfl⟩ := List.mem_map.1 hu
   obtain ⟨hv1, hv2⟩ := opR_mem (List.mem_filter.1 hv).1
   exact (hok v (List.mem_reverse.1 hv1)).2 (by omega)
  rw [← hul] at hl ⊢
  rw [← hus]
  clear hus hs hul
  rw [hsr, List.length_reverse, chkI_of (by omega) (by omega), Option.bind_some]
  rw [show ((us.length : Int) - 1) = (us.length : Int) - 1 - (0 : Int) from by omega]
  refine bind_of (iter_fwd (σ := S56) us.length (fun M' j => (M'.Buffer, M'.Disk, M'.DiskLSN, M'.Log, M'.Flushed, M'.LastID, M'.Active, (us.length : Int) - 1 - j)) _ (fun j M' => M' = undoM (us.take j) tx M) (fun M' => (M'.Buffer, M'.Disk, M'.DiskLSN, M'.Log, M'.Flushed, M'.LastID, M'.Active)) ?_ ?_ M rfl (n := N) (by omega)) ?_
  ·intro j M' hj hM'
   subst hM'
   obtain ⟨u, hu⟩ := get_of hj
   have hix : (us.reverse)[us.length - 1 - j]? = some u := by
    rw [List.getElem?_reverse (by omega)]
    rw [show us.length - 1 - (us.length - 1 - j) = j from by omega]; exact hu
   have hv : (us.length : Int) - 1 - (j : Int) = ((us.length - 1 - j : Nat) : Int) := by omega
   have hull : us.length ≤ 140737488355328 := by omega
   have hll : (undoM (us.take j) tx M).Log.length + 1 ≤ 3518437208883 := by
    rw [undoM_llen, List.length_take, hlen]; omega
   have hpg := huok u (List.mem_of_getElem? hu)
   simp only []
   rw [if_pos (by omega), hv, idx_nat hix, Option.bind_some, d27_ok N (M := S56.mk (undoM (us.take j) tx M).Buffer (undoM (us.take j) tx M).Disk (undoM (us.take j) tx M).DiskLSN (undoM (us.take j) tx M).Log (undoM (us.take j) tx M).Flushed (undoM (us.take j) tx M).LastID (undoM (us.take j) tx M).Active) (r := ⟨2, tx, u.Page, u.After, u.Before⟩) hll (fun _ => by simp only; rw [undoM_blen]; exact hpg), Option.bind_some, chkI_of (by omega) (by omega), Option.bind_some]
   refine ⟨appM (undoM (us.take j) tx M) ⟨2, tx, u.Page, u.After, u.Before⟩, ?_, ?_⟩
   ·rw [show ((us.length - 1 - j : Nat) : Int) - 1 = (us.length : Int) - 1 - ((j : Int) + 1) from by omega]
    try rfl
   ·rw [List.take_add_one, hu]
    simp [undoM, List.foldl_append]
  ·intro M' hM'
   simp only []
   rw [if_neg (by omega)]
  ·intro M' hM'
   rw [List.take_length] at hM'
   subst hM'
   have hll : (undoM us tx M).Log.length + 1 ≤ 3518437208883 := by
    rw [undoM_llen, hlen]; omega
   simp only []
   rw [d27_ok N (M := S56.mk (undoM us tx M).Buffer (undoM us tx M).Disk (undoM us tx M).DiskLSN (undoM us tx M).Log (undoM us tx M).Flushed (undoM us tx M).LastID (undoM us tx M).Active) (r := ⟨3, tx, 0, 0, 0⟩) hll (fun h => by simp at h), Option.bind_some]
   have hact : (appM (undoM us tx M) ⟨3, tx, 0, 0, 0⟩).Active = M.Active := undoM_act tx us M
   rw [show (fun b0 => d42 N b0 tx) = (fun b => some (b == tx)) from rfl]
   rw [show (appM (S56.mk (undoM us tx M).Buffer (undoM us tx M).Disk (undoM us tx M).DiskLSN (undoM us tx M).Log (undoM us tx M).Flushed (undoM us tx M).LastID (undoM us tx M).Active) ⟨3, tx, 0, 0, 0⟩) = appM (undoM us tx M) ⟨3, tx, 0, 0, 0⟩ from rfl]
   rw [d31_ok hN _ _ (by rw [hact]; exact ha), Option.bind_some]
   rfl
end Go.Proofs.Ytiikoldaocnilaa
end
section
namespace Go.Proofs.Ytiikoldaocnilaa
open Go.Ab Go.Rp

def plR (p : Int) : List S80 → Nat
 | [] => 0
 | r :: rs => if r.kind < 3 ∧ r.page = p then rs.length + 1 else plR p rs
theorem plR_cons (p : Int) (r : S80) (rs : List S80) : plR p (r :: rs) = if r.kind < 3 ∧ r.page = p then rs.length + 1 else plR p rs := rfl
theorem plR_le (p : Int) : ∀ rs : List S80, plR p rs ≤ rs.length
 | [] => Nat.le_refl _
 | r :: rs => by
  have := plR_le p rs
  rw [plR_cons, List.length_cons]
  split <;> omega
theorem plR_app (p : Int) (a : List S80) : ∀ b : List S80, plR p a ≤ plR p (b ++ a)
 | [] => Nat.le_refl _
 | r :: b => by
  have h1 := plR_app p a b
  have h2 := plR_le p a
  rw [List.cons_append, plR_cons]
  split
  ·rw [List.length_append]; omega
  ·exact h1

theorem nodup_sub : ∀ {l q : List Int}, l.Nodup → (∀ x ∈ l, x ∈ q) → l.length ≤ q.length
 | [], q, _, _ => Nat.zero_le _
 | x :: l, q, hn, hs => by
  obtain ⟨h1, h2⟩ := List.nodup_cons.1 hn
  have hx := hs x (List.mem_cons_self ..)
  have := nodup_sub (l := l) (q := q.erase x) h2 fun y hy => by
   have hne : y ≠ x := fun e => h1 (e ▸ hy)
   exact (List.mem_erase_of_ne hne).2 (hs y (List.mem_cons_of_mem _ hy))
  rw [List.length_erase_of_mem hx] at this
  have : 0 < q.length := List.length_pos_of_mem hx
  simp only [List.length_cons]; omega

def upds (l : List S80) : Nat := l.countP fun r => r.kind == 1
def ends (l : List S80) : List Int := (l.filter fun r => r.kind == 3).map (·.tx)

theorem count_log : ∀ rs : List S80, VR rs → (∀ r ∈ rs, r.kind = 1 ∨ r.kind = 2 ∨ r.kind = 3) → rs.length + (opR rs).length = 2 * upds rs + (ends rs).length
 | [], _, _ => rfl
 | r :: rs, hV, hk => by
  have ih := count_log rs hV.1 fun r hr => hk r (List.mem_cons_of_mem _ hr)
  unfold upds ends at *
  rw [opR_cons]
  rcases hk r (List.mem_cons_self ..) with h | h | h
  ·simp only [h, if_true, List.length_cons, List.countP_cons, List.filter_cons]
   simp; simp at ih; omega
  ·obtain ⟨u, hu, hut⟩ := hV.2 h
   have := List.length_eraseP_of_mem (p := fun u => u.tx == r.tx) hu (by simp [hut])
   have hp := List.length_pos_of_mem hu
   rw [if_neg (by omega), if_pos h, this, List.length_cons, List.countP_cons, List.filter_cons]
   simp [h]; simp at ih; omega
  ·rw [if_neg (by omega), if_neg (by omega), List.length_cons, List.countP_cons, List.filter_cons]
   simp [h]; simp at ih; omega

/-- what holds of an engine's log and pages -/
structure Base (n : Nat) (Qs : List Int) (G : S74) : Prop where
 lb : G.buffer.length = n
 ld : G.disk.length = n
 ok : ∀ r ∈ G.log, okr n r
 V : VR G.log.reverse
 upd : upds G.log ≤ 2000
 endn : (ends G.log).Nodup
 inQ : ∀ r ∈ G.log, r.tx ∈ Qs
 ids : ∀ r ∈ G.log, r.tx ≤ G.lastID
 lsn : ∀ (p : Nat) x, G.buffer[p]? = some x → x.lsn = plR p G.log.reverse
 dsk : ∀ (p : Nat) x, G.disk[p]? = some x → 0 ≤ x.lsn ∧ x.lsn ≤ plR p (G.log.take G.flushed.toNat).reverse
 fl0 : 0 ≤ G.flushed
 fl : G.flushed ≤ G.log.length

theorem Base.len {n : Nat} {Qs : List Int} {G : S74} (h : Base n Qs G) : G.log.length + (opR G.log.reverse).length ≤ 4000 + Qs.length := by
 have h1 := count_log G.log.reverse h.V fun r hr => (h.ok r (List.mem_reverse.1 hr)).1
 have h2 : (ends G.log).length ≤ Qs.length := nodup_sub h.endn fun x hx => by
  unfold ends at hx
  obtain ⟨r, hr, rfl⟩ := List.mem_map.1 hx
  exact h.inQ r (List.mem_filter.1 hr).1
 have h3 : upds G.log.reverse = upds G.log := by unfold upds; rw [List.countP_reverse]
 have h4 : (ends G.log.reverse).length = (ends G.log).length := by unfold ends; rw [List.filter_reverse, List.map_reverse, List.length_reverse]
 have h5 := h.upd
 rw [List.length_reverse, h3, h4] at h1
 omega
theorem Base.st {n : Nat} {Qs : List Int} {G : S74} (h : Base n Qs G) (tx : Int) : G.log.length + (stR tx G.log.reverse).length ≤ 4000 + Qs.length :=
 Nat.le_trans (Nat.add_le_add_left (List.length_filter_le _ _) _) h.len

theorem Base.app {n : Nat} {Qs : List Int} {G : S74} (h : Base n Qs G) {r : S80} (hr : okr n r) (h1 : r.kind = 1 → upds G.log < 2000) (h2 : r.kind = 2 → ∃ u ∈ opR G.log.reverse, u.tx = r.tx) (h3 : r.kind = 3 → r.tx ∉ ends G.log) (hq : r.tx ∈ Qs) (hi : r.tx ≤ G.lastID) : Base n Qs (appG G r) where
 lb := (appG_blen G r).trans h.lb
 ld := h.ld
 ok x hx := by
  rcases List.mem_append.1 (show x ∈ G.log ++ [r] from hx) with hx | hx
  ·exact h.ok x hx
  ·obtain rfl : x = r := by simpa using hx
   exact hr
 V := by
  show VR (G.log ++ [r]).reverse
  rw [List.reverse_append]
  exact ⟨h.V, h2⟩
 upd := by
  have := h.upd
  show upds (G.log ++ [r]) ≤ 2000
  unfold upds at *
  rw [List.countP_append, List.countP_singleton]
  by_cases hk : r.kind = 1
  ·have := h1 hk
   simp [hk]; omega
  ·simp [hk]; omega
 endn := by
  have := h.endn
  show (ends (G.log ++ [r])).Nodup
  unfold ends at *
  rw [List.filter_append, List.map_append]
  by_cases hk : r.kind = 3
  ·have h3 := h3 hk
   rw [List.filter_cons_of_pos (by simp [hk])]
   simp only [List.filter_nil, List.map_cons, List.map_nil]
   refine List.nodup_append.2 ⟨this, by simp, fun a ha b hb e => ?_⟩
   have : b = r.tx := by simpa using hb
   subst e; subst this
   exact h3 ha
  ·rw [List.filter_cons_of_neg (by simp [hk])]
   simpa using this
 inQ x hx := by
  rcases List.mem_append.1 (show x ∈ G.log ++ [r] from hx) with hx | hx
  ·exact h.inQ x hx
  ·obtain rfl : x = r := by simpa using hx
   exact hq
 ids x hx := by
  rcases List.mem_append.1 (show x ∈ G.log ++ [r] from hx) with hx | hx
  ·exact h.ids x hx
  ·obtain rfl : x = r := by simpa using hx
   exact hi
 lsn p x hx := by
  show x.lsn = plR p (G.log ++ [r]).reverse
  rw [List.reverse_append]
  show x.lsn = plR p (r :: G.log.reverse)
  rw [plR_cons]
  have hx : (if r.kind = 3 then G.buffer else G.buffer.set r.page.toNat ⟨r.after, ((G.log ++ [r]).length : Int)⟩)[p]? = some x := hx
  by_cases hk : r.kind = 3
  ·rw [if_pos hk] at hx
   rw [if_neg (by omega)]
   exact h.lsn p x hx
  ·rw [if_neg hk] at hx
   obtain ⟨g1, g2⟩ := hr.2 hk
   have hk3 : r.kind < 3 := by rcases hr.1 with g | g | g <;> omega
   by_cases hp : r.page = p
   ·rw [if_pos ⟨hk3, hp⟩]
    have hpn : r.page.toNat = p := by omega
    rw [hpn, List.getElem?_set_self (by rw [h.lb]; omega)] at hx
    injection hx with hx
    subst hx
    simp
   ·rw [if_neg (fun g => hp g.2)]
    rw [List.getElem?_set_ne (by omega)] at hx
    exact h.lsn p x hx
 dsk p x hx := by
  have hf := h.fl
  show 0 ≤ x.lsn ∧ x.lsn ≤ plR p ((G.log ++ [r]).take G.flushed.toNat).reverse
  rw [List.take_append_of_le_length (by omega)]
  exact h.dsk p x hx
 fl0 := h.fl0
 fl := by
  have := h.fl
  show G.flushed ≤ ((G.log ++ [r]).length : Int)
  simp; omega

theorem undoG_base {n : Nat} {Qs : List Int} {tx : Int} (hq : tx ∈ Qs) : ∀ (us : List S80) (G : S74), Base n Qs G → tx ≤ G.lastID → us = stR tx G.log.reverse → Base n Qs (undoG us tx G) ∧ stR tx (undoG us tx G).log.reverse = []
 | [], G, h, _, hu => ⟨h, hu.symm⟩
 | u :: us, G, h, hi, hu => by
  have hmem : u ∈ stR tx G.log.reverse := by rw [← hu]; exact List.mem_cons_self ..
  obtain ⟨m1, m2⟩ := List.mem_filter.1 hmem
  have hut : u.tx = tx := by simpa using m2
  obtain ⟨m3, m4⟩ := opR_mem m1
  have hok := (h.ok u (List.mem_reverse.1 m3)).2 (by omega)
  have hb := h.app (r := ⟨2, tx, u.page, u.after, u.before⟩) ⟨.inr (.inl rfl), fun _ => hok⟩ (fun e => by simp at e) (fun _ => ⟨u, m1, hut⟩) (fun e => by simp at e) hq hi
  refine undoG_base hq us _ hb hi ?_
  show us = stR tx (G.log ++ [_]).reverse
  rw [List.reverse_append]
  show us = stR tx (_ :: G.log.reverse)
  rw [stR_2 (tx := tx) (r := ⟨2, tx, u.page, u.after, u.before⟩) _ rfl rfl, ← hu]
  rfl
theorem undoG_keeps (tx : Int) : ∀ (us : List S80) (G : S74), (undoG us tx G).disk = G.disk ∧ (undoG us tx G).flushed = G.flushed ∧ (undoG us tx G).lastID = G.lastID ∧ (undoG us tx G).active = G.active ∧ (undoG us tx G).writer = G.writer
 | [], G => ⟨rfl, rfl, rfl, rfl, rfl⟩
 | u :: us, G => by
  obtain ⟨h1, h2, h3, h4, h5⟩ := undoG_keeps tx us (appG G ⟨2, tx, u.page, u.after, u.before⟩)
  exact ⟨h1, h2, h3, h4, h5⟩
/-- what an undo appends: compensations of tx -/
theorem undoG_log (tx : Int) : ∀ (us : List S80) (G : S74), ∃ cs : List S80, (undoG us tx G).log = G.log ++ cs ∧ cs.length = us.length ∧ ∀ c ∈ cs, c.kind = 2 ∧ c.tx = tx
 | [], G => ⟨[], by simp [undoG], rfl, fun _ h => by cases h⟩
 | u :: us, G => by
  obtain ⟨cs, h1, h2, h3⟩ := undoG_log tx us (appG G ⟨2, tx, u.page, u.after, u.before⟩)
  refine ⟨⟨2, tx, u.page, u.after, u.before⟩ :: cs, ?_, by simp [h2], fun c hc => ?_⟩
  ·show (undoG us tx _).log = _
   rw [h1]
   show (G.log ++ [_]) ++ cs = _
   simp
  ·rcases List.mem_cons.1 hc with rfl | hc
   ·exact ⟨rfl, rfl⟩
   ·exact h3 c hc

/-! ### the engine and its model -/
structure Rel (G : S74) (M : S56) : Prop where
 b : M.Buffer = G.buffer.map (·.value)
 d : M.Disk = G.disk.map (·.value)
 dl : M.DiskLSN = G.disk.map (·.lsn)
 l : M.Log = G.log.map cv
 f : M.Flushed = G.flushed
 i : M.LastID = G.lastID
 a : M.Active = G.active

theorem Rel.app {G : S74} {M : S56} (h : Rel G M) (r : S80) (hk : r.kind = 1 ∨ r.kind = 2 ∨ r.kind = 3) : Rel (appG G r) (appM M (cv r)) where
 b := by
  show (if (cv r).Kind < 3 then M.Buffer.set (cv r).Page.toNat (cv r).After else M.Buffer) = (if r.kind = 3 then G.buffer else G.buffer.set r.page.toNat ⟨r.after, ((G.log ++ [r]).length : Int)⟩).map (·.value)
  by_cases h3 : r.kind = 3
  ·rw [if_neg (show ¬ (cv r).Kind < 3 from (by show ¬ r.kind < 3; omega)), if_pos h3]; exact h.b
  ·rw [if_pos (show (cv r).Kind < 3 from (by show r.kind < 3; omega)), if_neg h3, List.map_set, h.b]; rfl
 d := h.d
 dl := h.dl
 l := by
  show M.Log ++ [cv r] = (G.log ++ [r]).map cv
  rw [h.l, List.map_append]; rfl
 f := h.f
 i := h.i
 a := h.a
theorem Rel.undo {tx : Int} : ∀ (us : List S80) {G : S74} {M : S56}, Rel G M → Rel (undoG us tx G) (undoM (us.map cv) tx M)
 | [], _, _, h => h
 | u :: us, _, _, h => Rel.undo us (h.app ⟨2, tx, u.page, u.after, u.before⟩ (.inr (.inl rfl)))

theorem d34_ok {N : Nat} (hN : bigN N) {M : S56} {log : List S80} (hL : M.Log = log.map cv) (p : Int) (hl : log.length ≤ 3518437208883) : d34 N M p = some (plR p log.reverse : Int) := by
 have hN' : 9223372036854775808 ≤ N := hN
 have hlen : M.Log.length = log.length := by rw [hL, List.length_map]
 unfold d34
 refine bind_of (iter_fwd (σ := Nat) (τ := Int × Int) (ρ := Int) M.Log.length (fun s j => ((s : Int), j)) _ (fun k s => s = plR p (log.take k).reverse) (fun s => (s : Int)) ?_ ?_ 0 rfl (by omega)) ?_
 ·intro k s hk hs
  rw [hlen] at hk
  obtain ⟨x, hx⟩ := get_of hk
  have hx' : M.Log[k]? = some (cv x) := by rw [hL, List.getElem?_map, hx]; rfl
  have hlk : (log.take k).reverse.length = k := by rw [List.length_reverse, List.length_take]; omega
  have hw : plR p (log.take (k + 1)).reverse = if x.kind < 3 ∧ x.page = p then k + 1 else s := by
   rw [rtake hx, plR_cons, hlk, ← hs]
  clear hs
  simp only []
  rw [if_pos (by omega), idx_nat hx', Option.bind_some]
  by_cases h3 : x.kind < 3
  ·rw [if_pos (show (cv x).Kind < 3 from h3), Option.bind_some]
   by_cases hp : x.page = p
   ·rw [if_pos (by simp [cv, hp]), chkI_of (by omega) (by omega), Option.bind_some, Option.bind_some]
    exact ⟨k + 1, rfl, by rw [hw, if_pos ⟨h3, hp⟩]⟩
   ·rw [if_neg (by simp [cv, hp]), chkI_of (by omega) (by omega), Option.bind_some]
    exact ⟨s, rfl, by rw [hw, if_neg (fun g => hp g.2)]⟩
  ·rw [if_neg (show ¬ (cv x).Kind < 3 from h3), Option.bind_some, if_neg (by simp), chkI_of (by omega) (by omega), Option.bind_some]
   exact ⟨s, rfl, by rw [hw, if_neg (fun g => h3 g.1)]⟩
 ·intro s hs
  simp only []
  rw [if_neg (by omega)]
 ·intro s hs
  rw [hlen, List.take_length] at hs
  rw [hs]

theorem d26_ok {N : Nat} (hN : bigN N) {M : S56} {log : List S80} (hL : M.Log = log.map cv) (p : Int) (hl : log.length ≤ 3518437208883) (ha : M.Active.length ≤ 140737488355328) :
  ∃ w, d26 N M p = some w ∧ ((∃ r ∈ log, r.kind = 1 ∧ r.page = p ∧ r.tx ∈ M.Active ∧ w = r.tx) ∨ (w = 0 ∧ ∀ r ∈ log, r.kind = 1 → r.page = p → r.tx ∉ M.Active)) := by
 have hN' : 9223372036854775808 ≤ N := hN
 have hlen : M.Log.length = log.length := by rw [hL, List.length_map]
 unfold d26
 have key : ∀ (m k : Nat), log.length - k < m → k ≤ log.length → (∀ r ∈ log.take k, r.kind = 1 → r.page = p → r.tx ∉ M.Active) → ∃ o, iterN (σ := Int) (ρ := Out Unit Int) (fun (v12 : Int) =>
   if v12 < (M.Log.length : Int) then (
    (idx M.Log v12).bind fun x39 =>
    Option.bind (α := Bool) (
     if (x39.Kind == 1) then (
      if (x39.Page == p) then (
       (d24 N M.Active x39.Tx).bind fun r47 =>
       some r47
      ) else
      some false
     ) else
     some false
    ) fun (v44 : Bool) =>
    if v44 = true then (
     some (.inr (.ret x39.Tx))
    ) else
    (chkI (v12 + 1)).bind fun v49 =>
    some (.inl v49)
   ) else
   some (.inr (.go ()))) m (k : Int) = some o ∧ ((∃ r ∈ log, r.kind = 1 ∧ r.page = p ∧ r.tx ∈ M.Active ∧ o = .ret r.tx) ∨ (o = .go () ∧ ∀ r ∈ log, r.kind = 1 → r.page = p → r.tx ∉ M.Active)) := by
  intro m
  induction m with
  | zero => intro k h; omega
  | succ m ih =>
   intro k hm hk hno
   rw [iterN_succ]
   by_cases hlt : k < log.length
   ·obtain ⟨x, hx⟩ := get_of hlt
    have hx' : M.Log[k]? = some (cv x) := by rw [hL, List.getElem?_map, hx]; rfl
    have hnext : (x.kind = 1 → x.page = p → x.tx ∉ M.Active) → ∀ r ∈ log.take (k + 1), r.kind = 1 → r.page = p → r.tx ∉ M.Active := fun h r hr => by
     rw [List.take_add_one, hx] at hr
     rcases List.mem_append.1 hr with hr | hr
     ·exact hno r hr
     ·obtain rfl : r = x := by simpa using hr
      exact h
    rw [if_pos (by omega), idx_nat hx', Option.bind_some]
    by_cases h1 : x.kind = 1
    ·rw [if_pos (show ((cv x).Kind == 1) = true by simp [cv, h1])]
     by_cases h2 : x.page = p
     ·rw [if_pos (show ((cv x).Page == p) = true by simp [cv, h2]), d24_ok hN _ _ ha, Option.bind_some, Option.bind_some]
      by_cases h3 : x.tx ∈ M.Active
      ·rw [if_pos (decide_eq_true (show (cv x).Tx ∈ M.Active from h3))]
       exact ⟨_, rfl, .inl ⟨x, List.mem_of_getElem? hx, h1, h2, h3, rfl⟩⟩
      ·rw [if_neg (by rw [decide_eq_true_eq]; exact h3), chkI_of (by omega) (by omega), Option.bind_some]
       exact ih (k + 1) (by omega) (by omega) (hnext fun _ _ => h3)
     ·rw [if_neg (by simp [cv, h2]), Option.bind_some, if_neg (by simp), chkI_of (by omega) (by omega), Option.bind_some]
      exact ih (k + 1) (by omega) (by omega) (hnext fun _ h => absurd h h2)
    ·rw [if_neg (by simp [cv, h1]), Option.bind_some, if_neg (by simp), chkI_of (by omega) (by omega), Option.bind_some]
     exact ih (k + 1) (by omega) (by omega) (hnext fun h => absurd h h1)
   ·obtain rfl : k = log.length := by omega
    rw [if_neg (by omega)]
    rw [List.take_length] at hno
    exact ⟨_, rfl, .inr ⟨rfl, hno⟩⟩
 obtain ⟨o, h1, h2⟩ := key N 0 (by omega) (Nat.zero_le _) (by simp)
 rw [show ((0 : Nat) : Int) = 0 from rfl] at h1
 rw [h1]
 rcases h2 with ⟨r, h3, h4, h5, h6, rfl⟩ | ⟨rfl, h3⟩
 ·exact ⟨_, rfl, .inl ⟨r, h3, h4, h5, h6, rfl⟩⟩
 ·exact ⟨0, rfl, .inr ⟨rfl, h3⟩⟩
end Go.Proofs.Ytiikoldaocnilaa
end
section
namespace Go.Proofs.Ytiikoldaocnilaa
open Go.Ab Go.Rp

theorem filt_lt {p q : Int → Bool} (h : ∀ x, q x = true → p x = true) {y : Int} (hp : p y = true) (hq : q y = false) : ∀ {l : List Int}, y ∈ l → (l.filter q).length + 1 ≤ (l.filter p).length
 | x :: l, hy => by
  have hle : ∀ l : List Int, (l.filter q).length ≤ (l.filter p).length := fun l => by
   induction l with
   | nil => exact Nat.le_refl _
   | cons x l ih =>
    rw [List.filter_cons, List.filter_cons]
    by_cases hx : q x = true
    ·rw [if_pos hx, if_pos (h x hx)]; simpa using ih
    ·rw [if_neg hx]
     split
     ·exact Nat.le_succ_of_le ih
     ·exact ih
  rw [List.filter_cons, List.filter_cons]
  rcases List.mem_cons.1 hy with rfl | hy
  ·rw [if_neg (by simp [hq]), if_pos hp]
   simpa using hle l
  ·have ih := filt_lt h hp hq hy
   by_cases hx : q x = true
   ·rw [if_pos hx, if_pos (h x hx)]; simpa using ih
   ·rw [if_neg hx]
    split
    ·exact Nat.le_succ_of_le ih
    ·exact ih

theorem Base.of {n : Nat} {Qs : List Int} {G G' : S74} (h : Base n Qs G) (h1 : G'.buffer = G.buffer) (h2 : G'.disk = G.disk) (h3 : G'.log = G.log) (h4 : G'.flushed = G.flushed) (h5 : G.lastID ≤ G'.lastID) : Base n Qs G' := by
 obtain ⟨a1, a2, a3, a4, a5, a6, a7, a8, a9, a10, a11, a12⟩ := h
 rw [← h1] at a1 a9
 rw [← h2] at a2 a10
 rw [← h3] at a3 a4 a5 a6 a7 a8 a9 a10 a12
 rw [← h4] at a10 a11 a12
 exact ⟨a1, a2, a3, a4, a5, a6, a7, fun r hr => Int.le_trans (a8 r hr) h5, a9, a10, a11, a12⟩
theorem Base.mono {n : Nat} {Qs Qs' : List Int} {G : S74} (h : Base n Qs G) (hq : ∀ x ∈ Qs, x ∈ Qs') : Base n Qs' G :=
 ⟨h.lb, h.ld, h.ok, h.V, h.upd, h.endn, fun r hr => hq _ (h.inQ r hr), h.ids, h.lsn, h.dsk, h.fl0, h.fl⟩
theorem take_rev (log : List S80) {a b : Nat} (h : a ≤ b) : ∃ c, (log.take b).reverse = c ++ (log.take a).reverse := by
 refine ⟨((log.take b).drop a).reverse, ?_⟩
 rw [← List.reverse_append, show log.take a = (log.take b).take a from by rw [List.take_take, Nat.min_eq_left h], List.take_append_drop]
theorem Base.flush {n : Nat} {Qs : List Int} {G : S74} (h : Base n Qs G) {f : Int} (h1 : G.flushed ≤ f) (h2 : f ≤ G.log.length) : Base n Qs ⟨G.buffer, G.disk, G.log, f, G.lastID, G.active, G.writer⟩ := by
 have h0 := h.fl0
 refine ⟨h.lb, h.ld, h.ok, h.V, h.upd, h.endn, h.inQ, h.ids, h.lsn, fun p x hx => ?_, by simp only; omega, h2⟩
 obtain ⟨c, hc⟩ := take_rev G.log (a := G.flushed.toNat) (b := f.toNat) (by omega)
 have := h.dsk p x hx
 have h3 := plR_app p (G.log.take G.flushed.toNat).reverse c
 show 0 ≤ x.lsn ∧ x.lsn ≤ plR p (G.log.take f.toNat).reverse
 rw [hc]
 omega

theorem plR_cut (p : Int) (a : List S80) : ∀ b : List S80, plR p (b ++ a) ≤ a.length → plR p (b ++ a) = plR p a
 | [], _ => rfl
 | r :: b, h => by
  rw [List.cons_append, plR_cons] at h ⊢
  split at h
  ·rw [List.length_append] at h; omega
  ·rename_i hc
   rw [if_neg hc]
   exact plR_cut p a b h

structure Inv (n k : Nat) (Qs : List Int) (G : S74) : Prop where
 base : Base n Qs G
 lw : G.writer.length = n
 n16 : n ≤ 16
 act : ∀ a ∈ G.active, 1 ≤ a ∧ a ≤ G.lastID
 actE : ∀ a ∈ G.active, a ∉ ends G.log
 a10 : G.active.length ≤ 10
 li0 : 0 ≤ G.lastID
 lik : G.lastID ≤ k
 qb : 2 * Qs.length + (G.active.filter fun a => decide (a ∉ Qs)).length ≤ k
 w1 : ∀ r ∈ G.log, r.kind = 1 → r.tx ∈ G.active → G.writer[r.page.toNat]? = some r.tx
 w2 : ∀ (p : Nat) w, G.writer[p]? = some w → w ≠ 0 → w ∈ G.active ∧ ∃ r ∈ G.log, r.kind = 1 ∧ r.page = p ∧ r.tx = w

theorem Inv.cap {n k : Nat} {Qs : List Int} {G : S74} (h : Inv n k Qs G) (hk : k ≤ 5864062014805) (tx : Int) : G.log.length + (stR tx G.log.reverse).length + 1 ≤ 3518437208883 := by
 have h1 := h.base.st tx
 have h2 := h.qb
 generalize (stR tx G.log.reverse).length = s at *
 omega

/-- a transaction acts: it is among those that have acted -/
theorem Inv.acts {n k : Nat} {Qs : List Int} {G : S74} (h : Inv n k Qs G) {tx : Int} (ha : tx ∈ G.active) : ∃ Qs' : List Int, (∀ x ∈ Qs, x ∈ Qs') ∧ tx ∈ Qs' ∧ 2 * Qs'.length + (G.active.filter fun a => decide (a ∉ Qs')).length ≤ k + 1 := by
 have hq := h.qb
 by_cases hm : tx ∈ Qs
 ·exact ⟨Qs, fun _ h => h, hm, by omega⟩
 ·refine ⟨tx :: Qs, fun x hx => List.mem_cons_of_mem _ hx, List.mem_cons_self .., ?_⟩
  have := filt_lt (p := fun a => decide (a ∉ Qs)) (q := fun a => decide (a ∉ tx :: Qs)) (fun x hx => by
   have : x ∉ tx :: Qs := of_decide_eq_true hx
   exact decide_eq_true fun g => this (List.mem_cons_of_mem _ g)) (y := tx) (by simpa using hm) (by simp) ha
  simp only [List.length_cons]
  omega

def zw (tx : Int) (w : Int) : Int := if w = tx then 0 else w
def finG (G : S74) (tx : Int) : S74 := ⟨G.buffer, G.disk, G.log ++ [⟨3, tx, 0, 0, 0⟩], G.flushed, G.lastID, G.active.filter (· != tx), G.writer.map (zw tx)⟩

theorem d40_ok {N : Nat} (hN : bigN N) {G : S74} {tx : Int} (hl : G.log.length + 1 ≤ 3518437208883) (ha : G.active.length ≤ 140737488355328) (hw : G.writer.length ≤ 140737488355328) : d40 N G tx = some (finG G tx) := by
 have hN' : 9223372036854775808 ≤ N := hN
 unfold d40
 rw [d25_ok N (r := ⟨3, tx, 0, 0, 0⟩) hl ⟨.inr (.inr rfl), fun h => absurd rfl h⟩, Option.bind_some, show (fun b0 => d46 N b0 tx) = (fun b => some (b == tx)) from rfl, d31_ok hN (appG G ⟨3, tx, 0, 0, 0⟩).active tx ha, Option.bind_some]
 show Option.bind (iterN _ N (G.writer, 0)) _ = _
 refine bind_of (iter_fwd (σ := List Int) (τ := List Int × Int) (ρ := List Int) G.writer.length (fun s j => (s, j)) _ (fun k s => s.length = G.writer.length ∧ ∀ j, s[j]? = if j < k then (G.writer[j]?).map (zw tx) else G.writer[j]?) (fun s => s) ?_ ?_ G.writer ⟨rfl, fun j => by simp⟩ (by omega)) ?_
 ·rintro k s hk ⟨hs1, hs2⟩
  obtain ⟨x, hx⟩ := get_of hk
  have hsx : s[k]? = some x := by rw [hs2 k, if_neg (by omega)]; exact hx
  show ∃ s', (if (k : Int) < (G.writer.length : Int) then _ else _) = _ ∧ _
  rw [if_pos (by omega), idx_nat hsx, Option.bind_some]
  by_cases hxt : x = tx
  ·rw [if_pos (by simpa using hxt), letv_eq, chkI_of (by omega) (by omega), Option.bind_some]
   refine ⟨_, rfl, by simpa [setI] using hs1, fun j => ?_⟩
   show (s.set k 0)[j]? = _
   by_cases hj : j = k
   ·subst hj
    rw [List.getElem?_set_self (by omega), if_pos (by omega), hx]
    simp [zw, hxt]
   ·rw [List.getElem?_set_ne (fun e => hj e.symm), hs2 j]
    by_cases hjk : j < k
    ·rw [if_pos hjk, if_pos (by omega)]
    ·rw [if_neg hjk, if_neg (by omega)]
  ·rw [if_neg (by simpa using hxt), chkI_of (by omega) (by omega), Option.bind_some]
   refine ⟨_, rfl, hs1, fun j => ?_⟩
   rw [hs2 j]
   by_cases hj : j = k
   ·subst hj
    rw [if_neg (by omega), if_pos (by omega), hx]
    simp [zw, hxt]
   ·by_cases hjk : j < k
    ·rw [if_pos hjk, if_pos (by omega)]
    ·rw [if_neg hjk, if_neg (by omega)]
 ·rintro s ⟨hs1, _⟩
  show (if (G.writer.length : Int) < (G.writer.length : Int) then _ else _) = _
  rw [if_neg (by omega)]
 ·rintro s ⟨hs1, hs2⟩
  have : s = G.writer.map (zw tx) := by
   refine List.ext_getElem? fun j => ?_
   rw [hs2 j, List.getElem?_map]
   by_cases hj : j < G.writer.length
   ·rw [if_pos hj]
   ·rw [if_neg hj, List.getElem?_eq_none (by omega)]; rfl
  subst this
  rfl

theorem fin_inv {n k : Nat} {Qs : List Int} {G : S74} (h : Inv n k Qs G) {tx : Int} (ha : tx ∈ G.active) : ∃ Qs', Inv n (k + 1) Qs' (finG G tx) := by
 obtain ⟨Qs', q1, q2, q3⟩ := h.acts ha
 have hb := ((h.base.mono q1).app (r := ⟨3, tx, 0, 0, 0⟩) ⟨.inr (.inr rfl), fun g => absurd rfl g⟩ (fun e => by simp at e) (fun e => by simp at e) (fun _ => h.actE tx ha) q2 (h.act tx ha).2).of (G' := finG G tx) rfl rfl rfl rfl (Int.le_refl _)
 refine ⟨Qs', hb, by simpa [finG] using h.lw, h.n16, fun a hm => h.act a (List.mem_filter.1 hm).1, fun a hm he => ?_, Nat.le_trans (List.length_filter_le _ _) h.a10, h.li0, Int.le_trans h.lik (by omega), ?_, fun r hr hk hm => ?_, fun p w hw hw0 => ?_⟩
 ·obtain ⟨m1, m2⟩ := List.mem_filter.1 hm
  have he : a ∈ ends (G.log ++ [⟨3, tx, 0, 0, 0⟩]) := he
  unfold ends at he
  rw [List.filter_append, List.map_append] at he
  rcases List.mem_append.1 he with he | he
  ·exact h.actE a m1 he
  ·have : a = tx := by simpa using he
   simp [this] at m2
 ·refine Nat.le_trans (Nat.add_le_add_left ?_ _) q3
  show ((G.active.filter (· != tx)).filter _).length ≤ _
  rw [List.filter_filter]
  have : ∀ l : List Int, (l.filter fun a => (decide (a ∉ Qs')) && (a != tx)).length ≤ (l.filter fun a => decide (a ∉ Qs')).length := fun l => by
   rw [← List.countP_eq_length_filter, ← List.countP_eq_length_filter]
   exact List.countP_mono_left fun x _ hx => (Bool.and_eq_true_iff.1 hx).1
  exact this _
 ·obtain ⟨m1, m2⟩ := List.mem_filter.1 hm
  rcases List.mem_append.1 (show r ∈ G.log ++ [_] from hr) with hr | hr
  ·show (G.writer.map (zw tx))[r.page.toNat]? = some r.tx
   rw [List.getElem?_map, h.w1 r hr hk m1]
   have : r.tx ≠ tx := by simpa using m2
   simp [zw, this]
  ·obtain rfl : r = ⟨3, tx, 0, 0, 0⟩ := by simpa using hr
   simp at hk
 ·have hw : (G.writer.map (zw tx))[p]? = some w := hw
  rw [List.getElem?_map] at hw
  obtain ⟨v, hv, hvw⟩ := Option.map_eq_some_iff.1 hw
  unfold zw at hvw
  split at hvw
  ·exact absurd hvw.symm hw0
  ·rename_i hne
   subst hvw
   obtain ⟨g1, r, g2, g3⟩ := h.w2 p v hv hw0
   exact ⟨List.mem_filter.2 ⟨g1, by simpa using hne⟩, r, List.mem_append_left _ g2, g3⟩

theorem Inv.flush {n k : Nat} {Qs : List Int} {G : S74} (h : Inv n k Qs G) {f : Int} (h1 : G.flushed ≤ f) (h2 : f ≤ G.log.length) : Inv n k Qs ⟨G.buffer, G.disk, G.log, f, G.lastID, G.active, G.writer⟩ :=
 ⟨h.base.flush h1 h2, h.lw, h.n16, h.act, h.actE, h.a10, h.li0, h.lik, h.qb, h.w1, h.w2⟩
theorem Inv.later {n k : Nat} {Qs : List Int} {G : S74} (h : Inv n k Qs G) : Inv n (k + 1) Qs G :=
 ⟨h.base, h.lw, h.n16, h.act, h.actE, h.a10, h.li0, Int.le_trans h.lik (by omega), Nat.le_succ_of_le h.qb, h.w1, h.w2⟩

/-- the undo of an active transaction -/
theorem undo_inv {n k : Nat} {Qs : List Int} {G : S74} (h : Inv n k Qs G) {tx : Int} (ha : tx ∈ G.active) : ∃ Qs', Inv n (k + 1) Qs' (finG (undoG (stR tx G.log.reverse) tx G) tx) := by
 obtain ⟨Qs', q1, q2, q3⟩ := h.acts ha
 obtain ⟨hb, _⟩ := undoG_base q2 _ G (h.base.mono q1) (h.act tx ha).2 rfl
 obtain ⟨k1, k2, k3, k4, k5⟩ := undoG_keeps tx (stR tx G.log.reverse) G
 obtain ⟨cs, c1, _, c2⟩ := undoG_log tx (stR tx G.log.reverse) G
 have hends : ends (undoG (stR tx G.log.reverse) tx G).log = ends G.log := by
  rw [c1]
  unfold ends
  have hcs : cs.filter (fun r => r.kind == 3) = [] := List.filter_eq_nil_iff.2 fun c hc => by simp [(c2 c hc).1]
  rw [List.filter_append, hcs, List.append_nil]
 generalize undoG (stR tx G.log.reverse) tx G = G1 at *
 have hb2 := (hb.app (r := ⟨3, tx, 0, 0, 0⟩) ⟨.inr (.inr rfl), fun g => absurd rfl g⟩ (fun e => by simp at e) (fun e => by simp at e) (fun _ => by rw [hends]; exact h.actE tx ha) q2 (by rw [k3]; exact (h.act tx ha).2)).of (G' := finG G1 tx) rfl rfl rfl rfl (Int.le_refl _)
 have hacts : (finG G1 tx).active = G.active.filter (· != tx) := by unfold finG; rw [k4]
 have hlog : ∀ r, r ∈ (finG G1 tx).log → r.kind = 1 → r ∈ G.log := fun r hr hk => by
  rcases List.mem_append.1 (show r ∈ G1.log ++ [_] from hr) with hr | hr
  ·rw [c1] at hr
   rcases List.mem_append.1 hr with hr | hr
   ·exact hr
   ·have := (c2 r hr).1; omega
  ·obtain rfl : r = ⟨3, tx, 0, 0, 0⟩ := by simpa using hr
   simp at hk
 refine ⟨Qs', hb2, by simpa [finG, k5] using h.lw, h.n16, fun a hm => ?_, fun a hm he => ?_, ?_, ?_, ?_, ?_, fun r hr hk hm => ?_, fun p w hw hw0 => ?_⟩
 ·rw [hacts] at hm
  have := h.act a (List.mem_filter.1 hm).1
  show 1 ≤ a ∧ a ≤ G1.lastID
  rw [k3]; exact this
 ·rw [hacts] at hm
  obtain ⟨m1, m2⟩ := List.mem_filter.1 hm
  have he : a ∈ ends (G1.log ++ [⟨3, tx, 0, 0, 0⟩]) := he
  unfold ends at he hends
  rw [List.filter_append, List.map_append, hends] at he
  rcases List.mem_append.1 he with he | he
  ·exact h.actE a m1 he
  ·have : a = tx := by simpa using he
   simp [this] at m2
 ·rw [hacts]; exact Nat.le_trans (List.length_filter_le _ _) h.a10
 ·show 0 ≤ G1.lastID
  rw [k3]; exact h.li0
 ·show G1.lastID ≤ _
  rw [k3]; exact Int.le_trans h.lik (by omega)
 ·rw [hacts, List.filter_filter]
  refine Nat.le_trans (Nat.add_le_add_left ?_ _) q3
  rw [← List.countP_eq_length_filter, ← List.countP_eq_length_filter]
  exact List.countP_mono_left fun x _ hx => (Bool.and_eq_true_iff.1 hx).1
 ·have hr' := hlog r hr hk
  rw [hacts] at hm
  obtain ⟨m1, m2⟩ := List.mem_filter.1 hm
  show (G1.writer.map (zw tx))[r.page.toNat]? = some r.tx
  rw [k5, List.getElem?_map, h.w1 r hr' hk m1]
  have : r.tx ≠ tx := by simpa using m2
  simp [zw, this]
 ·have hw : (G1.writer.map (zw tx))[p]? = some w := hw
  rw [k5, List.getElem?_map] at hw
  obtain ⟨v, hv, hvw⟩ := Option.map_eq_some_iff.1 hw
  unfold zw at hvw
  split at hvw
  ·exact absurd hvw.symm hw0
  ·rename_i hne
   subst hvw
   obtain ⟨g1, r, g2, g3⟩ := h.w2 p v hv hw0
   refine ⟨by rw [hacts]; exact List.mem_filter.2 ⟨g1, by simpa using hne⟩, r, ?_, g3⟩
   show r ∈ G1.log ++ [_]
   rw [c1]
   exact List.mem_append_left _ (List.mem_append_left _ g2)
end Go.Proofs.Ytiikoldaocnilaa
end
section
namespace Go.Proofs.Ytiikoldaocnilaa
open Go.Ab Go.Rp

def redoR (disk : List S78) : List S80 → List S78 × Nat
 | [] => (disk, 0)
 | r :: rs => if r.kind = 3 then redoR disk rs else match (redoR disk rs).1[r.page.toNat]? with
  | some x => if ((rs.length : Int) + 1) > x.lsn then ((redoR disk rs).1.set r.page.toNat ⟨r.after, (rs.length : Int) + 1⟩, (redoR disk rs).2 + 1) else redoR disk rs
  | none => redoR disk rs
def endR (tx : Int) (rs : List S80) : Bool := rs.any fun r => r.kind == 3 && r.tx == tx
def ordR : List S80 → List Int
 | [] => []
 | r :: rs => if r.tx ∈ ordR rs then ordR rs else ordR rs ++ [r.tx]
theorem ordR_cons (r : S80) (rs : List S80) : ordR (r :: rs) = if r.tx ∈ ordR rs then ordR rs else ordR rs ++ [r.tx] := rfl
theorem redoR_3 (disk : List S78) {r : S80} (rs : List S80) (h : r.kind = 3) : redoR disk (r :: rs) = redoR disk rs := by
 rw [redoR, if_pos h]
theorem redoR_u (disk : List S78) {r : S80} (rs : List S80) (h : r.kind ≠ 3) {x : S78} (hx : (redoR disk rs).1[r.page.toNat]? = some x) : redoR disk (r :: rs) = if ((rs.length : Int) + 1) > x.lsn then ((redoR disk rs).1.set r.page.toNat ⟨r.after, (rs.length : Int) + 1⟩, (redoR disk rs).2 + 1) else redoR disk rs := by
 rw [redoR, if_neg h, hx]
theorem endR_cons (tx : Int) (r : S80) (rs : List S80) : endR tx (r :: rs) = ((r.kind == 3 && r.tx == tx) || endR tx rs) := rfl
theorem endR_ends (tx : Int) (l : List S80) : endR tx l.reverse = true ↔ tx ∈ ends l := by
 unfold endR ends
 rw [List.any_reverse]
 simp only [List.any_eq_true, List.mem_map, List.mem_filter, Bool.and_eq_true, beq_iff_eq]
 constructor
 ·rintro ⟨r, h1, h2, h3⟩; exact ⟨r, ⟨h1, h2⟩, h3⟩
 ·rintro ⟨r, ⟨h1, h2⟩, h3⟩; exact ⟨r, h1, h2, h3⟩
theorem ordR_mem : ∀ {rs : List S80} {tx : Int}, tx ∈ ordR rs ↔ ∃ r ∈ rs, r.tx = tx
 | [], tx => by simp [ordR]
 | r :: rs, tx => by
  rw [ordR_cons]
  split
  ·rename_i h
   rw [ordR_mem]
   constructor
   ·rintro ⟨x, h1, h2⟩; exact ⟨x, List.mem_cons_of_mem _ h1, h2⟩
   ·rintro ⟨x, h1, h2⟩
    rcases List.mem_cons.1 h1 with rfl | h1
    ·obtain ⟨y, h3, h4⟩ := ordR_mem.1 h
     exact ⟨y, h3, h4.trans h2⟩
    ·exact ⟨x, h1, h2⟩
  ·rw [List.mem_append, ordR_mem]
   constructor
   ·rintro (⟨x, h1, h2⟩ | h)
    ·exact ⟨x, List.mem_cons_of_mem _ h1, h2⟩
    ·have h : tx = r.tx := by simpa using h
     exact ⟨r, List.mem_cons_self .., h.symm⟩
   ·rintro ⟨x, h1, h2⟩
    rcases List.mem_cons.1 h1 with rfl | h1
    ·right; simpa using h2.symm
    ·exact .inl ⟨x, h1, h2⟩
theorem ordR_nodup : ∀ rs : List S80, (ordR rs).Nodup
 | [] => List.nodup_nil
 | r :: rs => by
  rw [ordR_cons]
  split
  ·exact ordR_nodup rs
  ·rename_i h
   exact List.nodup_append.2 ⟨ordR_nodup rs, by simp, fun a ha b hb e => by
    have : b = r.tx := by simpa using hb
    subst e; subst this; exact h ha⟩

theorem redo_lsn {n : Nat} {disk : List S78} (hd : disk.length = n) (hnn : ∀ (p : Nat) d, disk[p]? = some d → 0 ≤ d.lsn) : ∀ rs : List S80, (∀ r ∈ rs, okr n r) → (redoR disk rs).1.length = n ∧ ∀ (p : Nat) x, (redoR disk rs).1[p]? = some x → ∃ d, disk[p]? = some d ∧ x.lsn = max d.lsn (plR p rs : Int)
 | [], _ => ⟨hd, fun p x hx => ⟨x, hx, by have := hnn p x hx; show x.lsn = max x.lsn 0; omega⟩⟩
 | r :: rs, hok => by
  obtain ⟨ih1, ih2⟩ := redo_lsn hd hnn rs fun x hx => hok x (List.mem_cons_of_mem _ hx)
  have hr := hok r (List.mem_cons_self ..)
  by_cases h3 : r.kind = 3
  ·rw [redoR_3 disk rs h3]
   refine ⟨ih1, fun p x hx => ?_⟩
   obtain ⟨d, h1, h2⟩ := ih2 p x hx
   exact ⟨d, h1, by rw [plR_cons, if_neg (by omega)]; exact h2⟩
  ·obtain ⟨g1, g2⟩ := hr.2 h3
   have hk3 : r.kind < 3 := by rcases hr.1 with g | g | g <;> omega
   obtain ⟨x0, hx0⟩ := get_of (l := (redoR disk rs).1) (k := r.page.toNat) (by omega)
   obtain ⟨d0, e1, e2⟩ := ih2 _ x0 hx0
   have hle := plR_le (r.page.toNat : Nat) rs
   rw [redoR_u disk rs h3 hx0]
   have hpg : r.page = ((r.page.toNat : Nat) : Int) := by omega
   by_cases hgt : ((rs.length : Int) + 1) > x0.lsn
   ·rw [if_pos hgt]
    refine ⟨by simpa using ih1, fun p x hx => ?_⟩
    by_cases hp : p = r.page.toNat
    ·subst hp
     have hx : ((redoR disk rs).1.set r.page.toNat ⟨r.after, (rs.length : Int) + 1⟩)[r.page.toNat]? = some x := hx
     rw [List.getElem?_set_self (by omega)] at hx
     injection hx with hx
     subst hx
     refine ⟨d0, e1, ?_⟩
     rw [plR_cons, if_pos ⟨hk3, hpg⟩]
     simp only
     omega
    ·have hx : ((redoR disk rs).1.set r.page.toNat ⟨r.after, (rs.length : Int) + 1⟩)[p]? = some x := hx
     rw [List.getElem?_set_ne (fun e => hp e.symm)] at hx
     obtain ⟨d, h1, h2⟩ := ih2 p x hx
     exact ⟨d, h1, by rw [plR_cons, if_neg (fun g => hp (by have := g.2; omega))]; exact h2⟩
   ·rw [if_neg hgt]
    refine ⟨ih1, fun p x hx => ?_⟩
    obtain ⟨d, h1, h2⟩ := ih2 p x hx
    refine ⟨d, h1, ?_⟩
    rw [plR_cons]
    by_cases hp : p = r.page.toNat
    ·subst hp
     rw [hx0] at hx
     injection hx with hx
     subst hx
     rw [if_pos ⟨hk3, hpg⟩]
     omega
    ·rw [if_neg (fun g => hp (by have := g.2; omega))]; exact h2

/-! ### closing a loser -/
def cnt2 (l : List S80) : Nat := l.countP fun r => r.kind == 2
def closeG (G : S74) (tx : Int) : S74 := appG (undoG (stR tx G.log.reverse) tx G) ⟨3, tx, 0, 0, 0⟩
structure Closed (n : Nat) (Qs : List Int) (tx : Int) (G G' : S74) : Prop where
 base : Base n Qs G'
 ends : ends G'.log = ends G.log ++ [tx]
 cnt : cnt2 G'.log = cnt2 G.log + (stR tx G.log.reverse).length
 log : ∃ cs, G'.log = G.log ++ cs
 disk : G'.disk = G.disk
 flushed : G'.flushed = G.flushed
 lastID : G'.lastID = G.lastID
 active : G'.active = G.active
 writer : G'.writer = G.writer
theorem close_ok {n : Nat} {Qs : List Int} {G : S74} {tx : Int} (h : Base n Qs G) (hq : tx ∈ Qs) (hi : tx ≤ G.lastID) (he : tx ∉ ends G.log) : Closed n Qs tx G (closeG G tx) := by
 obtain ⟨hb, _⟩ := undoG_base hq _ G h hi rfl
 obtain ⟨k1, k2, k3, k4, k5⟩ := undoG_keeps tx (stR tx G.log.reverse) G
 obtain ⟨cs, c1, c0, c2⟩ := undoG_log tx (stR tx G.log.reverse) G
 unfold closeG
 have hends : Go.Proofs.Ytiikoldaocnilaa.ends (undoG (stR tx G.log.reverse) tx G).log = Go.Proofs.Ytiikoldaocnilaa.ends G.log := by
  rw [c1]
  unfold Go.Proofs.Ytiikoldaocnilaa.ends
  have hcs : cs.filter (fun r => r.kind == 3) = [] := List.filter_eq_nil_iff.2 fun c hc => by simp [(c2 c hc).1]
  rw [List.filter_append, hcs, List.append_nil]
 have hcnt : cnt2 (undoG (stR tx G.log.reverse) tx G).log = cnt2 G.log + (stR tx G.log.reverse).length := by
  rw [c1]
  unfold cnt2
  have hcc : cs.countP (fun r => r.kind == 2) = cs.length := List.countP_eq_length.2 fun c hc => by simp [(c2 c hc).1]
  rw [List.countP_append, hcc, c0]
 generalize undoG (stR tx G.log.reverse) tx G = G1 at *
 refine ⟨hb.app (r := ⟨3, tx, 0, 0, 0⟩) ⟨.inr (.inr rfl), fun g => absurd rfl g⟩ (fun e => by simp at e) (fun e => by simp at e) (fun _ => by rw [hends]; exact he) hq (by rw [k3]; exact hi), ?_, ?_, ⟨cs ++ [⟨3, tx, 0, 0, 0⟩], ?_⟩, k1, k2, k3, k4, k5⟩
 ·show Go.Proofs.Ytiikoldaocnilaa.ends (G1.log ++ [_]) = _
  unfold Go.Proofs.Ytiikoldaocnilaa.ends at *
  rw [List.filter_append, List.map_append, hends]
  rfl
 ·show cnt2 (G1.log ++ [_]) = _
  unfold cnt2 at *
  rw [List.countP_append, hcnt]
  rfl
 ·show G1.log ++ [_] = _
  rw [c1, List.append_assoc]

/-! ### the loops of Crash -/
def endM (m : List (Int × Bool)) (tx : Int) : Bool := (mget m tx).getD false
theorem endM_put (m : List (Int × Bool)) (a tx : Int) : endM (mput m a true) tx = (decide (a = tx) || endM m tx) := by
 unfold endM
 rw [mget_put]
 by_cases h : a = tx
 ·rw [if_pos h]; simp [h]
 ·rw [if_neg h]; simp [h]
def crash0 (G : S74) : S74 := ⟨(redoR G.disk (G.log.take G.flushed.toNat).reverse).1, G.disk, G.log.take G.flushed.toNat, G.flushed, G.lastID, [], List.replicate G.disk.length 0⟩
/-- the losers among the first transactions of a log -/
def losers (lf : List S80) (o : List Int) : List Int := o.filter fun tx => !endR tx lf.reverse
def crashG (G : S74) : S74 := (losers (G.log.take G.flushed.toNat) (ordR (G.log.take G.flushed.toNat).reverse)).foldl closeG (crash0 G)

theorem crash0_base {n : Nat} {Qs : List Int} {G : S74} (h : Base n Qs G) : Base n Qs (crash0 G) := by
 have h0 := h.fl0
 have h1 := h.fl
 obtain ⟨f, hf⟩ : ∃ f, f = G.flushed.toNat := ⟨_, rfl⟩
 have hfl : f ≤ G.log.length := by omega
 have hll : (G.log.take f).length = f := by rw [List.length_take]; omega
 have hsub : (G.log.take f).Sublist G.log := List.take_sublist _ _
 have hok : ∀ r ∈ G.log.take f, okr n r := fun r hr => h.ok r (hsub.subset hr)
 obtain ⟨r1, r2⟩ := redo_lsn h.ld (fun p d hd => (h.dsk p d hd).1) (G.log.take f).reverse fun r hr => hok r (List.mem_reverse.1 hr)
 unfold crash0
 rw [← hf]
 refine ⟨r1, h.ld, hok, VR_take h.V f, Nat.le_trans (hsub.countP_le) h.upd, ?_, fun r hr => h.inQ r (hsub.subset hr), fun r hr => h.ids r (hsub.subset hr), fun p x hx => ?_, fun p x hx => ?_, h.fl0, ?_⟩
 ·exact (((hsub.filter _).map _).nodup h.endn)
 ·obtain ⟨d, d1, d2⟩ := r2 p x hx
  have := (h.dsk p d d1).2
  rw [← hf] at this
  show x.lsn = plR p (G.log.take f).reverse
  omega
 ·show 0 ≤ x.lsn ∧ x.lsn ≤ plR p ((G.log.take f).take G.flushed.toNat).reverse
  rw [← hf, List.take_take, Nat.min_self]
  have := h.dsk p x hx
  rw [← hf] at this
  exact this
 ·show G.flushed ≤ ((G.log.take f).length : Int)
  rw [hll]; omega

/-- closing the losers one after another -/
theorem crash_upto {n : Nat} {Qs : List Int} : ∀ (ls : List Int) {G : S74}, Base n Qs G → ls.Nodup → (∀ tx ∈ ls, tx ∈ Qs ∧ tx ≤ G.lastID ∧ tx ∉ ends G.log) →
  Base n Qs (ls.foldl closeG G) ∧ ends (ls.foldl closeG G).log = ends G.log ++ ls ∧ (∃ cs, (ls.foldl closeG G).log = G.log ++ cs) ∧ (ls.foldl closeG G).disk = G.disk ∧ (ls.foldl closeG G).flushed = G.flushed ∧ (ls.foldl closeG G).lastID = G.lastID ∧ (ls.foldl closeG G).active = G.active ∧ (ls.foldl closeG G).writer = G.writer
 | [], G, h, _, _ => ⟨h, by simp, ⟨[], by simp⟩, rfl, rfl, rfl, rfl, rfl⟩
 | tx :: ls, G, h, hn, hm => by
  obtain ⟨n1, n2⟩ := List.nodup_cons.1 hn
  obtain ⟨m1, m2, m3⟩ := hm tx (List.mem_cons_self ..)
  have c := close_ok h m1 m2 m3
  obtain ⟨i1, i2, ⟨cs, i3⟩, i4, i5, i6, i7, i8⟩ := crash_upto ls c.base n2 fun t ht => by
   obtain ⟨a1, a2, a3⟩ := hm t (List.mem_cons_of_mem _ ht)
   refine ⟨a1, by rw [c.lastID]; exact a2, ?_⟩
   rw [c.ends]
   intro hmem
   rcases List.mem_append.1 hmem with g | g
   ·exact a3 g
   ·have : t = tx := by simpa using g
    exact n1 (this ▸ ht)
  obtain ⟨cs0, hc0⟩ := c.log
  rw [List.foldl_cons]
  exact ⟨i1, by rw [i2, c.ends, List.append_assoc]; rfl, ⟨cs0 ++ cs, by rw [i3, hc0, List.append_assoc]⟩, i4.trans c.disk, i5.trans c.flushed, i6.trans c.lastID, i7.trans c.active, i8.trans c.writer⟩

/-- the losers of the first k records: each once, none ended -/
theorem losers_ok {n : Nat} {Qs : List Int} {G : S74} (h : Base n Qs G) (xs : List S80) (hx : ∀ r ∈ xs, r ∈ G.log) (lf : List S80) (hlf : ∀ tx, tx ∈ ends G.log → endR tx lf.reverse = true) : (losers lf (ordR xs)).Nodup ∧ ∀ tx ∈ losers lf (ordR xs), tx ∈ Qs ∧ tx ≤ G.lastID ∧ tx ∉ ends G.log := by
 refine ⟨(List.filter_sublist).nodup (ordR_nodup xs), fun tx ht => ?_⟩
 obtain ⟨t1, t2⟩ := List.mem_filter.1 ht
 obtain ⟨r, hr, rfl⟩ := ordR_mem.1 t1
 exact ⟨h.inQ r (hx r hr), h.ids r (hx r hr), fun g => by rw [hlf _ g] at t2; cases t2⟩

theorem crash_all {n : Nat} {Qs : List Int} {G : S74} (h : Base n Qs G) (xs : List S80) (hx : ∀ r ∈ xs, r ∈ G.log.take G.flushed.toNat) :
  Base n Qs ((losers (G.log.take G.flushed.toNat) (ordR xs)).foldl closeG (crash0 G)) ∧ ends ((losers (G.log.take G.flushed.toNat) (ordR xs)).foldl closeG (crash0 G)).log = ends (G.log.take G.flushed.toNat) ++ losers (G.log.take G.flushed.toNat) (ordR xs) ∧ (∃ cs, ((losers (G.log.take G.flushed.toNat) (ordR xs)).foldl closeG (crash0 G)).log = G.log.take G.flushed.toNat ++ cs) ∧ ((losers (G.log.take G.flushed.toNat) (ordR xs)).foldl closeG (crash0 G)).disk = G.disk ∧ ((losers (G.log.take G.flushed.toNat) (ordR xs)).foldl closeG (crash0 G)).flushed = G.flushed ∧ ((losers (G.log.take G.flushed.toNat) (ordR xs)).foldl closeG (crash0 G)).lastID = G.lastID ∧ ((losers (G.log.take G.flushed.toNat) (ordR xs)).foldl closeG (crash0 G)).active = [] ∧ ((losers (G.log.take G.flushed.toNat) (ordR xs)).foldl closeG (crash0 G)).writer = List.replicate G.disk.length 0 := by
 have hb := crash0_base h
 obtain ⟨l1, l2⟩ := losers_ok hb xs (fun r hr => hx r hr) (G.log.take G.flushed.toNat) (fun tx ht => (endR_ends tx _).2 ht)
 exact crash_upto _ hb l1 l2

set_option maxHeartbeats 2000000 in
theorem d36_ok {N : Nat} (hN : bigN N) {n : Nat} {Qs : List Int} {G : S74} (h : Base n Qs G) (hn : n ≤ 16) (hQ : 4000 + Qs.length + 1 ≤ 3518437208883) :
  d36 N G = some (S74.mk (crashG G).buffer (crashG G).disk (crashG G).log ((crashG G).log.length : Int) (crashG G).lastID (crashG G).active (crashG G).writer, ((redoR G.disk (G.log.take G.flushed.toNat).reverse).2 : Int), ((((crashG G).log.drop (G.log.take G.flushed.toNat).length).countP (fun r => r.kind == 2) : Nat) : Int)) := by
 have hN' : 9223372036854775808 ≤ N := hN
 have h0 := h.fl0
 have h1 := h.fl
 have hld := h.ld
 have hlen : G.log.length ≤ 4000 + Qs.length := Nat.le_trans (Nat.le_add_right _ _) h.len
 have hnn : ∀ (p : Nat) d, G.disk[p]? = some d → 0 ≤ d.lsn := fun p d hd => (h.dsk p d hd).1
 have hcr := fun xs hx => crash_all h xs hx
 have hfi : G.flushed = ((G.flushed.toNat : Nat) : Int) := by omega
 have hfl : G.flushed.toNat ≤ G.log.length := by omega
 unfold d36 crashG
 rw [hfi, natI_nat hfl, Option.bind_some, ← hfi]
 have hok : ∀ r ∈ G.log.take G.flushed.toNat, okr n r := fun r hr => h.ok r (List.mem_of_mem_take hr)
 have hll : (G.log.take G.flushed.toNat).length = G.flushed.toNat := by rw [List.length_take]; omega
 have hcap : (G.log.take G.flushed.toNat).length ≤ 3518437208883 := by omega
 have hG0 : crash0 G = ⟨(redoR G.disk (G.log.take G.flushed.toNat).reverse).1, G.disk, G.log.take G.flushed.toNat, G.flushed, G.lastID, [], List.replicate G.disk.length 0⟩ := rfl
 generalize G.log.take G.flushed.toNat = lf at *
 rw [show d44 N lf = some lf from by unfold d44; rw [if_pos (by unfold Rp.reach; omega)], Option.bind_some, show d45 N G.disk = some G.disk from by unfold d45; rw [if_pos (by unfold Rp.reach; omega)], Option.bind_some, show mkL 8 (G.disk.length : Int) (0 : Int) = some (List.replicate G.disk.length 0) from by unfold mkL; rw [if_pos (by unfold Rp.reach; omega)]; simp, Option.bind_some]
 refine bind_of (iter_fwd (σ := List S78 × Nat × List (Int × Bool)) (τ := List S78 × Int × List (Int × Bool) × Int) (ρ := List S78 × Int × List (Int × Bool)) lf.length (fun s j => (s.1, (s.2.1 : Int), s.2.2, j)) _ (fun k s => s.1 = (redoR G.disk (lf.take k).reverse).1 ∧ s.2.1 = (redoR G.disk (lf.take k).reverse).2 ∧ s.2.1 ≤ k ∧ ∀ tx, endM s.2.2 tx = endR tx (lf.take k).reverse) (fun s => (s.1, (s.2.1 : Int), s.2.2)) ?_ ?_ (G.disk, 0, []) ⟨rfl, rfl, Nat.le_refl _, fun _ => rfl⟩ (by omega)) ?_
 ·rintro k ⟨b, c, m⟩ hk ⟨hb, hc, hck, hm⟩
  simp only at hb hc hck hm
  obtain ⟨x, hx⟩ := get_of hk
  have hlk : (lf.take k).reverse.length = k := by rw [List.length_reverse, List.length_take]; omega
  have hrt := rtake hx
  have hxok := hok x (List.mem_of_getElem? hx)
  obtain ⟨r1, _⟩ := redo_lsn hld hnn (lf.take k).reverse fun r hr => hok r (List.mem_of_mem_take (List.mem_reverse.1 hr))
  simp only []
  rw [if_pos (by omega), idx_nat hx, Option.bind_some]
  rw [hrt]
  by_cases h3 : x.kind = 3
  ·rw [if_pos (by simp [h3]), Option.bind_some]
   simp only []
   rw [chkI_of (by omega) (by omega), Option.bind_some]
   refine ⟨(b, c, mput m x.tx true), rfl, ?_, ?_, by simp only; omega, fun tx => ?_⟩
   ·rw [redoR_3 _ _ h3]; exact hb
   ·rw [redoR_3 _ _ h3]; exact hc
   ·rw [endM_put, endR_cons, hm tx]
    simp [h3]
    rfl
  ·obtain ⟨g1, g2⟩ := hxok.2 h3
   obtain ⟨y, hy⟩ := get_of (l := b) (k := x.page.toNat) (by rw [hb]; omega)
   have hu := redoR_u G.disk (lf.take k).reverse h3 (x := y) (by rw [← hb]; exact hy)
   rw [hlk, ← hb, ← hc] at hu
   have hend : ∀ tx, endM m tx = endR tx (x :: (lf.take k).reverse) := fun tx => by rw [endR_cons, hm tx]; simp [h3]
   rw [if_neg (by simp [h3]), chkI_of (by omega) (by omega), Option.bind_some, idx_toNat g1 hy, Option.bind_some]
   by_cases hgt : (k : Int) + 1 > y.lsn
   ·rw [if_pos hgt] at hu
    rw [if_pos hgt, Option.bind_some, letv_eq, chkI_of (by omega) (by omega), Option.bind_some, Option.bind_some]
    simp only []
    rw [Option.bind_some]
    refine ⟨(b.set x.page.toNat ⟨x.after, (k : Int) + 1⟩, c + 1, m), rfl, ?_, ?_, by simp only; omega, hend⟩
    ·rw [hu]
    ·rw [hu]
   ·rw [if_neg hgt] at hu
    rw [if_neg hgt, Option.bind_some]
    simp only []
    rw [Option.bind_some]
    refine ⟨(b, c, m), rfl, ?_, ?_, by simp only; omega, hend⟩
    ·rw [hu]; exact hb
    ·rw [hu]; exact hc
 ·rintro ⟨b, c, m⟩ _
  simp only []
  rw [if_neg (by omega)]
 ·rintro ⟨b, c, m⟩ ⟨hb, hc, _, hm⟩
  simp only at hb hc hm
  rw [List.take_length] at hb hc hm
  subst hb; subst hc
  simp only []
  rw [show d44 N lf = some lf from by unfold d44; rw [if_pos (by unfold Rp.reach; omega)], Option.bind_some]
  refine bind_of (iter_fwd (σ := S74 × List (Int × Bool)) (τ := List S78 × List S78 × List S80 × Int × Int × List Int × List Int × List (Int × Bool) × Int) (ρ := List S78 × List S78 × List S80 × Int × Int × List Int × List Int) lf.length (fun s j => (s.1.buffer, s.1.disk, s.1.log, s.1.flushed, s.1.lastID, s.1.active, s.1.writer, s.2, j)) _ (fun k s => s.1 = (losers lf (ordR (lf.take k).reverse)).foldl closeG (crash0 G) ∧ ∀ tx, endM s.2 tx = (endR tx lf.reverse || decide (tx ∈ ordR (lf.take k).reverse))) (fun s => (s.1.buffer, s.1.disk, s.1.log, s.1.flushed, s.1.lastID, s.1.active, s.1.writer)) ?_ ?_ (S74.mk (redoR G.disk lf.reverse).1 G.disk lf G.flushed G.lastID [] (List.replicate G.disk.length 0), m) ⟨hG0.symm, fun tx => by rw [hm tx]; simp [ordR]⟩ (by omega)) ?_
  ·rintro k ⟨g, m⟩ hk ⟨hg, hm⟩
   simp only at hg hm
   obtain ⟨x, hx⟩ := get_of hk
   have hrt := rtake hx
   obtain ⟨c1, c2, ⟨cs, c3⟩, c4, c5, c6, c7, c8⟩ := hcr (lf.take k).reverse fun r hr => List.mem_of_mem_take (List.mem_reverse.1 hr)
   rw [← hg] at c1 c2 c3 c4 c5 c6 c7 c8
   have hxm := List.mem_of_getElem? hx
   have hnext : (losers lf (ordR (x :: (lf.take k).reverse))).foldl closeG (crash0 G) = if (endR x.tx lf.reverse || decide (x.tx ∈ ordR (lf.take k).reverse)) = true then g else closeG g x.tx := by
    rw [ordR_cons]
    by_cases hin : x.tx ∈ ordR (lf.take k).reverse
    ·rw [if_pos hin, if_pos (by simp [hin]), hg]
    ·rw [if_neg hin]
     unfold losers at hg ⊢
     rw [List.filter_append, List.foldl_append, ← hg]
     by_cases he : endR x.tx lf.reverse = true
     ·rw [if_pos (by simp [he]), List.filter_cons_of_neg (by simp [he])]; rfl
     ·rw [if_neg (by simp [he, hin]), List.filter_cons_of_pos (by simp [he])]; rfl
   have hmn : ∀ tx, (endR tx lf.reverse || decide (tx ∈ ordR (x :: (lf.take k).reverse))) = (decide (x.tx = tx) || (endR tx lf.reverse || decide (tx ∈ ordR (lf.take k).reverse))) := fun tx => by
    have : (tx ∈ ordR (x :: (lf.take k).reverse)) ↔ (x.tx = tx ∨ tx ∈ ordR (lf.take k).reverse) := by
     rw [ordR_cons]
     split
     ·rename_i h
      exact ⟨.inr, fun g => g.elim (fun e => e ▸ h) (fun g => g)⟩
     ·rw [List.mem_append]
      exact ⟨fun g => g.elim .inr (fun g => .inl (by simpa using g : tx = x.tx).symm), fun g => g.elim (fun e => .inr (by simp [e])) .inl⟩
    rw [Bool.eq_iff_iff]
    simp only [Bool.or_eq_true, decide_eq_true_eq, this]
    constructor
    ·rintro (h | h | h)
     ·exact .inr (.inl h)
     ·exact .inl h
     ·exact .inr (.inr h)
    ·rintro (h | h | h)
     ·exact .inr (.inl h)
     ·exact .inl h
     ·exact .inr (.inr h)
   rw [hrt]
   simp only []
   rw [if_pos (by omega), idx_nat hx, Option.bind_some, letv_eq, show (mget m x.tx).getD false = endM m x.tx from rfl, hm x.tx]
   by_cases hc : (endR x.tx lf.reverse || decide (x.tx ∈ ordR (lf.take k).reverse)) = true
   ·rw [if_pos hc] at hnext
    rw [if_neg (by rw [hc]; decide), chkI_of (by omega) (by omega), Option.bind_some]
    refine ⟨(g, m), rfl, hnext.symm, fun tx => ?_⟩
    rw [hmn tx, hm tx]
    by_cases e : x.tx = tx
    ·subst e; rw [hc]; simp
    ·simp [e]
   ·rw [if_neg hc] at hnext
    have hcf := Bool.eq_false_iff.2 hc
    have hst := c1.st x.tx
    have hb := c1.ok
    rw [← c1.lb] at hb
    obtain ⟨cs2, u1, u2, _⟩ := undoG_log x.tx (stR x.tx g.log.reverse) g
    have e41 : d41 N (S74.mk g.buffer g.disk g.log g.flushed g.lastID g.active g.writer) x.tx = some (undoG (stR x.tx g.log.reverse) x.tx g) := d41_ok N (G := g) hb (Nat.le_trans hst (by omega))
    have e25 : d25 N (undoG (stR x.tx g.log.reverse) x.tx g) (S80.mk 3 x.tx 0 0 0) = some (closeG g x.tx) := d25_ok N (by rw [u1, List.length_append, u2]; exact Nat.le_trans (Nat.add_le_add_right hst 1) hQ) ⟨.inr (.inr rfl), fun g => absurd rfl g⟩
    rw [if_pos (by rw [hcf]; rfl), e41, Option.bind_some, e25, Option.bind_some, chkI_of (by omega) (by omega), Option.bind_some]
    refine ⟨(closeG g x.tx, mput m x.tx true), rfl, hnext.symm, fun tx => ?_⟩
    rw [hmn tx, endM_put, hm tx]
  ·rintro ⟨g, m⟩ _
   simp only []
   rw [if_neg (by omega)]
  ·rintro ⟨g, m⟩ ⟨hg, _⟩
   simp only at hg
   rw [List.take_length] at hg
   obtain ⟨c1, c2, ⟨cs, c3⟩, _⟩ := hcr lf.reverse fun r hr => List.mem_reverse.1 hr
   rw [← hg] at c1 c3 ⊢
   have hgl := c1.len
   simp only []
   have hlg : g.log.length = lf.length + cs.length := by rw [c3, List.length_append]
   have hgc : g.log.length ≤ 3518437208883 := by
    have := Nat.le_trans (Nat.le_add_right _ _) hgl
    omega
   rw [natI_nat (by omega), Option.bind_some]
   refine bind_of (iter_fwd (σ := Nat) (τ := Int × Int) (ρ := Int) (g.log.length - lf.length) (fun s j => ((s : Int), j)) _ (fun k s => s = ((g.log.drop lf.length).take k).countP (fun r => r.kind == 2) ∧ s ≤ k) (fun s => (s : Int)) ?_ ?_ 0 ⟨rfl, Nat.le_refl _⟩ (by omega)) ?_
   ·rintro k s hk ⟨hs, hsk⟩
    obtain ⟨x, hx⟩ := get_of (l := g.log.drop lf.length) (k := k) (by rw [List.length_drop]; omega)
    have hnx : ((g.log.drop lf.length).take (k + 1)).countP (fun r => r.kind == 2) = s + if x.kind = 2 then 1 else 0 := by
     rw [List.take_add_one, hx, List.countP_append, ← hs]
     by_cases h2 : x.kind = 2 <;> simp [h2]
    clear hs
    simp only []
    rw [if_pos (by omega), idx_nat hx, Option.bind_some]
    by_cases h2 : x.kind = 2
    ·rw [if_pos (by simp [h2]), chkI_of (by omega) (by omega), Option.bind_some, chkI_of (by omega) (by omega), Option.bind_some]
     exact ⟨s + 1, rfl, by rw [hnx, if_pos h2], by omega⟩
    ·rw [if_neg (by simp [h2]), chkI_of (by omega) (by omega), Option.bind_some]
     exact ⟨s, rfl, by rw [hnx, if_neg h2]; rfl, by omega⟩
   ·rintro s _
    simp only []
    rw [if_neg (by omega)]
   ·rintro s ⟨hs, _⟩
    rw [List.take_of_length_le (by rw [List.length_drop]; omega)] at hs
    subst hs
    rfl
end Go.Proofs.Ytiikoldaocnilaa
end
section
namespace Go.Proofs.Ytiikoldaocnilaa
open Go.Ab Go.Rp

theorem Rel.close {G : S74} {M : S56} (h : Rel G M) (tx : Int) (ha : M.Active = []) : Rel (closeG G tx) (closeM ((stR tx G.log.reverse).map cv) tx M) := by
 have r1 := Rel.undo (tx := tx) (stR tx G.log.reverse) h
 have r2 := r1.app ⟨3, tx, 0, 0, 0⟩ (.inr (.inr rfl))
 have hact : (undoM ((stR tx G.log.reverse).map cv) tx M).Active = [] := (undoM_act tx _ M).trans ha
 refine ⟨r2.b, r2.d, r2.dl, r2.l, r2.f, r2.i, ?_⟩
 show ((undoM ((stR tx G.log.reverse).map cv) tx M).Active).filter (· != tx) = (undoG (stR tx G.log.reverse) tx G).active
 rw [← r1.a, hact]; rfl
theorem Rel.fin {G : S74} {M : S56} (h : Rel G M) (tx : Int) : Rel (finG (undoG (stR tx G.log.reverse) tx G) tx) (closeM ((stR tx G.log.reverse).map cv) tx M) := by
 have r1 := Rel.undo (tx := tx) (stR tx G.log.reverse) h
 have r2 := r1.app ⟨3, tx, 0, 0, 0⟩ (.inr (.inr rfl))
 refine ⟨r2.b, r2.d, r2.dl, r2.l, r2.f, r2.i, ?_⟩
 show ((undoM ((stR tx G.log.reverse).map cv) tx M).Active).filter (· != tx) = (undoG (stR tx G.log.reverse) tx G).active.filter (· != tx)
 rw [← r1.a]

theorem crash_sub {n : Nat} {Qs : List Int} {G : S74} (h : Base n Qs G) (o : List Int) (ho : o.Sublist (ordR (G.log.take G.flushed.toNat).reverse)) :
  Base n Qs ((losers (G.log.take G.flushed.toNat) o).foldl closeG (crash0 G)) ∧ ends ((losers (G.log.take G.flushed.toNat) o).foldl closeG (crash0 G)).log = ends (G.log.take G.flushed.toNat) ++ losers (G.log.take G.flushed.toNat) o ∧ (∃ cs, ((losers (G.log.take G.flushed.toNat) o).foldl closeG (crash0 G)).log = G.log.take G.flushed.toNat ++ cs) ∧ ((losers (G.log.take G.flushed.toNat) o).foldl closeG (crash0 G)).lastID = G.lastID ∧ ((losers (G.log.take G.flushed.toNat) o).foldl closeG (crash0 G)).active = [] := by
 have hb := crash0_base h
 obtain ⟨l1, l2⟩ := losers_ok hb (G.log.take G.flushed.toNat).reverse (fun r hr => List.mem_reverse.1 hr) (G.log.take G.flushed.toNat) (fun tx ht => (endR_ends tx _).2 ht)
 have hs : (losers (G.log.take G.flushed.toNat) o).Sublist (losers (G.log.take G.flushed.toNat) (ordR (G.log.take G.flushed.toNat).reverse)) := ho.filter _
 obtain ⟨a1, a2, a3, _, _, a4, a5, _⟩ := crash_upto (losers (G.log.take G.flushed.toNat) o) hb (hs.nodup l1) fun tx ht => l2 tx (hs.subset ht)
 exact ⟨a1, a2, a3, a4, a5⟩

theorem bind_ex {α β : Type} {d : Option α} {k : α → Option β} {σ : Type} {f : σ → α} {P : σ → Prop} {Q : β → Prop} (h : ∃ s, d = some (f s) ∧ P s) (h2 : ∀ s, P s → ∃ r, k (f s) = some r ∧ Q r) : ∃ r, d.bind k = some r ∧ Q r := by
 obtain ⟨s, h1, h3⟩ := h
 rw [h1]; exact h2 s h3
theorem ordR_len (rs : List S80) : (ordR rs).length ≤ rs.length := by
 induction rs with
 | nil => exact Nat.le_refl _
 | cons r rs ih =>
  rw [ordR_cons]
  split
  ·exact Nat.le_succ_of_le ih
  ·simpa using ih

set_option maxHeartbeats 4000000 in
theorem d37_ok {N : Nat} (hN : bigN N) {n : Nat} {Qs : List Int} {G : S74} {M : S56} (h : Base n Qs G) (hR : Rel G M) (hn : n ≤ 16) (hQ : 4000 + Qs.length + 1 ≤ 3518437208883) :
  ∃ M', Rel (crashG G) M' ∧ d37 N M = some (S56.mk M'.Buffer M'.Disk M'.DiskLSN M'.Log (M'.Log.length : Int) M'.LastID M'.Active, ((redoR G.disk (G.log.take G.flushed.toNat).reverse).2 : Int), ((((crashG G).log.drop (G.log.take G.flushed.toNat).length).countP (fun r => r.kind == 2) : Nat) : Int)) := by
 have hN' : 9223372036854775808 ≤ N := hN
 have h0 := h.fl0
 have h1 := h.fl
 have hld := h.ld
 have hlen : G.log.length ≤ 4000 + Qs.length := Nat.le_trans (Nat.le_add_right _ _) h.len
 have hnn : ∀ (p : Nat) d, G.disk[p]? = some d → 0 ≤ d.lsn := fun p d hd => (h.dsk p d hd).1
 have hcr := fun o ho => crash_sub h o ho
 have hfi : G.flushed = ((G.flushed.toNat : Nat) : Int) := by omega
 have hfl : G.flushed.toNat ≤ G.log.length := by omega
 have hok : ∀ r ∈ G.log.take G.flushed.toNat, okr n r := fun r hr => h.ok r (List.mem_of_mem_take hr)
 have hll : (G.log.take G.flushed.toNat).length = G.flushed.toNat := by rw [List.length_take]; omega
 have hcap : (G.log.take G.flushed.toNat).length ≤ 3518437208883 := by omega
 have hG0 : crash0 G = ⟨(redoR G.disk (G.log.take G.flushed.toNat).reverse).1, G.disk, G.log.take G.flushed.toNat, G.flushed, G.lastID, [], List.replicate G.disk.length 0⟩ := rfl
 have hcg : crashG G = (losers (G.log.take G.flushed.toNat) (ordR (G.log.take G.flushed.toNat).reverse)).foldl closeG (crash0 G) := rfl
 have hMl : M.Log.take G.flushed.toNat = (G.log.take G.flushed.toNat).map cv := by rw [hR.l, List.map_take]
 have hMD : M.Disk.length = n := by rw [hR.d, List.length_map]; exact hld
 have hML : M.Log.length = G.log.length := by rw [hR.l, List.length_map]
 have hD : M.Disk = G.disk.map (·.value) := hR.d
 have hDL : M.DiskLSN = G.disk.map (·.lsn) := hR.dl
 have hMF : M.Flushed = G.flushed := hR.f
 have hMI : M.LastID = G.lastID := hR.i
 clear hR
 rw [hcg]
 have key : ∃ o, d37 N M = o := ⟨_, rfl⟩
 obtain ⟨o, ho⟩ := key
 have ho2 := ho
 unfold d37 at ho
 rw [hMF, hfi, natI_nat (by omega), Option.bind_some, ← hfi, letv_eq, hMl] at ho
 generalize G.log.take G.flushed.toNat = lf at *
 have hlm : (lf.map cv).length = lf.length := List.length_map ..
 rw [appL_of (by simp only [List.length_nil, Nat.zero_add, hlm]; unfold Rp.reach; omega), Option.bind_some, appL_of (by simp only [List.length_nil, Nat.zero_add, hMD]; unfold Rp.reach; omega), Option.bind_some] at ho
 -- the redo
 have L1 := iter_fwd (σ := List Int × Nat × List (Int × Bool) × List Int) (τ := List Int × Int × List (Int × Bool) × List Int × Int) (ρ := List Int × Int × List (Int × Bool) × List Int) lf.length (fun s j => (s.1, (s.2.1 : Int), s.2.2.1, s.2.2.2, j))
  (fun ((l24, v25, m26, l27, v28) : ((List Int) × Int × (List (Int × Bool)) × (List Int) × Int)) =>
   if v28 < ((lf.map cv).length : Int) then (
    (idx (lf.map cv) v28).bind fun x79 =>
    (d24 N l27 x79.Tx).bind fun r81 =>
    Option.bind (α := List Int) (
     if (!r81) = true then (
      (appL 8 l27 [x79.Tx]).bind fun l86 =>
      some (l27 ++ [x79.Tx])
     ) else
     some l27
    ) fun (l84 : List Int) =>
    if (x79.Kind == 3) then (
     (chkI (v28 + 1)).bind fun v88 =>
     some (.inl (l24, v25, (mput m26 x79.Tx true), l84, v88))
    ) else
    (chkI (v28 + 1)).bind fun v89 =>
    (idx M.DiskLSN x79.Page).bind fun x90 =>
    if v89 > x90 then (
     (idx l24 x79.Page).bind fun x93 =>
     letv (setI l24 x79.Page x79.After) fun l94 =>
     (chkI (v25 + 1)).bind fun v95 =>
     (chkI (v28 + 1)).bind fun v96 =>
     some (.inl (l94, v95, m26, l84, v96))
    ) else
    (chkI (v28 + 1)).bind fun v97 =>
    some (.inl (l24, v25, m26, l84, v97))
   ) else
   some (.inr (l24, v25, m26, l27)))
  (fun k s => s.1 = (redoR G.disk (lf.take k).reverse).1.map (·.value) ∧ s.2.1 = (redoR G.disk (lf.take k).reverse).2 ∧ s.2.1 ≤ k ∧ (∀ tx, endM s.2.2.1 tx = endR tx (lf.take k).reverse) ∧ s.2.2.2 = ordR (lf.take k).reverse) (fun s => (s.1, (s.2.1 : Int), s.2.2.1, s.2.2.2))
  (by
   rintro k ⟨b, c, m, od⟩ hk ⟨hb, hc, hck, hm, hod⟩
   simp only at hb hc hck hm hod
   obtain ⟨x, hx⟩ := get_of hk
   have hx' : (lf.map cv)[k]? = some (cv x) := by rw [List.getElem?_map, hx]; rfl
   have hlk : (lf.take k).reverse.length = k := by rw [List.length_reverse, List.length_take]; omega
   have hrt := rtake hx
   have hxok := hok x (List.mem_of_getElem? hx)
   obtain ⟨r1, r2⟩ := redo_lsn hld hnn (lf.take k).reverse fun r hr => hok r (List.mem_of_mem_take (List.mem_reverse.1 hr))
   have hol := ordR_len (lf.take k).reverse
   rw [← hod, hlk] at hol
   have hord : (if (!decide (x.tx ∈ od)) = true then (appL 8 od [x.tx]).bind fun l86 => some (od ++ [x.tx]) else some od) = some (ordR (x :: (lf.take k).reverse)) := by
    rw [ordR_cons, ← hod]
    by_cases hin : x.tx ∈ od
    ·rw [if_neg (by simp [hin]), if_pos hin]
    ·rw [if_pos (by simp [hin]), if_neg hin, appL_of (by simp only [List.length_cons, List.length_nil]; unfold Rp.reach; omega)]; rfl
   simp only []
   rw [if_pos (by omega), idx_nat hx', Option.bind_some, d24_ok hN od (cv x).Tx (by omega), Option.bind_some]
   show ∃ s', ((if (!decide (x.tx ∈ od)) = true then (appL 8 od [x.tx]).bind fun l86 => some (od ++ [x.tx]) else some od).bind _) = _ ∧ _
   rw [hord, Option.bind_some, hrt]
   by_cases h3 : x.kind = 3
   ·rw [if_pos (show ((cv x).Kind == 3) = true by simp [cv, h3]), chkI_of (by omega) (by omega), Option.bind_some]
    refine ⟨(b, c, mput m x.tx true, _), rfl, ?_, ?_, by simp only; omega, fun tx => ?_, rfl⟩
    ·rw [redoR_3 _ _ h3]; exact hb
    ·rw [redoR_3 _ _ h3]; exact hc
    ·rw [endM_put, endR_cons, hm tx]
     simp [h3]
     rfl
   ·obtain ⟨g1, g2⟩ := hxok.2 h3
    obtain ⟨y, hy⟩ := get_of (l := (redoR G.disk (lf.take k).reverse).1) (k := x.page.toNat) (by omega)
    obtain ⟨d, d1, d2⟩ := r2 _ y hy
    have hpl := plR_le (x.page.toNat : Nat) (lf.take k).reverse
    rw [hlk] at hpl
    have hu := redoR_u G.disk (lf.take k).reverse h3 hy
    rw [hlk, ← hc] at hu
    have hend : ∀ tx, endM m tx = endR tx (x :: (lf.take k).reverse) := fun tx => by rw [endR_cons, hm tx]; simp [h3]
    have hdl : M.DiskLSN[x.page.toNat]? = some d.lsn := by rw [hDL, List.getElem?_map, d1]; rfl
    have hyb : b[x.page.toNat]? = some y.value := by rw [hb, List.getElem?_map, hy]; rfl
    rw [if_neg (show ¬ ((cv x).Kind == 3) = true by simp [cv, h3]), chkI_of (by omega) (by omega), Option.bind_some, idx_toNat (show 0 ≤ (cv x).Page from g1) hdl, Option.bind_some]
    by_cases hgt : (k : Int) + 1 > y.lsn
    ·rw [if_pos hgt] at hu
     rw [if_pos (by omega), idx_toNat (show 0 ≤ (cv x).Page from g1) hyb, Option.bind_some, letv_eq, chkI_of (by omega) (by omega), Option.bind_some, Option.bind_some]
     refine ⟨(b.set x.page.toNat x.after, c + 1, m, _), rfl, ?_, ?_, by simp only; omega, hend, rfl⟩
     ·rw [hu]; simp only; rw [List.map_set, ← hb]
     ·rw [hu]
    ·rw [if_neg hgt] at hu
     rw [if_neg (by omega), Option.bind_some]
     refine ⟨(b, c, m, _), rfl, ?_, ?_, by simp only; omega, hend, rfl⟩
     ·rw [hu]; exact hb
     ·rw [hu]; exact hc)
  (by
   rintro ⟨b, c, m, od⟩ _
   simp only []
   rw [if_neg (by omega)]) (M.Disk, 0, [], []) ⟨by rw [hD]; rfl, rfl, Nat.le_refl _, fun _ => rfl, rfl⟩ (n := N) (by omega)
 obtain ⟨⟨b, c, m, od⟩, L1a, hb, hc, _, hm, hod⟩ := L1
 simp only at hb hc hm hod
 rw [List.take_length] at hb hc hm hod
 have L1a : iterN _ N (([] : List Int) ++ M.Disk, (0 : Int), ([] : List (Int × Bool)), ([] : List Int), (0 : Int)) = some (b, (c : Int), m, od) := L1a
 rw [L1a, Option.bind_some] at ho
 simp only [] at ho
 have hcrA := hcr (ordR lf.reverse) (List.Sublist.refl _)
 suffices hs : ∃ r, o = some r ∧ ∃ M', Rel ((losers lf (ordR lf.reverse)).foldl closeG (crash0 G)) M' ∧ r = (S56.mk M'.Buffer M'.Disk M'.DiskLSN M'.Log (M'.Log.length : Int) M'.LastID M'.Active, ((redoR G.disk lf.reverse).2 : Int), (((((losers lf (ordR lf.reverse)).foldl closeG (crash0 G)).log.drop lf.length).countP (fun r => r.kind == 2) : Nat) : Int)) by
  obtain ⟨r, h1, M', h2, h3⟩ := hs
  exact ⟨M', h2, by rw [ho2, h1, h3]⟩
 rw [← ho]
 subst hod; subst hc
 have hol : (ordR lf.reverse).length ≤ 3518437208883 := Nat.le_trans (ordR_len _) (by rw [List.length_reverse]; exact hcap)
 refine bind_ex (iter_fwd (σ := S56 × Nat) (τ := List Int × List Int × List Int × List S84 × Int × Int × List Int × Int × Int) (ρ := List Int × List Int × List Int × List S84 × Int × Int × List Int × Int) (ordR lf.reverse).length (fun s j => (s.1.Buffer, s.1.Disk, s.1.DiskLSN, s.1.Log, s.1.Flushed, s.1.LastID, s.1.Active, (s.2 : Int), j)) _ (fun k s => Rel ((losers lf ((ordR lf.reverse).take k)).foldl closeG (crash0 G)) s.1 ∧ cnt2 ((losers lf ((ordR lf.reverse).take k)).foldl closeG (crash0 G)).log = cnt2 lf + s.2) (fun s => (s.1.Buffer, s.1.Disk, s.1.DiskLSN, s.1.Log, s.1.Flushed, s.1.LastID, s.1.Active, (s.2 : Int))) ?_ ?_ (S56.mk b M.Disk M.DiskLSN (lf.map cv) G.flushed M.LastID [], 0) ⟨?_, ?_⟩ (n := N) (by omega)) ?_
 ·rintro k ⟨M1, v⟩ hk ⟨hR1, hv⟩
  simp only at hR1 hv
  obtain ⟨tx, htx⟩ := get_of hk
  obtain ⟨c1, c2, ⟨cs, c3⟩, c4, c5⟩ := hcr ((ordR lf.reverse).take k) (List.take_sublist _ _)
  have hnext : (losers lf ((ordR lf.reverse).take (k + 1))).foldl closeG (crash0 G) = if endR tx lf.reverse = true then (losers lf ((ordR lf.reverse).take k)).foldl closeG (crash0 G) else closeG ((losers lf ((ordR lf.reverse).take k)).foldl closeG (crash0 G)) tx := by
   rw [List.take_add_one, htx]
   unfold losers
   rw [List.filter_append, List.foldl_append]
   by_cases he : endR tx lf.reverse = true
   ·rw [if_pos he]
    show List.foldl closeG _ ([tx].filter _) = _
    rw [List.filter_cons_of_neg (by simp [he])]; rfl
   ·rw [if_neg he]
    show List.foldl closeG _ ([tx].filter _) = _
    rw [List.filter_cons_of_pos (by simp [he])]; rfl
  obtain ⟨r0, hr0, hr0t⟩ := ordR_mem.1 (List.mem_of_getElem? htx)
  have hnd := ordR_nodup lf.reverse
  have hnot : endR tx lf.reverse ≠ true → tx ∉ ends ((losers lf ((ordR lf.reverse).take k)).foldl closeG (crash0 G)).log := fun he hmem => by
   rw [c2] at hmem
   rcases List.mem_append.1 hmem with g | g
   ·exact he ((endR_ends tx lf).2 g)
   ·have g := (List.mem_filter.1 g).1
    have hsplit : (ordR lf.reverse).take (k + 1) = (ordR lf.reverse).take k ++ [tx] := by rw [List.take_add_one, htx]; rfl
    have hn2 : ((ordR lf.reverse).take (k + 1)).Nodup := (List.take_sublist _ _).nodup hnd
    rw [hsplit] at hn2
    exact (List.nodup_append.1 hn2).2.2 tx g tx (by simp) rfl
  generalize (losers lf ((ordR lf.reverse).take k)).foldl closeG (crash0 G) = g at *
  have hxm : tx ∈ Qs ∧ tx ≤ G.lastID := by
   have hgm : r0 ∈ g.log := by rw [c3]; exact List.mem_append_left _ (List.mem_reverse.1 hr0)
   rw [← hr0t]
   exact ⟨c1.inQ r0 hgm, by rw [← c4]; exact c1.ids r0 hgm⟩
  have hst := c1.st tx
  simp only []
  rw [if_pos (by omega), idx_nat htx, Option.bind_some, letv_eq, show (mget m tx).getD false = endM m tx from rfl, hm tx]
  by_cases he : endR tx lf.reverse = true
  ·rw [if_pos he] at hnext
   rw [if_neg (by rw [he]; decide), chkI_of (by omega) (by omega), Option.bind_some]
   exact ⟨(M1, v), rfl, by rw [hnext]; exact hR1, by rw [hnext]; exact hv⟩
  ·rw [if_neg he] at hnext
   have hef := Bool.eq_false_iff.2 he
   have hM1a : M1.Active = [] := hR1.a.trans c5
   have hMb : M1.Buffer.length = n := by rw [hR1.b, List.length_map]; exact c1.lb
   have hok2 : ∀ r ∈ g.log, okr M1.Buffer.length r := fun r hr => by rw [hMb]; exact c1.ok r hr
   have e30 : d30 N (S56.mk M1.Buffer M1.Disk M1.DiskLSN M1.Log M1.Flushed M1.LastID M1.Active) tx = some (closeM ((stR tx g.log.reverse).map cv) tx M1, ((stR tx g.log.reverse).length : Int)) := d30_ok hN (M := M1) (log := g.log) hR1.l c1.V hok2 (Nat.le_trans (Nat.add_le_add_right hst 1) hQ) (by rw [hM1a]; exact Nat.zero_le _)
   have hcl := close_ok c1 hxm.1 (by rw [c4]; exact hxm.2) (hnot he)
   have hcn := hcl.cnt
   have hvle : cnt2 g.log ≤ g.log.length := List.countP_le_length
   have hgl := Nat.le_trans (Nat.le_add_right _ _) hst
   have hsl := Nat.le_trans (Nat.le_add_left _ _) hst
   have hrc := hR1.close tx hM1a
   rw [if_pos (by rw [hef]; rfl), e30, Option.bind_some]
   generalize (stR tx g.log.reverse).length = sl at *
   rw [chkI_of (by omega) (by omega), Option.bind_some, chkI_of (by omega) (by omega), Option.bind_some]
   exact ⟨(closeM ((stR tx g.log.reverse).map cv) tx M1, v + sl), by simp only [Int.natCast_add], by rw [hnext]; exact hrc, by rw [hnext, hcn, hv]; omega⟩
 ·rintro ⟨M1, v⟩ _
  simp only []
  rw [if_neg (by omega)]
 ·show Rel (crash0 G) _
  rw [hG0]
  exact ⟨hb, hD, hDL, rfl, rfl, hMI, rfl⟩
 ·show cnt2 (crash0 G).log = _
  rw [hG0]; rfl
 ·rintro ⟨M1, v⟩ ⟨hR1, hv⟩
  simp only at hR1 hv
  rw [List.take_length] at hR1 hv
  refine ⟨_, rfl, M1, hR1, ?_⟩
  obtain ⟨_, _, ⟨cs, c3⟩, _⟩ := hcrA
  rw [c3] at hv ⊢
  rw [List.drop_append_of_le_length (Nat.le_refl _), List.drop_length, List.nil_append]
  unfold cnt2 at hv
  rw [List.countP_append] at hv
  have : cs.countP (fun r => r.kind == 2) = v := by omega
  rw [this]
end Go.Proofs.Ytiikoldaocnilaa
end
section
namespace Go.Proofs.Ytiikoldaocnilaa
open Go.Ab Go.Rp

theorem d9_tot (N : Nat) (l : List Int) (i : Int) (hi : 0 ≤ i) : ∃ r, d9 N l i = some r := by
 unfold d9
 by_cases h : i < (l.length : Int)
 ·obtain ⟨a, ha⟩ := get_of (l := l) (k := i.toNat) (by omega)
  rw [if_pos h, idx_toNat hi ha]
  exact ⟨a, rfl⟩
 ·rw [if_neg h]; exact ⟨0, rfl⟩

def begG (G : S74) : S74 := ⟨G.buffer, G.disk, G.log, G.flushed, G.lastID + 1, G.active ++ [G.lastID + 1], G.writer⟩
theorem beg_inv {n k : Nat} {Qs : List Int} {G : S74} (h : Inv n k Qs G) (ha : G.active.length < 10) : Inv n (k + 1) Qs (begG G) := by
 have hl := h.li0
 refine ⟨h.base.of rfl rfl rfl rfl (by show G.lastID ≤ G.lastID + 1; omega), h.lw, h.n16, fun a hm => ?_, fun a hm he => ?_, by simp [begG]; omega, by show 0 ≤ G.lastID + 1; omega, by have := h.lik; show G.lastID + 1 ≤ _; omega, ?_, fun r hr hk hm => ?_, fun p w hw hw0 => ?_⟩
 ·rcases List.mem_append.1 (show a ∈ G.active ++ [G.lastID + 1] from hm) with g | g
  ·have := h.act a g
   show 1 ≤ a ∧ a ≤ G.lastID + 1
   omega
  ·have : a = G.lastID + 1 := by simpa using g
   show 1 ≤ a ∧ a ≤ G.lastID + 1
   omega
 ·rcases List.mem_append.1 (show a ∈ G.active ++ [G.lastID + 1] from hm) with g | g
  ·exact h.actE a g he
  ·have e : a = G.lastID + 1 := by simpa using g
   have he : a ∈ ends G.log := he
   unfold ends at he
   obtain ⟨r, hr, hrt⟩ := List.mem_map.1 he
   have := h.base.ids r (List.mem_filter.1 hr).1
   omega
 ·have := h.qb
  show 2 * Qs.length + ((G.active ++ [G.lastID + 1]).filter _).length ≤ k + 1
  rw [List.filter_append, List.length_append]
  have : ([G.lastID + 1].filter fun a => decide (a ∉ Qs)).length ≤ 1 := List.length_filter_le _ _
  omega
 ·rcases List.mem_append.1 (show r.tx ∈ G.active ++ [G.lastID + 1] from hm) with g | g
  ·exact h.w1 r hr hk g
  ·have e : r.tx = G.lastID + 1 := by simpa using g
   have := h.base.ids r hr
   omega
 ·obtain ⟨g1, g2⟩ := h.w2 p w hw hw0
  exact ⟨List.mem_append_left _ g1, g2⟩

def wrG (G : S74) (tx p v : Int) (x : S78) : S74 := appG ⟨G.buffer, G.disk, G.log, G.flushed, G.lastID, G.active, G.writer.set p.toNat tx⟩ ⟨1, tx, p, x.value, v⟩
theorem wr_inv {n k : Nat} {Qs : List Int} {G : S74} (h : Inv n k Qs G) {tx p v w : Int} {x : S78} (ha : tx ∈ G.active) (hp0 : 0 ≤ p) (hp : p < n) (hw : G.writer[p.toNat]? = some w) (hw0 : w = 0 ∨ w = tx) (hl : G.log.length < 2000) : ∃ Qs', Inv n (k + 1) Qs' (wrG G tx p v x) := by
 obtain ⟨Qs', q1, q2, q3⟩ := h.acts ha
 have htx := h.act tx ha
 have hb := ((h.base.mono q1).of (G' := ⟨G.buffer, G.disk, G.log, G.flushed, G.lastID, G.active, G.writer.set p.toNat tx⟩) rfl rfl rfl rfl (Int.le_refl _)).app (r := ⟨1, tx, p, x.value, v⟩) ⟨.inl rfl, fun _ => ⟨hp0, hp⟩⟩ (fun _ => Nat.lt_of_le_of_lt List.countP_le_length hl) (fun e => by simp at e) (fun e => by simp at e) q2 htx.2
 have hwl := h.lw
 refine ⟨Qs', hb, by simpa [wrG, appG] using h.lw, h.n16, h.act, fun a hm he => ?_, h.a10, h.li0, Int.le_trans h.lik (by omega), q3, fun r hr hk hm => ?_, fun q u hu hu0 => ?_⟩
 ·have he : a ∈ ends (G.log ++ [⟨1, tx, p, x.value, v⟩]) := he
  unfold ends at he
  rw [List.filter_append, List.map_append] at he
  rcases List.mem_append.1 he with g | g
  ·exact h.actE a hm g
  ·simp at g
 ·show (G.writer.set p.toNat tx)[r.page.toNat]? = some r.tx
  rcases List.mem_append.1 (show r ∈ G.log ++ [_] from hr) with g | g
  ·have hold := h.w1 r g hk hm
   have hpg := (h.base.ok r g).2 (by omega)
   by_cases e : r.page.toNat = p.toNat
   ·rw [e, List.getElem?_set_self (by omega)]
    rw [e, hw] at hold
    injection hold with hold
    have := (h.act r.tx hm).1
    rcases hw0 with g | g
    ·omega
    ·rw [← hold, g]
   ·rw [List.getElem?_set_ne (fun g => e g.symm)]; exact hold
  ·obtain rfl : r = ⟨1, tx, p, x.value, v⟩ := by simpa using g
   rw [List.getElem?_set_self (by omega)]
 ·have hu : (G.writer.set p.toNat tx)[q]? = some u := hu
  show u ∈ G.active ∧ ∃ r ∈ G.log ++ [_], _
  by_cases e : q = p.toNat
  ·subst e
   rw [List.getElem?_set_self (by omega)] at hu
   injection hu with hu
   subst hu
   exact ⟨ha, _, List.mem_append_right _ (List.mem_singleton.2 rfl), rfl, by show p = _; omega, rfl⟩
  ·rw [List.getElem?_set_ne (fun g => e g.symm)] at hu
   obtain ⟨g1, r, g2, g3⟩ := h.w2 q u hu hu0
   exact ⟨g1, r, List.mem_append_left _ g2, g3⟩

def fpG (G : S74) (p : Int) (x : S78) : S74 := ⟨G.buffer, G.disk.set p.toNat x, G.log, maxI G.flushed x.lsn, G.lastID, G.active, G.writer⟩
theorem fp_inv {n k : Nat} {Qs : List Int} {G : S74} (h : Inv n k Qs G) {p : Int} {x : S78} (_hp0 : 0 ≤ p) (hx : G.buffer[p.toNat]? = some x) : Inv n (k + 1) Qs (fpG G p x) := by
 have hl := h.base.lsn _ x hx
 have hle := plR_le (p.toNat : Nat) G.log.reverse
 rw [List.length_reverse] at hle
 have h0 := h.base.fl0
 have hfl := h.base.fl
 have hm : maxI G.flushed x.lsn = max G.flushed x.lsn := by unfold maxI; split <;> omega
 have hb := h.base.flush (f := max G.flushed x.lsn) (by omega) (by omega)
 refine Inv.later ⟨?_, h.lw, h.n16, h.act, h.actE, h.a10, h.li0, h.lik, h.qb, h.w1, h.w2⟩
 unfold fpG
 rw [hm]
 refine ⟨hb.lb, by simpa using h.base.ld, hb.ok, hb.V, hb.upd, hb.endn, hb.inQ, hb.ids, hb.lsn, fun q d hd => ?_, hb.fl0, hb.fl⟩
 have hd : (G.disk.set p.toNat x)[q]? = some d := hd
 show 0 ≤ d.lsn ∧ d.lsn ≤ plR q (G.log.take (max G.flushed x.lsn).toNat).reverse
 by_cases e : q = p.toNat
 ·subst e
  have hlt : p.toNat < G.disk.length := by
   have := (List.getElem?_eq_some_iff.1 hx).1
   have h1 := h.base.lb; have h2 := h.base.ld; omega
  rw [List.getElem?_set_self hlt] at hd
  injection hd with hd
  subst hd
  obtain ⟨c, hc⟩ := take_rev G.log (a := (max G.flushed x.lsn).toNat) (b := G.log.length) (by omega)
  rw [List.take_length] at hc
  have hcut := plR_cut (p.toNat : Nat) (G.log.take (max G.flushed x.lsn).toNat).reverse c (by rw [← hc, List.length_reverse, List.length_take]; omega)
  rw [← hc] at hcut
  omega
 ·rw [List.getElem?_set_ne (fun g => e g.symm)] at hd
  exact hb.dsk q d hd

set_option maxHeartbeats 4000000 in
theorem step_ok {N : Nat} (hN : bigN N) {n k : Nat} {Qs : List Int} {G : S74} {M : S56} (h : Inv n k Qs G) (hR : Rel G M) (hk : k + 1 ≤ 5864062014805) (op : List Int) : ∃ G' M' Qs', d20 N G M op = some (G', M', true) ∧ Inv n (k + 1) Qs' G' ∧ Rel G' M' := by
 have hlb := h.base.lb
 have hld := h.base.ld
 have hlw := h.lw
 have hMb : M.Buffer.length = n := by rw [hR.b, List.length_map]; exact hlb
 have hal := h.a10
 have hMa := hR.a
 have hMl : M.Log.length = G.log.length := by rw [hR.l, List.length_map]
 have hn16 := h.n16
 have hcap0 := h.cap (by omega) 0
 have hcap1 : G.log.length + 1 ≤ 3518437208883 := bd3 hcap0
 unfold d20
 obtain ⟨tx, e1⟩ := d9_tot N op 1 (by omega)
 obtain ⟨p, e2⟩ := d9_tot N op 2 (by omega)
 obtain ⟨v, e3⟩ := d9_tot N op 3 (by omega)
 obtain ⟨c, e0⟩ := d9_tot N op 0 (by omega)
 rw [e1, Option.bind_some, e2, Option.bind_some, e3, Option.bind_some]
 have hva : (if p ≥ 0 then (d24 N M.Active tx).bind fun r10 => some (decide (p < (M.Buffer.length : Int)), r10) else (d24 N M.Active tx).bind fun r11 => some (false, r11)) = some (decide (0 ≤ p ∧ p < (n : Int)), decide (tx ∈ G.active)) := by
  rw [hMa, d24_ok hN _ _ (by omega), hMb]
  by_cases hp : p ≥ 0
  ·rw [if_pos hp, Option.bind_some]
   congr 2
   simp [hp]
  ·rw [if_neg hp, Option.bind_some]
   congr 2
   simp; omega
 rw [hva, Option.bind_some]
 simp only []
 rw [e0, Option.bind_some]
 clear hva
 by_cases c1 : c = 1
 ·-- Begin
  rw [if_pos (by simp [c1])]
  unfold d19
  have hli := h.lik
  have hli0 := h.li0
  by_cases ha : G.active.length = 10
  ·rw [if_pos (by simp [ha]), Option.bind_some, if_neg (by rw [hMa]; omega)]
   exact ⟨G, M, Qs, rfl, h.later, hR⟩
  ·have ha2 : ¬ ((G.active.length : Int) == 10) = true := by simp; omega
   rw [if_neg ha2, chkI_of (by omega) (by omega), Option.bind_some, appL_of (by simp only [List.length_cons, List.length_nil]; unfold Rp.reach; omega), Option.bind_some, Option.bind_some, if_pos (by rw [hMa]; omega), hR.i, chkI_of (by omega) (by omega), Option.bind_some, appL_of (by rw [hMa]; simp only [List.length_cons, List.length_nil]; unfold Rp.reach; omega), Option.bind_some]
   refine ⟨begG G, S56.mk M.Buffer M.Disk M.DiskLSN M.Log M.Flushed (G.lastID + 1) (M.Active ++ [G.lastID + 1]), Qs, ?_, beg_inv h (by omega), ⟨hR.b, hR.d, hR.dl, hR.l, hR.f, rfl, by show _ = G.active ++ _; rw [hMa]⟩⟩
   simp [begG]
 rw [if_neg (by simp [c1])]
 by_cases c2 : c = 2
 ·-- Write
  rw [if_pos (by simp [c2])]
  unfold d18
  rw [d24_ok hN G.active tx (by omega), Option.bind_some]
  by_cases ha : tx ∈ G.active
  ·rw [if_neg (by simp [ha])]
   by_cases hp : 0 ≤ p ∧ p < (n : Int)
   ·obtain ⟨hp0, hp1⟩ := hp
    obtain ⟨w, hw⟩ := get_of (l := G.writer) (k := p.toNat) (by omega)
    obtain ⟨x, hx⟩ := get_of (l := G.buffer) (k := p.toNat) (by omega)
    have hpn : ((p.toNat : Nat) : Int) = p := by omega
    -- who has written the page
    obtain ⟨w', e26, hw'⟩ := d26_ok hN hR.l p (by omega) (by rw [hMa]; omega)
    have hww : w' = w := by
     rcases hw' with ⟨r, g1, g2, g3, g4, g5⟩ | ⟨g1, g2⟩
     ·rw [hMa] at g4
      have := h.w1 r g1 g2 g4
      rw [g3, hw] at this
      injection this with this
      rw [g5, this]
     ·by_cases hw0 : w = 0
      ·rw [g1, hw0]
      ·obtain ⟨a1, r, a2, a3, a4, a5⟩ := h.w2 p.toNat w hw hw0
       exact absurd (by rw [hMa, a5]; exact a1) (g2 r a2 a3 (by omega))
    subst hww
    rw [if_neg (by omega), Option.bind_some, if_neg (by rw [decide_eq_true_eq]; omega), idx_toNat hp0 hw, Option.bind_some]
    by_cases hwb : w' = 0 ∨ w' = tx
    ·have hv10 : (if (w' != 0) = true then some (w' != tx) else some false) = some false := by
      rcases hwb with g | g
      ·rw [if_neg (by simp [g])]
      ·by_cases g0 : w' = 0
       ·rw [if_neg (by simp [g0])]
       ·rw [if_pos (by simpa using g0)]; simp [g]
     have hv28 : ((d26 N M p).bind fun r29 => if (r29 != 0) = true then (d26 N M p).bind fun r31 => some (r31 != tx) else some false) = some false := by
      rw [e26, Option.bind_some, Option.bind_some]; exact hv10
     rw [hv10, Option.bind_some, if_neg (by simp)]
     by_cases hl : G.log.length < 2000
     ·have e25 := d25_ok N (G := S74.mk G.buffer G.disk G.log G.flushed G.lastID G.active (setI G.writer p tx)) (r := ⟨1, tx, p, x.value, v⟩) hcap1 ⟨.inl rfl, fun _ => by simp only; omega⟩
      have e27 := d27_ok N (M := M) (r := ⟨1, tx, p, x.value, v⟩) (by omega) (fun _ => by simp only; omega)
      rw [if_neg (by omega), Option.bind_some, letv_eq, idx_toNat hp0 hx, Option.bind_some, e25, Option.bind_some, Option.bind_some, if_neg (by simp [ha]), if_neg (by simp; omega), hv28, Option.bind_some, if_neg (by simp), if_neg (by omega)]
      have hxM : M.Buffer[p.toNat]? = some x.value := by rw [hR.b, List.getElem?_map, hx]; rfl
      rw [idx_toNat hp0 hxM, Option.bind_some, e27, Option.bind_some]
      obtain ⟨Qs', hi⟩ := wr_inv h (v := v) (x := x) ha hp0 hp1 hw hwb hl
      refine ⟨wrG G tx p v x, _, Qs', rfl, hi, ?_⟩
      have hR2 : Rel (S74.mk G.buffer G.disk G.log G.flushed G.lastID G.active (G.writer.set p.toNat tx)) M := ⟨hR.b, hR.d, hR.dl, hR.l, hR.f, hR.i, hR.a⟩
      exact hR2.app ⟨1, tx, p, x.value, v⟩ (.inl rfl)
     ·rw [if_pos (by omega), Option.bind_some, if_neg (by simp [ha]), if_neg (by simp; omega), hv28, Option.bind_some, if_neg (by simp), if_pos (by omega)]
      exact ⟨G, M, Qs, rfl, h.later, hR⟩
    ·have hv10 : (if (w' != 0) = true then some (w' != tx) else some false) = some true := by
      rw [if_pos (by simp; omega)]
      congr 1; simp; omega
     have hv28 : ((d26 N M p).bind fun r29 => if (r29 != 0) = true then (d26 N M p).bind fun r31 => some (r31 != tx) else some false) = some true := by
      rw [e26, Option.bind_some, Option.bind_some]; exact hv10
     rw [hv10, Option.bind_some, if_pos rfl, Option.bind_some, if_neg (by simp [ha]), if_neg (by simp; omega), hv28, Option.bind_some, if_pos rfl]
     exact ⟨G, M, Qs, rfl, h.later, hR⟩
   ·have hbad : (if p < 0 then some true else some (decide (p ≥ (G.buffer.length : Int)))) = some true := by
     by_cases hp0 : p < 0
     ·rw [if_pos hp0]
     ·rw [if_neg hp0]; congr 1; simp; omega
    rw [hbad, Option.bind_some, if_pos rfl, Option.bind_some, if_neg (by simp [ha]), if_pos (by rw [decide_eq_false hp]; rfl)]
    exact ⟨G, M, Qs, rfl, h.later, hR⟩
  ·rw [if_pos (by simp [ha]), Option.bind_some, if_pos (by simp [ha])]
   exact ⟨G, M, Qs, rfl, h.later, hR⟩
 rw [if_neg (by simp [c2])]
 by_cases c34 : c = 3 ∨ c = 4
 ·have hv38 : (if (c == 3) = true then some true else some (c == 4)) = some true := by
   rcases c34 with g | g
   ·rw [if_pos (by simp [g])]
   ·rw [if_neg (by simp [g])]; simp [g]
  rw [hv38, Option.bind_some, if_pos rfl, Option.bind_some]
  by_cases c3 : c = 3
  ·-- Commit
   rw [if_pos (by simp [c3])]
   unfold d28
   rw [d24_ok hN G.active tx (by omega), Option.bind_some]
   by_cases ha : tx ∈ G.active
   ·have e27 := d27_ok N (M := M) (r := ⟨3, tx, 0, 0, 0⟩) (by omega) (fun g => by simp at g)
    rw [if_neg (by simp [ha]), d40_ok hN hcap1 (by omega) (by omega), Option.bind_some, Option.bind_some, Option.bind_some]
    simp only []
    rw [if_neg (by simp [ha]), Option.bind_some, if_neg (by simp [c3]), e27, Option.bind_some, show (fun b0 => d32 N b0 tx) = (fun b => some (b == tx)) from rfl, d31_ok hN (appM M ⟨3, tx, 0, 0, 0⟩).Active tx (by show M.Active.length ≤ _; rw [hMa]; omega), Option.bind_some]
    obtain ⟨Qs', hi⟩ := fin_inv h ha
    have r2 := hR.app ⟨3, tx, 0, 0, 0⟩ (.inr (.inr rfl))
    have hfl := h.base.fl
    have hlg : (finG G tx).log.length = G.log.length + 1 := by simp [finG]
    refine ⟨_, _, Qs', rfl, hi.flush (f := ((finG G tx).log.length : Int)) (by rw [hlg]; show G.flushed ≤ _; omega) (Int.le_refl _), r2.b, r2.d, r2.dl, r2.l, ?_, r2.i, ?_⟩
    ·show (((appM M ⟨3, tx, 0, 0, 0⟩).Log.length : Nat) : Int) = ((finG G tx).log.length : Int)
     rw [hlg]
     show (((M.Log ++ [_]).length : Nat) : Int) = _
     rw [List.length_append, hMl]; rfl
    ·show M.Active.filter (· != tx) = G.active.filter (· != tx)
     rw [hMa]
   ·rw [if_pos (by simp [ha]), Option.bind_some, Option.bind_some]
    simp only []
    rw [if_pos (by simp [ha])]
    exact ⟨G, M, Qs, rfl, h.later, hR⟩
  ·-- Rollback
   have c4 : c = 4 := by rcases c34 with g | g; exact absurd g c3; exact g
   rw [if_neg (by simp [c3])]
   unfold d29
   rw [d24_ok hN G.active tx (by omega), Option.bind_some]
   by_cases ha : tx ∈ G.active
   ·have hcap := h.cap (by omega) tx
    have hok : ∀ r ∈ G.log, okr G.buffer.length r := fun r hr => by rw [hlb]; exact h.base.ok r hr
    have e41 := d41_ok N (G := G) (tx := tx) hok (Nat.le_trans (Nat.le_succ _) hcap)
    obtain ⟨k1, k2, k3, k4, k5⟩ := undoG_keeps tx (stR tx G.log.reverse) G
    obtain ⟨cs, u1, u2, _⟩ := undoG_log tx (stR tx G.log.reverse) G
    have e40 : d40 N (undoG (stR tx G.log.reverse) tx G) tx = some (finG (undoG (stR tx G.log.reverse) tx G) tx) := d40_ok hN (by rw [u1, List.length_append, u2]; exact hcap) (by rw [k4]; omega) (by rw [k5]; omega)
    have e30 := d30_ok hN (M := M) (log := G.log) (tx := tx) hR.l h.base.V (fun r hr => by rw [hMb]; exact h.base.ok r hr) hcap (by rw [hMa]; omega)
    rw [if_neg (by simp [ha]), e41, Option.bind_some, e40, Option.bind_some, Option.bind_some, Option.bind_some]
    simp only []
    rw [if_neg (by simp [ha]), Option.bind_some, if_pos (by simp [c4]), e30, Option.bind_some]
    obtain ⟨Qs', hi⟩ := undo_inv h ha
    exact ⟨_, _, Qs', rfl, hi, hR.fin tx⟩
   ·rw [if_pos (by simp [ha]), Option.bind_some, Option.bind_some]
    simp only []
    rw [if_pos (by simp [ha])]
    exact ⟨G, M, Qs, rfl, h.later, hR⟩
 have c3 : c ≠ 3 := fun g => c34 (.inl g)
 have c4 : c ≠ 4 := fun g => c34 (.inr g)
 have hv38 : (if (c == 3) = true then some true else some (c == 4)) = some false := by
  rw [if_neg (by simp [c3])]; simp [c4]
 rw [hv38, Option.bind_some, if_neg (by simp)]
 by_cases c5 : c = 5
 ·-- FlushPage
  rw [if_pos (by simp [c5])]
  unfold d33
  by_cases hp : 0 ≤ p ∧ p < (n : Int)
  ·obtain ⟨hp0, hp1⟩ := hp
   obtain ⟨x, hx⟩ := get_of (l := G.buffer) (k := p.toNat) (by omega)
   obtain ⟨d, hd⟩ := get_of (l := G.disk) (k := p.toNat) (by omega)
   have hpn : ((p.toNat : Nat) : Int) = p := by omega
   have hxM : M.Buffer[p.toNat]? = some x.value := by rw [hR.b, List.getElem?_map, hx]; rfl
   have hdM : M.Disk[p.toNat]? = some d.value := by rw [hR.d, List.getElem?_map, hd]; rfl
   have hdlM : M.DiskLSN[p.toNat]? = some d.lsn := by rw [hR.dl, List.getElem?_map, hd]; rfl
   have hls := h.base.lsn _ x hx
   rw [hpn] at hls
   have e34 := d34_ok hN hR.l p (by omega)
   have e34' := d34_ok hN (M := S56.mk M.Buffer (M.Disk.set p.toNat x.value) (M.DiskLSN.set p.toNat x.lsn) M.Log M.Flushed M.LastID M.Active) hR.l p (by omega)
   rw [← hls] at e34 e34'
   rw [if_neg (by omega), Option.bind_some, if_neg (by rw [decide_eq_true_eq]; omega), idx_toNat hp0 hx, Option.bind_some, letv_eq, idx_toNat hp0 hd, Option.bind_some, letv_eq, Option.bind_some, if_pos (decide_eq_true ⟨hp0, hp1⟩), idx_toNat hp0 hxM, Option.bind_some, e34, Option.bind_some, idx_toNat hp0 hdM, Option.bind_some, letv_eq, idx_toNat hp0 hdlM, Option.bind_some, letv_eq]
   rw [show setI M.Disk p x.value = M.Disk.set p.toNat x.value from rfl, show setI M.DiskLSN p x.lsn = M.DiskLSN.set p.toNat x.lsn from rfl, e34', Option.bind_some, letv_eq]
   refine ⟨fpG G p x, _, Qs, rfl, fp_inv h hp0 hx, hR.b, ?_, ?_, hR.l, ?_, hR.i, hR.a⟩
   ·show M.Disk.set _ _ = (G.disk.set _ _).map _
    rw [hR.d, List.map_set]
   ·show M.DiskLSN.set _ _ = (G.disk.set _ _).map _
    rw [hR.dl, List.map_set]
   ·show maxI M.Flushed x.lsn = maxI G.flushed x.lsn
    rw [hR.f]
  ·have hbad : (if p < 0 then some true else some (decide (p ≥ (G.buffer.length : Int)))) = some true := by
    by_cases hp0 : p < 0
    ·rw [if_pos hp0]
    ·rw [if_neg hp0]; congr 1; simp; omega
   rw [hbad, Option.bind_some, if_pos rfl, Option.bind_some, if_neg (by rw [decide_eq_false hp]; simp)]
   exact ⟨G, M, Qs, rfl, h.later, hR⟩
 rw [if_neg (by simp [c5])]
 by_cases c6 : c = 6
 ·-- FlushLog
  rw [if_pos (by simp [c6])]
  unfold d35
  have h0 := h.base.fl0
  have hfl := h.base.fl
  by_cases hp : 0 ≤ p ∧ p ≤ 2000
  ·obtain ⟨hp0, hp1⟩ := hp
   rw [if_neg (by omega), Option.bind_some, if_neg (by rw [decide_eq_true_eq]; omega), chkI_of (by omega) (by omega), Option.bind_some, letv_eq, Option.bind_some, if_pos hp0, Option.bind_some, if_pos (decide_eq_true hp1), hR.f, chkI_of (by omega) (by omega), Option.bind_some, letv_eq, hMl]
   have hm : minI (G.log.length : Int) (G.flushed + p) = min (G.log.length : Int) (G.flushed + p) := by unfold minI; split <;> omega
   rw [hm]
   refine ⟨_, _, Qs, rfl, (h.flush (f := min (G.log.length : Int) (G.flushed + p)) (by omega) (by omega)).later, hR.b, hR.d, hR.dl, hR.l, rfl, hR.i, hR.a⟩
  ·have hbad : (if p < 0 then some true else some (decide (p > 2000))) = some true := by
    by_cases hp0 : p < 0
    ·rw [if_pos hp0]
    ·rw [if_neg hp0]; congr 1; simp; omega
   have hbad2 : (if p ≥ 0 then some (decide (p ≤ 2000)) else some false) = some false := by
    by_cases hp0 : p ≥ 0
    ·rw [if_pos hp0]; congr 1; simp; omega
    ·rw [if_neg hp0]
   rw [hbad, Option.bind_some, if_pos rfl, Option.bind_some, hbad2, Option.bind_some, if_neg (by simp)]
   exact ⟨G, M, Qs, rfl, h.later, hR⟩
 rw [if_neg (by simp [c6])]
 by_cases c7 : c = 7
 ·-- Crash
  rw [if_pos (by simp [c7])]
  have hQ : 4000 + Qs.length + 1 ≤ 3518437208883 := by
   have := h.qb
   omega
  obtain ⟨M', r1, e37⟩ := d37_ok hN h.base hR hn16 hQ
  rw [d36_ok hN h.base hn16 hQ, Option.bind_some, e37, Option.bind_some]
  simp only []
  rw [if_pos (by simp), Option.bind_some]
  obtain ⟨b1, b2, ⟨cs, b3⟩, b4, b5, b6, b7, b8⟩ := crash_all h.base (G.log.take G.flushed.toNat).reverse (fun r hr => List.mem_reverse.1 hr)
  have hcg : crashG G = (losers (G.log.take G.flushed.toNat) (ordR (G.log.take G.flushed.toNat).reverse)).foldl closeG (crash0 G) := rfl
  rw [← hcg] at b1 b2 b3 b4 b5 b6 b7 b8
  have hM'l : M'.Log.length = (crashG G).log.length := by rw [r1.l, List.length_map]
  have hb := b1.flush (f := ((crashG G).log.length : Int)) b1.fl (Int.le_refl _)
  refine ⟨S74.mk (crashG G).buffer (crashG G).disk (crashG G).log ((crashG G).log.length : Int) (crashG G).lastID (crashG G).active (crashG G).writer, S56.mk M'.Buffer M'.Disk M'.DiskLSN M'.Log (M'.Log.length : Int) M'.LastID M'.Active, Qs, by rw [beq_self_eq_true], ⟨hb, ?_, hn16, fun a hm => ?_, fun a hm => ?_, ?_, ?_, ?_, ?_, fun r hr hk hm => ?_, fun q w hw hw0 => ?_⟩, r1.b, r1.d, r1.dl, r1.l, by show _ = (((crashG G).log.length : Nat) : Int); rw [← hM'l], r1.i, r1.a⟩
  ·show (crashG G).writer.length = n
   rw [b8, List.length_replicate]; exact hld
  ·have hm : a ∈ (crashG G).active := hm
   rw [b7] at hm; cases hm
  ·have hm : a ∈ (crashG G).active := hm
   rw [b7] at hm; cases hm
  ·show (crashG G).active.length ≤ 10
   rw [b7]; exact Nat.zero_le _
  ·show 0 ≤ (crashG G).lastID
   rw [b6]; exact h.li0
  ·show (crashG G).lastID ≤ _
   rw [b6]; have := h.lik; omega
  ·show 2 * Qs.length + ((crashG G).active.filter _).length ≤ k + 1
   rw [b7]
   have := h.qb
   simp; omega
  ·have hm : r.tx ∈ (crashG G).active := hm
   rw [b7] at hm; cases hm
  ·have hw : (crashG G).writer[q]? = some w := hw
   rw [b8, List.getElem?_replicate] at hw
   split at hw
   ·injection hw with hw; exact absurd hw.symm hw0
   ·cases hw
 rw [if_neg (by simp [c7])]
 exact ⟨G, M, Qs, rfl, h.later, hR⟩
end Go.Proofs.Ytiikoldaocnilaa
end
section
namespace Go.Proofs.Ytiikoldaocnilaa
open Go.Ab Go.Rp

def z78 : S78 := ⟨0, 0⟩
def newG (n : Nat) : S74 := ⟨List.replicate n z78, List.replicate n z78, [], 0, 0, [], List.replicate n 0⟩
def newM (n : Nat) : S56 := ⟨List.replicate n 0, List.replicate n 0, List.replicate n 0, [], 0, 0, []⟩
theorem new_inv {n : Nat} (hn : n ≤ 16) : Inv n 0 [] (newG n) := by
 refine ⟨⟨List.length_replicate, List.length_replicate, (fun r hr => by cases hr), trivial, Nat.zero_le _, List.nodup_nil, (fun r hr => by cases hr), (fun r hr => by cases hr), fun p x hx => ?_, fun p x hx => ?_, Int.le_refl _, Int.le_refl _⟩, List.length_replicate, hn, (fun a ha => by cases ha), (fun a ha => by cases ha), Nat.zero_le _, Int.le_refl _, Int.le_refl _, Nat.le_refl _, (fun r hr => by cases hr), fun p w hw hw0 => ?_⟩
 ·have hx : (List.replicate n z78)[p]? = some x := hx
  rw [List.getElem?_replicate] at hx
  split at hx
  ·injection hx with hx; subst hx; rfl
  ·cases hx
 ·have hx : (List.replicate n z78)[p]? = some x := hx
  rw [List.getElem?_replicate] at hx
  split at hx
  ·injection hx with hx; subst hx; exact ⟨Int.le_refl _, Int.natCast_nonneg _⟩
  ·cases hx
 ·have hw : (List.replicate n (0 : Int))[p]? = some w := hw
  rw [List.getElem?_replicate] at hw
  split at hw
  ·injection hw with hw; exact absurd hw.symm hw0
  ·cases hw
theorem new_rel (n : Nat) : Rel (newG n) (newM n) := by
 refine ⟨?_, ?_, ?_, rfl, rfl, rfl, rfl⟩ <;> simp [newG, newM, z78]

theorem mkL_n {α : Type} (b n : Nat) (z : α) (hb : n * b ≤ reach) : mkL b (n : Int) z = some (List.replicate n z) := by
 unfold mkL
 rw [if_pos ⟨by omega, by simpa using hb⟩]
 simp
theorem d17_ok (N : Nat) {n : Nat} (h1 : 1 ≤ n) (h2 : n ≤ 16) : d17 N (n : Int) = some (some (newG n), 0) := by
 unfold d17
 rw [if_neg (by omega), Option.bind_some, if_neg (by rw [decide_eq_true_eq]; omega), mkL_n 16 n _ (by unfold Rp.reach; omega), Option.bind_some, Option.bind_some, mkL_n 8 n _ (by unfold Rp.reach; omega), Option.bind_some]
 rfl

theorem d22_in (N : Nat) (G : S74) {p : Nat} {x : S78} (hx : G.buffer[p]? = some x) : d22 N G (p : Int) = some (x.value, 0) := by
 have hlt := (List.getElem?_eq_some_iff.1 hx).1
 unfold d22
 rw [if_neg (by omega), Option.bind_some, if_neg (by rw [decide_eq_true_eq]; omega), idx_nat hx, Option.bind_some]
theorem d22_out (N : Nat) (G : S74) {p : Int} (h : p < 0 ∨ (G.buffer.length : Int) ≤ p) : d22 N G p = some (0, 1) := by
 unfold d22
 have : (if p < 0 then some true else some (decide (p ≥ (G.buffer.length : Int)))) = some true := by
  by_cases h0 : p < 0
  ·rw [if_pos h0]
  ·rw [if_neg h0]; congr 1; simp; omega
 rw [this, Option.bind_some, if_pos rfl]

theorem first_ok {N : Nat} (hN : bigN N) : d18 N (newG 1) 1 0 5 = some (newG 1, 4) := by
 unfold d18
 rw [d24_ok hN _ _ (by simp [newG]), Option.bind_some, if_pos (by simp [newG])]
theorem second_ok {N : Nat} (hN : bigN N) : ∃ g, d18 N (begG (newG 1)) 1 0 5 = some (g, 0) := by
 have e25 := d25_ok N (G := S74.mk (newG 1).buffer (newG 1).disk (newG 1).log (newG 1).flushed 1 [1] (setI [0] 0 1)) (r := ⟨1, 1, 0, 0, 5⟩) (by simp [newG]) ⟨.inl rfl, fun _ => by simp [newG]⟩
 refine ⟨appG (S74.mk (newG 1).buffer (newG 1).disk (newG 1).log (newG 1).flushed 1 [1] (setI [0] 0 1)) ⟨1, 1, 0, 0, 5⟩, ?_⟩
 unfold d18
 rw [d24_ok hN _ _ (by simp [newG, begG]), Option.bind_some, if_neg (by simp [newG, begG]), if_neg (by omega), Option.bind_some, if_neg (by simp [newG, begG]), idx_toNat (x := 0) (by omega) rfl, Option.bind_some, if_neg (by simp), Option.bind_some, if_neg (by simp), if_neg (by simp [newG, begG]), Option.bind_some, letv_eq, idx_toNat (x := z78) (by omega) rfl, Option.bind_some]
 show (d25 N (S74.mk (newG 1).buffer (newG 1).disk (newG 1).log (newG 1).flushed 1 [1] (setI [0] 0 1)) ⟨1, 1, 0, 0, 5⟩).bind _ = _
 rw [e25, Option.bind_some]
theorem begin_ok (N : Nat) : d19 N (newG 1) = some (begG (newG 1), 1, 0) := by
 unfold d19
 rw [if_neg (by simp [newG]), chkI_of (by simp [newG]) (by simp [newG]), Option.bind_some, appL_of (by simp only [newG, List.length_cons, List.length_nil]; unfold Rp.reach; omega), Option.bind_some]
 rfl

theorem ex_go {σ ρ : Type} {d : Option (Out Unit ρ)} {f : σ → Out Unit ρ} {Q : σ → Prop} (hf : ∀ s, f s = .go ()) (h : ∃ s, d = some (f s) ∧ Q s) : ∃ b : Unit, d = some (.go b) ∧ True := by
 obtain ⟨s, h1, _⟩ := h
 exact ⟨(), by rw [h1, hf], trivial⟩

set_option maxHeartbeats 4000000 in
theorem d4_true {N : Nat} (hN : bigN N) (a0 : Int) (a1 : List (List Int)) (hl : a1.length ≤ 5864062014805) : d4 N a0 a1 = some true := by
 have hN' : 9223372036854775808 ≤ N := hN
 obtain ⟨g2, e2⟩ := second_ok hN
 unfold d4
 have e17a : d17 N 1 = some (some (newG 1), 0) := d17_ok N (n := 1) (by omega) (by omega)
 rw [e17a, Option.bind_some]
 simp only [ocase]
 rw [if_neg (by simp)]
 show Option.bind (Option.bind (d18 N (newG 1) 1 0 5) _) _ = _
 rw [first_ok hN, Option.bind_some, Option.bind_some]
 simp only []
 rw [if_neg (by simp)]
 show Option.bind (d19 N (newG 1)) _ = _
 rw [begin_ok, Option.bind_some]
 simp only []
 rw [if_neg (by simp), if_neg (by simp)]
 show Option.bind (Option.bind (d18 N (begG (newG 1)) 1 0 5) _) _ = _
 rw [e2, Option.bind_some, Option.bind_some, if_neg (by simp)]
 by_cases hr : 1 ≤ a0 ∧ a0 ≤ 16
 ·obtain ⟨n, rfl⟩ : ∃ n : Nat, a0 = n := ⟨a0.toNat, by omega⟩
  have hn1 : 1 ≤ n := by omega
  have hn2 : n ≤ 16 := by omega
  rw [d17_ok N hn1 hn2, Option.bind_some]
  simp only []
  rw [if_neg (by omega), Option.bind_some, if_neg (by rw [decide_eq_true_eq]; omega), if_neg (by simp), Option.bind_some, if_neg (by simp), mkL_n 8 n _ (by unfold Rp.reach; omega), Option.bind_some, Option.bind_some, Option.bind_some]
  refine bindO_of (P := fun _ => True) (ex_go (fun _ => rfl) (iter_fwd (σ := S74 × S56) (τ := List S78 × List S78 × List S80 × Int × Int × List Int × List Int × List Int × List Int × List Int × List S84 × Int × Int × List Int × Int) (ρ := Out Unit Bool) a1.length (fun s j => (s.1.buffer, s.1.disk, s.1.log, s.1.flushed, s.1.lastID, s.1.active, s.1.writer, s.2.Buffer, s.2.Disk, s.2.DiskLSN, s.2.Log, s.2.Flushed, s.2.LastID, s.2.Active, j)) _ (fun k s => (∃ Qs, Inv n k Qs s.1) ∧ Rel s.1 s.2) (fun _ => .go ()) ?_ ?_ (newG n, newM n) ⟨⟨[], new_inv hn2⟩, new_rel n⟩ (n := N) (by omega))) (fun _ _ => rfl)
  ·rintro k ⟨G, M⟩ hk ⟨⟨Qs, hI⟩, hR⟩
   simp only at hI hR
   obtain ⟨op, hop⟩ := get_of hk
   obtain ⟨G', M', Qs', e20, hI', hR'⟩ := step_ok hN hI hR (by omega) op
   have e20' : d20 N (S74.mk G.buffer G.disk G.log G.flushed G.lastID G.active G.writer) (S56.mk M.Buffer M.Disk M.DiskLSN M.Log M.Flushed M.LastID M.Active) op = some (G', M', true) := e20
   have hlb := hI'.base.lb
   have hMl : M'.Log.length = G'.log.length := by rw [hR'.l, List.length_map]
   have e21 : d21 N G' = some ((G'.log.length : Int), G'.flushed) := rfl
   simp only []
   rw [if_pos (by omega), idx_nat hop, Option.bind_some, e20', Option.bind_some]
   simp only []
   rw [if_neg (by simp), e21, Option.bind_some, if_neg (by rw [hMl]; simp), Option.bind_some, if_neg (by rw [hR'.f]; simp)]
   refine ⟨(G', M'), ?_, ⟨Qs', hI'⟩, hR'⟩
   rw [show (-1 : Int) = (0 : Int) - 1 from rfl]
   refine bindO_of (P := fun _ => True) (ex_go (fun _ => rfl) (iter_fwd (σ := Unit) (τ := Int) (n + 2) (fun _ j => j - 1) _ (fun _ _ => True) (fun _ => Out.go ()) ?_ ?_ () trivial (n := N) (by omega))) ?_
   ·rintro j ⟨⟩ hj _
    refine ⟨(), ?_, trivial⟩
    rw [if_pos (by omega)]
    by_cases hout : j = 0 ∨ j = n + 1
    ·rw [d22_out N G' (by rw [hlb]; omega), Option.bind_some]
     have hb : (if (j : Int) - 1 < 0 then some true else some ((j : Int) - 1 == (n : Int))) = some true := by
      rcases hout with g | g
      ·rw [if_pos (by omega)]
      ·rw [if_neg (by omega)]; congr 1; simp; omega
     rw [hb, Option.bind_some, if_pos rfl, if_neg (by simp), Option.bind_some, if_neg (by simp), chkI_of (by omega) (by omega), Option.bind_some]
     congr 2; omega
    ·obtain ⟨x, hx⟩ := get_of (l := G'.buffer) (k := j - 1) (by omega)
     have hj1 : (j : Int) - 1 = ((j - 1 : Nat) : Int) := by omega
     have hxM : M'.Buffer[j - 1]? = some x.value := by rw [hR'.b, List.getElem?_map, hx]; rfl
     rw [hj1, d22_in N G' hx, Option.bind_some]
     have hb : (if ((j - 1 : Nat) : Int) < 0 then some true else some (((j - 1 : Nat) : Int) == (n : Int))) = some false := by
      rw [if_neg (by omega)]; congr 1; simp; omega
     rw [hb, Option.bind_some, if_neg (by simp), if_neg (by simp), idx_nat hxM, Option.bind_some, Option.bind_some, if_neg (by simp), chkI_of (by omega) (by omega), Option.bind_some]
     congr 2; omega
   ·rintro ⟨⟩ _
    rw [if_neg (by omega)]
   ·rintro ⟨⟩ _
    rw [chkI_of (by omega) (by omega), Option.bind_some]
  ·rintro ⟨G, M⟩ _
   simp only []
   rw [if_neg (by omega)]
 ·have hbad : (if a0 < 1 then some true else some (decide (a0 > 16))) = some true := by
   by_cases h0 : a0 < 1
   ·rw [if_pos h0]
   ·rw [if_neg h0]; congr 1; simp; omega
  have e17 : d17 N a0 = some (none, 1) := by
   unfold d17
   rw [hbad, Option.bind_some, if_pos rfl]
  rw [e17, Option.bind_some]
  simp only []
  rw [hbad, Option.bind_some, if_pos rfl, if_pos (by simp), Option.bind_some]
end Go.Proofs.Ytiikoldaocnilaa
end
section
namespace Go.Proofs.Ytiikoldaocnilaa
open Go.Ab Go.Rp
open Go.Ab.Enc (eC eV)

theorem recovery_fun (a0 : Int) (a1 : List (List Int)) (h1 : a1.length * 24 ≤ reach) : Fun Try.prog 4 [eV a0, eV a1] (fun r _ => r = .d (.lit (.bool true))) := by
 have h := p4 9223372036854775808 a0 a1 true (d4_true (Nat.le_refl _) a0 a1 (by unfold reach at h1; omega))
 have e1 : (eV a1 : V) = .d (.sl (a1.map (cL (cI .i64)))) := rfl
 have e0 : (eV a0 : V) = .d (.lit (.int .i64 a0)) := rfl
 rw [e0, e1]
 exact h.2.mono fun _ _ h => h.1
end Go.Proofs.Ytiikoldaocnilaa
end
