/- The functional programs: checks of a history. Plain lists. -/
import Derived.Test.YtabjbkdlacibjaaCg6
namespace Go.Proofs.Ytabjbkdlacibjaa
open Go.Ab Go.Rp

abbrev Op27 := S27
def small {α : Type} (xs : List α) : Prop := xs.length < 9223372036854775807
theorem small.lt {α : Type} {xs : List α} (h : small xs) {N : Nat} (hN : bigN N) : xs.length < N := by
  unfold small at h
  exact Nat.lt_of_lt_of_le (Nat.lt_succ_of_lt h) hN
theorem chkI_succ {k n : Nat} (h : k < n) (hs : n < 9223372036854775807) : chkI ((k : Int) + 1) = some ((k : Int) + 1) := chkI_of (by omega) (by omega)
theorem getAt {α : Type} {xs : List α} {k : Nat} (h : k < xs.length) : ∃ x, xs[k]? = some x := ⟨xs[k], List.getElem?_eq_getElem h⟩

/-! ### the check of a history -/
def badKind (x : Op27) : Bool := (x.Kind != 1) && (x.Kind != 2)
def badTx (x : Op27) : Bool := decide (x.Tx < 0) || decide (x.Tx ≥ 20)
def stepH (x : Op27) : Unit ⊕ Out Unit Int :=
  if badKind x = true then .inr (.ret 3) else if badTx x = true then .inr (.ret 1) else if (x.Key.size : Int) > 24 then .inr (.ret 2) else .inl ()
def chkH : List Op27 → Int
  | [] => 0
  | x :: r => if badKind x = true then 3 else if badTx x = true then 1 else if (x.Key.size : Int) > 24 then 2 else chkH r
def checkH (xs : List Op27) : Int := if (xs.length : Int) > 200 then 2 else chkH xs
theorem listForH : ∀ (xs : List Op27) (k : Nat), bindO (some (listFor (fun _ x (_ : Unit) => stepH x) (fun _ => (.go () : Out Unit Int)) xs k ())) (fun _ => some 0) = some (chkH xs)
  | [], _ => rfl
  | x :: xs, k => by
    unfold listFor stepH chkH
    by_cases h1 : badKind x = true
    · simp [h1]
    · by_cases h2 : badTx x = true
      · simp [h1, h2]
      · by_cases h3 : (x.Key.size : Int) > 24
        · simp [h1, h2, h3]
        · simp only [h1, h2, h3, if_false]
          exact listForH xs (k + 1)
theorem d18_eq {N : Nat} (hN : bigN N) {xs : List Op27} (hs : small xs) : d18 N xs = some (checkH xs) := by
  unfold d18 checkH
  by_cases hl : (xs.length : Int) > 200
  · rw [if_pos hl, if_pos hl]
  · rw [if_neg hl, if_neg hl, ← listForH xs 0]
    congr 1
    refine iter_list xs (fun (_ : Unit) (v : Int) => v) _ (fun _ x (_ : Unit) => stepH x) (fun _ => .go ()) (fun k x s hx hk => ?_) (fun s => ?_) (hs.lt hN) ()
    · rw [if_pos (by omega : (k : Int) < (xs.length : Int)), idx_nat hx]
      simp only [Option.bind_some]
      have e1 : (if (x.Kind != 1) = true then some (x.Kind != 2) else some false) = some (badKind x) := by
        unfold badKind
        cases x.Kind != 1 <;> simp
      have e2 : (if x.Tx < 0 then some true else some (decide (x.Tx ≥ 20))) = some (badTx x) := by
        unfold badTx
        by_cases h : x.Tx < 0 <;> simp [h]
      rw [e1, e2]
      unfold stepH
      simp only [Option.bind_some, chkI_succ hk hs]
      by_cases h1 : badKind x = true
      · simp [h1]
      · by_cases h2 : badTx x = true
        · simp [h1, h2]
        · by_cases h3 : (x.Key.size : Int) > 24
          · simp [h1, h2, h3]
          · simp [h1, h2, h3]
    · simp
theorem d39_eq (N : Nat) (a b c : Int) : d39 N a b c = some (decide (a ≥ b) && decide (a ≤ c)) := by
  unfold d39
  by_cases h : a ≥ b <;> simp [h]
theorem d12_eq {N : Nat} (hN : bigN N) {xs : List Op27} (hs : small xs) : d12 N xs = some (checkH xs) := by
  unfold d12 checkH
  by_cases hl : (xs.length : Int) > 200
  · rw [if_pos hl, if_pos hl]
  · rw [if_neg hl, if_neg hl, ← listForH xs 0]
    congr 1
    refine iter_list xs (fun (_ : Unit) (v : Int) => v) _ (fun _ x (_ : Unit) => stepH x) (fun _ => .go ()) (fun k x s hx hk => ?_) (fun s => ?_) (hs.lt hN) ()
    · rw [if_pos (by omega : (k : Int) < (xs.length : Int)), idx_nat hx]
      simp only [Option.bind_some, d39_eq]
      have e1 : (!(decide (x.Kind ≥ 1) && decide (x.Kind ≤ 2))) = badKind x := by
        unfold badKind
        rw [Bool.eq_iff_iff]
        simp
        omega
      have e2 : (!(decide (x.Tx ≥ 0) && decide (x.Tx ≤ 19))) = badTx x := by
        unfold badTx
        rw [Bool.eq_iff_iff]
        simp
        omega
      rw [e1, e2]
      unfold stepH
      simp only [chkI_succ hk hs]
      by_cases h1 : badKind x = true
      · simp [h1]
      · by_cases h2 : badTx x = true
        · simp [h1, h2]
        · by_cases h3 : (x.Key.size : Int) > 24
          · simp [h1, h2, h3]
          · simp [h1, h2, h3]
    · simp
theorem foldI_append {α : Type} : ∀ (xs : List α) (k : Nat) (s : List α), foldI (fun _ x s => s ++ [x]) xs k s = s ++ xs
  | [], _, s => by simp [foldI]
  | x :: xs, k, s => by rw [foldI, foldI_append xs]; simp
theorem d11_eq {N : Nat} (hN : bigN N) {xs : List Op27} (hz : xs.length * 32 ≤ reach) : d11 N xs = some xs := by
  have hs : small xs := by unfold small; unfold reach at hz; omega
  unfold d11
  have := iter_listI xs (fun (l : List Op27) (v : Int) => (l, v)) (fun ((l6, v7) : ((List S27) × Int)) =>
      if v7 < (xs.length : Int) then (idx xs v7).bind fun x22 => (appL 32 l6 [x22]).bind fun _ => (chkI (v7 + 1)).bind fun v25 => some (.inl ((l6 ++ [x22]), v25)) else some (.inr l6))
    (fun _ x l => .inl (l ++ [x])) (fun l => l) (fun k l => l.length = k) (fun k x s hx hk hv => ?_) (fun k x s s' hx hk hv hb => ?_) (fun s hv => ?_) (hs.lt hN) [] rfl
  · rw [this, listFor_fold, foldI_append]
    simp
  · simp only []
    rw [if_pos (by omega : (k : Int) < (xs.length : Int)), idx_nat hx, Option.bind_some,
      appL_of (by simp only [List.length_cons, List.length_nil]; rw [hv]; exact Nat.le_trans (Nat.mul_le_mul_right 32 (by omega)) hz), Option.bind_some, chkI_succ hk hs, Option.bind_some]
  · injection hb with hb
    rw [← hb]; simp [hv]
  · simp
theorem len_of {xs : List Op27} (h : checkH xs = 0) : xs.length ≤ 200 := by
  unfold checkH at h
  split at h
  · omega
  · omega
theorem kind_of {xs : List Op27} (h : checkH xs = 0) : ∀ x ∈ xs, badKind x = false := by
  unfold checkH at h
  split at h
  · omega
  · have key : ∀ (xs : List Op27), chkH xs = 0 → ∀ x ∈ xs, badKind x = false := by
      intro xs
      induction xs with
      | nil => intro _ t ht; cases ht
      | cons x xs ih =>
        intro hc t ht
        unfold chkH at hc
        split at hc
        · omega
        · rename_i h1
          split at hc
          · omega
          · split at hc
            · omega
            · rcases List.mem_cons.1 ht with rfl | ht
              · simpa using h1
              · exact ih hc t ht
    exact key xs h

theorem tx_of {xs : List Op27} (h : checkH xs = 0) : ∀ x ∈ xs, 0 ≤ x.Tx ∧ x.Tx < 20 := by
  unfold checkH at h
  split at h
  · omega
  · have key : ∀ (xs : List Op27), chkH xs = 0 → ∀ x ∈ xs, 0 ≤ x.Tx ∧ x.Tx < 20 := by
      intro xs
      induction xs with
      | nil => intro _ t ht; cases ht
      | cons x xs ih =>
        intro hc t ht
        unfold chkH at hc
        split at hc
        · omega
        · split at hc
          · omega
          · rename_i h1
            split at hc
            · omega
            · rcases List.mem_cons.1 ht with rfl | ht
              · simp [badTx] at h1
                omega
              · exact ih hc t ht
    exact key xs h
end Go.Proofs.Ytabjbkdlacibjaa
