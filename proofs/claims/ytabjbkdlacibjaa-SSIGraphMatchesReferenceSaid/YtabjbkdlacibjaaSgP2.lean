/- The functional programs of SSIGraph: checks, the graph. Plain lists. -/
import Derived.Test.YtabjbkdlacibjaaSgP1
import Derived.Test.YtabjbkdlacibjaaSg7
namespace Go.Proofs.Ytabjbkdlacibjaa
open Go.Ab Go.Rp

def badLen (t : Tx) : Bool := decide ((t.Reads.length : Int) > 12) || decide ((t.Writes.length : Int) > 12)
def badTime (t : Tx) : Bool := decide (t.Start < 0) || (decide (t.Commit > 1099511627776) || decide (t.Start ≥ t.Commit))
def chk : Int → List Tx → Int
  | _, [] => 0
  | last, t :: r => if badLen t = true then 2 else if badTime t = true then 1 else if t.Commit ≤ last then 6 else chk t.Commit r
def checkT (txs : List Tx) : Int := if (txs.length : Int) > 40 then 2 else chk (-1) txs

theorem chkI_succ {k n : Nat} (h : k < n) (hs : n < 9223372036854775807) : chkI ((k : Int) + 1) = some ((k : Int) + 1) := chkI_of (by omega) (by omega)

def step37 (t : Tx) (last : Int) : Int ⊕ Out Unit Int :=
  if badLen t = true then .inr (.ret 2) else if badTime t = true then .inr (.ret 1) else if t.Commit ≤ last then .inr (.ret 6) else .inl t.Commit
theorem listFor37 : ∀ (xs : List Tx) (k : Nat) (last : Int), bindO (some (listFor (fun _ t last => step37 t last) (fun _ => (.go () : Out Unit Int)) xs k last)) (fun _ => some 0) = some (chk last xs)
  | [], _, _ => rfl
  | t :: xs, k, last => by
    unfold listFor step37 chk
    by_cases h1 : badLen t = true
    · simp [h1]
    · by_cases h2 : badTime t = true
      · simp [h1, h2]
      · by_cases h3 : t.Commit ≤ last
        · simp [h1, h2, h3]
        · simp only [h1, h2, h3, if_false]
          exact listFor37 xs (k + 1) t.Commit

theorem d37_eq {N : Nat} (hN : bigN N) {xs : List Tx} (hs : small xs) : d37 N xs = some (checkT xs) := by
  unfold d37 checkT
  by_cases hl : (xs.length : Int) > 40
  · rw [if_pos hl, if_pos hl]
  · rw [if_neg hl, if_neg hl, ← listFor37 xs 0 (-1)]
    congr 1
    refine iter_list xs (fun (last : Int) (v : Int) => (last, v)) _ (fun _ t last => step37 t last) (fun _ => .go ()) (fun k x s hx hk => ?_) (fun s => ?_) (hs.lt hN) (-1)
    · have hlt : (k : Int) < (xs.length : Int) := by omega
      simp only []
      rw [if_pos hlt, idx_nat hx]
      simp only [Option.bind_some]
      unfold step37
      have e1 : (if (x.Reads.length : Int) > 12 then some true else some (decide ((x.Writes.length : Int) > 12))) = some (badLen x) := by
        unfold badLen
        by_cases h : (x.Reads.length : Int) > 12 <;> simp [h]
      have e2 : (if x.Start < 0 then some true else if x.Commit > 1099511627776 then some true else some (decide (x.Commit ≤ x.Start))) = some (badTime x) := by
        unfold badTime
        by_cases h : x.Start < 0
        · simp [h]
        · by_cases h2 : x.Commit > 1099511627776 <;> simp [h, h2]
      rw [e1, e2]
      simp only [Option.bind_some, chkI_succ hk hs]
      by_cases h1 : badLen x = true
      · simp [h1]
      · by_cases h2 : badTime x = true
        · simp [h1, h2]
        · by_cases h3 : x.Commit ≤ s
          · simp [h1, h2, h3]
          · simp [h1, h2, h3]
    · simp

def step38 (txs : List Tx) (k : Nat) (t : Tx) : Unit ⊕ Out Unit Int :=
  if badLen t = true then .inr (.ret 2) else if badTime t = true then .inr (.ret 1) else if (match txs[k - 1]? with | some p => decide (0 < k) && decide (p.Commit ≥ t.Commit) | none => false) = true then .inr (.ret 6) else .inl ()
theorem listFor38 (txs : List Tx) : ∀ (xs : List Tx) (k : Nat) (last : Int), txs.drop k = xs → ((k = 0 ∧ last = -1) ∨ ∃ p, 0 < k ∧ txs[k - 1]? = some p ∧ last = p.Commit) →
    bindO (some (listFor (fun k t (_ : Unit) => step38 txs k t) (fun _ => (.go () : Out Unit Int)) xs k ())) (fun _ => some 0) = some (chk last xs)
  | [], _, _, _, _ => rfl
  | t :: xs, k, last, hd, hl => by
    have hk : k < txs.length := by
      apply Classical.byContradiction
      intro h
      rw [List.drop_eq_nil_of_le (by omega)] at hd
      cases hd
    have htk : txs[k]? = some t := by
      rw [List.getElem?_eq_getElem hk]
      rw [List.drop_eq_getElem_cons hk] at hd
      injection hd with h1 h2
      rw [h1]
    have hd2 : txs.drop (k + 1) = xs := by
      rw [List.drop_eq_getElem_cons hk] at hd
      injection hd with h1 h2
    unfold listFor step38 chk
    by_cases h1 : badLen t = true
    · simp [h1]
    · by_cases h2 : badTime t = true
      · simp [h1, h2]
      · have e3 : (match txs[k - 1]? with | some p => decide (0 < k) && decide (p.Commit ≥ t.Commit) | none => false) = decide (t.Commit ≤ last) := by
          rcases hl with ⟨rfl, rfl⟩ | ⟨p, hk0, hp, rfl⟩
          · have hb : ¬ t.Commit ≤ -1 := by
              simp [badTime] at h2
              omega
            cases txs[0 - 1]? <;> simp [hb]
          · rw [hp]
            simp [hk0]
        rw [e3]
        by_cases h3 : t.Commit ≤ last
        · simp [h1, h2, h3]
        · simp only [h1, h2, h3, if_false, decide_false, Bool.false_eq_true]
          exact listFor38 txs xs (k + 1) t.Commit hd2 (.inr ⟨t, by omega, by simpa using htk, rfl⟩)

theorem d38_eq {N : Nat} (hN : bigN N) {xs : List Tx} (hs : small xs) : d38 N xs = some (checkT xs) := by
  unfold d38 checkT
  by_cases hl : (xs.length : Int) > 40
  · rw [if_pos hl, if_pos hl]
  · rw [if_neg hl, if_neg hl, ← listFor38 xs xs 0 (-1) rfl (.inl ⟨rfl, rfl⟩)]
    congr 1
    refine iter_list xs (fun (_ : Unit) (v : Int) => v) _ (fun k t (_ : Unit) => step38 xs k t) (fun _ => .go ()) (fun k x s hx hk => ?_) (fun s => ?_) (hs.lt hN) ()
    · have hlt : (k : Int) < (xs.length : Int) := by omega
      rw [if_pos hlt, idx_nat hx]
      simp only [Option.bind_some]
      unfold step38
      have e1 : (if (x.Reads.length : Int) > 12 then some true else some (decide ((x.Writes.length : Int) > 12))) = some (badLen x) := by
        unfold badLen
        by_cases h : (x.Reads.length : Int) > 12 <;> simp [h]
      have e2 : (if x.Start < 0 then some true else if x.Commit > 1099511627776 then some true else some (decide (x.Start ≥ x.Commit))) = some (badTime x) := by
        unfold badTime
        by_cases h : x.Start < 0
        · simp [h]
        · by_cases h2 : x.Commit > 1099511627776 <;> simp [h, h2]
      have e3 : (if (k : Int) > 0 then (chkI ((k : Int) - 1)).bind fun v95 => (idx xs v95).bind fun x96 => some (decide (x96.Commit ≥ x.Commit)) else some false) = some (match xs[k - 1]? with | some p => decide (0 < k) && decide (p.Commit ≥ x.Commit) | none => false) := by
        by_cases hk0 : 0 < k
        · have hk1 : k - 1 < xs.length := by omega
          have hc : ((k : Int) - 1) = ((k - 1 : Nat) : Int) := by omega
          unfold small at hs
          rw [if_pos (by omega), hc, chkI_of (by omega) (by omega)]
          simp only [Option.bind_some]
          rw [idx_nat (List.getElem?_eq_getElem hk1), List.getElem?_eq_getElem hk1]
          simp [hk0]
        · have : k = 0 := by omega
          subst this
          rw [if_neg (by omega)]
          cases xs[0 - 1]? <;> simp
      rw [e1, e2, e3]
      simp only [Option.bind_some, chkI_succ hk hs]
      by_cases h1 : badLen x = true
      · simp [h1]
      · by_cases h2 : badTime x = true
        · simp [h1, h2]
        · simp only [h1, h2, if_false, Bool.false_eq_true]
          generalize (match xs[k - 1]? with | some p => decide (0 < k) && decide (p.Commit ≥ x.Commit) | none => false) = q
          cases q <;> simp
    · simp

theorem foldI_append {α : Type} : ∀ (xs : List α) (k : Nat) (s : List α), foldI (fun _ x s => s ++ [x]) xs k s = s ++ xs
  | [], _, s => by simp [foldI]
  | x :: xs, k, s => by rw [foldI, foldI_append xs]; simp
theorem d34_eq {N : Nat} (hN : bigN N) {xs : List Tx} (hz : xs.length * 64 ≤ reach) : d34 N xs = some xs := by
  have hs : small xs := by unfold small; unfold reach at hz; omega
  unfold d34
  have := iter_listI xs (fun (l : List Tx) (v : Int) => (l, v)) (fun ((l6, v7) : ((List S105) × Int)) =>
      if v7 < (xs.length : Int) then (idx xs v7).bind fun x22 => (appL 64 l6 [x22]).bind fun _ => (chkI (v7 + 1)).bind fun v25 => some (.inl ((l6 ++ [x22]), v25)) else some (.inr l6))
    (fun _ x l => .inl (l ++ [x])) (fun l => l) (fun k l => l.length = k) (fun k x s hx hk hv => ?_) (fun k x s s' hx hk hv hb => ?_) (fun s hv => ?_) (hs.lt hN) [] rfl
  · rw [this, listFor_fold, foldI_append]
    simp
  · have hlt : (k : Int) < (xs.length : Int) := by omega
    simp only []
    rw [if_pos hlt, idx_nat hx]
    simp only [Option.bind_some]
    rw [appL_of (by simp only [List.length_cons, List.length_nil]; rw [hv]; exact Nat.le_trans (Nat.mul_le_mul_right 64 (by omega)) hz)]
    simp only [Option.bind_some, chkI_succ hk hs]
  · injection hb with hb
    rw [← hb]; simp [hv]
  · simp

theorem okTx_of {xs : List Tx} (h : checkT xs = 0) : ∀ t ∈ xs, okTx t := by
  unfold checkT at h
  split at h
  · omega
  · have key : ∀ (xs : List Tx) (last : Int), chk last xs = 0 → ∀ t ∈ xs, okTx t := by
      intro xs
      induction xs with
      | nil => intro _ _ t ht; cases ht
      | cons x xs ih =>
        intro last hc t ht
        unfold chk at hc
        split at hc
        · omega
        · rename_i h1
          split at hc
          · omega
          · split at hc
            · omega
            · rcases List.mem_cons.1 ht with rfl | ht
              · simp [badLen] at h1
                unfold okTx small
                omega
              · exact ih _ hc t ht
    exact key xs _ h
theorem len_of {xs : List Tx} (h : checkT xs = 0) : xs.length ≤ 40 := by
  unfold checkT at h
  split at h
  · omega
  · omega
end Go.Proofs.Ytabjbkdlacibjaa
