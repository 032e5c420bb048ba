/- The functional programs of ReadsFrom: checks, sources. Plain lists. -/
import Derived.Test.YtabjbkdlacibjaaRf6
namespace Go.Proofs.Ytabjbkdlacibjaa
open Go.Ab Go.Rp

abbrev Op27 := S27
def small {α : Type} (xs : List α) : Prop := xs.length < 9223372036854775807
theorem small.lt {α : Type} {xs : List α} (h : small xs) {N : Nat} (hN : bigN N) : xs.length < N := by
  unfold small at h
  exact Nat.lt_of_lt_of_le (Nat.lt_succ_of_lt h) hN
theorem chkI_succ {k n : Nat} (h : k < n) (hs : n < 9223372036854775807) : chkI ((k : Int) + 1) = some ((k : Int) + 1) := chkI_of (by omega) (by omega)
theorem getAt {α : Type} {xs : List α} {k : Nat} (h : k < xs.length) : ∃ x, xs[k]? = some x := ⟨xs[k], List.getElem?_eq_getElem h⟩

/-! ### the check of a history -/
def badKind (x : Op27) : Bool := (x.Kind != 1) && (x.Kind != 2)
def badTx (x : Op27) : Bool := decide (x.Tx < 0) || decide (x.Tx ≥ 20)
def stepH (x : Op27) : Unit ⊕ Out Unit Int :=
  if badKind x = true then .inr (.ret 3) else if badTx x = true then .inr (.ret 1) else if (x.Key.size : Int) > 24 then .inr (.ret 2) else .inl ()
def chkH : List Op27 → Int
  | [] => 0
  | x :: r => if badKind x = true then 3 else if badTx x = true then 1 else if (x.Key.size : Int) > 24 then 2 else chkH r
def checkH (xs : List Op27) : Int := if (xs.length : Int) > 200 then 2 else chkH xs
theorem listForH : ∀ (xs : List Op27) (k : Nat), bindO (some (listFor (fun _ x (_ : Unit) => stepH x) (fun _ => (.go () : Out Unit Int)) xs k ())) (fun _ => some 0) = some (chkH xs)
  | [], _ => rfl
  | x :: xs, k => by
    unfold listFor stepH chkH
    by_cases h1 : badKind x = true
    · simp [h1]
    · by_cases h2 : badTx x = true
      · simp [h1, h2]
      · by_cases h3 : (x.Key.size : Int) > 24
        · simp [h1, h2, h3]
        · simp only [h1, h2, h3, if_false]
          exact listForH xs (k + 1)
theorem d18_eq {N : Nat} (hN : bigN N) {xs : List Op27} (hs : small xs) : d18 N xs = some (checkH xs) := by
  unfold d18 checkH
  by_cases hl : (xs.length : Int) > 200
  · rw [if_pos hl, if_pos hl]
  · rw [if_neg hl, if_neg hl, ← listForH xs 0]
    congr 1
    refine iter_list xs (fun (_ : Unit) (v : Int) => v) _ (fun _ x (_ : Unit) => stepH x) (fun _ => .go ()) (fun k x s hx hk => ?_) (fun s => ?_) (hs.lt hN) ()
    · rw [if_pos (by omega : (k : Int) < (xs.length : Int)), idx_nat hx]
      simp only [Option.bind_some]
      have e1 : (if (x.Kind != 1) = true then some (x.Kind != 2) else some false) = some (badKind x) := by
        unfold badKind
        cases x.Kind != 1 <;> simp
      have e2 : (if x.Tx < 0 then some true else some (decide (x.Tx ≥ 20))) = some (badTx x) := by
        unfold badTx
        by_cases h : x.Tx < 0 <;> simp [h]
      rw [e1, e2]
      unfold stepH
      simp only [Option.bind_some, chkI_succ hk hs]
      by_cases h1 : badKind x = true
      · simp [h1]
      · by_cases h2 : badTx x = true
        · simp [h1, h2]
        · by_cases h3 : (x.Key.size : Int) > 24
          · simp [h1, h2, h3]
          · simp [h1, h2, h3]
    · simp
theorem d39_eq (N : Nat) (a b c : Int) : d39 N a b c = some (decide (a ≥ b) && decide (a ≤ c)) := by
  unfold d39
  by_cases h : a ≥ b <;> simp [h]
theorem d12_eq {N : Nat} (hN : bigN N) {xs : List Op27} (hs : small xs) : d12 N xs = some (checkH xs) := by
  unfold d12 checkH
  by_cases hl : (xs.length : Int) > 200
  · rw [if_pos hl, if_pos hl]
  · rw [if_neg hl, if_neg hl, ← listForH xs 0]
    congr 1
    refine iter_list xs (fun (_ : Unit) (v : Int) => v) _ (fun _ x (_ : Unit) => stepH x) (fun _ => .go ()) (fun k x s hx hk => ?_) (fun s => ?_) (hs.lt hN) ()
    · rw [if_pos (by omega : (k : Int) < (xs.length : Int)), idx_nat hx]
      simp only [Option.bind_some, d39_eq]
      have e1 : (!(decide (x.Kind ≥ 1) && decide (x.Kind ≤ 2))) = badKind x := by
        unfold badKind
        rw [Bool.eq_iff_iff]
        simp
        omega
      have e2 : (!(decide (x.Tx ≥ 0) && decide (x.Tx ≤ 19))) = badTx x := by
        unfold badTx
        rw [Bool.eq_iff_iff]
        simp
        omega
      rw [e1, e2]
      unfold stepH
      simp only [chkI_succ hk hs]
      by_cases h1 : badKind x = true
      · simp [h1]
      · by_cases h2 : badTx x = true
        · simp [h1, h2]
        · by_cases h3 : (x.Key.size : Int) > 24
          · simp [h1, h2, h3]
          · simp [h1, h2, h3]
    · simp
theorem foldI_append {α : Type} : ∀ (xs : List α) (k : Nat) (s : List α), foldI (fun _ x s => s ++ [x]) xs k s = s ++ xs
  | [], _, s => by simp [foldI]
  | x :: xs, k, s => by rw [foldI, foldI_append xs]; simp
theorem d11_eq {N : Nat} (hN : bigN N) {xs : List Op27} (hz : xs.length * 32 ≤ reach) : d11 N xs = some xs := by
  have hs : small xs := by unfold small; unfold reach at hz; omega
  unfold d11
  have := iter_listI xs (fun (l : List Op27) (v : Int) => (l, v)) (fun ((l6, v7) : ((List S27) × Int)) =>
      if v7 < (xs.length : Int) then (idx xs v7).bind fun x22 => (appL 32 l6 [x22]).bind fun _ => (chkI (v7 + 1)).bind fun v25 => some (.inl ((l6 ++ [x22]), v25)) else some (.inr l6))
    (fun _ x l => .inl (l ++ [x])) (fun l => l) (fun k l => l.length = k) (fun k x s hx hk hv => ?_) (fun k x s s' hx hk hv hb => ?_) (fun s hv => ?_) (hs.lt hN) [] rfl
  · rw [this, listFor_fold, foldI_append]
    simp
  · simp only []
    rw [if_pos (by omega : (k : Int) < (xs.length : Int)), idx_nat hx, Option.bind_some,
      appL_of (by simp only [List.length_cons, List.length_nil]; rw [hv]; exact Nat.le_trans (Nat.mul_le_mul_right 32 (by omega)) hz), Option.bind_some, chkI_succ hk hs, Option.bind_some]
  · injection hb with hb
    rw [← hb]; simp [hv]
  · simp
theorem len_of {xs : List Op27} (h : checkH xs = 0) : xs.length ≤ 200 := by
  unfold checkH at h
  split at h
  · omega
  · omega
theorem kind_of {xs : List Op27} (h : checkH xs = 0) : ∀ x ∈ xs, badKind x = false := by
  unfold checkH at h
  split at h
  · omega
  · have key : ∀ (xs : List Op27), chkH xs = 0 → ∀ x ∈ xs, badKind x = false := by
      intro xs
      induction xs with
      | nil => intro _ t ht; cases ht
      | cons x xs ih =>
        intro hc t ht
        unfold chkH at hc
        split at hc
        · omega
        · rename_i h1
          split at hc
          · omega
          · split at hc
            · omega
            · rcases List.mem_cons.1 ht with rfl | ht
              · simpa using h1
              · exact ih hc t ht
    exact key xs h

/-! ### sources -/
/-- the last write of a key among the first k -/
def lastTo (xs : List Op27) (key : ByteArray) : Nat → Int
  | 0 => -1
  | k + 1 => match xs[k]? with
    | some x => if (x.Kind == 2 && decide (x.Key = key)) = true then (k : Int) else lastTo xs key k
    | none => lastTo xs key k
theorem lastTo_lt (xs : List Op27) (key : ByteArray) : ∀ k, -1 ≤ lastTo xs key k ∧ lastTo xs key k < k
  | 0 => by simp [lastTo]
  | k + 1 => by
    have := lastTo_lt xs key k
    unfold lastTo
    split
    · split <;> omega
    · omega
def srcAt (xs : List Op27) (k : Nat) : Int := match xs[k]? with
  | some x => if (x.Kind == 1) = true then lastTo xs x.Key k else -1
  | none => -1
def srcsTo (xs : List Op27) : Nat → List Int
  | 0 => []
  | k + 1 => srcsTo xs k ++ [srcAt xs k]
theorem srcsTo_len (xs : List Op27) : ∀ k, (srcsTo xs k).length = k
  | 0 => rfl
  | k + 1 => by simp [srcsTo, srcsTo_len xs k]
theorem foldI_last (xs : List Op27) (key : ByteArray) : ∀ (ys : List Op27) (k : Nat), (∀ j y, ys[j]? = some y → xs[k + j]? = some y) →
    foldI (fun j y s => if (y.Kind == 2 && decide (y.Key = key)) = true then (j : Int) else s) ys k (lastTo xs key k) = lastTo xs key (k + ys.length)
  | [], k, _ => rfl
  | y :: ys, k, h => by
    have h0 : xs[k]? = some y := by simpa using h 0 y rfl
    have := foldI_last xs key ys (k + 1) (fun j z hz => by
      have := h (j + 1) z (by simpa using hz)
      rw [show k + 1 + j = k + (j + 1) by omega]; exact this)
    rw [List.length_cons, show k + (ys.length + 1) = k + 1 + ys.length by omega, ← this, foldI]
    congr 1
    conv => rhs; rw [lastTo, h0]

theorem d25_eq {N : Nat} (hN : bigN N) {xs : List Op27} (hs : small xs) : d25 N xs = some (if checkH xs ≠ 0 then ([], checkH xs) else (srcsTo xs xs.length, 0)) := by
  unfold d25
  rw [d18_eq hN hs]
  simp only [Option.bind_some]
  by_cases hc : checkH xs = 0
  · rw [if_neg (show ¬ ((checkH xs != 0) = true) by simp [hc]), if_neg (show ¬ (checkH xs ≠ 0) by simp [hc])]
    have h200 := len_of hc
    have hloop := iter_listI xs (fun (l : List Int) (v : Int) => (l, v)) (fun ((l53, v54) : ((List Int) × Int)) =>
        if v54 < (xs.length : Int) then (idx xs v54).bind fun x161 =>
          if (x161.Kind == 1) = true then (natI v54 xs.length).bind fun n164 => letv (xs.take n164) fun l165 =>
            Option.bind (α := Int) (iterN (σ := (Int × Int)) (ρ := Int) (fun ((v175, v176) : (Int × Int)) =>
              if v176 < (l165.length : Int) then (idx l165 v176).bind fun x199 =>
                Option.bind (α := Bool) (if (x199.Kind == 2) = true then some (decide (x199.Key = x161.Key)) else some false) fun (v202 : Bool) =>
                if v202 = true then (chkI (v176 + 1)).bind fun v205 => some (.inl (v176, v205)) else (chkI (v176 + 1)).bind fun v206 => some (.inl (v175, v206))
              else some (.inr v175)) N ((-1), 0)) fun (v197 : Int) =>
            (appL 8 l53 [v197]).bind fun _ => (chkI ((n164 : Int) + 1)).bind fun v208 => some (.inl ((l53 ++ [v197]), v208))
          else (appL 8 l53 [(-1)]).bind fun _ => (chkI (v54 + 1)).bind fun v210 => some (.inl ((l53 ++ [(-1)]), v210))
        else some (.inr l53))
      (fun k _ l => .inl (l ++ [srcAt xs k])) (fun l => l) (fun k l => l.length = k) (fun k x s hx hk hv => ?_) (fun k x s s' hx hk hv hb => ?_) (fun s hv => ?_) (hs.lt hN) [] rfl
    · have hf : ∀ (ys : List Op27) (k : Nat), foldI (fun k (_ : Op27) l => l ++ [srcAt xs k]) ys k (srcsTo xs k) = srcsTo xs (k + ys.length) := by
        intro ys
        induction ys with
        | nil => intro k; rfl
        | cons y ys ih =>
          intro k
          rw [foldI, List.length_cons, show k + (ys.length + 1) = k + 1 + ys.length by omega]
          exact ih (k + 1)
      have h0 : foldI (fun k (_ : Op27) l => l ++ [srcAt xs k]) xs 0 [] = srcsTo xs xs.length := by
        have := hf xs 0
        rwa [Nat.zero_add] at this
      rw [listFor_fold, h0] at hloop
      exact congrArg (fun o => Option.bind o fun (l159 : List Int) => some (l159, (0 : Int))) hloop
    · simp only []
      have hb : (s.length + 1) * 8 ≤ reach := Nat.le_trans (Nat.mul_le_mul_right 8 (show s.length + 1 ≤ 201 by omega)) (by decide)
      rw [if_pos (by omega : (k : Int) < (xs.length : Int)), idx_nat hx, Option.bind_some]
      have hsrc : srcAt xs k = if (x.Kind == 1) = true then lastTo xs x.Key k else -1 := by unfold srcAt; rw [hx]
      rw [hsrc]
      by_cases hk1 : (x.Kind == 1) = true
      · rw [if_pos hk1, if_pos hk1, natI_nat (by omega), Option.bind_some, letv_eq]
        have hin := iter_list (xs.take k) (fun (b : Int) (v : Int) => (b, v)) (fun ((v175, v176) : (Int × Int)) =>
            if v176 < ((xs.take k).length : Int) then (idx (xs.take k) v176).bind fun x199 =>
              Option.bind (α := Bool) (if (x199.Kind == 2) = true then some (decide (x199.Key = x.Key)) else some false) fun (v202 : Bool) =>
              if v202 = true then (chkI (v176 + 1)).bind fun v205 => some (.inl (v176, v205)) else (chkI (v176 + 1)).bind fun v206 => some (.inl (v175, v206))
            else some (.inr v175))
          (fun j y s => .inl (if (y.Kind == 2 && decide (y.Key = x.Key)) = true then (j : Int) else s)) (fun b => b) (fun j y s hy hj => ?_) (fun s => ?_) (n := N) (by rw [List.length_take]; unfold bigN at hN; omega) (-1)
        · rw [listFor_fold] at hin
          have hl := foldI_last xs x.Key (xs.take k) 0 (fun j y hy => by
            rw [List.getElem?_take] at hy
            rw [Nat.zero_add]
            split at hy
            · exact hy
            · cases hy)
          rw [show lastTo xs x.Key 0 = -1 from rfl, List.length_take, Nat.min_eq_left (by omega), Nat.zero_add] at hl
          rw [hl] at hin
          rw [hin, Option.bind_some, appL_of (by simpa using hb), Option.bind_some, chkI_succ hk hs, Option.bind_some]
        · have hjk : j < (xs.take k).length := hj
          simp only []
          rw [if_pos (by omega : (j : Int) < ((xs.take k).length : Int)), idx_nat hy, Option.bind_some]
          have hjj : chkI ((j : Int) + 1) = some ((j : Int) + 1) := chkI_succ hjk (by rw [List.length_take]; unfold small at hs; omega)
          rw [hjj]
          cases y.Kind == 2 <;> by_cases hkey : y.Key = x.Key <;> simp [hkey]
        · simp
      · rw [if_neg hk1, if_neg hk1, appL_of (by simpa using hb), Option.bind_some, chkI_succ hk hs, Option.bind_some]
    · injection hb with hb
      rw [← hb]; simp [hv]
    · simp
  · rw [if_pos (show (checkH xs != 0) = true by simp [hc]), if_pos (show checkH xs ≠ 0 from hc)]
end Go.Proofs.Ytabjbkdlacibjaa
