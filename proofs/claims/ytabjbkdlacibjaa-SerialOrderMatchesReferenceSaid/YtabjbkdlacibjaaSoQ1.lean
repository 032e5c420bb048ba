/- The functional programs: checks of a history. Plain lists. Conflicts: the matrix, the transactions, the pairs. Plain lists. The functional programs of SSIGraph: topological orders. Plain lists. The functional program of SerialOrder: the order. Plain lists. -/
import Derived.Test.YtabjbkdlacibjaaSo8
namespace Go.Proofs.Ytabjbkdlacibjaa
open Go.Ab Go.Rp

abbrev Op27 := S27
def small {α : Type} (xs : List α) : Prop := xs.length < 9223372036854775807
theorem small.lt {α : Type} {xs : List α} (h : small xs) {N : Nat} (hN : bigN N) : xs.length < N := by
  unfold small at h
  exact Nat.lt_of_lt_of_le (Nat.lt_succ_of_lt h) hN
theorem chkI_succ {k n : Nat} (h : k < n) (hs : n < 9223372036854775807) : chkI ((k : Int) + 1) = some ((k : Int) + 1) := chkI_of (by omega) (by omega)
theorem getAt {α : Type} {xs : List α} {k : Nat} (h : k < xs.length) : ∃ x, xs[k]? = some x := ⟨xs[k], List.getElem?_eq_getElem h⟩

/-! ### the check of a history -/
def badKind (x : Op27) : Bool := (x.Kind != 1) && (x.Kind != 2)
def badTx (x : Op27) : Bool := decide (x.Tx < 0) || decide (x.Tx ≥ 20)
def stepH (x : Op27) : Unit ⊕ Out Unit Int :=
  if badKind x = true then .inr (.ret 3) else if badTx x = true then .inr (.ret 1) else if (x.Key.size : Int) > 24 then .inr (.ret 2) else .inl ()
def chkH : List Op27 → Int
  | [] => 0
  | x :: r => if badKind x = true then 3 else if badTx x = true then 1 else if (x.Key.size : Int) > 24 then 2 else chkH r
def checkH (xs : List Op27) : Int := if (xs.length : Int) > 200 then 2 else chkH xs
theorem listForH : ∀ (xs : List Op27) (k : Nat), bindO (some (listFor (fun _ x (_ : Unit) => stepH x) (fun _ => (.go () : Out Unit Int)) xs k ())) (fun _ => some 0) = some (chkH xs)
  | [], _ => rfl
  | x :: xs, k => by
    unfold listFor stepH chkH
    by_cases h1 : badKind x = true
    · simp [h1]
    · by_cases h2 : badTx x = true
      · simp [h1, h2]
      · by_cases h3 : (x.Key.size : Int) > 24
        · simp [h1, h2, h3]
        · simp only [h1, h2, h3, if_false]
          exact listForH xs (k + 1)
theorem d18_eq {N : Nat} (hN : bigN N) {xs : List Op27} (hs : small xs) : d18 N xs = some (checkH xs) := by
  unfold d18 checkH
  by_cases hl : (xs.length : Int) > 200
  · rw [if_pos hl, if_pos hl]
  · rw [if_neg hl, if_neg hl, ← listForH xs 0]
    congr 1
    refine iter_list xs (fun (_ : Unit) (v : Int) => v) _ (fun _ x (_ : Unit) => stepH x) (fun _ => .go ()) (fun k x s hx hk => ?_) (fun s => ?_) (hs.lt hN) ()
    · rw [if_pos (by omega : (k : Int) < (xs.length : Int)), idx_nat hx]
      simp only [Option.bind_some]
      have e1 : (if (x.Kind != 1) = true then some (x.Kind != 2) else some false) = some (badKind x) := by
        unfold badKind
        cases x.Kind != 1 <;> simp
      have e2 : (if x.Tx < 0 then some true else some (decide (x.Tx ≥ 20))) = some (badTx x) := by
        unfold badTx
        by_cases h : x.Tx < 0 <;> simp [h]
      rw [e1, e2]
      unfold stepH
      simp only [Option.bind_some, chkI_succ hk hs]
      by_cases h1 : badKind x = true
      · simp [h1]
      · by_cases h2 : badTx x = true
        · simp [h1, h2]
        · by_cases h3 : (x.Key.size : Int) > 24
          · simp [h1, h2, h3]
          · simp [h1, h2, h3]
    · simp
theorem d39_eq (N : Nat) (a b c : Int) : d39 N a b c = some (decide (a ≥ b) && decide (a ≤ c)) := by
  unfold d39
  by_cases h : a ≥ b <;> simp [h]
theorem d12_eq {N : Nat} (hN : bigN N) {xs : List Op27} (hs : small xs) : d12 N xs = some (checkH xs) := by
  unfold d12 checkH
  by_cases hl : (xs.length : Int) > 200
  · rw [if_pos hl, if_pos hl]
  · rw [if_neg hl, if_neg hl, ← listForH xs 0]
    congr 1
    refine iter_list xs (fun (_ : Unit) (v : Int) => v) _ (fun _ x (_ : Unit) => stepH x) (fun _ => .go ()) (fun k x s hx hk => ?_) (fun s => ?_) (hs.lt hN) ()
    · rw [if_pos (by omega : (k : Int) < (xs.length : Int)), idx_nat hx]
      simp only [Option.bind_some, d39_eq]
      have e1 : (!(decide (x.Kind ≥ 1) && decide (x.Kind ≤ 2))) = badKind x := by
        unfold badKind
        rw [Bool.eq_iff_iff]
        simp
        omega
      have e2 : (!(decide (x.Tx ≥ 0) && decide (x.Tx ≤ 19))) = badTx x := by
        unfold badTx
        rw [Bool.eq_iff_iff]
        simp
        omega
      rw [e1, e2]
      unfold stepH
      simp only [chkI_succ hk hs]
      by_cases h1 : badKind x = true
      · simp [h1]
      · by_cases h2 : badTx x = true
        · simp [h1, h2]
        · by_cases h3 : (x.Key.size : Int) > 24
          · simp [h1, h2, h3]
          · simp [h1, h2, h3]
    · simp
theorem foldI_append {α : Type} : ∀ (xs : List α) (k : Nat) (s : List α), foldI (fun _ x s => s ++ [x]) xs k s = s ++ xs
  | [], _, s => by simp [foldI]
  | x :: xs, k, s => by rw [foldI, foldI_append xs]; simp
theorem d11_eq {N : Nat} (hN : bigN N) {xs : List Op27} (hz : xs.length * 32 ≤ reach) : d11 N xs = some xs := by
  have hs : small xs := by unfold small; unfold reach at hz; omega
  unfold d11
  have := iter_listI xs (fun (l : List Op27) (v : Int) => (l, v)) (fun ((l6, v7) : ((List S27) × Int)) =>
      if v7 < (xs.length : Int) then (idx xs v7).bind fun x22 => (appL 32 l6 [x22]).bind fun _ => (chkI (v7 + 1)).bind fun v25 => some (.inl ((l6 ++ [x22]), v25)) else some (.inr l6))
    (fun _ x l => .inl (l ++ [x])) (fun l => l) (fun k l => l.length = k) (fun k x s hx hk hv => ?_) (fun k x s s' hx hk hv hb => ?_) (fun s hv => ?_) (hs.lt hN) [] rfl
  · rw [this, listFor_fold, foldI_append]
    simp
  · simp only []
    rw [if_pos (by omega : (k : Int) < (xs.length : Int)), idx_nat hx, Option.bind_some,
      appL_of (by simp only [List.length_cons, List.length_nil]; rw [hv]; exact Nat.le_trans (Nat.mul_le_mul_right 32 (by omega)) hz), Option.bind_some, chkI_succ hk hs, Option.bind_some]
  · injection hb with hb
    rw [← hb]; simp [hv]
  · simp
theorem len_of {xs : List Op27} (h : checkH xs = 0) : xs.length ≤ 200 := by
  unfold checkH at h
  split at h
  · omega
  · omega
theorem kind_of {xs : List Op27} (h : checkH xs = 0) : ∀ x ∈ xs, badKind x = false := by
  unfold checkH at h
  split at h
  · omega
  · have key : ∀ (xs : List Op27), chkH xs = 0 → ∀ x ∈ xs, badKind x = false := by
      intro xs
      induction xs with
      | nil => intro _ t ht; cases ht
      | cons x xs ih =>
        intro hc t ht
        unfold chkH at hc
        split at hc
        · omega
        · rename_i h1
          split at hc
          · omega
          · split at hc
            · omega
            · rcases List.mem_cons.1 ht with rfl | ht
              · simpa using h1
              · exact ih hc t ht
    exact key xs h

theorem tx_of {xs : List Op27} (h : checkH xs = 0) : ∀ x ∈ xs, 0 ≤ x.Tx ∧ x.Tx < 20 := by
  unfold checkH at h
  split at h
  · omega
  · have key : ∀ (xs : List Op27), chkH xs = 0 → ∀ x ∈ xs, 0 ≤ x.Tx ∧ x.Tx < 20 := by
      intro xs
      induction xs with
      | nil => intro _ t ht; cases ht
      | cons x xs ih =>
        intro hc t ht
        unfold chkH at hc
        split at hc
        · omega
        · split at hc
          · omega
          · rename_i h1
            split at hc
            · omega
            · rcases List.mem_cons.1 ht with rfl | ht
              · simp [badTx] at h1
                omega
              · exact ih hc t ht
    exact key xs h

/-- two operations conflict -/
def conf (a b : Op27) : Bool := (a.Tx != b.Tx) && (decide (a.Key = b.Key) && ((a.Kind == 2) || (b.Kind == 2)))
theorem d20_eq (N : Nat) (a b : Op27) : d20 N a b = some (conf a b) := by
  unfold d20 conf
  cases a.Tx != b.Tx <;> by_cases hk : a.Key = b.Key <;> cases a.Kind == 2 <;> simp [hk]
theorem d21_eq (N : Nat) {a b : Op27} (ha : badKind a = false) (hb : badKind b = false) : d21 N a b = some (conf a b) := by
  have ha : a.Kind = 1 ∨ a.Kind = 2 := by
    simp [badKind] at ha; omega
  have hb : b.Kind = 1 ∨ b.Kind = 2 := by
    simp [badKind] at hb; omega
  unfold d21 conf
  cases a.Tx != b.Tx <;> by_cases hk : a.Key = b.Key <;> rcases ha with ha | ha <;> rcases hb with hb | hb <;> simp [hk, ha, hb, chkI, okI64]
/-- a conflict from one transaction to another -/
def hit (s t : Int) (x y : Op27) : Bool := conf x y && ((x.Tx == s) && (y.Tx == t))
def pL (s t : Int) : List Op27 → Bool
  | [] => false
  | x :: r => r.any (hit s t x) || pL s t r
theorem pL_snoc (s t : Int) (y : Op27) : ∀ l : List Op27, pL s t (l ++ [y]) = (pL s t l || l.any fun x => hit s t x y)
  | [] => rfl
  | x :: l => by
    rw [List.cons_append]
    unfold pL
    rw [pL_snoc s t y l, List.any_append, List.any_cons, List.any_cons, List.any_nil]
    cases l.any (hit s t x) <;> cases hit s t x y <;> cases pL s t l <;> cases (l.any fun x => hit s t x y) <;> rfl
theorem pL_ne (s t : Int) : ∀ l : List Op27, pL s t l = true → s ≠ t
  | [], h => by cases h
  | x :: l, h => by
    unfold pL at h
    rcases (Bool.or_eq_true _ _).mp h with h | h
    · rw [List.any_eq_true] at h
      obtain ⟨y, _, h⟩ := h
      simp [hit, conf] at h
      omega
    · exact pL_ne s t l h
theorem take_snoc {α : Type} {xs : List α} {k : Nat} {x : α} (h : xs[k]? = some x) : xs.take (k + 1) = xs.take k ++ [x] := by
  rw [List.take_add_one, h]; rfl

/-! ### a table of 20 by 20 -/
def tab (g : Nat → Nat → Bool) : List Bool := (List.range 400).map fun c => g (c / 20) (c % 20)
@[simp] theorem tab_len (g : Nat → Nat → Bool) : (tab g).length = 400 := by simp [tab]
theorem tab_get (g : Nat → Nat → Bool) {s t : Nat} (hs : s < 20) (ht : t < 20) : (tab g)[s * 20 + t]? = some (g s t) := by
  unfold tab
  rw [List.getElem?_map, List.getElem?_range (by omega)]
  show some (g ((s * 20 + t) / 20) ((s * 20 + t) % 20)) = _
  rw [show (s * 20 + t) / 20 = s by omega, show (s * 20 + t) % 20 = t by omega]
theorem tab_at (g : Nat → Nat → Bool) {i : Nat} (h : i < 400) : (tab g)[i]? = some (g (i / 20) (i % 20)) := by
  unfold tab
  rw [List.getElem?_map, List.getElem?_range h]
  rfl
theorem tab_set (g : Nat → Nat → Bool) {s t : Nat} (hs : s < 20) (ht : t < 20) : (tab g).set (s * 20 + t) true = tab fun a b => g a b || ((a == s) && (b == t)) := by
  apply List.ext_getElem?
  intro i
  rw [List.getElem?_set]
  by_cases hi : i < 400
  · rw [tab_at _ hi, tab_at _ hi]
    by_cases h : s * 20 + t = i
    · rw [if_pos h, if_pos (by rw [tab_len]; omega)]
      subst h
      rw [show (s * 20 + t) / 20 = s by omega, show (s * 20 + t) % 20 = t by omega]
      simp
    · rw [if_neg h]
      have : ((i / 20 == s) && (i % 20 == t)) = false := by
        rw [← Bool.not_eq_true, Bool.and_eq_true, beq_iff_eq, beq_iff_eq]
        omega
      rw [this, Bool.or_false]
  · rw [if_neg (by omega), List.getElem?_eq_none (by rw [tab_len]; omega), List.getElem?_eq_none (by rw [tab_len]; omega)]
theorem tab_zero : List.replicate 400 false = tab fun _ _ => false := by kernel_rfl
theorem lenL_tab (g : Nat → Nat → Bool) : lenL 400 (tab g) = some (tab g) := if_pos (tab_len g)
theorem lenL_zero : lenL 400 (List.replicate 400 false) = some (List.replicate 400 false) := if_pos List.length_replicate
theorem tab_congr {g h : Nat → Nat → Bool} (e : ∀ s t : Nat, s < 20 → t < 20 → g s t = h s t) : tab g = tab h := by
  unfold tab
  apply List.map_congr_left
  intro c hc
  rw [List.mem_range] at hc
  exact e _ _ (by omega) (by omega)
def pN (l : List Op27) (s t : Nat) : Bool := pL (s : Int) (t : Int) l
theorem arrI_tx {x : Op27} (h : 0 ≤ x.Tx ∧ x.Tx < 20) : arrI x.Tx 20 = some x.Tx.toNat := by
  unfold arrI
  rw [if_pos (by omega)]

theorem d56_eq {N : Nat} (hN : bigN N) {xs : List Op27} (hc : checkH xs = 0) : d56 N xs = some (tab (pN xs)) := by
  have h200 := len_of hc
  have htx := tx_of hc
  have hs : small xs := by unfold small; omega
  unfold d56
  have hloop := iter_listI xs (fun (l : List Bool) (v : Int) => (l, v)) (fun ((l51, v52) : ((List Bool) × Int)) =>
      if v52 < (xs.length : Int) then (idx xs v52).bind fun x159 => (natI v52 xs.length).bind fun n161 => letv (xs.take n161) fun l162 =>
        Option.bind (α := List Bool) (iterN (σ := ((List Bool) × Int)) (ρ := List Bool) (fun ((l173, v174) : ((List Bool) × Int)) =>
          if v174 < (l162.length : Int) then (idx l162 v174).bind fun x199 => (d20 N x199 x159).bind fun r201 =>
            if r201 = true then (arrI x199.Tx 20).bind fun k203 => (arrI x159.Tx 20).bind fun k204 => (setN l173 (k203 * 20 + k204) true).bind fun l205 => (chkI (v174 + 1)).bind fun v206 => some (.inl (l205, v206))
            else (chkI (v174 + 1)).bind fun v207 => some (.inl (l173, v207))
          else some (.inr l173)) N (l51, 0)) fun (l197 : List Bool) =>
        (chkI ((n161 : Int) + 1)).bind fun v208 => some (.inl (l197, v208))
      else some (.inr l51))
    (fun k _ _ => .inl (tab (pN (xs.take (k + 1))))) (fun l => l) (fun k l => l = tab (pN (xs.take k))) (fun k y s hy hk hv => ?_) (fun k x s s' hx hk hv hb => ?_) (fun s hv => ?_) (hs.lt hN) (List.replicate 400 false) (tab_zero)
  · have hf : ∀ (ys : List Op27) (k : Nat), foldI (fun k (_ : Op27) (_ : List Bool) => tab (pN (xs.take (k + 1)))) ys k (tab (pN (xs.take k))) = tab (pN (xs.take (k + ys.length))) := by
      intro ys
      induction ys with
      | nil => intro k; rfl
      | cons y ys ih =>
        intro k
        rw [foldI, List.length_cons, show k + (ys.length + 1) = k + 1 + ys.length by omega]
        exact ih (k + 1)
    rw [listFor_fold] at hloop
    have h0 : foldI (fun k (_ : Op27) (_ : List Bool) => tab (pN (xs.take (k + 1)))) xs 0 (List.replicate 400 false) = tab (pN xs) := by
      have := hf xs 0
      rw [Nat.zero_add, List.take_length] at this
      rw [tab_zero]
      exact this
    rw [h0] at hloop
    refine Eq.trans (congrArg (fun o => Option.bind o _) hloop) ?_
    show Option.bind (some (tab (pN xs))) _ = _
    rw [Option.bind_some, lenL_tab, Option.bind_some, lenL_zero, Option.bind_some]
  · simp only []
    rw [if_pos (by omega : (k : Int) < (xs.length : Int)), idx_nat hy, Option.bind_some, natI_nat (by omega), Option.bind_some, letv_eq]
    have hytx := htx y (List.mem_of_getElem? hy)
    have hin := iter_listI (xs.take k) (fun (l : List Bool) (v : Int) => (l, v)) (fun ((l173, v174) : ((List Bool) × Int)) =>
        if v174 < ((xs.take k).length : Int) then (idx (xs.take k) v174).bind fun x199 => (d20 N x199 y).bind fun r201 =>
          if r201 = true then (arrI x199.Tx 20).bind fun k203 => (arrI y.Tx 20).bind fun k204 => (setN l173 (k203 * 20 + k204) true).bind fun l205 => (chkI (v174 + 1)).bind fun v206 => some (.inl (l205, v206))
          else (chkI (v174 + 1)).bind fun v207 => some (.inl (l173, v207))
        else some (.inr l173))
      (fun j _ _ => .inl (tab fun a b => pN (xs.take k) a b || ((xs.take k).take (j + 1)).any fun x => hit a b x y)) (fun l => l) (fun j l => l = tab fun a b => pN (xs.take k) a b || ((xs.take k).take j).any fun x => hit a b x y) (fun j x l hx hj hv => ?_) (fun j x l l' hx hj hv hb => ?_) (fun l hv => ?_) (n := N) (by rw [List.length_take]; unfold bigN at hN; omega) (tab (pN (xs.take k))) (tab_congr fun a b _ _ => by simp)
    · have hf : ∀ (ys : List Op27) (j : Nat), foldI (fun j (_ : Op27) (_ : List Bool) => tab fun a b => pN (xs.take k) a b || ((xs.take k).take (j + 1)).any fun x => hit a b x y) ys j (tab fun a b => pN (xs.take k) a b || ((xs.take k).take j).any fun x => hit a b x y) = tab fun a b => pN (xs.take k) a b || ((xs.take k).take (j + ys.length)).any fun x => hit a b x y := by
        intro ys
        induction ys with
        | nil => intro j; rfl
        | cons z ys ih =>
          intro j
          rw [foldI, List.length_cons, show j + (ys.length + 1) = j + 1 + ys.length by omega]
          exact ih (j + 1)
      rw [listFor_fold] at hin
      have h0 := hf (xs.take k) 0
      rw [Nat.zero_add, List.take_length] at h0
      have e0 : (tab fun a b => pN (xs.take k) a b || ((xs.take k).take 0).any fun x => hit a b x y) = tab (pN (xs.take k)) := tab_congr fun a b _ _ => by simp
      rw [e0] at h0
      rw [h0] at hin
      have e1 : (tab fun a b => pN (xs.take k) a b || (xs.take k).any fun x => hit a b x y) = tab (pN (xs.take (k + 1))) := tab_congr fun a b _ _ => by
        rw [take_snoc hy]
        exact (pL_snoc a b y (xs.take k)).symm
      rw [e1] at hin
      rw [hv, hin, Option.bind_some, chkI_succ hk hs, Option.bind_some]
    · have hjk : j < (xs.take k).length := hj
      have hxtx := htx x (List.mem_of_mem_take (List.mem_of_getElem? hx))
      simp only []
      rw [if_pos (by omega : (j : Int) < ((xs.take k).length : Int)), idx_nat hx, Option.bind_some, d20_eq, Option.bind_some, chkI_succ hjk (by rw [List.length_take]; unfold small at hs; omega), take_snoc hx, hv]
      by_cases hcf : conf x y = true
      · rw [if_pos hcf, arrI_tx hxtx, Option.bind_some, arrI_tx hytx, Option.bind_some]
        unfold setN
        rw [if_pos (by rw [tab_len]; omega), Option.bind_some, Option.bind_some, tab_set _ (by omega) (by omega)]
        have : (tab fun a b => (pN (xs.take k) a b || ((xs.take k).take j).any fun x => hit a b x y) || ((a == x.Tx.toNat) && (b == y.Tx.toNat))) = tab fun a b => pN (xs.take k) a b || ((xs.take k).take j ++ [x]).any fun x => hit a b x y := tab_congr fun a b _ _ => by
          rw [List.any_append, List.any_cons, List.any_nil, Bool.or_false]
          have e : hit a b x y = ((a == x.Tx.toNat) && (b == y.Tx.toNat)) := by
            unfold hit
            rw [hcf, Bool.true_and, Bool.eq_iff_iff]
            simp
            omega
          rw [e, Bool.or_assoc]
        rw [this]
      · rw [if_neg hcf, Option.bind_some]
        have : (tab fun a b => pN (xs.take k) a b || ((xs.take k).take j ++ [x]).any fun x => hit a b x y) = tab fun a b => (pN (xs.take k) a b || ((xs.take k).take j).any fun x => hit a b x y) := tab_congr fun a b _ _ => by
          rw [List.any_append, List.any_cons, List.any_nil, Bool.or_false]
          have e : hit a b x y = false := by
            unfold hit
            rw [Bool.eq_false_iff.2 hcf, Bool.false_and]
          rw [e, Bool.or_false]
        rw [this]
    · injection hb with hb
      exact hb.symm
    · simp
  · injection hb with hb
    exact hb.symm
  · simp

/-! ### the transactions -/
def txs (xs : List Op27) : List Int := ((List.range' 0 20).filter fun (v : Nat) => xs.any fun x => x.Tx == (v : Int)).map fun (v : Nat) => (v : Int)
theorem txs_len (xs : List Op27) : (txs xs).length ≤ 20 := by
  unfold txs
  rw [List.length_map]
  exact Nat.le_trans (List.length_filter_le _ _) (by simp)
theorem d92_eq {N : Nat} (hN : bigN N) {xs : List Op27} (hs : small xs) {p : Op27 → Option Bool} {q : Op27 → Bool} (h : ∀ x ∈ xs, p x = some (q x)) : d92 N xs p = some (optI (xs.findIdx? q)) :=
  indexFunc_eq N xs p q h (hs.lt hN) hs
theorem d81_eq {N : Nat} (hN : bigN N) {xs : List Op27} (hs : small xs) {p : Op27 → Option Bool} {q : Op27 → Bool} (h : ∀ x ∈ xs, p x = some (q x)) : d81 N xs p = some (xs.any q) := by
  unfold d81
  rw [d92_eq hN hs h, Option.bind_some, optI_ge]
theorem chkI_20 {k : Nat} (h : k < 20) : chkI ((k : Int) + 1) = some ((k : Int) + 1) := chkI_of (by omega) (by omega)

theorem d23_eq {N : Nat} (hN : bigN N) {xs : List Op27} (hs : small xs) : d23 N xs = some (txs xs) := by
  unfold d23
  have hloop := iter_rangeI 20 (fun (l : List Int) (v : Int) => (l, v)) (fun ((l30, v31) : ((List Int) × Int)) =>
      if v31 < 20 then
        Option.bind (α := List Int) (iterN (σ := Int) (ρ := List Int) (fun (v100 : Int) =>
          if v100 < (xs.length : Int) then (idx xs v100).bind fun x116 =>
            if (x116.Tx == v31) = true then (appL 8 l30 [v31]).bind fun _ => some (.inr (l30 ++ [v31]))
            else (chkI (v100 + 1)).bind fun v120 => some (.inl v120)
          else some (.inr l30)) N 0) fun (l114 : List Int) =>
        (chkI (v31 + 1)).bind fun v121 => some (.inl (l114, v121))
      else some (.inr l30))
    (fun v l => .inl (if (xs.any fun x => x.Tx == (v : Int)) = true then l ++ [(v : Int)] else l)) (fun l => l) (fun k l => l.length ≤ k) (fun k s hk hv => ?_) (fun k s s' hk hv hb => ?_) (fun s hv => ?_) (n := N) (by unfold bigN at hN; omega) [] (Nat.le_refl _)
  · rw [listFor_fold, foldI_collect (fun v => xs.any fun x => x.Tx == (v : Int)) (fun v => (v : Int))] at hloop
    refine Eq.trans (congrArg (fun o => Option.bind o _) hloop) ?_
    rfl
  · simp only []
    have happ : appL 8 s [(k : Int)] = some (s ++ [(k : Int)]) := appL_of (by simp only [List.length_cons, List.length_nil]; exact Nat.le_trans (Nat.mul_le_mul_right 8 (show s.length + (0 + 1) ≤ 21 by omega)) (by decide))
    rw [if_pos (by omega : (k : Int) < 20)]
    have hin := iter_list xs (fun (_ : Unit) (v : Int) => v) (fun (v100 : Int) =>
        if v100 < (xs.length : Int) then (idx xs v100).bind fun x116 =>
          if (x116.Tx == (k : Int)) = true then (appL 8 s [(k : Int)]).bind fun _ => some (.inr (s ++ [(k : Int)]))
          else (chkI (v100 + 1)).bind fun v120 => some (.inl v120)
        else some (.inr s))
      (fun _ x _ => if (x.Tx == (k : Int)) = true then .inr (s ++ [(k : Int)]) else .inl ()) (fun _ => s) (fun j x _ hx hj => ?_) (fun _ => ?_) (hs.lt hN) ()
    · have key : ∀ (ys : List Op27) (j : Nat), listFor (fun _ x (_ : Unit) => if (x.Tx == (k : Int)) = true then .inr (s ++ [(k : Int)]) else .inl ()) (fun _ => s) ys j () = if (ys.any fun x => x.Tx == (k : Int)) = true then s ++ [(k : Int)] else s := by
        intro ys
        induction ys with
        | nil => intro j; rfl
        | cons y ys ih =>
          intro j
          rw [listFor, List.any_cons]
          cases y.Tx == (k : Int) with
          | true => rfl
          | false => exact ih (j + 1)
      rw [key] at hin
      rw [hin, Option.bind_some, chkI_20 hk, Option.bind_some]
    · rw [if_pos (by omega : (j : Int) < (xs.length : Int)), idx_nat hx, Option.bind_some, happ, chkI_succ hj hs]
      cases x.Tx == (k : Int) <;> rfl
    · simp
  · injection hb with hb
    rw [← hb]
    split
    · simp; omega
    · omega
  · simp

/-! ### pairs of the reference -/
theorem d19_eq {N : Nat} (hN : bigN N) {xs : List Op27} (hc : checkH xs = 0) (s t : Int) : d19 N xs s t = some (pL s t xs) := by
  have h200 := len_of hc
  have hkind := kind_of hc
  have hs : small xs := by unfold small; omega
  unfold d19
  have hloop := iter_list xs (fun (_ : Unit) (v : Int) => v) (fun (v94 : Int) =>
      if v94 < (xs.length : Int) then (chkI (v94 + 1)).bind fun v283 =>
        bindO (β := Unit) (ρ := (Int ⊕ (Out Unit Bool))) (iterN (σ := Int) (ρ := (Out Unit (Int ⊕ (Out Unit Bool)))) (fun (v306 : Int) =>
          if v306 < (xs.length : Int) then
            Option.bind (α := Bool) ((idx xs v94).bind fun x363 => if (x363.Tx == s) = true then (idx xs v306).bind fun x366 => if (x366.Tx == t) = true then (idx xs v94).bind fun x369 => (idx xs v306).bind fun x370 => (d21 N x369 x370).bind fun r371 => some r371 else some false else some false) fun (v362 : Bool) =>
            if v362 = true then some (.inr (.ret (.inr (.ret true)))) else (chkI (v306 + 1)).bind fun v373 => some (.inl v373)
          else some (.inr (.go ()))) N v283) fun (_ : Unit) =>
        (chkI (v94 + 1)).bind fun v374 => some (.inl v374)
      else some (.inr (.go () : Out Unit Bool)))
    (fun k x _ => if ((xs.drop (k + 1)).any (hit s t x)) = true then .inr (.ret true) else .inl ()) (fun _ => .go ()) (fun k x _ hx hk => ?_) (fun _ => ?_) (hs.lt hN) ()
  · refine Eq.trans (congrArg (fun o => bindO o _) hloop) ?_
    have key : ∀ (n k : Nat), n + k = xs.length → listFor (fun k x (_ : Unit) => if ((xs.drop (k + 1)).any (hit s t x)) = true then .inr (.ret true) else .inl ()) (fun _ => (.go () : Out Unit Bool)) (xs.drop k) k () = if pL s t (xs.drop k) = true then .ret true else .go () := by
      intro n
      induction n with
      | zero => intro k h; rw [List.drop_eq_nil_of_le (by omega)]; rfl
      | succ n ih =>
        intro k h
        rw [List.drop_eq_getElem_cons (show k < xs.length by omega), listFor, pL]
        cases (xs.drop (k + 1)).any (hit s t xs[k]) with
        | true => rfl
        | false => exact ih (k + 1) (by omega)
    have := key xs.length 0 (by omega)
    rw [List.drop_zero] at this
    rw [this]
    cases pL s t xs <;> rfl
  · rw [if_pos (by omega : (k : Int) < (xs.length : Int)), chkI_succ hk hs, Option.bind_some]
    have hin := iter_list (xs.drop (k + 1)) (fun (_ : Unit) (v : Int) => ((k + 1 : Nat) : Int) + v) (fun (v306 : Int) =>
        if v306 < (xs.length : Int) then
          Option.bind (α := Bool) ((idx xs (k : Int)).bind fun x363 => if (x363.Tx == s) = true then (idx xs v306).bind fun x366 => if (x366.Tx == t) = true then (idx xs (k : Int)).bind fun x369 => (idx xs v306).bind fun x370 => (d21 N x369 x370).bind fun r371 => some r371 else some false else some false) fun (v362 : Bool) =>
          if v362 = true then some (.inr (.ret (.inr (.ret true)))) else (chkI (v306 + 1)).bind fun v373 => some (.inl v373)
        else some (.inr (.go () : Out Unit (Int ⊕ (Out Unit Bool)))))
      (fun _ y _ => if hit s t x y = true then .inr (.ret (.inr (.ret true))) else .inl ()) (fun _ => .go ()) (fun j y _ hy hj => ?_) (fun _ => ?_) (n := N) (by rw [List.length_drop]; unfold bigN at hN; omega) ()
    · have key : ∀ (ys : List Op27) (j : Nat), listFor (fun _ y (_ : Unit) => if hit s t x y = true then .inr (.ret (.inr (.ret true))) else .inl ()) (fun _ => (.go () : Out Unit (Int ⊕ (Out Unit Bool)))) ys j () = if ys.any (hit s t x) = true then .ret (.inr (.ret true)) else .go () := by
        intro ys
        induction ys with
        | nil => intro j; rfl
        | cons y ys ih =>
          intro j
          rw [listFor, List.any_cons]
          cases hit s t x y with
          | true => rfl
          | false => exact ih (j + 1)
      rw [key] at hin
      rw [show ((k + 1 : Nat) : Int) + 0 = (k : Int) + 1 by omega] at hin
      refine Eq.trans (congrArg (fun o => bindO o _) hin) ?_
      cases (xs.drop (k + 1)).any (hit s t x) <;> rfl
    · rw [List.getElem?_drop] at hy
      rw [List.length_drop] at hj
      have hkj : k + 1 + j < xs.length := by omega
      rw [show ((k + 1 : Nat) : Int) + (j : Int) = ((k + 1 + j : Nat) : Int) by omega, if_pos (by omega), idx_nat hx, idx_nat hy, chkI_succ hkj hs]
      simp only [Option.bind_some]
      rw [d21_eq N (hkind x (List.mem_of_getElem? hx)) (hkind y (List.mem_of_getElem? hy))]
      unfold hit
      cases x.Tx == s <;> cases y.Tx == t <;> cases conf x y <;> simp <;> omega
    · rw [List.length_drop, if_neg (by omega)]
  · simp

/-- the first that waits for none of those that remain -/
def firstFree (q : Int → Int → Bool) (rem : List Int) : Option Nat := rem.findIdx? fun t => rem.all fun s => !q s t
/-- the order, or none -/
def topo (q : Int → Int → Bool) : Nat → List Int → List Int → Option (List Int)
  | 0, _, ord => some ord
  | n + 1, rem, ord => match firstFree q rem with
    | none => none
    | some i => match rem[i]? with
      | some t => topo q n (rem.take i ++ rem.drop (i + 1)) (ord ++ [t])
      | none => none

theorem firstFree_lt {q : Int → Int → Bool} {rem : List Int} {i : Nat} (h : firstFree q rem = some i) : i < rem.length := by
  unfold firstFree at h
  obtain ⟨h1, _⟩ := List.findIdx?_eq_some_iff_getElem.1 h
  exact h1

/-- a loop that takes them one after another -/
theorem topo_loop {ρ : Type} (q : Int → Int → Bool) (bad : ρ) (G : List Int → Prop) (step : (List Int × List Int) → Option ((List Int × List Int) ⊕ Out (List Int) ρ)) (hG : ∀ rem i, G rem → G (rem.take i ++ rem.drop (i + 1)))
    (hnil : ∀ ord, step ([], ord) = some (.inr (.go ord)))
    (hnone : ∀ rem ord, G rem → rem ≠ [] → rem.length ≤ 1000 → firstFree q rem = none → step (rem, ord) = some (.inr (.ret bad)))
    (hsome : ∀ rem ord i t, G rem → rem.length ≤ 1000 → ord.length ≤ 1000 → firstFree q rem = some i → rem[i]? = some t → step (rem, ord) = some (.inl (rem.take i ++ rem.drop (i + 1), ord ++ [t]))) :
    ∀ (m n : Nat) (rem ord : List Int), rem.length = n → n < m → ord.length + n ≤ 1000 → G rem → iterN step m (rem, ord) = some (match topo q n rem ord with | some o => .go o | none => .ret bad) := by
  intro m
  induction m with
  | zero => intro n rem ord _ h; omega
  | succ m ih =>
    intro n rem ord hl hm hb hg
    rw [iterN_succ]
    cases n with
    | zero =>
      have : rem = [] := List.eq_nil_of_length_eq_zero hl
      subst this
      rw [hnil]
      rfl
    | succ n =>
      have hne : rem ≠ [] := fun e => by rw [e] at hl; cases hl
      unfold topo
      cases hf : firstFree q rem with
      | none => rw [hnone rem ord hg hne (by omega) hf]
      | some i =>
        have hi := firstFree_lt hf
        have ht : rem[i]? = some rem[i] := List.getElem?_eq_getElem hi
        rw [hsome rem ord i _ hg (by omega) (by omega) hf ht]
        simp only [ht]
        exact ih n _ _ (by simp; omega) (by omega) (by simp; omega) (hG rem i hg)

theorem all_step (p : Int → Int → Option Bool) (q : Int → Int → Bool) {N : Nat} (hN : bigN N) {rem : List Int} (hs : small rem) {t : Int} (hp : ∀ s ∈ rem, p s t = some (q s t)) :
    iterN (σ := (Bool × Int)) (ρ := Bool) (fun ((v706, v707) : (Bool × Int)) =>
      if v707 < (rem.length : Int) then (idx rem v707).bind fun x730 =>
        Option.bind (α := Bool) (if v706 = true then (p x730 t).bind fun r736 => some (!r736) else some false) fun (v734 : Bool) => (chkI (v707 + 1)).bind fun v737 => some (.inl (v734, v737))
      else some (.inr v706)) N (true, 0) = some (rem.all fun s => !q s t) := by
  have := iter_list rem (fun (b : Bool) (v : Int) => (b, v)) (fun ((v706, v707) : (Bool × Int)) =>
      if v707 < (rem.length : Int) then (idx rem v707).bind fun x730 =>
        Option.bind (α := Bool) (if v706 = true then (p x730 t).bind fun r736 => some (!r736) else some false) fun (v734 : Bool) => (chkI (v707 + 1)).bind fun v737 => some (.inl (v734, v737))
      else some (.inr v706)) (fun _ s b => .inl (b && !q s t)) (fun b => b) (fun k x s hx hk => ?_) (fun s => ?_) (hs.lt hN) true
  · rw [this, listFor_fold]
    have key : ∀ (xs : List Int) (k : Nat) (b : Bool), foldI (fun _ s b => b && !q s t) xs k b = (b && xs.all fun s => !q s t) := by
      intro xs
      induction xs with
      | nil => intro k b; simp [foldI]
      | cons x xs ih => intro k b; rw [foldI, ih, List.all_cons, Bool.and_assoc]
    rw [key]
    simp
  · simp only []
    rw [if_pos (by omega : (k : Int) < (rem.length : Int)), idx_nat hx]
    simp only [Option.bind_some]
    rw [hp x (List.mem_of_getElem? hx)]
    simp only [chkI_succ hk hs]
    cases s <;> simp
  · simp

theorem find_step (p : Int → Int → Option Bool) (q : Int → Int → Bool) {N : Nat} (hN : bigN N) {rem : List Int} (hs : small rem) (hp : ∀ s ∈ rem, ∀ t ∈ rem, p s t = some (q s t)) :
    iterN (σ := Int) (ρ := Int) (fun (v608 : Int) =>
      if v608 < (rem.length : Int) then (idx rem v608).bind fun x698 =>
        Option.bind (α := Bool) (iterN (σ := (Bool × Int)) (ρ := Bool) (fun ((v706, v707) : (Bool × Int)) =>
          if v707 < (rem.length : Int) then (idx rem v707).bind fun x730 =>
            Option.bind (α := Bool) (if v706 = true then (p x730 x698).bind fun r736 => some (!r736) else some false) fun (v734 : Bool) => (chkI (v707 + 1)).bind fun v737 => some (.inl (v734, v737))
          else some (.inr v706)) N (true, 0)) fun (v728 : Bool) =>
        if v728 = true then some (.inr v608) else (chkI (v608 + 1)).bind fun v739 => some (.inl v739)
      else some (.inr (-1))) N 0 = some (optI (firstFree q rem)) := by
  have := iter_list rem (fun (_ : Unit) (v : Int) => v) (fun (v608 : Int) =>
      if v608 < (rem.length : Int) then (idx rem v608).bind fun x698 =>
        Option.bind (α := Bool) (iterN (σ := (Bool × Int)) (ρ := Bool) (fun ((v706, v707) : (Bool × Int)) =>
          if v707 < (rem.length : Int) then (idx rem v707).bind fun x730 =>
            Option.bind (α := Bool) (if v706 = true then (p x730 x698).bind fun r736 => some (!r736) else some false) fun (v734 : Bool) => (chkI (v707 + 1)).bind fun v737 => some (.inl (v734, v737))
          else some (.inr v706)) N (true, 0)) fun (v728 : Bool) =>
        if v728 = true then some (.inr v608) else (chkI (v608 + 1)).bind fun v739 => some (.inl v739)
      else some (.inr (-1))) (fun k t (_ : Unit) => if (rem.all fun s => !q s t) = true then .inr (k : Int) else .inl ()) (fun _ => -1) (fun k x s hx hk => ?_) (fun s => ?_) (hs.lt hN) ()
  · rw [this]
    unfold firstFree
    have key : ∀ (f : Int → Bool) (xs : List Int) (k : Nat), listFor (fun k x (_ : Unit) => if f x = true then .inr (k : Int) else .inl ()) (fun _ => (-1 : Int)) xs k () = match xs.findIdx? f with | some i => (k : Int) + i | none => -1 := by
      intro f xs
      induction xs with
      | nil => intro k; rfl
      | cons x xs ih =>
        intro k
        unfold listFor
        rw [List.findIdx?_cons]
        cases h : f x with
        | true => simp
        | false =>
          simp only [Bool.false_eq_true, if_false]
          rw [ih (k + 1)]
          cases xs.findIdx? f with
          | none => rfl
          | some i =>
            show (((k + 1 : Nat) : Int)) + (i : Int) = (k : Int) + ((i + 1 : Nat) : Int)
            omega
    rw [key (fun t => rem.all fun s => !q s t)]
    cases rem.findIdx? _ <;> simp [optI]
  · rw [if_pos (by omega : (k : Int) < (rem.length : Int)), idx_nat hx]
    simp only [Option.bind_some]
    rw [all_step p q hN hs (fun s hs' => hp s hs' x (List.mem_of_getElem? hx))]
    simp only [Option.bind_some, chkI_succ hk hs]
    cases rem.all fun s => !q s x <;> simp
  · simp

theorem mem_part {rem : List Int} {i : Nat} {x : Int} (h : x ∈ rem.take i ++ rem.drop (i + 1)) : x ∈ rem := by
  rcases List.mem_append.1 h with h | h
  · exact List.mem_of_mem_take h
  · exact List.mem_of_mem_drop h

theorem d31_eq {N : Nat} (hN : bigN N) (p : Int → Int → Option Bool) (q : Int → Int → Bool) {nodes : List Int} (hn : nodes.length ≤ 1000) (hp : ∀ s ∈ nodes, ∀ t ∈ nodes, p s t = some (q s t)) :
    d31 N nodes p = some (match topo q nodes.length nodes [] with | some o => (o, true) | none => ([], false)) := by
  unfold d31 d64
  rw [if_pos (Nat.le_trans (Nat.mul_le_mul_right 8 hn) (by decide))]
  simp only [Option.bind_some]
  have hloop := topo_loop q (([] : List Int), false) (fun rem => ∀ x ∈ rem, x ∈ nodes) (fun ((l188, l189) : ((List Int) × (List Int))) =>
      if (l188.length : Int) > 0 then
        Option.bind (α := Int) (iterN (σ := Int) (ρ := Int) (fun (v608 : Int) =>
          if v608 < (l188.length : Int) then (idx l188 v608).bind fun x698 =>
            Option.bind (α := Bool) (iterN (σ := (Bool × Int)) (ρ := Bool) (fun ((v706, v707) : (Bool × Int)) =>
              if v707 < (l188.length : Int) then (idx l188 v707).bind fun x730 =>
                Option.bind (α := Bool) (if v706 = true then (p x730 x698).bind fun r736 => some (!r736) else some false) fun (v734 : Bool) => (chkI (v707 + 1)).bind fun v737 => some (.inl (v734, v737))
              else some (.inr v706)) N (true, 0)) fun (v728 : Bool) =>
            if v728 = true then some (.inr v608) else (chkI (v608 + 1)).bind fun v739 => some (.inl v739)
          else some (.inr (-1))) N 0) fun (v696 : Int) =>
        if v696 < 0 then some (.inr (.ret (([] : List Int), false))) else
        (idx l188 v696).bind fun x741 =>
        (appL 8 l189 [x741]).bind fun l743 =>
        (natI v696 l188.length).bind fun n744 =>
        letv (l188.take n744) fun l745 =>
        (appL 8 ([] : List Int) l745).bind fun l746 =>
        (chkI ((n744 : Int) + 1)).bind fun v747 =>
        (natI v747 l188.length).bind fun n748 =>
        letv (l188.drop n748) fun l749 =>
        (appL 8 (([] : List Int) ++ l745) l749).bind fun l750 =>
        some (.inl (((([] : List Int) ++ l745) ++ l749), (l189 ++ [x741])))
      else some (.inr (.go l189)))
    (fun rem i h x hx => h x (mem_part hx)) (fun ord => by simp) (fun rem ord hg hne hle hf => ?_) (fun rem ord i t hg hle hle2 hf ht => ?_) N nodes.length nodes [] rfl (by unfold bigN at hN; omega) (by simpa using hn) (fun x hx => hx)
  · have e := congrArg (fun o => bindO (β := List Int) (ρ := ((List Int) × Bool)) o fun (l564 : List Int) => some (l564, true)) hloop
    refine Eq.trans e ?_
    cases topo q nodes.length nodes [] <;> rfl
  · have hpos : 0 < rem.length := List.length_pos_iff.2 hne
    simp only []
    rw [if_pos (by omega : (rem.length : Int) > 0), find_step p q hN (show small rem by unfold small; omega) (fun s hs t ht => hp s (hg s hs) t (hg t ht)), hf]
    simp [optI]
  · have hi := firstFree_lt hf
    simp only []
    rw [if_pos (by omega : (rem.length : Int) > 0), find_step p q hN (show small rem by unfold small; omega) (fun s hs t ht => hp s (hg s hs) t (hg t ht)), hf]
    simp only [Option.bind_some, optI]
    rw [if_neg (by omega), idx_nat ht]
    simp only [Option.bind_some]
    rw [appL_of (by simp only [List.length_cons, List.length_nil]; exact Nat.le_trans (Nat.mul_le_mul_right 8 (show ord.length + (0 + 1) ≤ 2000 by omega)) (by decide))]
    simp only [Option.bind_some]
    rw [natI_nat (by omega)]
    simp only [Option.bind_some, letv_eq]
    rw [appL_of (by simp only [List.length_nil, List.length_take]; exact Nat.le_trans (Nat.mul_le_mul_right 8 (show 0 + min i rem.length ≤ 2000 by omega)) (by decide)), Option.bind_some, chkI_of (by omega) (by omega), Option.bind_some,
      show ((i : Int) + 1) = ((i + 1 : Nat) : Int) by omega, natI_nat (by omega), Option.bind_some,
      appL_of (by simp only [List.nil_append, List.length_take, List.length_drop]; exact Nat.le_trans (Nat.mul_le_mul_right 8 (show min i rem.length + (rem.length - (i + 1)) ≤ 2000 by omega)) (by decide)), Option.bind_some]
    rfl

theorem d55_eq {N : Nat} (hN : bigN N) {xs : List Op27} (hs : small xs) : d55 N xs = some (txs xs) := by
  unfold d55
  have hloop := iter_rangeI 20 (fun (l : List Int) (v : Int) => (l, v)) (fun ((l7, v8) : ((List Int) × Int)) =>
      if v8 < 20 then (d81 N xs (fun b0 => d85 N b0 v8)).bind fun r25 =>
        if r25 = true then (appL 8 l7 [v8]).bind fun _ => (chkI (v8 + 1)).bind fun v28 => some (.inl ((l7 ++ [v8]), v28))
        else (chkI (v8 + 1)).bind fun v29 => some (.inl (l7, v29))
      else some (.inr l7))
    (fun v l => .inl (if (xs.any fun x => x.Tx == (v : Int)) = true then l ++ [(v : Int)] else l)) (fun l => l) (fun k l => l.length ≤ k) (fun k s hk hv => ?_) (fun k s s' hk hv hb => ?_) (fun s hv => ?_) (n := N) (by unfold bigN at hN; omega) [] (Nat.le_refl _)
  · rw [listFor_fold, foldI_collect (fun v => xs.any fun x => x.Tx == (v : Int)) (fun v => (v : Int))] at hloop
    refine Eq.trans (congrArg (fun o => Option.bind o _) hloop) ?_
    rfl
  · simp only []
    have happ : appL 8 s [(k : Int)] = some (s ++ [(k : Int)]) := appL_of (by simp only [List.length_cons, List.length_nil]; exact Nat.le_trans (Nat.mul_le_mul_right 8 (show s.length + (0 + 1) ≤ 21 by omega)) (by decide))
    rw [if_pos (by omega : (k : Int) < 20), show (d81 N xs fun b0 => d85 N b0 (k : Int)) = some (xs.any fun x => x.Tx == (k : Int)) from d81_eq hN hs (fun x _ => rfl), Option.bind_some]
    cases xs.any fun x => x.Tx == (k : Int) with
    | true => rw [if_pos rfl, if_pos rfl, happ, Option.bind_some, chkI_20 hk, Option.bind_some]
    | false => rw [if_neg (by simp), if_neg (by simp), chkI_20 hk, Option.bind_some]
  · injection hb with hb
    rw [← hb]
    split
    · simp; omega
    · omega
  · simp

theorem mem_txs {xs : List Op27} {v : Int} (h : v ∈ txs xs) : ∃ k : Nat, k < 20 ∧ v = k := by
  unfold txs at h
  rw [List.mem_map] at h
  obtain ⟨k, hk, rfl⟩ := h
  have := (List.mem_filter.1 hk).1
  rw [List.mem_range'_1] at this
  exact ⟨k, by omega, rfl⟩
/-- the pairs, over integers -/
def qP (xs : List Op27) (s t : Int) : Bool := pL s t xs
theorem d61_eq (N : Nat) {xs : List Op27} {s t : Nat} (hs : s < 20) (ht : t < 20) : d61 N s (tab (pN xs)) t = some (qP xs s t) := by
  unfold d61
  rw [arrI_nat hs, Option.bind_some, arrI_nat ht, Option.bind_some, tab_get _ hs ht, Option.bind_some]
  rfl
theorem d58_eq {N : Nat} (hN : bigN N) {xs : List Int} (hs : small xs) {p : Int → Option Bool} {q : Int → Bool} (h : ∀ x ∈ xs, p x = some (q x)) : d58 N xs p = some (optI (xs.findIdx? q)) :=
  indexFunc_eq N xs p q h (hs.lt hN) hs
theorem d60_eq {N : Nat} (hN : bigN N) {xs : List Int} (hs : small xs) {p : Int → Option Bool} {q : Int → Bool} (h : ∀ x ∈ xs, p x = some (q x)) : d60 N xs p = some (xs.any q) := by
  unfold d60
  rw [d58_eq hN hs h, Option.bind_some, optI_ge]
theorem d59_eq {N : Nat} (hN : bigN N) {xs : List Op27} {rem : List Int} (hs : small rem) (hrem : ∀ x ∈ rem, x ∈ txs xs) {t : Int} (ht : t ∈ txs xs) : d59 N t rem (tab (pN xs)) = some (rem.all fun s => !qP xs s t) := by
  unfold d59
  obtain ⟨k, hk, rfl⟩ := mem_txs ht
  rw [show (d60 N rem fun b0 => d61 N b0 (tab (pN xs)) (k : Int)) = some (rem.any fun s => qP xs s k) from d60_eq hN hs (fun x hx => by
    obtain ⟨j, hj, rfl⟩ := mem_txs (hrem x hx)
    exact d61_eq N hj hk), Option.bind_some]
  congr 1
  rw [List.not_any_eq_all_not]

theorem d28_eq {N : Nat} (hN : bigN N) {xs : List Op27} (hs : small xs) :
    d28 N xs = some (if checkH xs ≠ 0 then ([], checkH xs) else match topo (qP xs) (txs xs).length (txs xs) [] with | some o => (o, 0) | none => ([], 14)) := by
  unfold d28
  rw [d18_eq hN hs, Option.bind_some]
  by_cases hc : checkH xs = 0
  · have hnl := txs_len xs
    rw [if_neg (show ¬ ((checkH xs != 0) = true) by simp [hc]), if_neg (show ¬ (checkH xs ≠ 0) by simp [hc]), d56_eq hN hc, Option.bind_some, lenL_zero, Option.bind_some, lenL_tab, Option.bind_some, d55_eq hN hs, Option.bind_some]
    have hloop := topo_loop (qP xs) (([] : List Int), (14 : Int)) (fun rem => ∀ x ∈ rem, x ∈ txs xs) (fun ((l15, l16) : ((List Int) × (List Int))) =>
        if (l15.length : Int) > 0 then
          (d58 N l15 (fun b0 => d59 N b0 l15 (tab (pN xs)))).bind fun r37 =>
          if r37 < 0 then some (.inr (.ret (([] : List Int), 14))) else
          (idx l15 r37).bind fun x39 => (appL 8 l16 [x39]).bind fun _ => (chkI (r37 + 1)).bind fun v42 => (d62 N l15 r37 v42).bind fun l43 => some (.inl (l43, (l16 ++ [x39])))
        else some (.inr (.go l16)))
      (fun rem i h x hx => h x (mem_part hx)) (fun ord => by simp) (fun rem ord hg hne hle hf => ?_) (fun rem ord i t hg hle hle2 hf ht => ?_) N (txs xs).length (txs xs) [] rfl (by unfold bigN at hN; omega) (by simp; omega) (fun x hx => hx)
    · refine Eq.trans (congrArg (fun o => bindO (β := List Int) (ρ := ((List Int) × Int)) o fun (l64 : List Int) => some (l64, (0 : Int))) hloop) ?_
      cases topo (qP xs) (txs xs).length (txs xs) [] <;> rfl
    · have hpos : 0 < rem.length := List.length_pos_iff.2 hne
      have hfind : d58 N rem (fun a0 => d59 N a0 rem (tab (pN xs))) = some (optI (firstFree (qP xs) rem)) :=
        d58_eq hN (show small rem by unfold small; omega) (fun t ht => d59_eq hN (show small rem by unfold small; omega) hg (hg t ht))
      simp only []
      rw [if_pos (by omega : (rem.length : Int) > 0), hfind, hf]
      simp [optI]
    · have hi := firstFree_lt hf
      have hfind : d58 N rem (fun a0 => d59 N a0 rem (tab (pN xs))) = some (optI (firstFree (qP xs) rem)) :=
        d58_eq hN (show small rem by unfold small; omega) (fun t ht => d59_eq hN (show small rem by unfold small; omega) hg (hg t ht))
      simp only []
      rw [if_pos (by omega : (rem.length : Int) > 0), hfind, hf]
      simp only [Option.bind_some, optI]
      rw [if_neg (by omega), idx_nat ht, Option.bind_some, appL_of (by simp only [List.length_cons, List.length_nil]; exact Nat.le_trans (Nat.mul_le_mul_right 8 (show ord.length + (0 + 1) ≤ 2000 by omega)) (by decide)), Option.bind_some, chkI_of (by omega) (by omega), Option.bind_some]
      unfold d62 delL
      rw [if_pos (by omega), Option.bind_some, show ((i : Int) + 1).toNat = i + 1 by omega, Int.toNat_natCast]
  · rw [if_pos (show (checkH xs != 0) = true by simp [hc]), if_pos (show checkH xs ≠ 0 from hc)]
end Go.Proofs.Ytabjbkdlacibjaa
