/- The functional programs: checks of a history. Plain lists. Conflicts: the matrix, the transactions, the pairs. Plain lists. The functional programs of SSIGraph: topological orders. Plain lists. The functional program of SerialOrder: the order. Plain lists. The exploration of schedules with sleep sets, and the count of normal forms: both go through the schedules that are their own normal form. Plain lists. The exploration with sleep sets goes through the normal words. Plain lists. What the words that are gone through are like: schedules of the transactions, all different, each its own normal form. Plain lists. The law's own checks of the schedules: each is one of the transactions, no two are equivalent, so many are serializable. Plain lists. The check of the transactions, the count of schedules and of the serializable ones, and the law's check of them. Plain lists. The law of the schedules is true where the transactions are few. Plain lists. The law's argument as the functional program takes it. -/
import Derived.Test.YtifcmomjjkbboaaSc12
section
namespace Go.Proofs.Ytifcmomjjkbboaa
open Go.Ab Go.Rp

abbrev Op27 := S27
def small {α : Type} (xs : List α) : Prop := xs.length < 9223372036854775807
theorem small.lt {α : Type} {xs : List α} (h : small xs) {N : Nat} (hN : bigN N) : xs.length < N := by
 unfold small at h
 exact Nat.lt_of_lt_of_le (Nat.lt_succ_of_lt h) hN
theorem chkI_succ {k n : Nat} (h : k < n) (hs : n < 9223372036854775807) : chkI ((k : Int) + 1) = some ((k : Int) + 1) := chkI_of (by omega) (by omega)
theorem getAt {α : Type} {xs : List α} {k : Nat} (h : k < xs.length) : ∃ x, xs[k]? = some x := ⟨xs[k], List.getElem?_eq_getElem h⟩

/-! ### the check of a history -/
def badKind (x : Op27) : Bool := (x.Kind != 1) && (x.Kind != 2)
def badTx (x : Op27) : Bool := decide (x.Tx < 0) || decide (x.Tx ≥ 20)
def stepH (x : Op27) : Unit ⊕ Out Unit Int :=
 if badKind x = true then .inr (.ret 3) else if badTx x = true then .inr (.ret 1) else if (x.Key.size : Int) > 24 then .inr (.ret 2) else .inl ()
def chkH : List Op27 → Int
 | [] => 0
 | x :: r => if badKind x = true then 3 else if badTx x = true then 1 else if (x.Key.size : Int) > 24 then 2 else chkH r
def checkH (xs : List Op27) : Int := if (xs.length : Int) > 200 then 2 else chkH xs
theorem listForH : ∀ (xs : List Op27) (k : Nat), bindO (some (listFor (fun _ x (_ : Unit) => stepH x) (fun _ => (.go () : Out Unit Int)) xs k ())) (fun _ => some 0) = some (chkH xs)
 | [], _ => rfl
 | x :: xs, k => by
  unfold listFor stepH chkH
  by_cases h1 : badKind x = true
  ·simp [h1]
  ·by_cases h2 : badTx x = true
   ·simp [h1, h2]
   ·by_cases h3 : (x.Key.size : Int) > 24
    ·simp [h1, h2, h3]
    ·simp only [h1, h2, h3, if_false]
     exact listForH xs (k + 1)
theorem d18_eq {N : Nat} (hN : bigN N) {xs : List Op27} (hs : small xs) : d18 N xs = some (checkH xs) := by
 unfold d18 checkH
 by_cases hl : (xs.length : Int) > 200
 ·rw [if_pos hl, if_pos hl]
 ·rw [if_neg hl, if_neg hl, ← listForH xs 0]
  congr 1
  refine iter_list xs (fun (_ : Unit) (v : Int) => v) _ (fun _ x (_ : Unit) => stepH x) (fun _ => .go ()) (fun k x s hx hk => ?_) (fun s => ?_) (hs.lt hN) ()
  ·rw [if_pos (by omega : (k : Int) < (xs.length : Int)), idx_nat hx]
   simp only [Option.bind_some]
   have e1 : (if (x.Kind != 1) = true then some (x.Kind != 2) else some false) = some (badKind x) := by
    unfold badKind
    cases x.Kind != 1 <;> simp
   have e2 : (if x.Tx < 0 then some true else some (decide (x.Tx ≥ 20))) = some (badTx x) := by
    unfold badTx
    by_cases h : x.Tx < 0 <;> simp [h]
   rw [e1, e2]
   unfold stepH
   simp only [Option.bind_some, chkI_succ hk hs]
   by_cases h1 : badKind x = true
   ·simp [h1]
   ·by_cases h2 : badTx x = true
    ·simp [h1, h2]
    ·by_cases h3 : (x.Key.size : Int) > 24
     ·simp [h1, h2, h3]
     ·simp [h1, h2, h3]
  ·simp
theorem d14_eq (N : Nat) (a b c : Int) : d14 N a b c = some (decide (a ≥ b) && decide (a ≤ c)) := by
 unfold d14
 by_cases h : a ≥ b <;> simp [h]
theorem d6_eq {N : Nat} (hN : bigN N) {xs : List Op27} (hs : small xs) : d6 N xs = some (checkH xs) := by
 unfold d6 checkH
 by_cases hl : (xs.length : Int) > 200
 ·rw [if_pos hl, if_pos hl]
 ·rw [if_neg hl, if_neg hl, ← listForH xs 0]
  congr 1
  refine iter_list xs (fun (_ : Unit) (v : Int) => v) _ (fun _ x (_ : Unit) => stepH x) (fun _ => .go ()) (fun k x s hx hk => ?_) (fun s => ?_) (hs.lt hN) ()
  ·rw [if_pos (by omega : (k : Int) < (xs.length : Int)), idx_nat hx]
   simp only [Option.bind_some, d14_eq]
   have e1 : (!(decide (x.Kind ≥ 1) && decide (x.Kind ≤ 2))) = badKind x := by
    unfold badKind
    rw [Bool.eq_iff_iff]
    simp
    omega
   have e2 : (!(decide (x.Tx ≥ 0) && decide (x.Tx ≤ 19))) = badTx x := by
    unfold badTx
    rw [Bool.eq_iff_iff]
    simp
    omega
   rw [e1, e2]
   unfold stepH
   simp only [chkI_succ hk hs]
   by_cases h1 : badKind x = true
   ·simp [h1]
   ·by_cases h2 : badTx x = true
    ·simp [h1, h2]
    ·by_cases h3 : (x.Key.size : Int) > 24
     ·simp [h1, h2, h3]
     ·simp [h1, h2, h3]
  ·simp
theorem foldI_append {α : Type} : ∀ (xs : List α) (k : Nat) (s : List α), foldI (fun _ x s => s ++ [x]) xs k s = s ++ xs
 | [], _, s => by simp [foldI]
 | x :: xs, k, s => by rw [foldI, foldI_append xs]; simp
theorem d5_eq {N : Nat} (hN : bigN N) {xs : List Op27} (hz : xs.length * 32 ≤ reach) : d5 N xs = some xs := by
 have hs : small xs := by unfold small; unfold reach at hz; omega
 unfold d5
 have := iter_listI xs (fun (l : List Op27) (v : Int) => (l, v)) (fun ((l6, v7) : ((List S27) × Int)) =>
   if v7 < (xs.length : Int) then (idx xs v7).bind fun x22 => (appL 32 l6 [x22]).bind fun _ => (chkI (v7 + 1)).bind fun v25 => some (.inl ((l6 ++ [x22]), v25)) else some (.inr l6))
  (fun _ x l => .inl (l ++ [x])) (fun l => l) (fun k l => l.length = k) (fun k x s hx hk hv => ?_) (fun k x s s' hx hk hv hb => ?_) (fun s hv => ?_) (hs.lt hN) [] rfl
 ·rw [this, listFor_fold, foldI_append]
  simp
 ·simp only []
  rw [if_pos (by omega : (k : Int) < (xs.length : Int)), idx_nat hx, Option.bind_some,
   appL_of (by simp only [List.length_cons, List.length_nil]; rw [hv]; exact Nat.le_trans (Nat.mul_le_mul_right 32 (by omega)) hz), Option.bind_some, chkI_succ hk hs, Option.bind_some]
 ·injection hb with hb
  rw [← hb]; simp [hv]
 ·simp
theorem len_of {xs : List Op27} (h : checkH xs = 0) : xs.length ≤ 200 := by
 unfold checkH at h
 split at h
 ·omega
 ·omega
theorem kind_of {xs : List Op27} (h : checkH xs = 0) : ∀ x ∈ xs, badKind x = false := by
 unfold checkH at h
 split at h
 ·omega
 ·have key : ∀ (xs : List Op27), chkH xs = 0 → ∀ x ∈ xs, badKind x = false := by
   intro xs
   induction xs with
   | nil => intro _ t ht; cases ht
   | cons x xs ih =>
    intro hc t ht
    unfold chkH at hc
    split at hc
    ·omega
    ·rename_i h1
     split at hc
     ·omega
     ·split at hc
      ·omega
      ·rcases List.mem_cons.1 ht with rfl | ht
       ·simpa using h1
       ·exact ih hc t ht
  exact key xs h

theorem tx_of {xs : List Op27} (h : checkH xs = 0) : ∀ x ∈ xs, 0 ≤ x.Tx ∧ x.Tx < 20 := by
 unfold checkH at h
 split at h
 ·omega
 ·have key : ∀ (xs : List Op27), chkH xs = 0 → ∀ x ∈ xs, 0 ≤ x.Tx ∧ x.Tx < 20 := by
   intro xs
   induction xs with
   | nil => intro _ t ht; cases ht
   | cons x xs ih =>
    intro hc t ht
    unfold chkH at hc
    split at hc
    ·omega
    ·split at hc
     ·omega
     ·rename_i h1
      split at hc
      ·omega
      ·rcases List.mem_cons.1 ht with rfl | ht
       ·simp [badTx] at h1
        omega
       ·exact ih hc t ht
  exact key xs h

/-- two operations conflict -/
def conf (a b : Op27) : Bool := (a.Tx != b.Tx) && (decide (a.Key = b.Key) && ((a.Kind == 2) || (b.Kind == 2)))
theorem d40_eq (N : Nat) (a b : Op27) : d40 N a b = some (conf a b) := by
 unfold d40 conf
 cases a.Tx != b.Tx <;> by_cases hk : a.Key = b.Key <;> cases a.Kind == 2 <;> simp [hk]
theorem d19_eq (N : Nat) {a b : Op27} (ha : badKind a = false) (hb : badKind b = false) : d19 N a b = some (conf a b) := by
 have ha : a.Kind = 1 ∨ a.Kind = 2 := by
  simp [badKind] at ha; omega
 have hb : b.Kind = 1 ∨ b.Kind = 2 := by
  simp [badKind] at hb; omega
 unfold d19 conf
 cases a.Tx != b.Tx <;> by_cases hk : a.Key = b.Key <;> rcases ha with ha | ha <;> rcases hb with hb | hb <;> simp [hk, ha, hb, chkI, okI64]
/-- a conflict from one transaction to another -/
def hit (s t : Int) (x y : Op27) : Bool := conf x y && ((x.Tx == s) && (y.Tx == t))
def pL (s t : Int) : List Op27 → Bool
 | [] => false
 | x :: r => r.any (hit s t x) || pL s t r
theorem pL_snoc (s t : Int) (y : Op27) : ∀ l : List Op27, pL s t (l ++ [y]) = (pL s t l || l.any fun x => hit s t x y)
 | [] => rfl
 | x :: l => by
  rw [List.cons_append]
  unfold pL
  rw [pL_snoc s t y l, List.any_append, List.any_cons, List.any_cons, List.any_nil]
  cases l.any (hit s t x) <;> cases hit s t x y <;> cases pL s t l <;> cases (l.any fun x => hit s t x y) <;> rfl
theorem pL_ne (s t : Int) : ∀ l : List Op27, pL s t l = true → s ≠ t
 | [], h => by cases h
 | x :: l, h => by
  unfold pL at h
  rcases (Bool.or_eq_true _ _).mp h with h | h
  ·rw [List.any_eq_true] at h
   obtain ⟨y, _, h⟩ := h
   simp [hit, conf] at h
   omega
  ·exact pL_ne s t l h
theorem take_snoc {α : Type} {xs : List α} {k : Nat} {x : α} (h : xs[k]? = some x) : xs.take (k + 1) = xs.take k ++ [x] := by
 rw [List.take_add_one, h]; rfl

/-! ### a table of 20 by 20 -/
def tab (g : Nat → Nat → Bool) : List Bool := (List.range 400).map fun c => g (c / 20) (c % 20)
@[simp] theorem tab_len (g : Nat → Nat → Bool) : (tab g).length = 400 := by simp [tab]
theorem tab_get (g : Nat → Nat → Bool) {s t : Nat} (hs : s < 20) (ht : t < 20) : (tab g)[s * 20 + t]? = some (g s t) := by
 unfold tab
 rw [List.getElem?_map, List.getElem?_range (by omega)]
 show some (g ((s * 20 + t) / 20) ((s * 20 + t) % 20)) = _
 rw [show (s * 20 + t) / 20 = s by omega, show (s * 20 + t) % 20 = t by omega]
theorem tab_at (g : Nat → Nat → Bool) {i : Nat} (h : i < 400) : (tab g)[i]? = some (g (i / 20) (i % 20)) := by
 unfold tab
 rw [List.getElem?_map, List.getElem?_range h]
 rfl
theorem tab_set (g : Nat → Nat → Bool) {s t : Nat} (hs : s < 20) (ht : t < 20) : (tab g).set (s * 20 + t) true = tab fun a b => g a b || ((a == s) && (b == t)) := by
 apply List.ext_getElem?
 intro i
 rw [List.getElem?_set]
 by_cases hi : i < 400
 ·rw [tab_at _ hi, tab_at _ hi]
  by_cases h : s * 20 + t = i
  ·rw [if_pos h, if_pos (by rw [tab_len]; omega)]
   subst h
   rw [show (s * 20 + t) / 20 = s by omega, show (s * 20 + t) % 20 = t by omega]
   simp
  ·rw [if_neg h]
   have : ((i / 20 == s) && (i % 20 == t)) = false := by
    rw [← Bool.not_eq_true, Bool.and_eq_true, beq_iff_eq, beq_iff_eq]
    omega
   rw [this, Bool.or_false]
 ·rw [if_neg (by omega), List.getElem?_eq_none (by rw [tab_len]; omega), List.getElem?_eq_none (by rw [tab_len]; omega)]
theorem tab_zero : List.replicate 400 false = tab fun _ _ => false := by kernel_rfl
theorem lenL_tab (g : Nat → Nat → Bool) : lenL 400 (tab g) = some (tab g) := if_pos (tab_len g)
theorem lenL_zero : lenL 400 (List.replicate 400 false) = some (List.replicate 400 false) := if_pos List.length_replicate
theorem tab_congr {g h : Nat → Nat → Bool} (e : ∀ s t : Nat, s < 20 → t < 20 → g s t = h s t) : tab g = tab h := by
 unfold tab
 apply List.map_congr_left
 intro c hc
 rw [List.mem_range] at hc
 exact e _ _ (by omega) (by omega)
def pN (l : List Op27) (s t : Nat) : Bool := pL (s : Int) (t : Int) l
theorem arrI_tx {x : Op27} (h : 0 ≤ x.Tx ∧ x.Tx < 20) : arrI x.Tx 20 = some x.Tx.toNat := by
 unfold arrI
 rw [if_pos (by omega)]

theorem d28_eq {N : Nat} (hN : bigN N) {xs : List Op27} (hc : checkH xs = 0) : d28 N xs = some (tab (pN xs)) := by
 have h200 := len_of hc
 have htx := tx_of hc
 have hs : small xs := by unfold small; omega
 unfold d28
 have hloop := iter_listI xs (fun (l : List Bool) (v : Int) => (l, v)) (fun ((l51, v52) : ((List Bool) × Int)) =>
   if v52 < (xs.length : Int) then (idx xs v52).bind fun x159 => (natI v52 xs.length).bind fun n161 => letv (xs.take n161) fun l162 =>
    Option.bind (α := List Bool) (iterN (σ := ((List Bool) × Int)) (ρ := List Bool) (fun ((l173, v174) : ((List Bool) × Int)) =>
     if v174 < (l162.length : Int) then (idx l162 v174).bind fun x199 => (d40 N x199 x159).bind fun r201 =>
      if r201 = true then (arrI x199.Tx 20).bind fun k203 => (arrI x159.Tx 20).bind fun k204 => (setN l173 (k203 * 20 + k204) true).bind fun l205 => (chkI (v174 + 1)).bind fun v206 => some (.inl (l205, v206))
      else (chkI (v174 + 1)).bind fun v207 => some (.inl (l173, v207))
     else some (.inr l173)) N (l51, 0)) fun (l197 : List Bool) =>
    (chkI ((n161 : Int) + 1)).bind fun v208 => some (.inl (l197, v208))
   else some (.inr l51))
  (fun k _ _ => .inl (tab (pN (xs.take (k + 1))))) (fun l => l) (fun k l => l = tab (pN (xs.take k))) (fun k y s hy hk hv => ?_) (fun k x s s' hx hk hv hb => ?_) (fun s hv => ?_) (hs.lt hN) (List.replicate 400 false) (tab_zero)
 ·have hf : ∀ (ys : List Op27) (k : Nat), foldI (fun k (_ : Op27) (_ : List Bool) => tab (pN (xs.take (k + 1)))) ys k (tab (pN (xs.take k))) = tab (pN (xs.take (k + ys.length))) := by
   intro ys
   induction ys with
   | nil => intro k; rfl
   | cons y ys ih =>
    intro k
    rw [foldI, List.length_cons, show k + (ys.length + 1) = k + 1 + ys.length by omega]
    exact ih (k + 1)
  rw [listFor_fold] at hloop
  have h0 : foldI (fun k (_ : Op27) (_ : List Bool) => tab (pN (xs.take (k + 1)))) xs 0 (List.replicate 400 false) = tab (pN xs) := by
   have := hf xs 0
   rw [Nat.zero_add, List.take_length] at this
   rw [tab_zero]
   exact this
  rw [h0] at hloop
  refine Eq.trans (congrArg (fun o => Option.bind o _) hloop) ?_
  show Option.bind (some (tab (pN xs))) _ = _
  rw [Option.bind_some, lenL_tab, Option.bind_some, lenL_zero, Option.bind_some]
 ·simp only []
  rw [if_pos (by omega : (k : Int) < (xs.length : Int)), idx_nat hy, Option.bind_some, natI_nat (by omega), Option.bind_some, letv_eq]
  have hytx := htx y (List.mem_of_getElem? hy)
  have hin := iter_listI (xs.take k) (fun (l : List Bool) (v : Int) => (l, v)) (fun ((l173, v174) : ((List Bool) × Int)) =>
    if v174 < ((xs.take k).length : Int) then (idx (xs.take k) v174).bind fun x199 => (d40 N x199 y).bind fun r201 =>
     if r201 = true then (arrI x199.Tx 20).bind fun k203 => (arrI y.Tx 20).bind fun k204 => (setN l173 (k203 * 20 + k204) true).bind fun l205 => (chkI (v174 + 1)).bind fun v206 => some (.inl (l205, v206))
     else (chkI (v174 + 1)).bind fun v207 => some (.inl (l173, v207))
    else some (.inr l173))
   (fun j _ _ => .inl (tab fun a b => pN (xs.take k) a b || ((xs.take k).take (j + 1)).any fun x => hit a b x y)) (fun l => l) (fun j l => l = tab fun a b => pN (xs.take k) a b || ((xs.take k).take j).any fun x => hit a b x y) (fun j x l hx hj hv => ?_) (fun j x l l' hx hj hv hb => ?_) (fun l hv => ?_) (n := N) (by rw [List.length_take]; unfold bigN at hN; omega) (tab (pN (xs.take k))) (tab_congr fun a b _ _ => by simp)
  ·have hf : ∀ (ys : List Op27) (j : Nat), foldI (fun j (_ : Op27) (_ : List Bool) => tab fun a b => pN (xs.take k) a b || ((xs.take k).take (j + 1)).any fun x => hit a b x y) ys j (tab fun a b => pN (xs.take k) a b || ((xs.take k).take j).any fun x => hit a b x y) = tab fun a b => pN (xs.take k) a b || ((xs.take k).take (j + ys.length)).any fun x => hit a b x y := by
    intro ys
    induction ys with
    | nil => intro j; rfl
    | cons z ys ih =>
     intro j
     rw [foldI, List.length_cons, show j + (ys.length + 1) = j + 1 + ys.length by omega]
     exact ih (j + 1)
   rw [listFor_fold] at hin
   have h0 := hf (xs.take k) 0
   rw [Nat.zero_add, List.take_length] at h0
   have e0 : (tab fun a b => pN (xs.take k) a b || ((xs.take k).take 0).any fun x => hit a b x y) = tab (pN (xs.take k)) := tab_congr fun a b _ _ => by simp
   rw [e0] at h0
   rw [h0] at hin
   have e1 : (tab fun a b => pN (xs.take k) a b || (xs.take k).any fun x => hit a b x y) = tab (pN (xs.take (k + 1))) := tab_congr fun a b _ _ => by
    rw [take_snoc hy]
    exact (pL_snoc a b y (xs.take k)).symm
   rw [e1] at hin
   rw [hv, hin, Option.bind_some, chkI_succ hk hs, Option.bind_some]
  ·have hjk : j < (xs.take k).length := hj
   have hxtx := htx x (List.mem_of_mem_take (List.mem_of_getElem? hx))
   simp only []
   rw [if_pos (by omega : (j : Int) < ((xs.take k).length : Int)), idx_nat hx, Option.bind_some, d40_eq, Option.bind_some, chkI_succ hjk (by rw [List.length_take]; unfold small at hs; omega), take_snoc hx, hv]
   by_cases hcf : conf x y = true
   ·rw [if_pos hcf, arrI_tx hxtx, Option.bind_some, arrI_tx hytx, Option.bind_some]
    unfold setN
    rw [if_pos (by rw [tab_len]; omega), Option.bind_some, Option.bind_some, tab_set _ (by omega) (by omega)]
    have : (tab fun a b => (pN (xs.take k) a b || ((xs.take k).take j).any fun x => hit a b x y) || ((a == x.Tx.toNat) && (b == y.Tx.toNat))) = tab fun a b => pN (xs.take k) a b || ((xs.take k).take j ++ [x]).any fun x => hit a b x y := tab_congr fun a b _ _ => by
     rw [List.any_append, List.any_cons, List.any_nil, Bool.or_false]
     have e : hit a b x y = ((a == x.Tx.toNat) && (b == y.Tx.toNat)) := by
      unfold hit
      rw [hcf, Bool.true_and, Bool.eq_iff_iff]
      simp
      omega
     rw [e, Bool.or_assoc]
    rw [this]
   ·rw [if_neg hcf, Option.bind_some]
    have : (tab fun a b => pN (xs.take k) a b || ((xs.take k).take j ++ [x]).any fun x => hit a b x y) = tab fun a b => (pN (xs.take k) a b || ((xs.take k).take j).any fun x => hit a b x y) := tab_congr fun a b _ _ => by
     rw [List.any_append, List.any_cons, List.any_nil, Bool.or_false]
     have e : hit a b x y = false := by
      unfold hit
      rw [Bool.eq_false_iff.2 hcf, Bool.false_and]
     rw [e, Bool.or_false]
    rw [this]
  ·injection hb with hb
   exact hb.symm
  ·simp
 ·injection hb with hb
  exact hb.symm
 ·simp

/-! ### the transactions -/
def txs (xs : List Op27) : List Int := ((List.range' 0 20).filter fun (v : Nat) => xs.any fun x => x.Tx == (v : Int)).map fun (v : Nat) => (v : Int)
theorem txs_len (xs : List Op27) : (txs xs).length ≤ 20 := by
 unfold txs
 rw [List.length_map]
 exact Nat.le_trans (List.length_filter_le _ _) (by simp)
theorem d43_eq {N : Nat} (hN : bigN N) {xs : List Op27} (hs : small xs) {p : Op27 → Option Bool} {q : Op27 → Bool} (h : ∀ x ∈ xs, p x = some (q x)) : d43 N xs p = some (optI (xs.findIdx? q)) :=
 indexFunc_eq N xs p q h (hs.lt hN) hs
theorem d41_eq {N : Nat} (hN : bigN N) {xs : List Op27} (hs : small xs) {p : Op27 → Option Bool} {q : Op27 → Bool} (h : ∀ x ∈ xs, p x = some (q x)) : d41 N xs p = some (xs.any q) := by
 unfold d41
 rw [d43_eq hN hs h, Option.bind_some, optI_ge]
theorem chkI_20 {k : Nat} (h : k < 20) : chkI ((k : Int) + 1) = some ((k : Int) + 1) := chkI_of (by omega) (by omega)

theorem d25_eq {N : Nat} (hN : bigN N) {xs : List Op27} (hs : small xs) : d25 N xs = some (txs xs) := by
 unfold d25
 have hloop := iter_rangeI 20 (fun (l : List Int) (v : Int) => (l, v)) (fun ((l30, v31) : ((List Int) × Int)) =>
   if v31 < 20 then
    Option.bind (α := List Int) (iterN (σ := Int) (ρ := List Int) (fun (v100 : Int) =>
     if v100 < (xs.length : Int) then (idx xs v100).bind fun x116 =>
      if (x116.Tx == v31) = true then (appL 8 l30 [v31]).bind fun _ => some (.inr (l30 ++ [v31]))
      else (chkI (v100 + 1)).bind fun v120 => some (.inl v120)
     else some (.inr l30)) N 0) fun (l114 : List Int) =>
    (chkI (v31 + 1)).bind fun v121 => some (.inl (l114, v121))
   else some (.inr l30))
  (fun v l => .inl (if (xs.any fun x => x.Tx == (v : Int)) = true then l ++ [(v : Int)] else l)) (fun l => l) (fun k l => l.length ≤ k) (fun k s hk hv => ?_) (fun k s s' hk hv hb => ?_) (fun s hv => ?_) (n := N) (by unfold bigN at hN; omega) [] (Nat.le_refl _)
 ·rw [listFor_fold, foldI_collect (fun v => xs.any fun x => x.Tx == (v : Int)) (fun v => (v : Int))] at hloop
  refine Eq.trans (congrArg (fun o => Option.bind o _) hloop) ?_
  rfl
 ·simp only []
  have happ : appL 8 s [(k : Int)] = some (s ++ [(k : Int)]) := appL_of (by simp only [List.length_cons, List.length_nil]; exact Nat.le_trans (Nat.mul_le_mul_right 8 (show s.length + (0 + 1) ≤ 21 by omega)) (by decide))
  rw [if_pos (by omega : (k : Int) < 20)]
  have hin := iter_list xs (fun (_ : Unit) (v : Int) => v) (fun (v100 : Int) =>
    if v100 < (xs.length : Int) then (idx xs v100).bind fun x116 =>
     if (x116.Tx == (k : Int)) = true then (appL 8 s [(k : Int)]).bind fun _ => some (.inr (s ++ [(k : Int)]))
     else (chkI (v100 + 1)).bind fun v120 => some (.inl v120)
    else some (.inr s))
   (fun _ x _ => if (x.Tx == (k : Int)) = true then .inr (s ++ [(k : Int)]) else .inl ()) (fun _ => s) (fun j x _ hx hj => ?_) (fun _ => ?_) (hs.lt hN) ()
  ·have key : ∀ (ys : List Op27) (j : Nat), listFor (fun _ x (_ : Unit) => if (x.Tx == (k : Int)) = true then .inr (s ++ [(k : Int)]) else .inl ()) (fun _ => s) ys j () = if (ys.any fun x => x.Tx == (k : Int)) = true then s ++ [(k : Int)] else s := by
    intro ys
    induction ys with
    | nil => intro j; rfl
    | cons y ys ih =>
     intro j
     rw [listFor, List.any_cons]
     cases y.Tx == (k : Int) with
     | true => rfl
     | false => exact ih (j + 1)
   rw [key] at hin
   rw [hin, Option.bind_some, chkI_20 hk, Option.bind_some]
  ·rw [if_pos (by omega : (j : Int) < (xs.length : Int)), idx_nat hx, Option.bind_some, happ, chkI_succ hj hs]
   cases x.Tx == (k : Int) <;> rfl
  ·simp
 ·injection hb with hb
  rw [← hb]
  split
  ·simp; omega
  ·omega
 ·simp

/-! ### pairs of the reference -/
theorem d27_eq {N : Nat} (hN : bigN N) {xs : List Op27} (hc : checkH xs = 0) (s t : Int) : d27 N xs s t = some (pL s t xs) := by
 have h200 := len_of hc
 have hkind := kind_of hc
 have hs : small xs := by unfold small; omega
 unfold d27
 have hloop := iter_list xs (fun (_ : Unit) (v : Int) => v) (fun (v94 : Int) =>
   if v94 < (xs.length : Int) then (chkI (v94 + 1)).bind fun v283 =>
    bindO (β := Unit) (ρ := (Int ⊕ (Out Unit Bool))) (iterN (σ := Int) (ρ := (Out Unit (Int ⊕ (Out Unit Bool)))) (fun (v306 : Int) =>
     if v306 < (xs.length : Int) then
      Option.bind (α := Bool) ((idx xs v94).bind fun x363 => if (x363.Tx == s) = true then (idx xs v306).bind fun x366 => if (x366.Tx == t) = true then (d19 N x363 x366).bind fun r371 => some r371 else some false else some false) fun (v362 : Bool) =>
      if v362 = true then some (.inr (.ret (.inr (.ret true)))) else (chkI (v306 + 1)).bind fun v373 => some (.inl v373)
     else some (.inr (.go ()))) N v283) fun (_ : Unit) =>
    (chkI (v94 + 1)).bind fun v374 => some (.inl v374)
   else some (.inr (.go () : Out Unit Bool)))
  (fun k x _ => if ((xs.drop (k + 1)).any (hit s t x)) = true then .inr (.ret true) else .inl ()) (fun _ => .go ()) (fun k x _ hx hk => ?_) (fun _ => ?_) (hs.lt hN) ()
 ·refine Eq.trans (congrArg (fun o => bindO o _) hloop) ?_
  have key : ∀ (n k : Nat), n + k = xs.length → listFor (fun k x (_ : Unit) => if ((xs.drop (k + 1)).any (hit s t x)) = true then .inr (.ret true) else .inl ()) (fun _ => (.go () : Out Unit Bool)) (xs.drop k) k () = if pL s t (xs.drop k) = true then .ret true else .go () := by
   intro n
   induction n with
   | zero => intro k h; rw [List.drop_eq_nil_of_le (by omega)]; rfl
   | succ n ih =>
    intro k h
    rw [List.drop_eq_getElem_cons (show k < xs.length by omega), listFor, pL]
    cases (xs.drop (k + 1)).any (hit s t xs[k]) with
    | true => rfl
    | false => exact ih (k + 1) (by omega)
  have := key xs.length 0 (by omega)
  rw [List.drop_zero] at this
  rw [this]
  cases pL s t xs <;> rfl
 ·rw [if_pos (by omega : (k : Int) < (xs.length : Int)), chkI_succ hk hs, Option.bind_some]
  have hin := iter_list (xs.drop (k + 1)) (fun (_ : Unit) (v : Int) => ((k + 1 : Nat) : Int) + v) (fun (v306 : Int) =>
    if v306 < (xs.length : Int) then
     Option.bind (α := Bool) ((idx xs (k : Int)).bind fun x363 => if (x363.Tx == s) = true then (idx xs v306).bind fun x366 => if (x366.Tx == t) = true then (d19 N x363 x366).bind fun r371 => some r371 else some false else some false) fun (v362 : Bool) =>
     if v362 = true then some (.inr (.ret (.inr (.ret true)))) else (chkI (v306 + 1)).bind fun v373 => some (.inl v373)
    else some (.inr (.go () : Out Unit (Int ⊕ (Out Unit Bool)))))
   (fun _ y _ => if hit s t x y = true then .inr (.ret (.inr (.ret true))) else .inl ()) (fun _ => .go ()) (fun j y _ hy hj => ?_) (fun _ => ?_) (n := N) (by rw [List.length_drop]; unfold bigN at hN; omega) ()
  ·have key : ∀ (ys : List Op27) (j : Nat), listFor (fun _ y (_ : Unit) => if hit s t x y = true then .inr (.ret (.inr (.ret true))) else .inl ()) (fun _ => (.go () : Out Unit (Int ⊕ (Out Unit Bool)))) ys j () = if ys.any (hit s t x) = true then .ret (.inr (.ret true)) else .go () := by
    intro ys
    induction ys with
    | nil => intro j; rfl
    | cons y ys ih =>
     intro j
     rw [listFor, List.any_cons]
     cases hit s t x y with
     | true => rfl
     | false => exact ih (j + 1)
   rw [key] at hin
   rw [show ((k + 1 : Nat) : Int) + 0 = (k : Int) + 1 by omega] at hin
   refine Eq.trans (congrArg (fun o => bindO o _) hin) ?_
   cases (xs.drop (k + 1)).any (hit s t x) <;> rfl
  ·rw [List.getElem?_drop] at hy
   rw [List.length_drop] at hj
   have hkj : k + 1 + j < xs.length := by omega
   rw [show ((k + 1 : Nat) : Int) + (j : Int) = ((k + 1 + j : Nat) : Int) by omega, if_pos (by omega), idx_nat hx, idx_nat hy, chkI_succ hkj hs]
   simp only [Option.bind_some]
   rw [d19_eq N (hkind x (List.mem_of_getElem? hx)) (hkind y (List.mem_of_getElem? hy))]
   unfold hit
   cases x.Tx == s <;> cases y.Tx == t <;> cases conf x y <;> simp <;> omega
  ·rw [List.length_drop, if_neg (by omega)]
 ·simp

/-- the first that waits for none of those that remain -/
def firstFree (q : Int → Int → Bool) (rem : List Int) : Option Nat := rem.findIdx? fun t => rem.all fun s => !q s t
/-- the order, or none -/
def topo (q : Int → Int → Bool) : Nat → List Int → List Int → Option (List Int)
 | 0, _, ord => some ord
 | n + 1, rem, ord => match firstFree q rem with
  | none => none
  | some i => match rem[i]? with
   | some t => topo q n (rem.take i ++ rem.drop (i + 1)) (ord ++ [t])
   | none => none

theorem firstFree_lt {q : Int → Int → Bool} {rem : List Int} {i : Nat} (h : firstFree q rem = some i) : i < rem.length := by
 unfold firstFree at h
 obtain ⟨h1, _⟩ := List.findIdx?_eq_some_iff_getElem.1 h
 exact h1

/-- a loop that takes them one after another -/
theorem topo_loop {ρ : Type} (q : Int → Int → Bool) (bad : ρ) (G : List Int → Prop) (step : (List Int × List Int) → Option ((List Int × List Int) ⊕ Out (List Int) ρ)) (hG : ∀ rem i, G rem → G (rem.take i ++ rem.drop (i + 1)))
  (hnil : ∀ ord, step ([], ord) = some (.inr (.go ord)))
  (hnone : ∀ rem ord, G rem → rem ≠ [] → rem.length ≤ 1000 → firstFree q rem = none → step (rem, ord) = some (.inr (.ret bad)))
  (hsome : ∀ rem ord i t, G rem → rem.length ≤ 1000 → ord.length ≤ 1000 → firstFree q rem = some i → rem[i]? = some t → step (rem, ord) = some (.inl (rem.take i ++ rem.drop (i + 1), ord ++ [t]))) :
  ∀ (m n : Nat) (rem ord : List Int), rem.length = n → n < m → ord.length + n ≤ 1000 → G rem → iterN step m (rem, ord) = some (match topo q n rem ord with | some o => .go o | none => .ret bad) := by
 intro m
 induction m with
 | zero => intro n rem ord _ h; omega
 | succ m ih =>
  intro n rem ord hl hm hb hg
  rw [iterN_succ]
  cases n with
  | zero =>
   have : rem = [] := List.eq_nil_of_length_eq_zero hl
   subst this
   rw [hnil]
   rfl
  | succ n =>
   have hne : rem ≠ [] := fun e => by rw [e] at hl; cases hl
   unfold topo
   cases hf : firstFree q rem with
   | none => rw [hnone rem ord hg hne (by omega) hf]
   | some i =>
    have hi := firstFree_lt hf
    have ht : rem[i]? = some rem[i] := List.getElem?_eq_getElem hi
    rw [hsome rem ord i _ hg (by omega) (by omega) hf ht]
    simp only [ht]
    exact ih n _ _ (by simp; omega) (by omega) (by simp; omega) (hG rem i hg)

theorem all_step (p : Int → Int → Option Bool) (q : Int → Int → Bool) {N : Nat} (hN : bigN N) {rem : List Int} (hs : small rem) {t : Int} (hp : ∀ s ∈ rem, p s t = some (q s t)) :
  iterN (σ := (Bool × Int)) (ρ := Bool) (fun ((v706, v707) : (Bool × Int)) =>
   if v707 < (rem.length : Int) then (idx rem v707).bind fun x730 =>
    Option.bind (α := Bool) (if v706 = true then (p x730 t).bind fun r736 => some (!r736) else some false) fun (v734 : Bool) => (chkI (v707 + 1)).bind fun v737 => some (.inl (v734, v737))
   else some (.inr v706)) N (true, 0) = some (rem.all fun s => !q s t) := by
 have := iter_list rem (fun (b : Bool) (v : Int) => (b, v)) (fun ((v706, v707) : (Bool × Int)) =>
   if v707 < (rem.length : Int) then (idx rem v707).bind fun x730 =>
    Option.bind (α := Bool) (if v706 = true then (p x730 t).bind fun r736 => some (!r736) else some false) fun (v734 : Bool) => (chkI (v707 + 1)).bind fun v737 => some (.inl (v734, v737))
   else some (.inr v706)) (fun _ s b => .inl (b && !q s t)) (fun b => b) (fun k x s hx hk => ?_) (fun s => ?_) (hs.lt hN) true
 ·rw [this, listFor_fold]
  have key : ∀ (xs : List Int) (k : Nat) (b : Bool), foldI (fun _ s b => b && !q s t) xs k b = (b && xs.all fun s => !q s t) := by
   intro xs
   induction xs with
   | nil => intro k b; simp [foldI]
   | cons x xs ih => intro k b; rw [foldI, ih, List.all_cons, Bool.and_assoc]
  rw [key]
  simp
 ·simp only []
  rw [if_pos (by omega : (k : Int) < (rem.length : Int)), idx_nat hx]
  simp only [Option.bind_some]
  rw [hp x (List.mem_of_getElem? hx)]
  simp only [chkI_succ hk hs]
  cases s <;> simp
 ·simp

theorem find_step (p : Int → Int → Option Bool) (q : Int → Int → Bool) {N : Nat} (hN : bigN N) {rem : List Int} (hs : small rem) (hp : ∀ s ∈ rem, ∀ t ∈ rem, p s t = some (q s t)) :
  iterN (σ := Int) (ρ := Int) (fun (v608 : Int) =>
   if v608 < (rem.length : Int) then (idx rem v608).bind fun x698 =>
    Option.bind (α := Bool) (iterN (σ := (Bool × Int)) (ρ := Bool) (fun ((v706, v707) : (Bool × Int)) =>
     if v707 < (rem.length : Int) then (idx rem v707).bind fun x730 =>
      Option.bind (α := Bool) (if v706 = true then (p x730 x698).bind fun r736 => some (!r736) else some false) fun (v734 : Bool) => (chkI (v707 + 1)).bind fun v737 => some (.inl (v734, v737))
     else some (.inr v706)) N (true, 0)) fun (v728 : Bool) =>
    if v728 = true then some (.inr v608) else (chkI (v608 + 1)).bind fun v739 => some (.inl v739)
   else some (.inr (-1))) N 0 = some (optI (firstFree q rem)) := by
 have := iter_list rem (fun (_ : Unit) (v : Int) => v) (fun (v608 : Int) =>
   if v608 < (rem.length : Int) then (idx rem v608).bind fun x698 =>
    Option.bind (α := Bool) (iterN (σ := (Bool × Int)) (ρ := Bool) (fun ((v706, v707) : (Bool × Int)) =>
     if v707 < (rem.length : Int) then (idx rem v707).bind fun x730 =>
      Option.bind (α := Bool) (if v706 = true then (p x730 x698).bind fun r736 => some (!r736) else some false) fun (v734 : Bool) => (chkI (v707 + 1)).bind fun v737 => some (.inl (v734, v737))
     else some (.inr v706)) N (true, 0)) fun (v728 : Bool) =>
    if v728 = true then some (.inr v608) else (chkI (v608 + 1)).bind fun v739 => some (.inl v739)
   else some (.inr (-1))) (fun k t (_ : Unit) => if (rem.all fun s => !q s t) = true then .inr (k : Int) else .inl ()) (fun _ => -1) (fun k x s hx hk => ?_) (fun s => ?_) (hs.lt hN) ()
 ·rw [this]
  unfold firstFree
  have key : ∀ (f : Int → Bool) (xs : List Int) (k : Nat), listFor (fun k x (_ : Unit) => if f x = true then .inr (k : Int) else .inl ()) (fun _ => (-1 : Int)) xs k () = match xs.findIdx? f with | some i => (k : Int) + i | none => -1 := by
   intro f xs
   induction xs with
   | nil => intro k; rfl
   | cons x xs ih =>
    intro k
    unfold listFor
    rw [List.findIdx?_cons]
    cases h : f x with
    | true => simp
    | false =>
     simp only [Bool.false_eq_true, if_false]
     rw [ih (k + 1)]
     cases xs.findIdx? f with
     | none => rfl
     | some i =>
      show (((k + 1 : Nat) : Int)) + (i : Int) = (k : Int) + ((i + 1 : Nat) : Int)
      omega
  rw [key (fun t => rem.all fun s => !q s t)]
  cases rem.findIdx? _ <;> simp [optI]
 ·rw [if_pos (by omega : (k : Int) < (rem.length : Int)), idx_nat hx]
  simp only [Option.bind_some]
  rw [all_step p q hN hs (fun s hs' => hp s hs' x (List.mem_of_getElem? hx))]
  simp only [Option.bind_some, chkI_succ hk hs]
  cases rem.all fun s => !q s x <;> simp
 ·simp

theorem mem_part {rem : List Int} {i : Nat} {x : Int} (h : x ∈ rem.take i ++ rem.drop (i + 1)) : x ∈ rem := by
 rcases List.mem_append.1 h with h | h
 ·exact List.mem_of_mem_take h
 ·exact List.mem_of_mem_drop h

theorem d24_eq {N : Nat} (hN : bigN N) (p : Int → Int → Option Bool) (q : Int → Int → Bool) {nodes : List Int} (hn : nodes.length ≤ 1000) (hp : ∀ s ∈ nodes, ∀ t ∈ nodes, p s t = some (q s t)) :
  d24 N nodes p = some (match topo q nodes.length nodes [] with | some o => (o, true) | none => ([], false)) := by
 unfold d24 d37
 rw [if_pos (Nat.le_trans (Nat.mul_le_mul_right 8 hn) (by decide))]
 simp only [Option.bind_some]
 have hloop := topo_loop q (([] : List Int), false) (fun rem => ∀ x ∈ rem, x ∈ nodes) (fun ((l188, l189) : ((List Int) × (List Int))) =>
   if (l188.length : Int) > 0 then
    Option.bind (α := Int) (iterN (σ := Int) (ρ := Int) (fun (v608 : Int) =>
     if v608 < (l188.length : Int) then (idx l188 v608).bind fun x698 =>
      Option.bind (α := Bool) (iterN (σ := (Bool × Int)) (ρ := Bool) (fun ((v706, v707) : (Bool × Int)) =>
       if v707 < (l188.length : Int) then (idx l188 v707).bind fun x730 =>
        Option.bind (α := Bool) (if v706 = true then (p x730 x698).bind fun r736 => some (!r736) else some false) fun (v734 : Bool) => (chkI (v707 + 1)).bind fun v737 => some (.inl (v734, v737))
       else some (.inr v706)) N (true, 0)) fun (v728 : Bool) =>
      if v728 = true then some (.inr v608) else (chkI (v608 + 1)).bind fun v739 => some (.inl v739)
     else some (.inr (-1))) N 0) fun (v696 : Int) =>
    if v696 < 0 then some (.inr (.ret (([] : List Int), false))) else
    (idx l188 v696).bind fun x741 =>
    (appL 8 l189 [x741]).bind fun l743 =>
    (natI v696 l188.length).bind fun n744 =>
    letv (l188.take n744) fun l745 =>
    (appL 8 ([] : List Int) l745).bind fun l746 =>
    (chkI ((n744 : Int) + 1)).bind fun v747 =>
    (natI v747 l188.length).bind fun n748 =>
    letv (l188.drop n748) fun l749 =>
    (appL 8 (([] : List Int) ++ l745) l749).bind fun l750 =>
    some (.inl (((([] : List Int) ++ l745) ++ l749), (l189 ++ [x741])))
   else some (.inr (.go l189)))
  (fun rem i h x hx => h x (mem_part hx)) (fun ord => by simp) (fun rem ord hg hne hle hf => ?_) (fun rem ord i t hg hle hle2 hf ht => ?_) N nodes.length nodes [] rfl (by unfold bigN at hN; omega) (by simpa using hn) (fun x hx => hx)
 ·have e := congrArg (fun o => bindO (β := List Int) (ρ := ((List Int) × Bool)) o fun (l564 : List Int) => some (l564, true)) hloop
  refine Eq.trans e ?_
  cases topo q nodes.length nodes [] <;> rfl
 ·have hpos : 0 < rem.length := List.length_pos_iff.2 hne
  simp only []
  rw [if_pos (by omega : (rem.length : Int) > 0), find_step p q hN (show small rem by unfold small; omega) (fun s hs t ht => hp s (hg s hs) t (hg t ht)), hf]
  simp [optI]
 ·have hi := firstFree_lt hf
  simp only []
  rw [if_pos (by omega : (rem.length : Int) > 0), find_step p q hN (show small rem by unfold small; omega) (fun s hs t ht => hp s (hg s hs) t (hg t ht)), hf]
  simp only [Option.bind_some, optI]
  rw [if_neg (by omega), idx_nat ht]
  simp only [Option.bind_some]
  rw [appL_of (by simp only [List.length_cons, List.length_nil]; exact Nat.le_trans (Nat.mul_le_mul_right 8 (show ord.length + (0 + 1) ≤ 2000 by omega)) (by decide))]
  simp only [Option.bind_some]
  rw [natI_nat (by omega)]
  simp only [Option.bind_some, letv_eq]
  rw [appL_of (by simp only [List.length_nil, List.length_take]; exact Nat.le_trans (Nat.mul_le_mul_right 8 (show 0 + min i rem.length ≤ 2000 by omega)) (by decide)), Option.bind_some, chkI_of (by omega) (by omega), Option.bind_some,
   show ((i : Int) + 1) = ((i + 1 : Nat) : Int) by omega, natI_nat (by omega), Option.bind_some,
   appL_of (by simp only [List.nil_append, List.length_take, List.length_drop]; exact Nat.le_trans (Nat.mul_le_mul_right 8 (show min i rem.length + (rem.length - (i + 1)) ≤ 2000 by omega)) (by decide)), Option.bind_some]
  rfl

theorem d29_eq {N : Nat} (hN : bigN N) {xs : List Op27} (hs : small xs) : d29 N xs = some (txs xs) := by
 unfold d29
 have hloop := iter_rangeI 20 (fun (l : List Int) (v : Int) => (l, v)) (fun ((l7, v8) : ((List Int) × Int)) =>
   if v8 < 20 then (d41 N xs (fun b0 => d42 N b0 v8)).bind fun r25 =>
    if r25 = true then (appL 8 l7 [v8]).bind fun _ => (chkI (v8 + 1)).bind fun v28 => some (.inl ((l7 ++ [v8]), v28))
    else (chkI (v8 + 1)).bind fun v29 => some (.inl (l7, v29))
   else some (.inr l7))
  (fun v l => .inl (if (xs.any fun x => x.Tx == (v : Int)) = true then l ++ [(v : Int)] else l)) (fun l => l) (fun k l => l.length ≤ k) (fun k s hk hv => ?_) (fun k s s' hk hv hb => ?_) (fun s hv => ?_) (n := N) (by unfold bigN at hN; omega) [] (Nat.le_refl _)
 ·rw [listFor_fold, foldI_collect (fun v => xs.any fun x => x.Tx == (v : Int)) (fun v => (v : Int))] at hloop
  refine Eq.trans (congrArg (fun o => Option.bind o _) hloop) ?_
  rfl
 ·simp only []
  have happ : appL 8 s [(k : Int)] = some (s ++ [(k : Int)]) := appL_of (by simp only [List.length_cons, List.length_nil]; exact Nat.le_trans (Nat.mul_le_mul_right 8 (show s.length + (0 + 1) ≤ 21 by omega)) (by decide))
  rw [if_pos (by omega : (k : Int) < 20), show (d41 N xs fun b0 => d42 N b0 (k : Int)) = some (xs.any fun x => x.Tx == (k : Int)) from d41_eq hN hs (fun x _ => rfl), Option.bind_some]
  cases xs.any fun x => x.Tx == (k : Int) with
  | true => rw [if_pos rfl, if_pos rfl, happ, Option.bind_some, chkI_20 hk, Option.bind_some]
  | false => rw [if_neg (by simp), if_neg (by simp), chkI_20 hk, Option.bind_some]
 ·injection hb with hb
  rw [← hb]
  split
  ·simp; omega
  ·omega
 ·simp

theorem mem_txs {xs : List Op27} {v : Int} (h : v ∈ txs xs) : ∃ k : Nat, k < 20 ∧ v = k := by
 unfold txs at h
 rw [List.mem_map] at h
 obtain ⟨k, hk, rfl⟩ := h
 have := (List.mem_filter.1 hk).1
 rw [List.mem_range'_1] at this
 exact ⟨k, by omega, rfl⟩
/-- the pairs, over integers -/
def qP (xs : List Op27) (s t : Int) : Bool := pL s t xs
theorem d33_eq (N : Nat) {xs : List Op27} {s t : Nat} (hs : s < 20) (ht : t < 20) : d33 N s (tab (pN xs)) t = some (qP xs s t) := by
 unfold d33
 rw [arrI_nat hs, Option.bind_some, arrI_nat ht, Option.bind_some, tab_get _ hs ht, Option.bind_some]
 rfl
theorem d30_eq {N : Nat} (hN : bigN N) {xs : List Int} (hs : small xs) {p : Int → Option Bool} {q : Int → Bool} (h : ∀ x ∈ xs, p x = some (q x)) : d30 N xs p = some (optI (xs.findIdx? q)) :=
 indexFunc_eq N xs p q h (hs.lt hN) hs
theorem d32_eq {N : Nat} (hN : bigN N) {xs : List Int} (hs : small xs) {p : Int → Option Bool} {q : Int → Bool} (h : ∀ x ∈ xs, p x = some (q x)) : d32 N xs p = some (xs.any q) := by
 unfold d32
 rw [d30_eq hN hs h, Option.bind_some, optI_ge]
theorem d31_eq {N : Nat} (hN : bigN N) {xs : List Op27} {rem : List Int} (hs : small rem) (hrem : ∀ x ∈ rem, x ∈ txs xs) {t : Int} (ht : t ∈ txs xs) : d31 N t rem (tab (pN xs)) = some (rem.all fun s => !qP xs s t) := by
 unfold d31
 obtain ⟨k, hk, rfl⟩ := mem_txs ht
 rw [show (d32 N rem fun b0 => d33 N b0 (tab (pN xs)) (k : Int)) = some (rem.any fun s => qP xs s k) from d32_eq hN hs (fun x hx => by
  obtain ⟨j, hj, rfl⟩ := mem_txs (hrem x hx)
  exact d33_eq N hj hk), Option.bind_some]
 congr 1
 rw [List.not_any_eq_all_not]

theorem d13_eq {N : Nat} (hN : bigN N) {xs : List Op27} (hs : small xs) :
  d13 N xs = some (if checkH xs ≠ 0 then ([], checkH xs) else match topo (qP xs) (txs xs).length (txs xs) [] with | some o => (o, 0) | none => ([], 14)) := by
 unfold d13
 rw [d18_eq hN hs, Option.bind_some]
 by_cases hc : checkH xs = 0
 ·have hnl := txs_len xs
  rw [if_neg (show ¬ ((checkH xs != 0) = true) by simp [hc]), if_neg (show ¬ (checkH xs ≠ 0) by simp [hc]), d28_eq hN hc, Option.bind_some, lenL_zero, Option.bind_some, lenL_tab, Option.bind_some, d29_eq hN hs, Option.bind_some]
  have hloop := topo_loop (qP xs) (([] : List Int), (14 : Int)) (fun rem => ∀ x ∈ rem, x ∈ txs xs) (fun ((l15, l16) : ((List Int) × (List Int))) =>
    if (l15.length : Int) > 0 then
     (d30 N l15 (fun b0 => d31 N b0 l15 (tab (pN xs)))).bind fun r37 =>
     if r37 < 0 then some (.inr (.ret (([] : List Int), 14))) else
     (idx l15 r37).bind fun x39 => (appL 8 l16 [x39]).bind fun _ => (chkI (r37 + 1)).bind fun v42 => (d34 N l15 r37 v42).bind fun l43 => some (.inl (l43, (l16 ++ [x39])))
    else some (.inr (.go l16)))
   (fun rem i h x hx => h x (mem_part hx)) (fun ord => by simp) (fun rem ord hg hne hle hf => ?_) (fun rem ord i t hg hle hle2 hf ht => ?_) N (txs xs).length (txs xs) [] rfl (by unfold bigN at hN; omega) (by simp; omega) (fun x hx => hx)
  ·refine Eq.trans (congrArg (fun o => bindO (β := List Int) (ρ := ((List Int) × Int)) o fun (l64 : List Int) => some (l64, (0 : Int))) hloop) ?_
   cases topo (qP xs) (txs xs).length (txs xs) [] <;> rfl
  ·have hpos : 0 < rem.length := List.length_pos_iff.2 hne
   have hfind : d30 N rem (fun a0 => d31 N a0 rem (tab (pN xs))) = some (optI (firstFree (qP xs) rem)) :=
    d30_eq hN (show small rem by unfold small; omega) (fun t ht => d31_eq hN (show small rem by unfold small; omega) hg (hg t ht))
   simp only []
   rw [if_pos (by omega : (rem.length : Int) > 0), hfind, hf]
   simp [optI]
  ·have hi := firstFree_lt hf
   have hfind : d30 N rem (fun a0 => d31 N a0 rem (tab (pN xs))) = some (optI (firstFree (qP xs) rem)) :=
    d30_eq hN (show small rem by unfold small; omega) (fun t ht => d31_eq hN (show small rem by unfold small; omega) hg (hg t ht))
   simp only []
   rw [if_pos (by omega : (rem.length : Int) > 0), hfind, hf]
   simp only [Option.bind_some, optI]
   rw [if_neg (by omega), idx_nat ht, Option.bind_some, appL_of (by simp only [List.length_cons, List.length_nil]; exact Nat.le_trans (Nat.mul_le_mul_right 8 (show ord.length + (0 + 1) ≤ 2000 by omega)) (by decide)), Option.bind_some, chkI_of (by omega) (by omega), Option.bind_some]
   unfold d34 delL
   rw [if_pos (by omega), Option.bind_some, show ((i : Int) + 1).toNat = i + 1 by omega, Int.toNat_natCast]
 ·rw [if_pos (show (checkH xs != 0) = true by simp [hc]), if_pos (show checkH xs ≠ 0 from hc)]
end Go.Proofs.Ytifcmomjjkbboaa
end
section
namespace Go.Proofs.Ytifcmomjjkbboaa
open Go.Ab Go.Rp

theorem loop_idx {σ τ ρ : Type} (len : Nat) (mkS : σ → Int → τ) (step : τ → Option (τ ⊕ ρ)) (Inv : Nat → σ → Prop) (Post : ρ → Prop)
  (hs : ∀ k s, k < len → Inv k s → (∃ s', step (mkS s k) = some (.inl (mkS s' ((k : Int) + 1))) ∧ Inv (k + 1) s') ∨ ∃ r, step (mkS s k) = some (.inr r) ∧ Post r)
  (he : ∀ s, Inv len s → ∃ r, step (mkS s len) = some (.inr r) ∧ Post r) (s0 : σ) (h0 : Inv 0 s0) {n : Nat} (hn : len < n) : ∃ r, iterN step n (mkS s0 0) = some r ∧ Post r := by
 have key : ∀ (m k : Nat) (s : σ), k ≤ len → len - k < m → Inv k s → ∃ r, iterN step m (mkS s k) = some r ∧ Post r := by
  intro m
  induction m with
  | zero => intro k s _ h; omega
  | succ m ih =>
   intro k s hk hm hi
   rw [iterN_succ]
   by_cases hlt : k < len
   ·rcases hs k s hlt hi with ⟨s', h1, h2⟩ | ⟨r, h1, h2⟩
    ·rw [h1]
     exact ih (k + 1) s' (by omega) (by omega) h2
    ·rw [h1]; exact ⟨r, rfl, h2⟩
   ·obtain rfl : k = len := by omega
    obtain ⟨r, h1, h2⟩ := he s hi
    rw [h1]
    exact ⟨r, rfl, h2⟩
 exact key n 0 s0 (Nat.zero_le _) (by omega) h0
theorem iter_post {τ ρ : Type} (step : τ → Option (τ ⊕ ρ)) (μ : τ → Nat) (Inv : τ → Prop) (Post : ρ → Prop)
  (h : ∀ s, Inv s → (∃ s', step s = some (.inl s') ∧ Inv s' ∧ μ s' < μ s) ∨ ∃ r, step s = some (.inr r) ∧ Post r) :
  ∀ (n : Nat) (s : τ), Inv s → μ s < n → ∃ r, iterN step n s = some r ∧ Post r := by
 intro n
 induction n with
 | zero => intro s _ h; omega
 | succ n ih =>
  intro s hi hm
  rcases h s hi with ⟨s', h1, h2, h3⟩ | ⟨r, h1, h2⟩
  ·obtain ⟨r, h4, h5⟩ := ih s' h2 (by omega)
   exact ⟨r, by rw [iterN, h1]; exact h4, h5⟩
  ·exact ⟨r, by rw [iterN, h1], h2⟩
theorem bind_eq {α β : Type} {d : Option α} {k : α → Option β} {P : α → Prop} {r : β} (h : ∃ s, d = some s ∧ P s) (h2 : ∀ s, P s → k s = some r) : d.bind k = some r := by
 obtain ⟨s, rfl, hp⟩ := h
 exact h2 s hp
theorem bind_ex {α β : Type} {d : Option α} {k : α → Option β} {P : α → Prop} {Q : β → Prop} (h : ∃ s, d = some s ∧ P s) (h2 : ∀ s, P s → ∃ r, k s = some r ∧ Q r) : ∃ r, d.bind k = some r ∧ Q r := by
 obtain ⟨s, rfl, hp⟩ := h
 exact h2 s hp
theorem bindO_eq {β ρ : Type} {d : Option (Out β ρ)} {k : β → Option ρ} {P : Out β ρ → Prop} {r : ρ} (h : ∃ s, d = some s ∧ P s) (h1 : ∀ x, P (.ret x) → x = r) (h2 : ∀ b, P (.go b) → k b = some r) : bindO d k = some r := by
 obtain ⟨s, rfl, hp⟩ := h
 cases s with
 | go b => exact h2 b hp
 | ret x => show some x = some r; rw [h1 x hp]
theorem bind_of {α β : Type} {d : Option α} {k : α → Option β} {a : α} {r : Option β} (h : d = some a) (h2 : k a = r) : d.bind k = r := by rw [h]; exact h2

/-! ### normal words -/
def nfR : List Op27 → Op27 → Bool
 | [], _ => true
 | x :: r, op => (x.Tx == op.Tx) || (conf x op || (decide (x.Tx < op.Tx) && nfR r op))
def nf (p : List Op27) (op : Op27) : Bool := nfR p.reverse op
theorem nf_snoc (p : List Op27) (x op : Op27) : nf (p ++ [x]) op = ((x.Tx == op.Tx) || (conf x op || (decide (x.Tx < op.Tx) && nf p op))) := by
 unfold nf
 rw [List.reverse_append]
 rfl
theorem conf_comm (a b : Op27) : conf a b = conf b a := by
 unfold conf
 have h1 : (a.Tx != b.Tx) = (b.Tx != a.Tx) := bne_comm
 have h2 : decide (a.Key = b.Key) = decide (b.Key = a.Key) := by
  rw [decide_eq_decide]; exact eq_comm
 rw [h1, h2, Bool.or_comm (a.Kind == 2)]

abbrev Txs := List (List Op27)
def opAt (T : Txs) (ns : List Nat) (i : Nat) : Option Op27 := (T.getD i [])[ns.getD i 0]?
def fin (T : Txs) (ns : List Nat) : Bool := (List.range T.length).all fun i => (opAt T ns i).isNone
def gen (T : Txs) : Nat → List Nat → List Op27 → List (List Op27)
 | 0, _, p => [p]
 | f + 1, ns, p => if fin T ns = true then [p] else (List.range T.length).flatMap fun i => match opAt T ns i with
  | none => []
  | some op => if nf p op = true then gen T f (ns.set i (ns.getD i 0 + 1)) (p ++ [op]) else []
def child (T : Txs) (f : Nat) (ns : List Nat) (p : List Op27) (i : Nat) : List (List Op27) := match opAt T ns i with
  | none => []
  | some op => if nf p op = true then gen T f (ns.set i (ns.getD i 0 + 1)) (p ++ [op]) else []
def left (T : Txs) (ns : List Nat) : Nat := ((List.range T.length).map fun i => (T.getD i []).length - ns.getD i 0).sum

theorem sum_less {f g : Nat → Nat} {i : Nat} (hi : g i + 1 = f i) (ho : ∀ j, j ≠ i → g j = f j) : ∀ m, i < m → ((List.range m).map g).sum + 1 = ((List.range m).map f).sum
 | 0, h => by omega
 | m + 1, h => by
  rw [List.range_succ, List.map_append, List.map_append, List.sum_append, List.sum_append]
  simp only [List.map_cons, List.map_nil, List.sum_cons, List.sum_nil]
  by_cases e : i = m
  ·subst e
   have : ((List.range i).map g) = ((List.range i).map f) := List.map_congr_left fun j hj => ho j (by have := List.mem_range.1 hj; omega)
   rw [this]; omega
  ·have := sum_less hi ho m (by omega)
   rw [ho m (fun h => e h.symm)]
   omega
theorem sum_ge {f : Nat → Nat} {i : Nat} : ∀ m, i < m → f i ≤ ((List.range m).map f).sum
 | 0, h => by omega
 | m + 1, h => by
  rw [List.range_succ, List.map_append, List.sum_append]
  simp only [List.map_cons, List.map_nil, List.sum_cons, List.sum_nil]
  by_cases e : i = m
  ·subst e; omega
  ·have := sum_ge (f := f) (i := i) m (by omega)
   omega
theorem getD_set {ns : List Nat} {i j x : Nat} (hi : i < ns.length) : (ns.set i x).getD j 0 = if j = i then x else ns.getD j 0 := by
 simp only [List.getD_eq_getElem?_getD, List.getElem?_set]
 by_cases h : i = j
 ·subst h; simp [hi]
 ·have : ¬ j = i := fun e => h e.symm
  simp [h, this]
theorem left_step {T : Txs} {ns : List Nat} {i : Nat} {op : Op27} (hl : ns.length = T.length) (hi : i < T.length) (h : opAt T ns i = some op) : left T (ns.set i (ns.getD i 0 + 1)) + 1 = left T ns := by
 unfold left
 have hlt : ns.getD i 0 < (T.getD i []).length := (List.getElem?_eq_some_iff.1 h).1
 refine sum_less (i := i) ?_ (fun j hj => ?_) _ hi
 ·rw [getD_set (by omega), if_pos rfl]; omega
 ·rw [getD_set (by omega), if_neg hj]
theorem left_pos {T : Txs} {ns : List Nat} {i : Nat} {op : Op27} (hi : i < T.length) (h : opAt T ns i = some op) : 0 < left T ns := by
 have hlt : ns.getD i 0 < (T.getD i []).length := (List.getElem?_eq_some_iff.1 h).1
 have := sum_ge (f := fun i => (T.getD i []).length - ns.getD i 0) (i := i) _ hi
 unfold left
 omega
theorem opAt_set {T : Txs} {ns : List Nat} {i j : Nat} (hl : ns.length = T.length) (hi : i < T.length) (hj : j ≠ i) : opAt T (ns.set i (ns.getD i 0 + 1)) j = opAt T ns j := by
 unfold opAt
 rw [getD_set (by omega), if_neg hj]
theorem fin_false {T : Txs} {ns : List Nat} (h : fin T ns ≠ true) : ∃ i op, i < T.length ∧ opAt T ns i = some op := by
 have h := Bool.eq_false_iff.2 h
 unfold fin at h
 rw [List.all_eq_false] at h
 obtain ⟨i, hi, hn⟩ := h
 cases ho : opAt T ns i with
 | none => rw [ho] at hn; exact absurd rfl hn
 | some op => exact ⟨i, op, List.mem_range.1 hi, ho⟩
theorem gen_fin {T : Txs} {ns : List Nat} (h : fin T ns = true) (f : Nat) (p : List Op27) : gen T f ns p = [p] := by
 cases f with
 | zero => rfl
 | succ f => unfold gen; rw [if_pos h]
theorem gen_open {T : Txs} {ns : List Nat} (h : fin T ns ≠ true) (f : Nat) (p : List Op27) : gen T (f + 1) ns p = (List.range T.length).flatMap (child T f ns p) := by
 show (if fin T ns = true then [p] else _) = _
 rw [if_neg h]
 rfl
theorem child_fin {T : Txs} {ns : List Nat} (h : fin T ns = true) (f : Nat) (p : List Op27) {i : Nat} (hi : i < T.length) : child T f ns p i = [] := by
 unfold child
 have := List.all_eq_true.1 h i (List.mem_range.2 hi)
 cases ho : opAt T ns i with
 | none => rfl
 | some op => rw [ho] at this; cases this
theorem flat_len {α : Type} {g : Nat → List α} {m b : Nat} (h : ∀ i, i < m → (g i).length ≤ b) : ∀ k, k ≤ m → ((List.range k).flatMap g).length ≤ k * b
 | 0, _ => by simp
 | k + 1, hk => by
  rw [List.range_succ, List.flatMap_append, List.length_append]
  have h1 := flat_len h k (by omega)
  have h2 := h k (by omega)
  simp only [List.flatMap_cons, List.flatMap_nil, List.append_nil]
  rw [Nat.add_mul, Nat.one_mul]
  omega
theorem gen_len {T : Txs} (h4 : T.length ≤ 4) : ∀ (f : Nat) (ns : List Nat) (p : List Op27), (gen T f ns p).length ≤ 4 ^ f
 | 0, _, _ => by simp [gen]
 | f + 1, ns, p => by
  by_cases h : fin T ns = true
  ·rw [gen_fin h]; exact Nat.one_le_pow _ _ (by decide)
  ·rw [gen_open h]
   have hc : ∀ i, i < T.length → (child T f ns p i).length ≤ 4 ^ f := fun i _ => by
    unfold child
    split
    ·simp
    ·split
     ·exact gen_len h4 f _ _
     ·simp
   have := flat_len hc T.length (Nat.le_refl _)
   have h2 : T.length * 4 ^ f ≤ 4 * 4 ^ f := Nat.mul_le_mul_right _ h4
   rw [Nat.pow_succ, Nat.mul_comm (4 ^ f)]
   omega
theorem child_len {T : Txs} (h4 : T.length ≤ 4) (f : Nat) (ns : List Nat) (p : List Op27) (i : Nat) : (child T f ns p i).length ≤ 4 ^ f := by
 unfold child
 split
 ·simp
 ·split
  ·exact gen_len h4 f _ _
  ·simp

/-- lists of transactions as the checks leave them -/
structure Good (T : Txs) : Prop where
 four : T.length ≤ 4
 tx : ∀ i, ∀ op ∈ T.getD i [], op.Tx = (i : Int)
 kind : ∀ i, ∀ op ∈ T.getD i [], badKind op = false
theorem Good.at {T : Txs} (g : Good T) {ns : List Nat} {i : Nat} {op : Op27} (h : opAt T ns i = some op) : op.Tx = (i : Int) ∧ badKind op = false :=
 ⟨g.tx i op (List.mem_of_getElem? h), g.kind i op (List.mem_of_getElem? h)⟩
/-- places within the transactions -/
structure At (T : Txs) (ns : List Nat) : Prop where
 len : ns.length = T.length
 le : ∀ i, ns.getD i 0 ≤ (T.getD i []).length
theorem At.step {T : Txs} {ns : List Nat} (a : At T ns) {i : Nat} {op : Op27} (hi : i < T.length) (h : opAt T ns i = some op) : At T (ns.set i (ns.getD i 0 + 1)) := by
 refine ⟨by rw [List.length_set]; exact a.len, fun j => ?_⟩
 rw [getD_set (by rw [a.len]; exact hi)]
 split
 ·rename_i e
  subst e
  exact (List.getElem?_eq_some_iff.1 h).1
 ·exact a.le j
theorem At.idx {T : Txs} {ns : List Nat} (a : At T ns) {i : Nat} (hi : i < T.length) : idx T (i : Int) = some (T.getD i []) ∧ idx (ns.map fun n : Nat => (n : Int)) (i : Int) = some ((ns.getD i 0 : Nat) : Int) := by
 have hi2 : i < ns.length := by rw [a.len]; exact hi
 refine ⟨idx_nat ?_, idx_nat ?_⟩
 ·simp [List.getD_eq_getElem?_getD, hi]
 ·simp [List.getD_eq_getElem?_getD, hi2]
theorem At.same {T : Txs} {ns : List Nat} (a : At T ns) {i : Nat} : (((ns.getD i 0 : Nat) : Int) == ((T.getD i []).length : Int)) = (opAt T ns i).isNone := by
 have h := a.le i
 unfold opAt
 by_cases e : ns.getD i 0 = (T.getD i []).length
 ·rw [e]; simp
 ·have : ns.getD i 0 < (T.getD i []).length := by omega
  rw [List.getElem?_eq_getElem this]
  simp only [Option.isNone_some, beq_eq_false_iff_ne]
  omega
theorem opAt_idx {T : Txs} {ns : List Nat} {i : Nat} {op : Op27} (h : opAt T ns i = some op) : idx (T.getD i []) ((ns.getD i 0 : Nat) : Int) = some op := idx_nat h

/-! ### the count -/
theorem scan_eq {N : Nat} {p : List Op27} (hp : p.length + 1 < N) (hk : ∀ x ∈ p, badKind x = false) {op : Op27} (ho : badKind op = false) (hl : p.length ≤ 100) :
  ∃ r, iterN (σ := (Bool × Int)) (ρ := Bool) (fun ((v672, v673) : (Bool × Int)) =>
       Option.bind (α := (Bool × Bool)) (
        if v673 ≥ 0 then (
         if v672 = true then (
          (idx p v673).bind fun x723 =>
          if (x723.Tx != op.Tx) then (
           (d19 N x723 op).bind fun r726 =>
           some (true, (!r726))
          ) else
          some (true, false)
         ) else
         some (false, false)
        ) else
        some (v672, false)
       ) fun ((v719, v720) : (Bool × Bool)) =>
       if v720 = true then (
        (idx p v673).bind fun x728 =>
        (chkI (v673 - 1)).bind fun v730 =>
        some (.inl (decide (x728.Tx < op.Tx), v730))
       ) else
       some (.inr v719)) N (true, ((p.length : Int) - 1)) = some r ∧ r = nf p op := by
 refine iter_post _ (fun s => (s.2 + 1).toNat) (fun s => ∃ m : Nat, s.2 = (m : Int) - 1 ∧ m ≤ p.length ∧ nf p op = (s.1 && nfR ((p.take m).reverse) op)) (fun r => r = nf p op) ?_ N _ ⟨p.length, rfl, Nat.le_refl _, by simp [nf]⟩ (by show ((p.length : Int) - 1 + 1).toNat < N; omega)
 rintro ⟨v, k⟩ ⟨m, hm, hmp, hv⟩
 dsimp only at hm hv ⊢
 subst hm
 by_cases h0 : m = 0
 ·subst h0
  rw [if_neg (by omega), Option.bind_some]
  refine .inr ⟨v, rfl, ?_⟩
  rw [hv]; simp [nfR]
 ·rw [if_pos (by omega)]
  cases v with
  | false =>
   simp only [Bool.false_eq_true, if_false, Option.bind_some]
   exact .inr ⟨false, rfl, by rw [hv]; rfl⟩
  | true =>
   obtain ⟨x, hx⟩ := getAt (show m - 1 < p.length by omega)
   have hidx : idx p ((m : Int) - 1) = some x := by
    rw [show (m : Int) - 1 = ((m - 1 : Nat) : Int) by omega]; exact idx_nat hx
   have htk : (p.take m).reverse = x :: (p.take (m - 1)).reverse := by
    have : p.take m = p.take (m - 1) ++ [x] := by
     have := take_snoc hx
     rwa [show m - 1 + 1 = m by omega] at this
    rw [this, List.reverse_append]; rfl
   rw [htk, nfR, Bool.true_and] at hv
   simp only [if_true, hidx, Option.bind_some, d19_eq N (hk x (List.mem_of_getElem? hx)) ho]
   by_cases h1 : x.Tx = op.Tx
   ·simp only [h1, bne_self_eq_false, Bool.false_eq_true, if_false, Option.bind_some]
    exact .inr ⟨true, rfl, by rw [hv]; simp [h1]⟩
   ·have h1' : (x.Tx != op.Tx) = true := by simp [h1]
    simp only [h1', if_true, Option.bind_some]
    cases hc : conf x op with
    | true =>
     simp only [Bool.not_true, Bool.false_eq_true, if_false]
     exact .inr ⟨true, rfl, by rw [hv]; simp [hc]⟩
    | false =>
     simp only [Bool.not_false, if_true]
     rw [chkI_of (by omega) (by omega), Option.bind_some]
     refine .inl ⟨_, rfl, ⟨m - 1, by omega, by omega, ?_⟩, ?_⟩
     ·rw [hv]; simp [h1, hc]
     ·dsimp only; omega

theorem flat_succ {α : Type} (g : Nat → List α) (k : Nat) : (List.range (k + 1)).flatMap g = (List.range k).flatMap g ++ g k := by
 rw [List.range_succ, List.flatMap_append]; simp
theorem all_succ (g : Nat → Bool) (k : Nat) : (List.range (k + 1)).all g = ((List.range k).all g && g k) := by
 rw [List.range_succ, List.all_append]; simp
theorem pow12 {f : Nat} (h : f ≤ 12) : 4 ^ f ≤ 16777216 := by
 have := Nat.pow_le_pow_right (show 0 < 4 by decide) h
 exact Nat.le_trans this (by decide)

theorem count_step {T : Txs} (g : Good T) {f0 N : Nat} {ns : List Nat} {p : List Op27} (hN : 200 ≤ N) (a : At T ns) (hp : p.length ≤ 12) (hf : f0 ≤ 12) (hk : ∀ x ∈ p, badKind x = false) (hb : ∀ i, ns.getD i 0 ≤ 100)
  (hrec : ∀ i op, i < T.length → opAt T ns i = some op → nf p op = true → d11 N T ((ns.set i (ns.getD i 0 + 1)).map fun n : Nat => (n : Int)) (p ++ [op]) = some ((gen T f0 (ns.set i (ns.getD i 0 + 1)) (p ++ [op])).length : Int)) :
  d11 (N + 1) T (ns.map fun n : Nat => (n : Int)) p = some (if fin T ns = true then 1 else (((List.range T.length).flatMap (child T f0 ns p)).length : Int)) := by
 have h4 := g.four
 have hbound : ∀ k, k ≤ T.length → ((List.range k).flatMap (child T f0 ns p)).length ≤ 67108864 := fun k hk => by
  have h1 := flat_len (m := T.length) (fun i _ => child_len h4 f0 ns p i) k hk
  have h2 := pow12 hf
  have h3 : k * 4 ^ f0 ≤ 4 * 16777216 := Nat.mul_le_mul (by omega) h2
  omega
 unfold d11
 refine bind_eq (P := fun r => r = ((((List.range T.length).flatMap (child T f0 ns p)).length : Int), fin T ns)) (loop_idx (σ := Int × Bool) (τ := Int × Bool × Int) T.length (fun s k => (s.1, s.2, k)) _ (fun k s => s = ((((List.range k).flatMap (child T f0 ns p)).length : Int), (List.range k).all fun i => (opAt T ns i).isNone)) _ ?_ ?_ (0, true) (by simp) (by omega)) ?_
 ·rintro k _ hk' rfl
  obtain ⟨hT, hn⟩ := a.idx hk'
  dsimp only
  rw [if_pos (by omega), flat_succ, all_succ]
  refine .inl ⟨((((List.range k).flatMap (child T f0 ns p) ++ child T f0 ns p k).length : Int), (((List.range k).all fun i => (opAt T ns i).isNone) && (opAt T ns k).isNone)), ?_, rfl⟩
  refine bind_of (a := ((((List.range k).flatMap (child T f0 ns p) ++ child T f0 ns p k).length : Int), (((List.range k).all fun i => (opAt T ns i).isNone) && (opAt T ns k).isNone))) ?_ (by dsimp only; rw [chkI_of (by omega) (by omega), Option.bind_some])
  rw [hT, Option.bind_some, hn, Option.bind_some, a.same]
  cases ho : opAt T ns k with
  | none =>
   rw [if_pos (show (none : Option Op27).isNone = true from rfl)]
   simp [child, ho]
  | some op =>
   rw [if_neg (by simp), opAt_idx ho, Option.bind_some, chkI_of (by omega) (by omega), Option.bind_some]
   refine bind_eq (P := fun r => r = nf p op) (scan_eq (by omega) hk (g.at ho).2 (by omega)) ?_
   rintro _ rfl
   cases hnf : nf p op with
   | false =>
    rw [if_neg (by simp)]
    simp [child, ho, hnf]
   | true =>
    have hbk := hb k
    have hlk : k < ns.length := by rw [a.len]; exact hk'
    have hlen := a.len
    have hset : setI (ns.map fun n : Nat => (n : Int)) (k : Int) (((ns.getD k 0 : Nat) : Int) + 1) = (ns.set k (ns.getD k 0 + 1)).map fun n : Nat => (n : Int) := by
     unfold setI
     rw [List.map_set]; rfl
    rw [if_pos rfl, appL_of (by simp only [List.length_nil, List.length_map]; have : Rp.reach = 140737488355328 := rfl; omega), Option.bind_some, Option.bind_some, chkI_of (by omega) (by omega), Option.bind_some, letv_eq, hset,
     appL_of (by simp only [List.length_cons, List.length_nil]; have : Rp.reach = 140737488355328 := rfl; omega), Option.bind_some, hrec k op hk' ho hnf, Option.bind_some]
    have h1 := hbound k (by omega)
    have h2 : (gen T f0 (ns.set k (ns.getD k 0 + 1)) (p ++ [op])).length ≤ 16777216 := Nat.le_trans (gen_len h4 f0 _ _) (pow12 hf)
    rw [chkI_of (by omega) (by omega), Option.bind_some]
    simp [child, ho, hnf]
 ·rintro _ rfl
  dsimp only
  rw [if_neg (by omega)]
  exact ⟨_, rfl, rfl⟩
 ·rintro _ rfl
  dsimp only
  cases h : fin T ns with
  | true => rw [if_pos rfl, if_pos rfl]
  | false => rw [if_neg (by simp), if_neg (by simp)]

theorem opAt_none {T : Txs} {ns : List Nat} (h : left T ns = 0) {i : Nat} (hi : i < T.length) : opAt T ns i = none := by
 cases ho : opAt T ns i with
 | none => rfl
 | some op => have := left_pos hi ho; omega
theorem fin_of {T : Txs} {ns : List Nat} (h : left T ns = 0) : fin T ns = true := by
 unfold fin
 rw [List.all_eq_true]
 intro i hi
 rw [opAt_none h (List.mem_range.1 hi)]; rfl
theorem set_small {T : Txs} {ns : List Nat} (a : At T ns) (hT : ∀ i, (T.getD i []).length ≤ 12) : ∀ i, ns.getD i 0 ≤ 100 := fun i => by
 have := a.le i; have := hT i; omega

theorem count_eq {T : Txs} (g : Good T) (hT : ∀ i, (T.getD i []).length ≤ 12) : ∀ (f N : Nat) (ns : List Nat) (p : List Op27), left T ns ≤ f → f + 200 < N → At T ns → p.length + f ≤ 12 → (∀ x ∈ p, badKind x = false) →
  d11 N T (ns.map fun n : Nat => (n : Int)) p = some ((gen T f ns p).length : Int) := by
 intro f
 induction f with
 | zero =>
  intro N ns p hf hN a hp hk
  obtain ⟨M, rfl⟩ : ∃ M, N = M + 1 := ⟨N - 1, by omega⟩
  rw [count_step g (f0 := 0) (by omega) a (by omega) (by omega) hk (set_small a hT) (fun i op hi ho => by rw [opAt_none (by omega) hi] at ho; cases ho), if_pos (fin_of (by omega))]
  rfl
 | succ f ih =>
  intro N ns p hf hN a hp hk
  obtain ⟨M, rfl⟩ : ∃ M, N = M + 1 := ⟨N - 1, by omega⟩
  rw [count_step g (f0 := f) (by omega) a (by omega) (by omega) hk (set_small a hT) (fun i op hi ho hn => ?_)]
  ·by_cases h : fin T ns = true
   ·rw [if_pos h, gen_fin h]; rfl
   ·rw [if_neg h, gen_open h]
  ·refine ih M _ _ ?_ (by omega) (a.step hi ho) (by simp; omega) (fun x hx => ?_)
   ·have := left_step a.len hi ho; omega
   ·rcases List.mem_append.1 hx with h | h
    ·exact hk x h
    ·rw [List.mem_singleton] at h; subst h; exact (g.at ho).2
end Go.Proofs.Ytifcmomjjkbboaa
end
section
namespace Go.Proofs.Ytifcmomjjkbboaa
open Go.Ab Go.Rp

def slp (T : Txs) (ns : List Nat) (p : List Op27) (j : Nat) : Bool := match opAt T ns j with
 | none => false
 | some op => !nf p op
def slK (T : Txs) (ns : List Nat) (p : List Op27) (k j : Nat) : Bool := slp T ns p j || (decide (j < k) && (opAt T ns j).isSome)
def sl (T : Txs) (g : Nat → Bool) : List Bool := (List.range T.length).map g
theorem sl_len (T : Txs) (g : Nat → Bool) : (sl T g).length = T.length := by simp [sl]
theorem sl_idx {T : Txs} (g : Nat → Bool) {k : Nat} (h : k < T.length) : idx (sl T g) (k : Int) = some (g k) := idx_nat (by simp [sl, h])
theorem sl_set (T : Txs) (g : Nat → Bool) {k : Nat} (h : k < T.length) (v : Bool) : setI (sl T g) (k : Int) v = sl T fun j => if j = k then v else g j := by
 unfold setI sl
 refine List.ext_getElem? fun j => ?_
 simp only [Int.toNat_natCast, List.getElem?_set, List.length_map, List.length_range, List.getElem?_map]
 by_cases e : k = j
 ·subst e
  simp [h]
 ·have e2 : ¬ j = k := fun h => e h.symm
  by_cases hj : j < T.length <;> simp [e, e2, hj]
theorem sl_congr {T : Txs} {g h : Nat → Bool} (e : ∀ j, j < T.length → g j = h j) : sl T g = sl T h := List.map_congr_left fun j hj => e j (List.mem_range.1 hj)

theorem d36_eq (N : Nat) (a b : Op27) : d36 N a b = some ((a.Tx == b.Tx) || conf a b) := by
 unfold d36
 rw [d40_eq]
 cases a.Tx == b.Tx <;> simp

def G (T : Txs) (ns : List Nat) (p : List Op27) (k : Nat) (op : Op27) (j : Nat) : Bool := match opAt T ns j with
 | none => false
 | some oj => slK T ns p k j && !((oj.Tx == op.Tx) || conf oj op)
theorem G_eq {T : Txs} (g : Good T) {ns : List Nat} (a : At T ns) {p : List Op27} {k : Nat} {op : Op27} (hk : k < T.length) (ho : opAt T ns k = some op) (hs : slp T ns p k = false) {j : Nat} :
  G T ns p k op j = slp T (ns.set k (ns.getD k 0 + 1)) (p ++ [op]) j := by
 by_cases e : j = k
 ·subst e
  have h1 : G T ns p j op j = false := by
   unfold G
   rw [ho]
   simp [slK, hs]
  rw [h1]
  unfold slp
  cases ho2 : opAt T (ns.set j (ns.getD j 0 + 1)) j with
  | none => rfl
  | some o2 =>
   have e1 := (g.at ho).1
   have e2 := (g.at ho2).1
   simp [nf_snoc, e1, e2]
 ·unfold slp G
  rw [opAt_set a.len hk e]
  cases hoj : opAt T ns j with
  | none => rfl
  | some oj =>
   have e1 := (g.at ho).1
   have e2 := (g.at hoj).1
   have e3 : (oj.Tx == op.Tx) = false := by rw [e1, e2]; simp; omega
   have e4 : (op.Tx == oj.Tx) = false := by rw [e1, e2]; simp; omega
   have e5 : decide (op.Tx < oj.Tx) = !decide (j < k) := by
    rw [e1, e2]
    by_cases h : j < k
    ·simp [h]; omega
    ·simp [h]; omega
   simp only [slK, slp, hoj, nf_snoc, e3, e4, e5, Option.isSome_some, Bool.and_true, Bool.false_or]
   rw [conf_comm oj op]
   cases conf op oj <;> cases nf p oj <;> cases decide (j < k) <;> rfl

theorem inner_eq {T : Txs} (g : Good T) {N : Nat} (hN : 200 ≤ N) {ns : List Nat} (a : At T ns) {p : List Op27} {k : Nat} {op : Op27} (hk : k < T.length) (ho : opAt T ns k = some op) (hs : slp T ns p k = false) :
  ∃ r, iterN (σ := ((List Bool) × Int)) (ρ := List Bool) (fun ((l756, v757) : ((List Bool) × Int)) =>
        if v757 < ((List.replicate T.length false).length : Int) then (
         (idx l756 v757).bind fun _x802 =>
         Option.bind (α := Bool) (
          (idx (sl T (slK T ns p k)) v757).bind fun x812 =>
          if x812 = true then (
           (idx T v757).bind fun x814 =>
           (idx (ns.map fun n : Nat => (n : Int)) v757).bind fun x815 =>
           (idx x814 x815).bind fun x816 =>
           (d36 N x816 op).bind fun r818 =>
           some (!r818)
          ) else
          some false
         ) fun (v811 : Bool) =>
         letv (setI l756 v757 v811) fun l819 =>
         (chkI (v757 + 1)).bind fun v820 =>
         some (.inl (l819, v820))
        ) else
        some (.inr l756)) N (List.replicate T.length false, 0) = some r ∧ r = sl T (slp T (ns.set k (ns.getD k 0 + 1)) (p ++ [op])) := by
 have h4 := g.four
 have h0 : List.replicate T.length false = sl T fun j => decide (j < 0) && G T ns p k op j := by
  unfold sl
  refine List.ext_getElem? fun j => ?_
  by_cases hj : j < T.length <;> simp [hj]
 have := loop_idx (σ := List Bool) (τ := List Bool × Int) T.length (fun s v => (s, v)) (fun ((l756, v757) : ((List Bool) × Int)) =>
        if v757 < ((List.replicate T.length false).length : Int) then (
         (idx l756 v757).bind fun x802 =>
         Option.bind (α := Bool) (
          (idx (sl T (slK T ns p k)) v757).bind fun x812 =>
          if x812 = true then (
           (idx T v757).bind fun x814 =>
           (idx (ns.map fun n : Nat => (n : Int)) v757).bind fun x815 =>
           (idx x814 x815).bind fun x816 =>
           (d36 N x816 op).bind fun r818 =>
           some (!r818)
          ) else
          some false
         ) fun (v811 : Bool) =>
         letv (setI l756 v757 v811) fun l819 =>
         (chkI (v757 + 1)).bind fun v820 =>
         some (.inl (l819, v820))
        ) else
        some (.inr l756)) (fun m s => s = sl T fun j => decide (j < m) && G T ns p k op j) (fun r => r = sl T (slp T (ns.set k (ns.getD k 0 + 1)) (p ++ [op]))) ?_ ?_ (List.replicate T.length false) h0 (n := N) (by omega)
 ·exact this
 ·rintro m _ hm rfl
  obtain ⟨hT, hn⟩ := a.idx hm
  dsimp only
  rw [if_pos (by simp; omega), sl_idx _ hm, Option.bind_some, sl_idx _ hm, Option.bind_some]
  refine .inl ⟨_, bind_of (a := G T ns p k op m) ?_ ?_, rfl⟩
  ·cases hom : opAt T ns m with
   | none =>
    have : slK T ns p k m = false := by simp [slK, slp, hom]
    rw [this, if_neg (by simp)]
    simp [G, hom]
   | some om =>
    cases hsl : slK T ns p k m with
    | false =>
     rw [if_neg (by simp)]
     simp [G, hom, hsl]
    | true =>
     rw [if_pos rfl, hT, Option.bind_some, hn, Option.bind_some, opAt_idx hom, Option.bind_some, d36_eq, Option.bind_some]
     simp [G, hom, hsl]
  ·rw [letv_eq, sl_set T _ hm, chkI_of (by omega) (by omega), Option.bind_some]
   congr 3
   refine sl_congr fun j _ => ?_
   by_cases e : j = m
   ·subst e; simp
   ·have : decide (j < m + 1) = decide (j < m) := by
     rw [decide_eq_decide]; omega
    rw [if_neg e, this]
 ·rintro _ rfl
  dsimp only
  rw [if_neg (by simp)]
  refine ⟨_, rfl, sl_congr fun j hj => ?_⟩
  rw [← G_eq g a hk ho hs]
  simp [hj]

theorem slK_zero (T : Txs) (ns : List Nat) (p : List Op27) : sl T (slK T ns p 0) = sl T (slp T ns p) := sl_congr fun j _ => by simp [slK]
theorem slK_skip {T : Txs} {ns : List Nat} {p : List Op27} {k : Nat} (h : opAt T ns k = none ∨ slp T ns p k = true) : sl T (slK T ns p (k + 1)) = sl T (slK T ns p k) := sl_congr fun j _ => by
 by_cases e : j = k
 ·subst e
  rcases h with h | h
  ·simp [slK, h]
  ·simp [slK, h]
 ·have : decide (j < k + 1) = decide (j < k) := by rw [decide_eq_decide]; omega
  simp [slK, this]
theorem slK_take {T : Txs} {ns : List Nat} {p : List Op27} {k : Nat} {op : Op27} (h : opAt T ns k = some op) : sl T (slK T ns p (k + 1)) = sl T fun j => if j = k then true else slK T ns p k j := sl_congr fun j _ => by
 by_cases e : j = k
 ·subst e
  simp [slK, h]
 ·have : decide (j < k + 1) = decide (j < k) := by rw [decide_eq_decide]; omega
  simp [slK, this, e]

theorem explore_step {T : Txs} (g : Good T) {f0 N : Nat} {ns : List Nat} {p : List Op27} {sch : List (List Op27)} (hN : 200 ≤ N) (a : At T ns) (hp : p.length ≤ 12) (_hf : f0 ≤ 12) (hb : ∀ i, ns.getD i 0 ≤ 100) (c : Nat) (hc1 : 1 ≤ c) (hsch : sch.length + 4 * 4 ^ f0 + c ≤ 1099511627776)
  (hrec : ∀ i op sch', i < T.length → opAt T ns i = some op → nf p op = true → sch'.length + 4 ^ f0 + c ≤ 1099511627776 →
   d16 N ⟨T, sch'⟩ ((ns.set i (ns.getD i 0 + 1)).map fun n : Nat => (n : Int)) (sl T (slp T (ns.set i (ns.getD i 0 + 1)) (p ++ [op]))) (p ++ [op]) = some ⟨T, sch' ++ gen T f0 (ns.set i (ns.getD i 0 + 1)) (p ++ [op])⟩) :
  d16 (N + 1) ⟨T, sch⟩ (ns.map fun n : Nat => (n : Int)) (sl T (slp T ns p)) p = some ⟨T, if fin T ns = true then sch ++ [p] else sch ++ (List.range T.length).flatMap (child T f0 ns p)⟩ := by
 have h4 := g.four
 have hr : Rp.reach = 140737488355328 := rfl
 have hbound : ∀ k, k ≤ T.length → ((List.range k).flatMap (child T f0 ns p)).length ≤ k * 4 ^ f0 := fun k hk => flat_len (m := T.length) (fun i _ => child_len h4 f0 ns p i) k hk
 have hpos : 0 < 4 ^ f0 := Nat.pow_pos (by decide)
 unfold d16 d35
 rw [if_pos (by rw [sl_len]; omega), Option.bind_some]
 refine bind_eq (P := fun r => r = (T, sch ++ (List.range T.length).flatMap (child T f0 ns p), fin T ns)) (loop_idx (σ := (List (List Op27)) × (List (List Op27)) × (List Bool) × Bool) (τ := (List (List Op27)) × (List (List Op27)) × (List Bool) × Bool × Int) T.length (fun s k => (s.1, s.2.1, s.2.2.1, s.2.2.2, k)) _
  (fun k s => s = (T, sch ++ (List.range k).flatMap (child T f0 ns p), sl T (slK T ns p k), (List.range k).all fun i => (opAt T ns i).isNone)) _ ?_ ?_ (T, sch, sl T (slp T ns p), true) (by simp [slK_zero]) (by omega)) ?_
 ·rintro k _ hk rfl
  obtain ⟨hT, hn⟩ := a.idx hk
  dsimp only
  rw [if_pos (by omega), flat_succ, all_succ]
  refine .inl ⟨(T, sch ++ ((List.range k).flatMap (child T f0 ns p) ++ child T f0 ns p k), sl T (slK T ns p (k + 1)), (((List.range k).all fun i => (opAt T ns i).isNone) && (opAt T ns k).isNone)), ?_, rfl⟩
  refine bind_of (a := (T, sch ++ ((List.range k).flatMap (child T f0 ns p) ++ child T f0 ns p k), sl T (slK T ns p (k + 1)), (((List.range k).all fun i => (opAt T ns i).isNone) && (opAt T ns k).isNone))) ?_ (by dsimp only; rw [chkI_of (by omega) (by omega), Option.bind_some])
  rw [hT, Option.bind_some, hn, Option.bind_some, a.same]
  cases ho : opAt T ns k with
  | none =>
   rw [if_pos (show (none : Option Op27).isNone = true from rfl), slK_skip (.inl ho)]
   simp [child, ho]
  | some op =>
   have hsk : slK T ns p k k = slp T ns p k := by simp [slK]
   rw [if_neg (by simp), sl_idx _ hk, Option.bind_some, hsk]
   cases hs : slp T ns p k with
   | true =>
    have hnf : nf p op = false := by simpa [slp, ho] using hs
    rw [if_pos rfl, slK_skip (.inr hs)]
    simp [child, ho, hnf]
   | false =>
    have hnf : nf p op = true := by simpa [slp, ho] using hs
    have hbk := hb k
    have hlen := a.len
    have hset : setI (ns.map fun n : Nat => (n : Int)) (k : Int) (((ns.getD k 0 : Nat) : Int) + 1) = (ns.set k (ns.getD k 0 + 1)).map fun n : Nat => (n : Int) := by
     unfold setI
     rw [List.map_set]; rfl
    rw [if_neg (by simp), opAt_idx ho, Option.bind_some]
    have hmk : mkL 1 (T.length : Int) false = some (List.replicate T.length false) := by
     unfold mkL
     rw [if_pos ⟨by omega, by simp; omega⟩]
     simp
    rw [hmk, Option.bind_some]
    refine bind_eq (P := fun r => r = sl T (slp T (ns.set k (ns.getD k 0 + 1)) (p ++ [op]))) (inner_eq g hN a hk ho hs) ?_
    rintro _ rfl
    have h1 := hbound k (by omega)
    have h3 : k * 4 ^ f0 ≤ 3 * 4 ^ f0 := Nat.mul_le_mul_right _ (by omega)
    unfold d37
    rw [if_pos (by rw [List.length_map]; omega), Option.bind_some, hn, Option.bind_some, chkI_of (by omega) (by omega), Option.bind_some, letv_eq, hset,
     appL_of (by simp only [List.length_cons, List.length_nil]; omega), Option.bind_some, hrec k op _ hk ho hnf (by rw [List.length_append]; omega), Option.bind_some, Option.bind_some, letv_eq, sl_set T _ hk, slK_take ho]
    simp [child, ho, hnf]
 ·rintro _ rfl
  dsimp only
  rw [if_neg (by omega)]
  exact ⟨_, rfl, rfl⟩
 ·rintro _ rfl
  dsimp only
  cases h : fin T ns with
  | true =>
   have he : (List.range T.length).flatMap (child T f0 ns p) = [] := by
    rw [List.flatMap_eq_nil_iff]
    intro i hi
    exact child_fin h f0 p (List.mem_range.1 hi)
   unfold d38
   rw [if_pos rfl, if_pos rfl, if_pos (by omega), Option.bind_some, he, List.append_nil, appL_of (by simp only [List.length_cons, List.length_nil]; omega), Option.bind_some]
  | false => rw [if_neg (by simp), if_neg (by simp)]

theorem explore_eq {T : Txs} (g : Good T) (hT : ∀ i, (T.getD i []).length ≤ 12) : ∀ (f N : Nat) (ns : List Nat) (p : List Op27) (sch : List (List Op27)), left T ns ≤ f → f + 200 < N → At T ns → p.length + f ≤ 12 → sch.length + 4 ^ f + 8 ≤ 1099511627776 →
  d16 N ⟨T, sch⟩ (ns.map fun n : Nat => (n : Int)) (sl T (slp T ns p)) p = some ⟨T, sch ++ gen T f ns p⟩ := by
 intro f
 induction f with
 | zero =>
  intro N ns p sch hf hN a hp hs
  obtain ⟨M, rfl⟩ : ∃ M, N = M + 1 := ⟨N - 1, by omega⟩
  rw [explore_step g (f0 := 0) (by omega) a (by omega) (by omega) (set_small a hT) 1 (by omega) (by simp at hs ⊢; omega) (fun i op _ hi ho => by rw [opAt_none (by omega) hi] at ho; cases ho), if_pos (fin_of (by omega))]
  rfl
 | succ f ih =>
  intro N ns p sch hf hN a hp hs
  obtain ⟨M, rfl⟩ : ∃ M, N = M + 1 := ⟨N - 1, by omega⟩
  have hpow : 4 ^ (f + 1) = 4 * 4 ^ f := by rw [Nat.pow_succ, Nat.mul_comm]
  rw [hpow] at hs
  rw [explore_step g (f0 := f) (by omega) a (by omega) (by omega) (set_small a hT) 8 (by omega) (by omega) (fun i op sch' hi ho hn hs' => ?_)]
  ·by_cases h : fin T ns = true
   ·rw [if_pos h, gen_fin h]
   ·rw [if_neg h, gen_open h]
  ·exact ih M _ _ _ (by have := left_step a.len hi ho; omega) (by omega) (a.step hi ho) (by simp; omega) hs'
end Go.Proofs.Ytifcmomjjkbboaa
end
section
namespace Go.Proofs.Ytifcmomjjkbboaa
open Go.Ab Go.Rp

/-! ### their shape -/
def ofTx (j : Nat) (q : List Op27) : List Op27 := q.filter fun x => x.Tx == (j : Int)
def NW (s : List Op27) : Prop := ∀ k x, s[k]? = some x → nf (s.take k) x = true
theorem NW.snoc {p : List Op27} {op : Op27} (h : NW p) (hn : nf p op = true) : NW (p ++ [op]) := by
 intro k x hx
 by_cases hk : k < p.length
 ·rw [List.getElem?_append_left hk] at hx
  rw [List.take_append_of_le_length (by omega)]
  exact h k x hx
 ·rw [List.getElem?_append_right (by omega)] at hx
  have h0 : k - p.length = 0 := by
   have := (List.getElem?_eq_some_iff.1 hx).1
   simp at this; omega
  rw [h0] at hx
  simp at hx
  subst hx
  have : k = p.length := by omega
  subst this
  rw [List.take_left]
  exact hn

structure Word (T : Txs) (ns : List Nat) (p s : List Op27) : Prop where
 ex : ∃ q, s = p ++ q ∧ (∀ j, j < T.length → ofTx j q = (T.getD j []).drop (ns.getD j 0)) ∧ ∀ x ∈ q, ∃ j, j < T.length ∧ x ∈ T.getD j []
 nw : NW s
theorem gen_word {T : Txs} (g : Good T) : ∀ (f : Nat) (ns : List Nat) (p : List Op27), left T ns ≤ f → At T ns → NW p → ∀ s ∈ gen T f ns p, Word T ns p s := by
 intro f
 induction f with
 | zero =>
  intro ns p hf a hw s hs
  unfold gen at hs
  rw [List.mem_singleton] at hs
  subst hs
  refine ⟨⟨[], by simp, fun j hj => ?_, (fun x hx => by cases hx)⟩, hw⟩
  have := opAt_none (ns := ns) (by omega) hj
  rw [List.drop_eq_nil_of_le (List.getElem?_eq_none_iff.1 this)]
  rfl
 | succ f ih =>
  intro ns p hf a hw s hs
  by_cases h : fin T ns = true
  ·rw [gen_fin h, List.mem_singleton] at hs
   subst hs
   refine ⟨⟨[], by simp, fun j hj => ?_, (fun x hx => by cases hx)⟩, hw⟩
   have hn := List.all_eq_true.1 h j (List.mem_range.2 hj)
   have : opAt T ns j = none := by
    cases ho : opAt T ns j with
    | none => rfl
    | some o => rw [ho] at hn; cases hn
   rw [List.drop_eq_nil_of_le (List.getElem?_eq_none_iff.1 this)]
   rfl
  ·rw [gen_open h, List.mem_flatMap] at hs
   obtain ⟨i, hi, hs⟩ := hs
   have hi := List.mem_range.1 hi
   unfold child at hs
   cases ho : opAt T ns i with
   | none => rw [ho] at hs; cases hs
   | some op =>
    rw [ho] at hs
    dsimp only at hs
    split at hs
    ·rename_i hn
     obtain ⟨⟨q, h1, h2, h3⟩, h4⟩ := ih _ _ (by have := left_step a.len hi ho; omega) (a.step hi ho) (hw.snoc hn) s hs
     refine ⟨⟨op :: q, by rw [h1]; simp, fun j hj => ?_, fun x hx => ?_⟩, h4⟩
     ·have e := (g.at ho).1
      unfold ofTx
      rw [List.filter_cons]
      have h2j := h2 j hj
      unfold ofTx at h2j
      rw [h2j, getD_set (by rw [a.len]; exact hi)]
      by_cases hji : j = i
      ·subst hji
       rw [if_pos (by simp [e]), if_pos rfl]
       obtain ⟨k1, k2⟩ := List.getElem?_eq_some_iff.1 ho
       rw [List.drop_eq_getElem_cons k1, k2]
      ·rw [if_neg (by rw [e]; simp; omega), if_neg hji]
     ·rcases List.mem_cons.1 hx with rfl | hx
      ·exact ⟨i, hi, List.mem_of_getElem? ho⟩
      ·exact h3 x hx
    ·cases hs

/-! ### all different -/
def txOf (s : List Op27) : List Int := s.map (·.Tx)
theorem flat_nodup {α : Type} {g : Nat → List α} (h1 : ∀ i, (g i).Nodup) (h2 : ∀ i j, i < j → ∀ x ∈ g i, ∀ y ∈ g j, x ≠ y) : ∀ m, ((List.range m).flatMap g).Nodup
 | 0 => by simp
 | m + 1 => by
  rw [flat_succ]
  refine List.nodup_append.2 ⟨flat_nodup h1 h2 m, h1 m, fun x hx y hy => ?_⟩
  obtain ⟨i, hi, hx⟩ := List.mem_flatMap.1 hx
  exact h2 i m (List.mem_range.1 hi) x hx y hy
theorem gen_pre {T : Txs} : ∀ (f : Nat) (ns : List Nat) (p : List Op27), ∀ s ∈ gen T f ns p, ∃ q, s = p ++ q := by
 intro f
 induction f with
 | zero =>
  intro ns p s hs
  unfold gen at hs
  rw [List.mem_singleton] at hs
  exact ⟨[], by simp [hs]⟩
 | succ f ih =>
  intro ns p s hs
  by_cases h : fin T ns = true
  ·rw [gen_fin h, List.mem_singleton] at hs
   exact ⟨[], by simp [hs]⟩
  ·rw [gen_open h, List.mem_flatMap] at hs
   obtain ⟨i, hi, hs⟩ := hs
   unfold child at hs
   split at hs
   ·cases hs
   ·rename_i op ho
    split at hs
    ·obtain ⟨q, rfl⟩ := ih _ _ s hs
     exact ⟨op :: q, by simp⟩
    ·cases hs
theorem child_tx {T : Txs} (g : Good T) {f : Nat} {ns : List Nat} {p : List Op27} {i : Nat} : ∀ s ∈ child T f ns p i, (txOf s)[p.length]? = some (i : Int) := by
 intro s hs
 unfold child at hs
 split at hs
 ·cases hs
 ·rename_i op ho
  split at hs
  ·obtain ⟨q, rfl⟩ := gen_pre _ _ _ s hs
   unfold txOf
   simp [(g.at ho).1]
  ·cases hs
theorem gen_nodup {T : Txs} (g : Good T) : ∀ (f : Nat) (ns : List Nat) (p : List Op27), ((gen T f ns p).map txOf).Nodup := by
 intro f
 induction f with
 | zero => intro ns p; simp [gen]
 | succ f ih =>
  intro ns p
  by_cases h : fin T ns = true
  ·rw [gen_fin h]; simp
  ·rw [gen_open h, List.map_flatMap]
   refine flat_nodup (fun i => ?_) (fun i j hij x hx y hy e => ?_) _
   ·unfold child
    split
    ·simp
    ·split
     ·exact ih _ _
     ·simp
   ·obtain ⟨s, hs, rfl⟩ := List.mem_map.1 hx
    obtain ⟨t, ht, rfl⟩ := List.mem_map.1 hy
    have h1 := child_tx g s hs
    have h2 := child_tx g t ht
    rw [e, h2] at h1
    injection h1 with h1
    omega

/-! ### their normal forms -/
theorem nfR_front {op x : Op27} : ∀ (l : List Op27), nfR (l ++ [x]) op = true → nfR l op = true
 | [], _ => rfl
 | a :: l, h => by
  rw [List.cons_append, nfR] at h
  rw [nfR]
  cases h1 : (a.Tx == op.Tx) with
  | true => rfl
  | false =>
   cases h2 : conf a op with
   | true => simp
   | false =>
    rw [h1, h2] at h
    simp only [Bool.false_or, Bool.and_eq_true] at h ⊢
    exact ⟨h.1, nfR_front l h.2⟩
theorem NW.tail {x : Op27} {r : List Op27} (h : NW (x :: r)) : NW r := by
 intro k y hy
 have := h (k + 1) y (by simpa using hy)
 rw [List.take_succ_cons] at this
 unfold nf at this ⊢
 rw [List.reverse_cons] at this
 exact nfR_front _ this
theorem nfR_all {op : Op27} : ∀ (l : List Op27), nfR l op = true → (∀ x ∈ l, (x.Tx == op.Tx) = false ∧ conf x op = false) → ∀ x ∈ l, x.Tx < op.Tx
 | [], _, _, x, hx => by cases hx
 | a :: l, h, hi, x, hx => by
  rw [nfR, (hi a (List.mem_cons_self ..)).1, (hi a (List.mem_cons_self ..)).2] at h
  simp only [Bool.false_or, Bool.and_eq_true, decide_eq_true_eq] at h
  rcases List.mem_cons.1 hx with rfl | hx
  ·exact h.1
  ·exact nfR_all l h.2 (fun y hy => hi y (List.mem_cons_of_mem _ hy)) x hx

def ready (l : List Op27) (op : Op27) : Bool := l.all fun e => !(e.Tx == op.Tx) && !conf e op
theorem ready_eq {N : Nat} {l : List Op27} (hN : l.length < N) (hl : l.length ≤ 100) (hk : ∀ x ∈ l, badKind x = false) {op : Op27} (ho : badKind op = false) :
  ∃ r, iterN (σ := (Bool × Int)) (ρ := Bool) (fun ((v265, v266) : (Bool × Int)) =>
       if v266 < (l.length : Int) then (
        (idx l v266).bind fun x293 =>
        Option.bind (α := Bool) (
         if v265 = true then (
          if (x293.Tx != op.Tx) then (
           (d19 N x293 op).bind fun r301 =>
           some (!r301)
          ) else
          some false
         ) else
         some false
        ) fun (v298 : Bool) =>
        (chkI (v266 + 1)).bind fun v302 =>
        some (.inl (v298, v302))
       ) else
       some (.inr v265)) N (true, 0) = some r ∧ r = ready l op := by
 have := loop_idx (σ := Bool) (τ := Bool × Int) l.length (fun s v => (s, v)) (fun ((v265, v266) : (Bool × Int)) =>
       if v266 < (l.length : Int) then (
        (idx l v266).bind fun x293 =>
        Option.bind (α := Bool) (
         if v265 = true then (
          if (x293.Tx != op.Tx) then (
           (d19 N x293 op).bind fun r301 =>
           some (!r301)
          ) else
          some false
         ) else
         some false
        ) fun (v298 : Bool) =>
        (chkI (v266 + 1)).bind fun v302 =>
        some (.inl (v298, v302))
       ) else
       some (.inr v265)) (fun k s => s = ready (l.take k) op) (fun r => r = ready l op) ?_ ?_ true (by simp [ready]) (n := N) hN
 ·exact this
 ·rintro k _ hk' rfl
  obtain ⟨x, hx⟩ := getAt hk'
  dsimp only
  rw [if_pos (by omega), idx_nat hx, Option.bind_some, d19_eq N (hk x (List.mem_of_getElem? hx)) ho]
  refine .inl ⟨ready (l.take (k + 1)) op, bind_of (a := ready (l.take (k + 1)) op) ?_ (by rw [chkI_of (by omega) (by omega), Option.bind_some]), rfl⟩
  have e : ready (l.take (k + 1)) op = (ready (l.take k) op && (!(x.Tx == op.Tx) && !conf x op)) := by
   unfold ready
   rw [take_snoc hx, List.all_append]; simp
  rw [e]
  have e2 : (x.Tx != op.Tx) = !(x.Tx == op.Tx) := rfl
  rw [e2]
  cases ready (l.take k) op <;> cases x.Tx == op.Tx <;> simp
 ·rintro _ rfl
  dsimp only
  rw [if_neg (by omega)]
  exact ⟨_, rfl, by simp⟩

theorem normal_eq : ∀ (s : List Op27) (N : Nat), s.length + 200 < N → s.length ≤ 12 → NW s → (∀ x ∈ s, badKind x = false) → d23 N s = some s := by
 intro s
 induction s with
 | nil =>
  intro N hN _ _ _
  obtain ⟨M, rfl⟩ : ∃ M, N = M + 1 := ⟨N - 1, by omega⟩
  rfl
 | cons x r ih =>
  intro N hN hl hw hk
  obtain ⟨M, rfl⟩ : ∃ M, N = M + 1 := ⟨N - 1, by omega⟩
  have hr : Rp.reach = 140737488355328 := rfl
  simp only [List.length_cons] at hN hl
  unfold d23
  rw [if_neg (by simp; omega)]
  refine bind_eq (P := fun v => v = (0 : Int)) (loop_idx (σ := Int) (τ := Int × Int) (x :: r).length (fun s v => (s, v)) _ (fun k s => s = 0) _ ?_ ?_ 0 rfl (by simp; omega)) ?_
  ·rintro k _ hk' rfl
   obtain ⟨y, hy⟩ := getAt hk'
   simp only [List.length_cons] at hk'
   dsimp only
   have hnat : natI (k : Int) (x :: r).length = some k := by
    unfold natI
    rw [if_pos ⟨by omega, by simp; omega⟩]; simp
   rw [if_pos (by simp; omega), idx_nat hy, Option.bind_some, hnat, Option.bind_some, letv_eq]
   refine .inl ⟨0, ?_, rfl⟩
   refine bind_eq (P := fun r' => r' = ready ((x :: r).take k) y) (ready_eq (by rw [List.length_take]; simp; omega) (by rw [List.length_take]; simp; omega) (fun z hz => hk z (List.mem_of_mem_take hz)) (hk y (List.mem_of_getElem? hy))) ?_
   rintro _ rfl
   refine bind_of (a := false) ?_ (by rw [if_neg (by simp), chkI_of (by omega) (by omega), Option.bind_some])
   cases hrd : ready ((x :: r).take k) y with
   | false => rw [if_neg (by simp)]
   | true =>
    have h0 : idx (x :: r) (0 : Int) = some x := idx_nat (k := 0) rfl
    rw [if_pos rfl, h0, Option.bind_some]
    congr 1
    rw [decide_eq_false_iff_not]
    by_cases hk0 : k = 0
    ·subst hk0
     simp at hy
     subst hy
     omega
    ·have h1 := hw k y hy
     have h2 := nfR_all _ h1 (fun z hz => by
      have := List.all_eq_true.1 hrd z (List.mem_reverse.1 hz)
      simpa using this) x (List.mem_reverse.2 (List.mem_take_iff_getElem.2 ⟨0, by simp; omega, rfl⟩))
     omega
  ·rintro _ rfl
   dsimp only
   rw [if_neg (by simp)]
   exact ⟨_, rfl, rfl⟩
  ·rintro _ rfl
   have hn0 : natI (0 : Int) (x :: r).length = some 0 := by
    unfold natI; rw [if_pos ⟨by omega, by simp; omega⟩]; rfl
   have hn1 : natI (((0 : Nat) : Int) + 1) (x :: r).length = some 1 := by
    unfold natI; rw [if_pos ⟨by omega, by simp; omega⟩]; rfl
   have h0 : idx (x :: r) ((0 : Nat) : Int) = some x := idx_nat (k := 0) rfl
   rw [hn0, Option.bind_some, letv_eq, List.take_zero, appL_of (by simp), Option.bind_some, chkI_of (by omega) (by omega), Option.bind_some, hn1, Option.bind_some, letv_eq, List.drop_succ_cons, List.drop_zero,
    appL_of (by simp only [List.length_nil]; omega), Option.bind_some, h0, Option.bind_some, List.nil_append, ih M (by omega) (by omega) hw.tail (fun z hz => hk z (List.mem_cons_of_mem _ hz)), Option.bind_some,
    appL_of (by simp only [List.length_cons, List.length_nil]; omega), Option.bind_some]
   rfl
end Go.Proofs.Ytifcmomjjkbboaa
end
section
namespace Go.Proofs.Ytifcmomjjkbboaa
open Go.Ab Go.Rp

theorem same_eq {N : Nat} {xs : List Op27} (hN : xs.length < N) (hl : xs.length ≤ 100) : d22 N xs xs = some true := by
 unfold d22
 rw [if_neg (by simp)]
 refine bindO_eq (P := fun o => o = .go ()) (loop_idx (σ := Unit) (τ := Int) xs.length (fun _ j => j) _ (fun k _ => True) _ ?_ ?_ () trivial (n := N) hN) ?_ ?_
 ·intro k s hk _
  obtain ⟨x, hx⟩ := getAt hk
  try dsimp only
  have hb : beqS27 x x = true := (beqS27_iff x x).2 rfl
  rw [if_pos (by omega), idx_nat hx, Option.bind_some, Option.bind_some, hb, if_neg (by simp), chkI_of (by omega) (by omega), Option.bind_some]
  exact .inl ⟨(), rfl, trivial⟩
 ·intro s _
  try dsimp only
  rw [if_neg (by omega)]
  exact ⟨_, rfl, rfl⟩
 ·rintro x hx; cases hx
 ·rintro _ _; rfl
theorem sameL_eq {N : Nat} {T : Txs} (hN : 200 ≤ N) (h4 : T.length ≤ 4) (hT : ∀ i, (T.getD i []).length ≤ 12) : d20 N T T (fun b0 b1 => d21 N b0 b1) = some true := by
 unfold d20
 rw [if_neg (by simp)]
 refine bindO_eq (P := fun o => o = .go ()) (loop_idx (σ := Unit) (τ := Int) T.length (fun _ j => j) _ (fun k _ => True) _ ?_ ?_ () trivial (n := N) (by omega)) ?_ ?_
 ·intro k s hk _
  have hx : T[k]? = some (T.getD k []) := by simp [List.getD_eq_getElem?_getD, hk]
  have := hT k
  try dsimp only
  have h21 : d21 N (T.getD k []) (T.getD k []) = some true := by
   unfold d21
   rw [same_eq (by omega) (by omega), Option.bind_some]
  rw [if_pos (by omega), idx_nat hx, Option.bind_some, Option.bind_some, h21, Option.bind_some, if_neg (by simp), chkI_of (by omega) (by omega), Option.bind_some]
  exact .inl ⟨(), rfl, trivial⟩
 ·intro s _
  try dsimp only
  rw [if_neg (by omega)]
  exact ⟨_, rfl, rfl⟩
 ·rintro x hx; cases hx
 ·rintro _ _; rfl

/-! ### the marks of schedules -/
theorem bstr_append (a b : List Int) : bstr (a ++ b) = bstr a ++ bstr b := by
 apply ByteArray.ext
 simp [bstr]
theorem bstr_size (a : List Int) : (bstr a).size = a.length := by
 simp [bstr, ByteArray.size]
theorem bstr_inj : ∀ {a b : List Int}, (∀ t ∈ a, 0 ≤ t ∧ t < 256) → (∀ t ∈ b, 0 ≤ t ∧ t < 256) → bstr a = bstr b → a = b := by
 intro a b ha hb h
 have h1 : (a.map fun n => UInt8.ofNat n.toNat) = (b.map fun n => UInt8.ofNat n.toNat) := by
  have := congrArg (fun x : ByteArray => x.data.toList) h
  simpa [bstr] using this
 clear h
 induction a generalizing b with
 | nil =>
  cases b with
  | nil => rfl
  | cons y b => simp at h1
 | cons x a ih =>
  cases b with
  | nil => simp at h1
  | cons y b =>
   simp only [List.map_cons, List.cons.injEq] at h1
   have hx := ha x (List.mem_cons_self ..)
   have hy := hb y (List.mem_cons_self ..)
   have e : x = y := by
    have := congrArg UInt8.toNat h1.1
    simp only [UInt8.toNat_ofNat'] at this
    omega
   rw [e, ih (fun t ht => ha t (List.mem_cons_of_mem _ ht)) (fun t ht => hb t (List.mem_cons_of_mem _ ht)) h1.2]
theorem mark_eq {N : Nat} {s : List Op27} (hN : s.length < N) (hl : s.length ≤ 100) (ht : ∀ x ∈ s, 0 ≤ x.Tx ∧ x.Tx < 20) :
  ∃ r, iterN (σ := (ByteArray × Int)) (ρ := ByteArray) (fun ((v400, v401) : (ByteArray × Int)) =>
      if v401 < (s.length : Int) then (
       (idx s v401).bind fun x418 =>
       letv (IntKind.u8.wrap (x418.Tx)) fun v420 =>
       (catB v400 (bstr [v420])).bind fun v421 =>
       (chkI (v401 + 1)).bind fun v422 =>
       some (.inl (v421, v422))
      ) else
      some (.inr v400)) N ((ByteArray.mk #[]), 0) = some r ∧ r = bstr (txOf s) := by
 have := loop_idx (σ := ByteArray) (τ := ByteArray × Int) s.length (fun s v => (s, v)) (fun ((v400, v401) : (ByteArray × Int)) =>
      if v401 < (s.length : Int) then (
       (idx s v401).bind fun x418 =>
       letv (IntKind.u8.wrap (x418.Tx)) fun v420 =>
       (catB v400 (bstr [v420])).bind fun v421 =>
       (chkI (v401 + 1)).bind fun v422 =>
       some (.inl (v421, v422))
      ) else
      some (.inr v400)) (fun k b => b = bstr (txOf (s.take k))) (fun r => r = bstr (txOf s)) ?_ ?_ (ByteArray.mk #[]) rfl (n := N) hN
 ·exact this
 ·rintro k _ hk rfl
  obtain ⟨x, hx⟩ := getAt hk
  have h1 := ht x (List.mem_of_getElem? hx)
  have hw : IntKind.u8.wrap x.Tx = x.Tx := by
   simp only [IntKind.wrap, IntKind.signed, IntKind.bits]
   simp
   omega
  have hr : Rp.reach = 140737488355328 := rfl
  try dsimp only
  rw [if_pos (by omega), idx_nat hx, Option.bind_some, letv_eq, hw]
  refine .inl ⟨bstr (txOf (s.take (k + 1))), ?_, rfl⟩
  have e : bstr (txOf (s.take k)) ++ bstr [x.Tx] = bstr (txOf (s.take (k + 1))) := by
   rw [← bstr_append, take_snoc hx]; simp [txOf]
  have hsz : (bstr (txOf (s.take k))).size ≤ 100 := by
   rw [bstr_size]; unfold txOf; rw [List.length_map, List.length_take]; omega
  have hcat : catB (bstr (txOf (s.take k))) (bstr [x.Tx]) = some (bstr (txOf (s.take k)) ++ bstr [x.Tx]) := by
   unfold catB
   rw [if_pos (by rw [bstr_size [x.Tx]]; simp only [List.length_cons, List.length_nil]; omega)]
  rw [hcat, Option.bind_some, e, chkI_of (by omega) (by omega), Option.bind_some]
 ·rintro _ rfl
  try dsimp only
  rw [if_neg (by omega)]
  exact ⟨_, rfl, by simp⟩

/-! ### the parts of a schedule -/
theorem parts_eq {N : Nat} {s : List Op27} {n : Nat} (_hn : n ≤ 4) (hN : s.length < N) (hl : s.length ≤ 100) (ht : ∀ x ∈ s, ∃ j : Nat, j < n ∧ x.Tx = (j : Int)) :
  ∃ r, iterN (σ := ((List (List S27)) × (List S27) × Int)) (ρ := (Out ((List (List S27)) × (List S27)) ((Int × (List (ByteArray × Bool)) × Int) ⊕ (Out Int Bool)))) (fun ((l342, l343, v344) : ((List (List S27)) × (List S27) × Int)) =>
      if v344 < (s.length : Int) then (
       (idx s v344).bind fun x379 =>
       Option.bind (α := Bool) (
        if x379.Tx < 0 then (
         some true
        ) else
        some (decide (x379.Tx ≥ (n : Int)))
       ) fun (v382 : Bool) =>
       if v382 = true then (
        some (.inr (.ret (.inr (.ret false))))
       ) else
       (idx l342 x379.Tx).bind fun x385 =>
       (appL 32 x385 [x379]).bind fun _l388 =>
       (appL 32 l343 [x379]).bind fun _l389 =>
       letv (setI l342 x379.Tx (x385 ++ [x379])) fun l390 =>
       (chkI (v344 + 1)).bind fun v391 =>
       some (.inl (l390, (l343 ++ [x379]), v391))
      ) else
      some (.inr (.go (l342, l343)))) N (List.replicate n [], ([] : List S27), 0) = some r ∧ r = .go ((List.range n).map (fun j => ofTx j s), s) := by
 have := loop_idx (σ := (List (List S27)) × (List S27)) (τ := (List (List S27)) × (List S27) × Int) (ρ := (Out ((List (List S27)) × (List S27)) ((Int × (List (ByteArray × Bool)) × Int) ⊕ (Out Int Bool)))) s.length (fun s v => (s.1, s.2, v)) (fun ((l342, l343, v344) : ((List (List S27)) × (List S27) × Int)) =>
      if v344 < (s.length : Int) then (
       (idx s v344).bind fun x379 =>
       Option.bind (α := Bool) (
        if x379.Tx < 0 then (
         some true
        ) else
        some (decide (x379.Tx ≥ (n : Int)))
       ) fun (v382 : Bool) =>
       if v382 = true then (
        some (.inr (.ret (.inr (.ret false))))
       ) else
       (idx l342 x379.Tx).bind fun x385 =>
       (appL 32 x385 [x379]).bind fun l388 =>
       (appL 32 l343 [x379]).bind fun l389 =>
       letv (setI l342 x379.Tx (x385 ++ [x379])) fun l390 =>
       (chkI (v344 + 1)).bind fun v391 =>
       some (.inl (l390, (l343 ++ [x379]), v391))
      ) else
      some (.inr (.go (l342, l343)))) (fun k b => b = ((List.range n).map (fun j => ofTx j (s.take k)), s.take k)) (fun r => r = .go ((List.range n).map (fun j => ofTx j s), s)) ?_ ?_ (List.replicate n [], []) (by
       simp only [List.take_zero, Prod.mk.injEq, and_true]
       refine List.ext_getElem? fun j => ?_
       by_cases hj : j < n <;> simp [hj, ofTx]) (n := N) hN
 ·exact this
 ·rintro k _ hk rfl
  obtain ⟨x, hx⟩ := getAt hk
  obtain ⟨j, hj, hxj⟩ := ht x (List.mem_of_getElem? hx)
  have hr : Rp.reach = 140737488355328 := rfl
  try dsimp only
  have hidx : idx ((List.range n).map (fun j => ofTx j (s.take k))) x.Tx = some (ofTx j (s.take k)) := by
   rw [hxj]; exact idx_nat (by simp [hj])
  have hle : (ofTx j (s.take k)).length ≤ 100 := by
   have h1 : (ofTx j (s.take k)).length ≤ (s.take k).length := List.length_filter_le _ _
   have h2 : (s.take k).length ≤ s.length := List.length_take_le' _ _
   omega
  have hle2 : (s.take k).length ≤ 100 := by
   have h2 : (s.take k).length ≤ s.length := List.length_take_le' _ _
   omega
  have hset : setI ((List.range n).map (fun j => ofTx j (s.take k))) x.Tx (ofTx j (s.take k) ++ [x]) = (List.range n).map (fun j => ofTx j (s.take (k + 1))) := by
   unfold setI
   rw [hxj]
   refine List.ext_getElem? fun i => ?_
   simp only [Int.toNat_natCast, List.getElem?_set, List.length_map, List.length_range, List.getElem?_map]
   by_cases e : j = i
   ·subst e
    rw [if_pos rfl, if_pos hj, List.getElem?_range hj]
    simp only [Option.map_some, Option.some.injEq]
    unfold ofTx
    rw [take_snoc hx, List.filter_append]
    simp [hxj]
   ·rw [if_neg e]
    by_cases hi : i < n
    ·rw [List.getElem?_range hi]
     simp only [Option.map_some, Option.some.injEq]
     unfold ofTx
     rw [take_snoc hx, List.filter_append]
     have : ¬ ((x.Tx == (i : Int)) = true) := by rw [hxj]; simp; omega
     simp [this]
    ·simp [hi]
  rw [if_pos (by omega), idx_nat hx, Option.bind_some, if_neg (by omega), Option.bind_some, if_neg (by simp; omega), hidx, Option.bind_some,
   appL_of (by simp only [List.length_cons, List.length_nil]; omega), Option.bind_some, appL_of (by simp only [List.length_cons, List.length_nil]; omega), Option.bind_some, letv_eq, hset, chkI_of (by omega) (by omega), Option.bind_some]
  exact .inl ⟨((List.range n).map (fun j => ofTx j (s.take (k + 1))), s.take (k + 1)), by rw [take_snoc hx], rfl⟩
 ·rintro _ rfl
  try dsimp only
  rw [if_neg (by omega)]
  exact ⟨_, rfl, by simp⟩
end Go.Proofs.Ytifcmomjjkbboaa
end
section
namespace Go.Proofs.Ytifcmomjjkbboaa
open Go.Ab Go.Rp

theorem d15_eq {N : Nat} (hN : bigN N) {xs : List Op27} (hs : small xs) {p : Op27 → Option Bool} {q : Op27 → Bool} (h : ∀ x ∈ xs, p x = some (q x)) : d15 N xs p = some (optI (xs.findIdx? q)) :=
 indexFunc_eq N xs p q h (hs.lt hN) hs
theorem d7_eq {N : Nat} (hN : bigN N) {xs : List Op27} (hs : small xs) {p : Op27 → Option Bool} {q : Op27 → Bool} (h : ∀ x ∈ xs, p x = some (q x)) : d7 N xs p = some (xs.any q) := by
 unfold d7
 rw [d15_eq hN hs h, Option.bind_some, optI_ge]

def tot (T : Txs) : Nat := (T.map List.length).sum
def offTx (k : Nat) (t : List Op27) : Bool := t.any fun x => x.Tx != (k : Int)
def one (k : Nat) (t : List Op27) : Int := if checkH t ≠ 0 then checkH t else if offTx k t = true then 3 else 0
/-- the first fault among the transactions from k on -/
def chkT : Nat → Txs → Int
 | _, [] => 0
 | k, t :: r => if one k t ≠ 0 then one k t else chkT (k + 1) r
def want (T : Txs) : Int := if T.length > 4 ∨ tot T > 12 then 2 else chkT 0 T

theorem tot_take_succ {T : Txs} {k : Nat} {t : List Op27} (h : T[k]? = some t) : tot (T.take (k + 1)) = tot (T.take k) + t.length := by
 unfold tot
 rw [List.take_add_one, h]; simp
theorem tot_take_le {T : Txs} {k : Nat} : tot (T.take k) ≤ tot T := by
 conv => rhs; rw [← List.take_append_drop k T]
 unfold tot
 rw [List.map_append, List.sum_append]
 omega
theorem len_le_tot {T : Txs} {k : Nat} {t : List Op27} (h : T[k]? = some t) : t.length ≤ tot T := by
 have h1 := tot_take_succ h
 have h2 := tot_take_le (T := T) (k := k + 1)
 omega
theorem flat_len_take {T : Txs} (k : Nat) : (T.take k).flatten.length = tot (T.take k) := by
 unfold tot
 rw [List.length_flatten]

theorem concat_eq {N : Nat} (hN : 200 ≤ N) {T : Txs} (h4 : T.length ≤ 4) (ht : tot T ≤ 1048576) : d17 N T = some T.flatten := by
 have hr : Rp.reach = 140737488355328 := rfl
 unfold d17
 refine bind_eq (P := fun v => v = (tot T : Int)) (loop_idx (σ := Int) (τ := Int × Int) T.length (fun s v => (s, v)) _ (fun k s => s = (tot (T.take k) : Int)) _ ?_ ?_ 0 (by simp [tot]) (by omega)) ?_
 ·rintro k _ hk rfl
  obtain ⟨t, hx⟩ := getAt hk
  have h1 := tot_take_succ hx
  have h2 := tot_take_le (T := T) (k := k + 1)
  dsimp only
  rw [if_pos (by omega), idx_nat hx, Option.bind_some, chkI_of (by omega) (by omega), Option.bind_some, if_neg (by omega), chkI_of (by omega) (by omega), Option.bind_some]
  exact .inl ⟨(tot (T.take (k + 1)) : Int), by rw [h1]; simp, rfl⟩
 ·rintro _ rfl
  dsimp only
  rw [if_neg (by omega)]
  exact ⟨_, rfl, by simp⟩
 ·rintro _ rfl
  have hg : growL 32 (tot T : Int) = some () := by
   unfold growL
   rw [if_pos ⟨by omega, by simp; omega⟩]
  rw [hg, Option.bind_some]
  refine bind_eq (P := fun l => l = T.flatten) (loop_idx (σ := List Op27) (τ := List Op27 × Int) T.length (fun s v => (s, v)) _ (fun k s => s = (T.take k).flatten) _ ?_ ?_ [] (by simp) (by omega)) ?_
  ·rintro k _ hk rfl
   obtain ⟨t, hx⟩ := getAt hk
   have h1 := tot_take_succ hx
   have h2 := tot_take_le (T := T) (k := k + 1)
   have h3 := flat_len_take (T := T) k
   dsimp only
   rw [if_pos (by omega), idx_nat hx, Option.bind_some, appL_of (by omega), Option.bind_some, chkI_of (by omega) (by omega), Option.bind_some]
   refine .inl ⟨(T.take (k + 1)).flatten, ?_, rfl⟩
   rw [take_snoc hx, List.flatten_append]; simp
  ·rintro _ rfl
   dsimp only
   rw [if_neg (by omega)]
   exact ⟨_, rfl, by simp⟩
  ·rintro _ rfl; rfl

theorem inner_tx {N : Nat} {t : List Op27} (hN : t.length < N) (hl : t.length ≤ 1048576) (k : Nat) :
  ∃ r, iterN (σ := Int) (ρ := (Out Unit (Int ⊕ (Out Unit Int)))) (fun (v98 : Int) =>
      if v98 < (t.length : Int) then (
       (idx t v98).bind fun x111 =>
       if (x111.Tx != (k : Int)) then (
        some (.inr (.ret (.inr (.ret 3))))
       ) else
       (chkI (v98 + 1)).bind fun v114 =>
       some (.inl v114)
      ) else
      some (.inr (.go ()))) N 0 = some r ∧ r = if offTx k t = true then .ret (.inr (.ret 3)) else .go () := by
 have := loop_idx (σ := Unit) (τ := Int) (ρ := (Out Unit (Int ⊕ (Out Unit Int)))) t.length (fun _ v => v) (fun (v98 : Int) =>
      if v98 < (t.length : Int) then (
       (idx t v98).bind fun x111 =>
       if (x111.Tx != (k : Int)) then (
        some (.inr (.ret (.inr (.ret 3))))
       ) else
       (chkI (v98 + 1)).bind fun v114 =>
       some (.inl v114)
      ) else
      some (.inr (.go ()))) (fun m _ => offTx k (t.take m) = false) (fun r => r = if offTx k t = true then .ret (.inr (.ret 3)) else .go ()) ?_ ?_ () (by simp [offTx]) (n := N) hN
 ·exact this
 ·rintro m _ hm hi
  obtain ⟨x, hx⟩ := getAt hm
  try dsimp only
  rw [if_pos (by omega), idx_nat hx, Option.bind_some]
  cases hb : (x.Tx != (k : Int)) with
  | true =>
   have : offTx k t = true := List.any_eq_true.2 ⟨x, List.mem_of_getElem? hx, hb⟩
   rw [if_pos rfl, if_pos this]
   exact .inr ⟨_, rfl, rfl⟩
  | false =>
   rw [if_neg (by simp), chkI_of (by omega) (by omega), Option.bind_some]
   refine .inl ⟨(), rfl, ?_⟩
   unfold offTx at hi ⊢
   rw [take_snoc hx, List.any_append, hi]
   simp [hb]
 ·rintro _ hi
  try dsimp only
  rw [if_neg (by omega)]
  refine ⟨_, rfl, ?_⟩
  rw [List.take_length] at hi
  rw [hi]; rfl

theorem chkT_drop {T : Txs} {k : Nat} {t : List Op27} (h : T[k]? = some t) : chkT k (T.drop k) = if one k t ≠ 0 then one k t else chkT (k + 1) (T.drop (k + 1)) := by
 obtain ⟨h1, h2⟩ := List.getElem?_eq_some_iff.1 h
 rw [List.drop_eq_getElem_cons h1, h2]
 rfl

theorem check_eq {N : Nat} (hN : bigN N) {T : Txs} (ht : tot T ≤ 1048576) : d10 N T = some (want T) := by
 have hN' : 9223372036854775808 ≤ N := hN
 unfold d10 want
 refine bind_of (a := decide (T.length > 4 ∨ tot T > 12)) ?_ ?_
 ·by_cases h : T.length > 4
  ·rw [if_pos (by omega)]; simp [h]
  ·rw [if_neg (by omega), concat_eq (by omega) (by omega) ht, Option.bind_some]
   have : T.flatten.length = tot T := by have := flat_len_take (T := T) T.length; rwa [List.take_length] at this
   rw [this]
   congr 1
   rw [decide_eq_decide]
   omega
 ·by_cases h : T.length > 4 ∨ tot T > 12
  ·rw [if_pos h]; simp [h]
  ·rw [if_neg h, if_neg (by simp [h])]
   refine bindO_eq (P := fun o => o = if chkT 0 T ≠ 0 then .ret (chkT 0 T) else .go ()) (loop_idx (σ := Unit) (τ := Int) T.length (fun _ v => v) _ (fun k _ => chkT 0 T = chkT k (T.drop k)) _ ?_ ?_ () (by simp) (n := N) (by omega)) ?_ ?_
   ·rintro k _ hk hi
    obtain ⟨t, hx⟩ := getAt hk
    have hlt := len_le_tot hx
    have hst : small t := by unfold small; omega
    rw [chkT_drop hx] at hi
    try dsimp only
    rw [if_pos (by omega), idx_nat hx, Option.bind_some, d18_eq hN hst, Option.bind_some]
    by_cases hc : checkH t = 0
    ·have hone : one k t = if offTx k t = true then 3 else 0 := by unfold one; rw [if_neg (by simp [hc])]
     rw [if_neg (by simp [hc])]
     by_cases ho : offTx k t = true
     ·rw [if_pos ho] at hone
      refine .inr ⟨.ret 3, ?_, ?_⟩
      ·refine bindO_eq (inner_tx (by omega) (by omega) k) ?_ ?_
       ·rintro x hx; rw [if_pos ho] at hx; injection hx
       ·rintro _ hx; rw [if_pos ho] at hx; cases hx
      ·rw [hone, if_pos (by decide)] at hi
       rw [hi, if_pos (by decide)]
     ·rw [if_neg ho] at hone
      refine .inl ⟨(), ?_, ?_⟩
      ·refine bindO_eq (inner_tx (by omega) (by omega) k) ?_ ?_
       ·rintro x hx; rw [if_neg ho] at hx; cases hx
       ·rintro _ _; rw [chkI_of (by omega) (by omega), Option.bind_some]
      ·rw [hone, if_neg (by decide)] at hi
       exact hi
    ·have hone : one k t = checkH t := by unfold one; rw [if_pos hc]
     rw [if_pos (by simp [hc])]
     refine .inr ⟨_, rfl, ?_⟩
     rw [hone, if_pos hc] at hi
     rw [hi, if_pos hc]
   ·rintro _ hi
    try dsimp only
    rw [List.drop_length] at hi
    rw [if_neg (by omega)]
    refine ⟨_, rfl, ?_⟩
    rw [hi]; rfl
   ·intro x hx
    by_cases hc : chkT 0 T = 0
    ·rw [if_neg (by simp [hc])] at hx; cases hx
    ·rw [if_pos hc] at hx
     injection hx
   ·rintro _ hx
    by_cases hc : chkT 0 T = 0
    ·rw [hc]
    ·rw [if_pos hc] at hx; cases hx

/-! ### valid transactions -/
def okOp (x : Op27) : Prop := badKind x = false ∧ badTx x = false ∧ (x.Key.size : Int) ≤ 24
theorem chkH_iff : ∀ xs : List Op27, chkH xs = 0 ↔ ∀ x ∈ xs, okOp x
 | [] => by simp [chkH]
 | x :: r => by
  have ih := chkH_iff r
  unfold chkH
  cases h1 : badKind x with
  | true =>
   rw [if_pos rfl]
   constructor
   ·intro h; cases h
   ·intro h; have := (h x (List.mem_cons_self ..)).1; rw [h1] at this; cases this
  | false =>
   rw [if_neg (by simp)]
   cases h2 : badTx x with
   | true =>
    rw [if_pos rfl]
    constructor
    ·intro h; cases h
    ·intro h; have := (h x (List.mem_cons_self ..)).2.1; rw [h2] at this; cases this
   | false =>
    rw [if_neg (by simp)]
    by_cases h3 : (x.Key.size : Int) > 24
    ·rw [if_pos h3]
     constructor
     ·intro h; cases h
     ·intro h; have := (h x (List.mem_cons_self ..)).2.2; omega
    ·rw [if_neg h3, ih]
     constructor
     ·intro h y hy
      rcases List.mem_cons.1 hy with rfl | hy
      ·exact ⟨h1, h2, by omega⟩
      ·exact h y hy
     ·intro h y hy; exact h y (List.mem_cons_of_mem _ hy)
theorem checkH_iff {xs : List Op27} (hl : xs.length ≤ 200) : checkH xs = 0 ↔ ∀ x ∈ xs, okOp x := by
 unfold checkH
 rw [if_neg (by omega)]
 exact chkH_iff xs
theorem chkT_ok : ∀ (T : Txs) (k : Nat), chkT k T = 0 → ∀ i t, T[i]? = some t → one (k + i) t = 0
 | [], _, _, i, t, h => by simp at h
 | u :: r, k, hc, i, t, h => by
  unfold chkT at hc
  by_cases h1 : one k u = 0
  ·rw [if_neg (by simp [h1])] at hc
   cases i with
   | zero => simp at h; subst h; exact h1
   | succ i =>
    have := chkT_ok r (k + 1) hc i t (by simpa using h)
    rwa [show k + 1 + i = k + (i + 1) by omega] at this
  ·rw [if_pos h1] at hc; exact absurd hc h1
structure Ok (T : Txs) : Prop where
 four : T.length ≤ 4
 twelve : tot T ≤ 12
 each : ∀ i t, T[i]? = some t → checkH t = 0 ∧ offTx i t = false
theorem ok_of {T : Txs} (h : want T = 0) : Ok T := by
 unfold want at h
 by_cases h1 : T.length > 4 ∨ tot T > 12
 ·rw [if_pos h1] at h; cases h
 ·rw [if_neg h1] at h
  refine ⟨by omega, by omega, fun i t hi => ?_⟩
  have := chkT_ok T 0 h i t hi
  rw [Nat.zero_add] at this
  unfold one at this
  by_cases hc : checkH t = 0
  ·rw [if_neg (by simp [hc])] at this
   refine ⟨hc, ?_⟩
   cases ho : offTx i t with
   | false => rfl
   | true => rw [ho, if_pos rfl] at this; cases this
  ·rw [if_pos hc] at this; exact absurd this hc
theorem Ok.at {T : Txs} (o : Ok T) {i : Nat} {x : Op27} (h : x ∈ T.getD i []) : okOp x ∧ x.Tx = (i : Int) ∧ i < T.length := by
 rw [List.getD_eq_getElem?_getD] at h
 cases hi : T[i]? with
 | none => rw [hi] at h; cases h
 | some t =>
  rw [hi] at h
  have h : x ∈ t := h
  obtain ⟨h1, h2⟩ := o.each i t hi
  have hl := len_le_tot hi
  have := o.twelve
  refine ⟨(checkH_iff (by omega)).1 h1 x h, ?_, (List.getElem?_eq_some_iff.1 hi).1⟩
  have := List.any_eq_false.1 h2 x h
  simpa using this
theorem Ok.good {T : Txs} (o : Ok T) : Good T := ⟨o.four, fun _i _x h => (o.at h).2.1, fun _i _x h => (o.at h).1.1⟩
theorem Ok.short {T : Txs} (o : Ok T) (i : Nat) : (T.getD i []).length ≤ 12 := by
 rw [List.getD_eq_getElem?_getD]
 cases hi : T[i]? with
 | none => simp
 | some t =>
  have := len_le_tot hi
  have := o.twelve
  show t.length ≤ 12
  omega
def ns0 (T : Txs) : List Nat := List.replicate T.length 0
def E (T : Txs) : List (List Op27) := gen T 12 (ns0 T) []
theorem ns0_getD (T : Txs) (i : Nat) : (ns0 T).getD i 0 = 0 := by
 unfold ns0
 rw [List.getD_eq_getElem?_getD, List.getElem?_replicate]
 split <;> rfl
theorem at0 (T : Txs) : At T (ns0 T) := ⟨by simp [ns0], fun i => by rw [ns0_getD]; omega⟩
theorem range_getD (T : Txs) : (List.range T.length).map (fun i => T.getD i []) = T := by
 refine List.ext_getElem? fun i => ?_
 by_cases h : i < T.length <;> simp [h, List.getD_eq_getElem?_getD]
theorem left0 (T : Txs) : left T (ns0 T) = tot T := by
 unfold left tot
 conv => rhs; rw [← range_getD T, List.map_map]
 congr 1
 refine List.map_congr_left fun i _ => ?_
 show (T.getD i []).length - (ns0 T).getD i 0 = (T.getD i []).length
 rw [ns0_getD]; simp
theorem sl0 (T : Txs) : sl T (slp T (ns0 T) []) = List.replicate T.length false := by
 unfold sl
 refine List.ext_getElem? fun j => ?_
 have : slp T (ns0 T) [] j = false := by
  unfold slp
  split <;> rfl
 by_cases hj : j < T.length <;> simp [hj, this]
theorem ns0_map (T : Txs) : (ns0 T).map (fun n : Nat => (n : Int)) = List.replicate T.length 0 := by
 unfold ns0; rw [List.map_replicate]; rfl

theorem E_len {T : Txs} (o : Ok T) : (E T).length ≤ 16777216 := Nat.le_trans (gen_len o.four 12 _ _) (by decide)
theorem schedules_eq {N : Nat} (hN : bigN N) {T : Txs} (ht : tot T ≤ 1048576) : d9 N T = some (if want T ≠ 0 then ([], want T) else (E T, 0)) := by
 have hN' : 9223372036854775808 ≤ N := hN
 have hr : Rp.reach = 140737488355328 := rfl
 unfold d9
 rw [check_eq hN ht, Option.bind_some]
 by_cases h : want T = 0
 ·have o := ok_of h
  have h4 := o.four
  rw [if_neg (by simp [h]), if_neg (by simp [h])]
  have h1 : mkL 8 (T.length : Int) (0 : Int) = some (List.replicate T.length 0) := by
   unfold mkL; rw [if_pos ⟨by omega, by simp; omega⟩]; simp
  have h2 : mkL 1 (T.length : Int) false = some (List.replicate T.length false) := by
   unfold mkL; rw [if_pos ⟨by omega, by simp; omega⟩]; simp
  have h3 := explore_eq o.good o.short 12 N (ns0 T) [] [] (by rw [left0]; exact o.twelve) (by omega) (at0 T) (by simp) (by simp)
  rw [ns0_map, sl0] at h3
  rw [h1, Option.bind_some, h2, Option.bind_some, h3, Option.bind_some]
  rfl
 ·rw [if_pos (by simp [h]), if_pos h]

/-- a schedule with a serial order -/
def ser (s : List Op27) : Bool := (topo (qP s) (txs s).length (txs s) []).isSome
theorem gen_length {T : Txs} : ∀ (f : Nat) (ns : List Nat) (p : List Op27), ∀ s ∈ gen T f ns p, s.length ≤ p.length + f := by
 intro f
 induction f with
 | zero =>
  intro ns p s hs
  unfold gen at hs
  rw [List.mem_singleton] at hs
  subst hs; omega
 | succ f ih =>
  intro ns p s hs
  by_cases h : fin T ns = true
  ·rw [gen_fin h, List.mem_singleton] at hs
   subst hs; omega
  ·rw [gen_open h, List.mem_flatMap] at hs
   obtain ⟨i, hi, hs⟩ := hs
   unfold child at hs
   split at hs
   ·cases hs
   ·split at hs
    ·have := ih _ _ s hs
     simp at this; omega
    ·cases hs
structure Sched (T : Txs) (s : List Op27) : Prop where
 len : s.length ≤ 12
 nw : NW s
 parts : ∀ j, j < T.length → ofTx j s = T.getD j []
 from_ : ∀ x ∈ s, ∃ j, j < T.length ∧ x ∈ T.getD j []
theorem sched_of {T : Txs} (o : Ok T) {s : List Op27} (h : s ∈ E T) : Sched T s := by
 obtain ⟨⟨q, h1, h2, h3⟩, h4⟩ := gen_word o.good 12 (ns0 T) [] (by rw [left0]; exact o.twelve) (at0 T) (fun k x hx => by simp at hx) s h
 rw [List.nil_append] at h1
 subst h1
 exact ⟨by have := gen_length 12 _ _ s h; simpa using this, h4, fun j hj => by rw [h2 j hj, ns0_getD]; rfl, h3⟩
theorem Sched.ok {T : Txs} {s : List Op27} (c : Sched T s) (o : Ok T) : ∀ x ∈ s, okOp x := fun x hx => by
 obtain ⟨j, _, h⟩ := c.from_ x hx
 exact (o.at h).1
theorem Sched.check {T : Txs} {s : List Op27} (c : Sched T s) (o : Ok T) : checkH s = 0 := (checkH_iff (by have := c.len; omega)).2 (c.ok o)

theorem count4_eq {N : Nat} (hN : bigN N) {T : Txs} (ht : tot T ≤ 1048576) : d4 N T = some (if want T ≠ 0 then (0, 0, want T) else (((E T).length : Int), ((E T).countP ser : Int), 0)) := by
 have hN' : 9223372036854775808 ≤ N := hN
 unfold d4
 rw [schedules_eq hN ht, Option.bind_some]
 by_cases h : want T = 0
 ·have o := ok_of h
  have hE := E_len o
  rw [if_neg (show ¬ want T ≠ 0 by simp [h]), if_neg (show ¬ want T ≠ 0 by simp [h])]
  dsimp only
  rw [if_neg (by simp)]
  refine bind_eq (P := fun v => v = ((E T).countP ser : Int)) (loop_idx (σ := Int) (τ := Int × Int) (E T).length (fun s v => (s, v)) _ (fun k s => s = (((E T).take k).countP ser : Int)) _ ?_ ?_ 0 (by simp) (by omega)) ?_
  ·rintro k _ hk rfl
   obtain ⟨s, hx⟩ := getAt hk
   have c := sched_of o (List.mem_of_getElem? hx)
   have hcl := c.len
   have hle : ((E T).take k).countP ser ≤ k := Nat.le_trans List.countP_le_length (by rw [List.length_take]; omega)
   dsimp only
   rw [if_pos (by omega), idx_nat hx, Option.bind_some, d13_eq hN (by unfold small; omega), Option.bind_some, if_neg (show ¬ checkH s ≠ 0 by simp [c.check o])]
   have hct : ((E T).take (k + 1)).countP ser = ((E T).take k).countP ser + if ser s = true then 1 else 0 := by
    rw [take_snoc hx, List.countP_append]; simp [List.countP_cons]
   refine .inl ⟨_, ?_, rfl⟩
   rw [hct]
   cases hq : topo (qP s) (txs s).length (txs s) [] with
   | some q =>
    have hs : ser s = true := by unfold ser; rw [hq]; rfl
    rw [hs]
    dsimp only
    rw [if_pos (by simp), chkI_of (by omega) (by omega), Option.bind_some, chkI_of (by omega) (by omega), Option.bind_some]
    simp
   | none =>
    have hs : ser s = false := by unfold ser; rw [hq]; rfl
    rw [hs]
    dsimp only
    rw [if_neg (by simp), chkI_of (by omega) (by omega), Option.bind_some]
    simp
  ·rintro _ rfl
   dsimp only
   rw [if_neg (by omega)]
   exact ⟨_, rfl, by simp⟩
  ·rintro _ rfl; rfl
 ·rw [if_pos h, if_pos h]
  dsimp only
  rw [if_pos (by simp [h])]
end Go.Proofs.Ytifcmomjjkbboaa
end
section
namespace Go.Proofs.Ytifcmomjjkbboaa
open Go.Ab Go.Rp

def mark (s : List Op27) : ByteArray := bstr (txOf s)
theorem mark_inj {T : Txs} (o : Ok T) {s t : List Op27} (hs : s ∈ E T) (ht : t ∈ E T) (h : mark s = mark t) : txOf s = txOf t := by
 have rng : ∀ u ∈ E T, ∀ v ∈ txOf u, 0 ≤ v ∧ v < 256 := fun u hu v hv => by
  obtain ⟨x, hx, rfl⟩ := List.mem_map.1 hv
  have := ((sched_of o hu).ok o x hx).2.1
  unfold badTx at this
  simp at this
  omega
 exact bstr_inj (rng s hs) (rng t ht) h
theorem marks_nodup {T : Txs} (o : Ok T) : ((E T).map mark).Nodup := by
 have h := gen_nodup o.good 12 (ns0 T) []
 unfold List.Nodup at h ⊢
 rw [List.pairwise_map] at h ⊢
 exact List.Pairwise.imp_of_mem (fun {a b} ha hb hne e => hne (mark_inj o ha hb e)) h

theorem distinct_eq {N : Nat} (hN : bigN N) {T : Txs} (o : Ok T) : d12 N T (E T) ((E T).countP ser : Int) = some true := by
 have hN' : 9223372036854775808 ≤ N := hN
 have hr : Rp.reach = 140737488355328 := rfl
 have h4 := o.four
 have hE := E_len o
 unfold d12
 refine bindO_eq (P := fun r => r = .go (0 : Int)) (loop_idx (σ := Int × List (ByteArray × Bool)) (τ := Int × List (ByteArray × Bool) × Int) (ρ := Out Int Bool) (E T).length (fun s v => (s.1, s.2, v)) _
  (fun k s => s.1 = ((E T).countP ser : Int) - (((E T).take k).countP ser : Int) ∧ ∀ key, mget s.2 key ≠ none ↔ key ∈ ((E T).take k).map mark) _ ?_ ?_ (((E T).countP ser : Int), []) ⟨by simp, fun key => by simp [mget_nil]⟩ (by omega)) ?_ ?_
 ·rintro k ⟨v, m⟩ hk ⟨hv, hm⟩
  obtain ⟨s, hx⟩ := getAt hk
  have hmem := List.mem_of_getElem? hx
  have c := sched_of o hmem
  have hcl := c.len
  have hok := c.ok o
  have htx : ∀ x ∈ s, 0 ≤ x.Tx ∧ x.Tx < 20 := fun x hx => by
   have := (hok x hx).2.1
   unfold badTx at this
   simp at this
   omega
  have hle : ((E T).take k).countP ser ≤ (E T).countP ser := by
   conv => rhs; rw [← List.take_append_drop k (E T), List.countP_append]
   omega
  have hle2 : (E T).countP ser ≤ (E T).length := List.countP_le_length
  dsimp only at hv hm ⊢
  have hmk : mkL 24 (T.length : Int) ([] : List S27) = some (List.replicate T.length []) := by
   unfold mkL; rw [if_pos ⟨by omega, by simp; omega⟩]; simp
  rw [if_pos (by omega), idx_nat hx, Option.bind_some, hmk, Option.bind_some]
  have hparts : (List.range T.length).map (fun j => ofTx j s) = T := by
   conv => rhs; rw [← range_getD T]
   exact List.map_congr_left fun j hj => c.parts j (List.mem_range.1 hj)
  have hnew : mget m (mark s) = none := by
   refine Classical.byContradiction fun hin => ?_
   have hin := (hm _).1 hin
   obtain ⟨t, ht, e⟩ := List.mem_map.1 hin
   obtain ⟨j, hj, hjt⟩ := List.mem_take_iff_getElem.1 ht
   have hnd := marks_nodup o
   have hjk : j < k := by omega
   have hne := List.pairwise_iff_getElem.1 hnd j k (by rw [List.length_map]; omega) (by rw [List.length_map]; omega) hjk
   rw [List.getElem_map, List.getElem_map, hjt, (List.getElem?_eq_some_iff.1 hx).2] at hne
   exact hne e
  have hpq : ∀ s' ∈ txs s, ∀ t' ∈ txs s, (fun b0 b1 => d26 N b0 b1 s) s' t' = some (qP s s' t') := fun s' _ t' _ => by
   show d26 N s' t' s = _
   unfold d26
   rw [d27_eq hN (c.check o), Option.bind_some]
   rfl
  have hct : ((E T).take (k + 1)).countP ser = ((E T).take k).countP ser + if ser s = true then 1 else 0 := by
   rw [take_snoc hx, List.countP_append]; simp [List.countP_cons]
  have hm' : ∀ key, mget (mput m (mark s) true) key ≠ none ↔ key ∈ ((E T).take (k + 1)).map mark := fun key => by
   rw [mget_put, take_snoc hx, List.map_append]
   by_cases e : mark s = key
   ·subst e; simp
   ·have e' : ¬ key = mark s := fun h => e h.symm
    rw [if_neg e, hm]
    simp [e']
  refine .inl ⟨(((E T).countP ser : Int) - (((E T).take (k + 1)).countP ser : Int), mput m (mark s) true), ?_, rfl, hm'⟩
  refine bindO_eq (parts_eq h4 (by omega) (by omega) (fun x hx => ?_)) ?_ ?_
  ·obtain ⟨j, hj, h⟩ := c.from_ x hx
   exact ⟨j, hj, (o.at h).2.1⟩
  ·rintro x hx; cases hx
  ·rintro b hb
   injection hb with hb
   subst hb
   dsimp only
   rw [hparts, sameL_eq (by omega) h4 o.short, Option.bind_some, if_neg (by simp), normal_eq s N (by omega) hcl c.nw (fun x hx => (hok x hx).1), Option.bind_some]
   refine bind_eq (mark_eq (by omega) (by omega) htx) ?_
   rintro _ rfl
   have hnew' : mget m (bstr (txOf s)) = none := hnew
   rw [letv_eq, hnew']
   rw [if_neg (by simp), d25_eq hN (by unfold small; omega), Option.bind_some, d24_eq hN _ _ (by have := txs_len s; omega) hpq, Option.bind_some, hct, hv]
   cases hq : topo (qP s) (txs s).length (txs s) [] with
   | some q =>
    have hs : ser s = true := by unfold ser; rw [hq]; rfl
    rw [hs]
    dsimp only
    have hle3 : ((E T).take (k + 1)).countP ser ≤ (E T).countP ser := by
     conv => rhs; rw [← List.take_append_drop (k + 1) (E T), List.countP_append]
     omega
    rw [hct, hs] at hle3
    rw [if_pos rfl] at hle3
    rw [if_pos rfl, chkI_of (by omega) (by omega), Option.bind_some, chkI_of (by omega) (by omega), Option.bind_some]
    congr 3
    ·simp; omega
   | none =>
    have hs : ser s = false := by unfold ser; rw [hq]; rfl
    rw [hs]
    dsimp only
    rw [if_neg (by simp), chkI_of (by omega) (by omega), Option.bind_some]
    simp [mark]
 ·rintro ⟨v, m⟩ ⟨hv, _⟩
  dsimp only at hv ⊢
  rw [if_neg (by omega)]
  refine ⟨_, rfl, ?_⟩
  rw [List.take_length] at hv
  rw [hv]; simp
 ·rintro x hx; cases hx
 ·rintro b hb
  injection hb with hb
  subst hb
  rfl

theorem law_true {N : Nat} (hN : bigN N) (hpre : d4 N [[⟨0, 2, ByteArray.mk #[120]⟩], [⟨1, 2, ByteArray.mk #[120]⟩]] = some (2, 2, 0)) {T : Txs} (hl : T.length ≤ 1048576) (ht : tot T ≤ 1048576) : d3 N T = some true := by
 have hN' : 9223372036854775808 ≤ N := hN
 have hr : Rp.reach = 140737488355328 := rfl
 unfold d3
 have hmk : mkL 24 (T.length : Int) ([] : List S27) = some (List.replicate T.length []) := by
  unfold mkL; rw [if_pos ⟨by omega, by simp; omega⟩]; simp
 rw [letv_eq, hpre, Option.bind_some, if_neg (by decide), if_neg (by decide), Option.bind_some, if_neg (by decide), hmk, Option.bind_some]
 refine bind_eq (P := fun r => r = (T, (tot T : Int))) (loop_idx (σ := Txs × Int) (τ := Txs × Int × Int) T.length (fun s v => (s.1, s.2, v)) _ (fun k s => s = (T.take k ++ List.replicate (T.length - k) [], (tot (T.take k) : Int))) _ ?_ ?_ (List.replicate T.length [], 0) (by simp [tot]) (by omega)) ?_
 ·rintro k _ hk rfl
  obtain ⟨t, hx⟩ := getAt hk
  have h1 := tot_take_succ hx
  have h2 := tot_take_le (T := T) (k := k + 1)
  have hl1 := len_le_tot hx
  have hi : idx (T.take k ++ List.replicate (T.length - k) []) (k : Int) = some [] := by
   refine idx_nat ?_
   rw [List.getElem?_append_right (by rw [List.length_take]; omega), List.length_take, List.getElem?_replicate, if_pos (by omega)]
  have hs : setI (T.take k ++ List.replicate (T.length - k) []) (k : Int) t = T.take (k + 1) ++ List.replicate (T.length - (k + 1)) [] := by
   unfold setI
   have hlt : (T.take k).length = k := by rw [List.length_take]; omega
   rw [Int.toNat_natCast, List.set_append_right _ _ (by omega), hlt, Nat.sub_self, take_snoc hx]
   rw [show T.length - k = (T.length - (k + 1)) + 1 by omega, List.replicate_succ, List.set_cons_zero]
   simp
  dsimp only
  rw [if_pos (by omega), idx_nat hx, Option.bind_some, d5_eq hN (by omega), Option.bind_some, hi, Option.bind_some, letv_eq, hs, chkI_of (by omega) (by omega), Option.bind_some, chkI_of (by omega) (by omega), Option.bind_some]
  exact .inl ⟨(T.take (k + 1) ++ List.replicate (T.length - (k + 1)) [], (tot (T.take (k + 1)) : Int)), by rw [h1]; simp, rfl⟩
 ·rintro _ rfl
  dsimp only
  rw [if_neg (by omega)]
  exact ⟨_, rfl, by simp⟩
 rintro _ rfl
 dsimp only
 -- what is wanted
 refine bind_of (a := decide (T.length > 4 ∨ tot T > 12)) ?_ ?_
 ·by_cases h : T.length > 4
  ·rw [if_pos (by omega)]; simp [h]
  ·rw [if_neg (by omega)]
   congr 1
   rw [decide_eq_decide]; omega
 refine bind_of (a := if T.length > 4 ∨ tot T > 12 then 2 else 0) ?_ ?_
 ·by_cases h : T.length > 4 ∨ tot T > 12
  ·rw [if_pos (by simp [h]), if_pos h]
  ·rw [if_neg (by simp [h]), if_neg h]
 refine bind_eq (P := fun v => v = want T) (loop_idx (σ := Int) (τ := Int × Int) T.length (fun s v => (s, v)) _ (fun k s => want T = if s ≠ 0 then s else chkT k (T.drop k)) _ ?_ ?_ (if T.length > 4 ∨ tot T > 12 then 2 else 0) (by
  unfold want
  by_cases h : T.length > 4 ∨ tot T > 12
  ·rw [if_pos h, if_pos h]; rfl
  ·rw [if_neg h, if_neg h]; simp) (by omega)) ?_
 ·rintro k v hk hi
  obtain ⟨t, hx⟩ := getAt hk
  have hl1 := len_le_tot hx
  have hst : small t := by unfold small; omega
  dsimp only
  rw [if_pos (by omega), Option.bind_some]
  by_cases hv : v = 0
  ·subst hv
   rw [if_pos (by simp), idx_nat hx, Option.bind_some, d6_eq hN hst, Option.bind_some]
   rw [if_neg (by simp), chkT_drop hx] at hi
   by_cases hc : checkH t = 0
   ·have hone : one k t = if offTx k t = true then 3 else 0 := by unfold one; rw [if_neg (by simp [hc])]
    rw [if_pos (by simp [hc]), d7_eq hN hst (p := fun b0 => d8 N b0 (k : Int)) (q := fun x => x.Tx != (k : Int)) (fun x _ => rfl), Option.bind_some, Option.bind_some]
    have hoff : (t.any fun x => x.Tx != (k : Int)) = offTx k t := rfl
    rw [hoff]
    by_cases ho : offTx k t = true
    ·rw [if_pos ho] at hone ⊢
     rw [chkI_of (by omega) (by omega), Option.bind_some]
     refine .inl ⟨3, rfl, ?_⟩
     rw [hone, if_pos (by decide)] at hi
     rw [hi]; rfl
    ·rw [if_neg ho] at hone ⊢
     rw [chkI_of (by omega) (by omega), Option.bind_some, hc]
     refine .inl ⟨0, rfl, ?_⟩
     rw [hone, if_neg (by decide)] at hi
     rw [hi, if_neg (by simp)]
   ·have hone : one k t = checkH t := by unfold one; rw [if_pos hc]
    rw [if_neg (by simp [hc]), Option.bind_some, if_neg (by simp), chkI_of (by omega) (by omega), Option.bind_some]
    refine .inl ⟨checkH t, rfl, ?_⟩
    rw [hone, if_pos hc] at hi
    rw [hi, if_pos hc]
  ·rw [if_neg (by simp [hv])]
   refine .inr ⟨v, rfl, ?_⟩
   rw [hi, if_pos hv]
 ·rintro v hi
  dsimp only
  rw [if_neg (by omega), Option.bind_some, if_neg (by simp)]
  refine ⟨_, rfl, ?_⟩
  rw [List.drop_length] at hi
  rw [hi]
  by_cases hv : v = 0
  ·subst hv; rfl
  ·rw [if_pos hv]
 rintro _ rfl
 rw [schedules_eq hN ht, Option.bind_some, count4_eq hN ht, Option.bind_some, check_eq hN ht]
 by_cases h : want T = 0
 ·have o := ok_of h
  have hE := E_len o
  have h4 := o.four
  have h1 : mkL 8 (T.length : Int) (0 : Int) = some (List.replicate T.length 0) := by
   unfold mkL; rw [if_pos ⟨by omega, by simp; omega⟩]; simp
  have h3 := count_eq o.good o.short 12 N (ns0 T) [] (by rw [left0]; exact o.twelve) (by omega) (at0 T) (by simp) (fun x hx => by cases hx)
  rw [ns0_map] at h3
  rw [if_neg (show ¬ want T ≠ 0 by simp [h]), if_neg (show ¬ want T ≠ 0 by simp [h]), h]
  simp only [Option.bind_some, bne_self_eq_false, Bool.false_eq_true, if_false]
  rw [if_pos (by simp), h1, Option.bind_some, h3, Option.bind_some, if_pos (by simp [E])]
  rw [distinct_eq hN o, Option.bind_some, Option.bind_some]
 ·rw [if_pos h, if_pos h]
  simp [h]

def preT : Txs := [[⟨0, 2, ByteArray.mk #[120]⟩], [⟨1, 2, ByteArray.mk #[120]⟩]]
theorem pre_want : want preT = 0 := by decide
theorem pre_len : (E preT).length = 2 := by kernel_rfl
theorem pre_ser : (E preT).countP ser = 2 := by kernel_rfl
theorem pre_eq {N : Nat} (hN : bigN N) : d4 N preT = some (2, 2, 0) := by
 rw [count4_eq hN (by decide), if_neg (by simp [pre_want]), pre_len, pre_ser]; rfl
end Go.Proofs.Ytifcmomjjkbboaa
end
section
namespace Go.Proofs.Ytifcmomjjkbboaa
open Go.Ab Go.Rp
open Go.Ab.Enc (eC eV)

abbrev ROp := Rp.St (Int × Int × ByteArray × Unit)
def toOp (t : ROp) : Op27 := ⟨t.val.1, t.val.2.1, t.val.2.2.1⟩
theorem eC_rop (t : ROp) : (eC t : List D) = cS27 (toOp t) := rfl

theorem schedules_fun (a : List (List ROp)) (hl : a.length ≤ 1048576) (ht : (a.map List.length).sum ≤ 1048576) : Fun Try.prog 3 [eV a] (fun r _ => r = .d (.lit (.bool true))) := by
 have htot : tot (a.map fun t => t.map toOp) ≤ 1048576 := by
  unfold tot
  rw [List.map_map]
  have : (List.length ∘ fun t : List ROp => t.map toOp) = List.length := by funext t; simp
  rw [this]; exact ht
 have h := p3 9223372036854775808 (a.map fun t => t.map toOp) true (law_true (Nat.le_refl _) (pre_eq (Nat.le_refl _)) (by simpa using hl) htot)
 have e1 : (eV a : V) = .d (.sl ((a.map fun t => t.map toOp).map (cL cS27))) := by
  show V.d (.sl (a.map eC)) = _
  rw [List.map_map]
  congr 2
  refine List.map_congr_left fun t _ => ?_
  show [D.sl (t.map eC)] = [D.sl ((t.map toOp).map cS27)]
  rw [List.map_map]
  rfl
 rw [e1]
 exact h.2.mono fun _ _ h => h.1
end Go.Proofs.Ytifcmomjjkbboaa
end
