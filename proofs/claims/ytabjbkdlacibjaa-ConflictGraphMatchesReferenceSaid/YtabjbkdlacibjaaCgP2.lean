/- Conflicts: the matrix, the transactions, the pairs. Plain lists. -/
import Derived.Test.YtabjbkdlacibjaaCgP1
namespace Go.Proofs.Ytabjbkdlacibjaa
open Go.Ab Go.Rp

/-- two operations conflict -/
def conf (a b : Op27) : Bool := (a.Tx != b.Tx) && (decide (a.Key = b.Key) && ((a.Kind == 2) || (b.Kind == 2)))
theorem d20_eq (N : Nat) (a b : Op27) : d20 N a b = some (conf a b) := by
  unfold d20 conf
  cases a.Tx != b.Tx <;> by_cases hk : a.Key = b.Key <;> cases a.Kind == 2 <;> simp [hk]
theorem d21_eq (N : Nat) {a b : Op27} (ha : badKind a = false) (hb : badKind b = false) : d21 N a b = some (conf a b) := by
  have ha : a.Kind = 1 ∨ a.Kind = 2 := by
    simp [badKind] at ha; omega
  have hb : b.Kind = 1 ∨ b.Kind = 2 := by
    simp [badKind] at hb; omega
  unfold d21 conf
  cases a.Tx != b.Tx <;> by_cases hk : a.Key = b.Key <;> rcases ha with ha | ha <;> rcases hb with hb | hb <;> simp [hk, ha, hb, chkI, okI64]
/-- a conflict from one transaction to another -/
def hit (s t : Int) (x y : Op27) : Bool := conf x y && ((x.Tx == s) && (y.Tx == t))
def pL (s t : Int) : List Op27 → Bool
  | [] => false
  | x :: r => r.any (hit s t x) || pL s t r
theorem pL_snoc (s t : Int) (y : Op27) : ∀ l : List Op27, pL s t (l ++ [y]) = (pL s t l || l.any fun x => hit s t x y)
  | [] => rfl
  | x :: l => by
    rw [List.cons_append]
    unfold pL
    rw [pL_snoc s t y l, List.any_append, List.any_cons, List.any_cons, List.any_nil]
    cases l.any (hit s t x) <;> cases hit s t x y <;> cases pL s t l <;> cases (l.any fun x => hit s t x y) <;> rfl
theorem pL_ne (s t : Int) : ∀ l : List Op27, pL s t l = true → s ≠ t
  | [], h => by cases h
  | x :: l, h => by
    unfold pL at h
    rcases (Bool.or_eq_true _ _).mp h with h | h
    · rw [List.any_eq_true] at h
      obtain ⟨y, _, h⟩ := h
      simp [hit, conf] at h
      omega
    · exact pL_ne s t l h
theorem take_snoc {α : Type} {xs : List α} {k : Nat} {x : α} (h : xs[k]? = some x) : xs.take (k + 1) = xs.take k ++ [x] := by
  rw [List.take_add_one, h]; rfl

/-! ### a table of 20 by 20 -/
def tab (g : Nat → Nat → Bool) : List Bool := (List.range 400).map fun c => g (c / 20) (c % 20)
@[simp] theorem tab_len (g : Nat → Nat → Bool) : (tab g).length = 400 := by simp [tab]
theorem tab_get (g : Nat → Nat → Bool) {s t : Nat} (hs : s < 20) (ht : t < 20) : (tab g)[s * 20 + t]? = some (g s t) := by
  unfold tab
  rw [List.getElem?_map, List.getElem?_range (by omega)]
  show some (g ((s * 20 + t) / 20) ((s * 20 + t) % 20)) = _
  rw [show (s * 20 + t) / 20 = s by omega, show (s * 20 + t) % 20 = t by omega]
theorem tab_at (g : Nat → Nat → Bool) {i : Nat} (h : i < 400) : (tab g)[i]? = some (g (i / 20) (i % 20)) := by
  unfold tab
  rw [List.getElem?_map, List.getElem?_range h]
  rfl
theorem tab_set (g : Nat → Nat → Bool) {s t : Nat} (hs : s < 20) (ht : t < 20) : (tab g).set (s * 20 + t) true = tab fun a b => g a b || ((a == s) && (b == t)) := by
  apply List.ext_getElem?
  intro i
  rw [List.getElem?_set]
  by_cases hi : i < 400
  · rw [tab_at _ hi, tab_at _ hi]
    by_cases h : s * 20 + t = i
    · rw [if_pos h, if_pos (by rw [tab_len]; omega)]
      subst h
      rw [show (s * 20 + t) / 20 = s by omega, show (s * 20 + t) % 20 = t by omega]
      simp
    · rw [if_neg h]
      have : ((i / 20 == s) && (i % 20 == t)) = false := by
        rw [← Bool.not_eq_true, Bool.and_eq_true, beq_iff_eq, beq_iff_eq]
        omega
      rw [this, Bool.or_false]
  · rw [if_neg (by omega), List.getElem?_eq_none (by rw [tab_len]; omega), List.getElem?_eq_none (by rw [tab_len]; omega)]
theorem tab_zero : List.replicate 400 false = tab fun _ _ => false := by kernel_rfl
theorem lenL_tab (g : Nat → Nat → Bool) : lenL 400 (tab g) = some (tab g) := if_pos (tab_len g)
theorem lenL_zero : lenL 400 (List.replicate 400 false) = some (List.replicate 400 false) := if_pos List.length_replicate
theorem tab_congr {g h : Nat → Nat → Bool} (e : ∀ s t : Nat, s < 20 → t < 20 → g s t = h s t) : tab g = tab h := by
  unfold tab
  apply List.map_congr_left
  intro c hc
  rw [List.mem_range] at hc
  exact e _ _ (by omega) (by omega)
def pN (l : List Op27) (s t : Nat) : Bool := pL (s : Int) (t : Int) l
theorem arrI_tx {x : Op27} (h : 0 ≤ x.Tx ∧ x.Tx < 20) : arrI x.Tx 20 = some x.Tx.toNat := by
  unfold arrI
  rw [if_pos (by omega)]

theorem d56_eq {N : Nat} (hN : bigN N) {xs : List Op27} (hc : checkH xs = 0) : d56 N xs = some (tab (pN xs)) := by
  have h200 := len_of hc
  have htx := tx_of hc
  have hs : small xs := by unfold small; omega
  unfold d56
  have hloop := iter_listI xs (fun (l : List Bool) (v : Int) => (l, v)) (fun ((l51, v52) : ((List Bool) × Int)) =>
      if v52 < (xs.length : Int) then (idx xs v52).bind fun x159 => (natI v52 xs.length).bind fun n161 => letv (xs.take n161) fun l162 =>
        Option.bind (α := List Bool) (iterN (σ := ((List Bool) × Int)) (ρ := List Bool) (fun ((l173, v174) : ((List Bool) × Int)) =>
          if v174 < (l162.length : Int) then (idx l162 v174).bind fun x199 => (d20 N x199 x159).bind fun r201 =>
            if r201 = true then (arrI x199.Tx 20).bind fun k203 => (arrI x159.Tx 20).bind fun k204 => (setN l173 (k203 * 20 + k204) true).bind fun l205 => (chkI (v174 + 1)).bind fun v206 => some (.inl (l205, v206))
            else (chkI (v174 + 1)).bind fun v207 => some (.inl (l173, v207))
          else some (.inr l173)) N (l51, 0)) fun (l197 : List Bool) =>
        (chkI ((n161 : Int) + 1)).bind fun v208 => some (.inl (l197, v208))
      else some (.inr l51))
    (fun k _ _ => .inl (tab (pN (xs.take (k + 1))))) (fun l => l) (fun k l => l = tab (pN (xs.take k))) (fun k y s hy hk hv => ?_) (fun k x s s' hx hk hv hb => ?_) (fun s hv => ?_) (hs.lt hN) (List.replicate 400 false) (tab_zero)
  · have hf : ∀ (ys : List Op27) (k : Nat), foldI (fun k (_ : Op27) (_ : List Bool) => tab (pN (xs.take (k + 1)))) ys k (tab (pN (xs.take k))) = tab (pN (xs.take (k + ys.length))) := by
      intro ys
      induction ys with
      | nil => intro k; rfl
      | cons y ys ih =>
        intro k
        rw [foldI, List.length_cons, show k + (ys.length + 1) = k + 1 + ys.length by omega]
        exact ih (k + 1)
    rw [listFor_fold] at hloop
    have h0 : foldI (fun k (_ : Op27) (_ : List Bool) => tab (pN (xs.take (k + 1)))) xs 0 (List.replicate 400 false) = tab (pN xs) := by
      have := hf xs 0
      rw [Nat.zero_add, List.take_length] at this
      rw [tab_zero]
      exact this
    rw [h0] at hloop
    refine Eq.trans (congrArg (fun o => Option.bind o _) hloop) ?_
    show Option.bind (some (tab (pN xs))) _ = _
    rw [Option.bind_some, lenL_tab, Option.bind_some, lenL_zero, Option.bind_some]
  · simp only []
    rw [if_pos (by omega : (k : Int) < (xs.length : Int)), idx_nat hy, Option.bind_some, natI_nat (by omega), Option.bind_some, letv_eq]
    have hytx := htx y (List.mem_of_getElem? hy)
    have hin := iter_listI (xs.take k) (fun (l : List Bool) (v : Int) => (l, v)) (fun ((l173, v174) : ((List Bool) × Int)) =>
        if v174 < ((xs.take k).length : Int) then (idx (xs.take k) v174).bind fun x199 => (d20 N x199 y).bind fun r201 =>
          if r201 = true then (arrI x199.Tx 20).bind fun k203 => (arrI y.Tx 20).bind fun k204 => (setN l173 (k203 * 20 + k204) true).bind fun l205 => (chkI (v174 + 1)).bind fun v206 => some (.inl (l205, v206))
          else (chkI (v174 + 1)).bind fun v207 => some (.inl (l173, v207))
        else some (.inr l173))
      (fun j _ _ => .inl (tab fun a b => pN (xs.take k) a b || ((xs.take k).take (j + 1)).any fun x => hit a b x y)) (fun l => l) (fun j l => l = tab fun a b => pN (xs.take k) a b || ((xs.take k).take j).any fun x => hit a b x y) (fun j x l hx hj hv => ?_) (fun j x l l' hx hj hv hb => ?_) (fun l hv => ?_) (n := N) (by rw [List.length_take]; unfold bigN at hN; omega) (tab (pN (xs.take k))) (tab_congr fun a b _ _ => by simp)
    · have hf : ∀ (ys : List Op27) (j : Nat), foldI (fun j (_ : Op27) (_ : List Bool) => tab fun a b => pN (xs.take k) a b || ((xs.take k).take (j + 1)).any fun x => hit a b x y) ys j (tab fun a b => pN (xs.take k) a b || ((xs.take k).take j).any fun x => hit a b x y) = tab fun a b => pN (xs.take k) a b || ((xs.take k).take (j + ys.length)).any fun x => hit a b x y := by
        intro ys
        induction ys with
        | nil => intro j; rfl
        | cons z ys ih =>
          intro j
          rw [foldI, List.length_cons, show j + (ys.length + 1) = j + 1 + ys.length by omega]
          exact ih (j + 1)
      rw [listFor_fold] at hin
      have h0 := hf (xs.take k) 0
      rw [Nat.zero_add, List.take_length] at h0
      have e0 : (tab fun a b => pN (xs.take k) a b || ((xs.take k).take 0).any fun x => hit a b x y) = tab (pN (xs.take k)) := tab_congr fun a b _ _ => by simp
      rw [e0] at h0
      rw [h0] at hin
      have e1 : (tab fun a b => pN (xs.take k) a b || (xs.take k).any fun x => hit a b x y) = tab (pN (xs.take (k + 1))) := tab_congr fun a b _ _ => by
        rw [take_snoc hy]
        exact (pL_snoc a b y (xs.take k)).symm
      rw [e1] at hin
      rw [hv, hin, Option.bind_some, chkI_succ hk hs, Option.bind_some]
    · have hjk : j < (xs.take k).length := hj
      have hxtx := htx x (List.mem_of_mem_take (List.mem_of_getElem? hx))
      simp only []
      rw [if_pos (by omega : (j : Int) < ((xs.take k).length : Int)), idx_nat hx, Option.bind_some, d20_eq, Option.bind_some, chkI_succ hjk (by rw [List.length_take]; unfold small at hs; omega), take_snoc hx, hv]
      by_cases hcf : conf x y = true
      · rw [if_pos hcf, arrI_tx hxtx, Option.bind_some, arrI_tx hytx, Option.bind_some]
        unfold setN
        rw [if_pos (by rw [tab_len]; omega), Option.bind_some, Option.bind_some, tab_set _ (by omega) (by omega)]
        have : (tab fun a b => (pN (xs.take k) a b || ((xs.take k).take j).any fun x => hit a b x y) || ((a == x.Tx.toNat) && (b == y.Tx.toNat))) = tab fun a b => pN (xs.take k) a b || ((xs.take k).take j ++ [x]).any fun x => hit a b x y := tab_congr fun a b _ _ => by
          rw [List.any_append, List.any_cons, List.any_nil, Bool.or_false]
          have e : hit a b x y = ((a == x.Tx.toNat) && (b == y.Tx.toNat)) := by
            unfold hit
            rw [hcf, Bool.true_and, Bool.eq_iff_iff]
            simp
            omega
          rw [e, Bool.or_assoc]
        rw [this]
      · rw [if_neg hcf, Option.bind_some]
        have : (tab fun a b => pN (xs.take k) a b || ((xs.take k).take j ++ [x]).any fun x => hit a b x y) = tab fun a b => (pN (xs.take k) a b || ((xs.take k).take j).any fun x => hit a b x y) := tab_congr fun a b _ _ => by
          rw [List.any_append, List.any_cons, List.any_nil, Bool.or_false]
          have e : hit a b x y = false := by
            unfold hit
            rw [Bool.eq_false_iff.2 hcf, Bool.false_and]
          rw [e, Bool.or_false]
        rw [this]
    · injection hb with hb
      exact hb.symm
    · simp
  · injection hb with hb
    exact hb.symm
  · simp

/-! ### the transactions -/
def txs (xs : List Op27) : List Int := ((List.range' 0 20).filter fun (v : Nat) => xs.any fun x => x.Tx == (v : Int)).map fun (v : Nat) => (v : Int)
theorem txs_len (xs : List Op27) : (txs xs).length ≤ 20 := by
  unfold txs
  rw [List.length_map]
  exact Nat.le_trans (List.length_filter_le _ _) (by simp)
theorem d92_eq {N : Nat} (hN : bigN N) {xs : List Op27} (hs : small xs) {p : Op27 → Option Bool} {q : Op27 → Bool} (h : ∀ x ∈ xs, p x = some (q x)) : d92 N xs p = some (optI (xs.findIdx? q)) :=
  indexFunc_eq N xs p q h (hs.lt hN) hs
theorem d81_eq {N : Nat} (hN : bigN N) {xs : List Op27} (hs : small xs) {p : Op27 → Option Bool} {q : Op27 → Bool} (h : ∀ x ∈ xs, p x = some (q x)) : d81 N xs p = some (xs.any q) := by
  unfold d81
  rw [d92_eq hN hs h, Option.bind_some, optI_ge]
theorem chkI_20 {k : Nat} (h : k < 20) : chkI ((k : Int) + 1) = some ((k : Int) + 1) := chkI_of (by omega) (by omega)

theorem d23_eq {N : Nat} (hN : bigN N) {xs : List Op27} (hs : small xs) : d23 N xs = some (txs xs) := by
  unfold d23
  have hloop := iter_rangeI 20 (fun (l : List Int) (v : Int) => (l, v)) (fun ((l30, v31) : ((List Int) × Int)) =>
      if v31 < 20 then
        Option.bind (α := List Int) (iterN (σ := Int) (ρ := List Int) (fun (v100 : Int) =>
          if v100 < (xs.length : Int) then (idx xs v100).bind fun x116 =>
            if (x116.Tx == v31) = true then (appL 8 l30 [v31]).bind fun _ => some (.inr (l30 ++ [v31]))
            else (chkI (v100 + 1)).bind fun v120 => some (.inl v120)
          else some (.inr l30)) N 0) fun (l114 : List Int) =>
        (chkI (v31 + 1)).bind fun v121 => some (.inl (l114, v121))
      else some (.inr l30))
    (fun v l => .inl (if (xs.any fun x => x.Tx == (v : Int)) = true then l ++ [(v : Int)] else l)) (fun l => l) (fun k l => l.length ≤ k) (fun k s hk hv => ?_) (fun k s s' hk hv hb => ?_) (fun s hv => ?_) (n := N) (by unfold bigN at hN; omega) [] (Nat.le_refl _)
  · rw [listFor_fold, foldI_collect (fun v => xs.any fun x => x.Tx == (v : Int)) (fun v => (v : Int))] at hloop
    refine Eq.trans (congrArg (fun o => Option.bind o _) hloop) ?_
    rfl
  · simp only []
    have happ : appL 8 s [(k : Int)] = some (s ++ [(k : Int)]) := appL_of (by simp only [List.length_cons, List.length_nil]; exact Nat.le_trans (Nat.mul_le_mul_right 8 (show s.length + (0 + 1) ≤ 21 by omega)) (by decide))
    rw [if_pos (by omega : (k : Int) < 20)]
    have hin := iter_list xs (fun (_ : Unit) (v : Int) => v) (fun (v100 : Int) =>
        if v100 < (xs.length : Int) then (idx xs v100).bind fun x116 =>
          if (x116.Tx == (k : Int)) = true then (appL 8 s [(k : Int)]).bind fun _ => some (.inr (s ++ [(k : Int)]))
          else (chkI (v100 + 1)).bind fun v120 => some (.inl v120)
        else some (.inr s))
      (fun _ x _ => if (x.Tx == (k : Int)) = true then .inr (s ++ [(k : Int)]) else .inl ()) (fun _ => s) (fun j x _ hx hj => ?_) (fun _ => ?_) (hs.lt hN) ()
    · have key : ∀ (ys : List Op27) (j : Nat), listFor (fun _ x (_ : Unit) => if (x.Tx == (k : Int)) = true then .inr (s ++ [(k : Int)]) else .inl ()) (fun _ => s) ys j () = if (ys.any fun x => x.Tx == (k : Int)) = true then s ++ [(k : Int)] else s := by
        intro ys
        induction ys with
        | nil => intro j; rfl
        | cons y ys ih =>
          intro j
          rw [listFor, List.any_cons]
          cases y.Tx == (k : Int) with
          | true => rfl
          | false => exact ih (j + 1)
      rw [key] at hin
      rw [hin, Option.bind_some, chkI_20 hk, Option.bind_some]
    · rw [if_pos (by omega : (j : Int) < (xs.length : Int)), idx_nat hx, Option.bind_some, happ, chkI_succ hj hs]
      cases x.Tx == (k : Int) <;> rfl
    · simp
  · injection hb with hb
    rw [← hb]
    split
    · simp; omega
    · omega
  · simp

/-! ### pairs of the reference -/
theorem d19_eq {N : Nat} (hN : bigN N) {xs : List Op27} (hc : checkH xs = 0) (s t : Int) : d19 N xs s t = some (pL s t xs) := by
  have h200 := len_of hc
  have hkind := kind_of hc
  have hs : small xs := by unfold small; omega
  unfold d19
  have hloop := iter_list xs (fun (_ : Unit) (v : Int) => v) (fun (v94 : Int) =>
      if v94 < (xs.length : Int) then (chkI (v94 + 1)).bind fun v283 =>
        bindO (β := Unit) (ρ := (Int ⊕ (Out Unit Bool))) (iterN (σ := Int) (ρ := (Out Unit (Int ⊕ (Out Unit Bool)))) (fun (v306 : Int) =>
          if v306 < (xs.length : Int) then
            Option.bind (α := Bool) ((idx xs v94).bind fun x363 => if (x363.Tx == s) = true then (idx xs v306).bind fun x366 => if (x366.Tx == t) = true then (idx xs v94).bind fun x369 => (idx xs v306).bind fun x370 => (d21 N x369 x370).bind fun r371 => some r371 else some false else some false) fun (v362 : Bool) =>
            if v362 = true then some (.inr (.ret (.inr (.ret true)))) else (chkI (v306 + 1)).bind fun v373 => some (.inl v373)
          else some (.inr (.go ()))) N v283) fun (_ : Unit) =>
        (chkI (v94 + 1)).bind fun v374 => some (.inl v374)
      else some (.inr (.go () : Out Unit Bool)))
    (fun k x _ => if ((xs.drop (k + 1)).any (hit s t x)) = true then .inr (.ret true) else .inl ()) (fun _ => .go ()) (fun k x _ hx hk => ?_) (fun _ => ?_) (hs.lt hN) ()
  · refine Eq.trans (congrArg (fun o => bindO o _) hloop) ?_
    have key : ∀ (n k : Nat), n + k = xs.length → listFor (fun k x (_ : Unit) => if ((xs.drop (k + 1)).any (hit s t x)) = true then .inr (.ret true) else .inl ()) (fun _ => (.go () : Out Unit Bool)) (xs.drop k) k () = if pL s t (xs.drop k) = true then .ret true else .go () := by
      intro n
      induction n with
      | zero => intro k h; rw [List.drop_eq_nil_of_le (by omega)]; rfl
      | succ n ih =>
        intro k h
        rw [List.drop_eq_getElem_cons (show k < xs.length by omega), listFor, pL]
        cases (xs.drop (k + 1)).any (hit s t xs[k]) with
        | true => rfl
        | false => exact ih (k + 1) (by omega)
    have := key xs.length 0 (by omega)
    rw [List.drop_zero] at this
    rw [this]
    cases pL s t xs <;> rfl
  · rw [if_pos (by omega : (k : Int) < (xs.length : Int)), chkI_succ hk hs, Option.bind_some]
    have hin := iter_list (xs.drop (k + 1)) (fun (_ : Unit) (v : Int) => ((k + 1 : Nat) : Int) + v) (fun (v306 : Int) =>
        if v306 < (xs.length : Int) then
          Option.bind (α := Bool) ((idx xs (k : Int)).bind fun x363 => if (x363.Tx == s) = true then (idx xs v306).bind fun x366 => if (x366.Tx == t) = true then (idx xs (k : Int)).bind fun x369 => (idx xs v306).bind fun x370 => (d21 N x369 x370).bind fun r371 => some r371 else some false else some false) fun (v362 : Bool) =>
          if v362 = true then some (.inr (.ret (.inr (.ret true)))) else (chkI (v306 + 1)).bind fun v373 => some (.inl v373)
        else some (.inr (.go () : Out Unit (Int ⊕ (Out Unit Bool)))))
      (fun _ y _ => if hit s t x y = true then .inr (.ret (.inr (.ret true))) else .inl ()) (fun _ => .go ()) (fun j y _ hy hj => ?_) (fun _ => ?_) (n := N) (by rw [List.length_drop]; unfold bigN at hN; omega) ()
    · have key : ∀ (ys : List Op27) (j : Nat), listFor (fun _ y (_ : Unit) => if hit s t x y = true then .inr (.ret (.inr (.ret true))) else .inl ()) (fun _ => (.go () : Out Unit (Int ⊕ (Out Unit Bool)))) ys j () = if ys.any (hit s t x) = true then .ret (.inr (.ret true)) else .go () := by
        intro ys
        induction ys with
        | nil => intro j; rfl
        | cons y ys ih =>
          intro j
          rw [listFor, List.any_cons]
          cases hit s t x y with
          | true => rfl
          | false => exact ih (j + 1)
      rw [key] at hin
      rw [show ((k + 1 : Nat) : Int) + 0 = (k : Int) + 1 by omega] at hin
      refine Eq.trans (congrArg (fun o => bindO o _) hin) ?_
      cases (xs.drop (k + 1)).any (hit s t x) <;> rfl
    · rw [List.getElem?_drop] at hy
      rw [List.length_drop] at hj
      have hkj : k + 1 + j < xs.length := by omega
      rw [show ((k + 1 : Nat) : Int) + (j : Int) = ((k + 1 + j : Nat) : Int) by omega, if_pos (by omega), idx_nat hx, idx_nat hy, chkI_succ hkj hs]
      simp only [Option.bind_some]
      rw [d21_eq N (hkind x (List.mem_of_getElem? hx)) (hkind y (List.mem_of_getElem? hy))]
      unfold hit
      cases x.Tx == s <;> cases y.Tx == t <;> cases conf x y <;> simp <;> omega
    · rw [List.length_drop, if_neg (by omega)]
  · simp

/-! ### the edges -/
def row (g : Nat → Nat → Bool) (s : Nat) : List S43 := ((List.range' 0 20).filter (g s)).map fun (t : Nat) => S43.mk (s : Int) (t : Int)
def edgesTo (g : Nat → Nat → Bool) : Nat → List S43
  | 0 => []
  | n + 1 => edgesTo g n ++ row g n
theorem row_len (g : Nat → Nat → Bool) (s : Nat) : (row g s).length ≤ 20 := by
  unfold row
  rw [List.length_map]
  exact Nat.le_trans (List.length_filter_le _ _) (by simp)
theorem edgesTo_len (g : Nat → Nat → Bool) : ∀ n, (edgesTo g n).length ≤ 20 * n
  | 0 => Nat.le_refl _
  | n + 1 => by
    have := edgesTo_len g n
    have := row_len g n
    rw [edgesTo, List.length_append]
    omega
theorem fold_edges (g : Nat → Nat → Bool) (m : Nat) : foldI (fun i (_ : Unit) (l : List S43) => l ++ row g i) (List.replicate m ()) 0 [] = edgesTo g m := by
  have key : ∀ (m k : Nat), foldI (fun i (_ : Unit) (l : List S43) => l ++ row g i) (List.replicate m ()) k (edgesTo g k) = edgesTo g (k + m) := by
    intro m
    induction m with
    | zero => intro k; rfl
    | succ m ih =>
      intro k
      rw [List.replicate_succ, foldI]
      have := ih (k + 1)
      rw [show k + 1 + m = k + (m + 1) by omega] at this
      exact this
  have := key m 0
  rwa [Nat.zero_add] at this
end Go.Proofs.Ytabjbkdlacibjaa
