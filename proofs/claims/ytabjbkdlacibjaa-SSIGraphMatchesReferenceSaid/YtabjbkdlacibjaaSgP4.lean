/- The functional programs of SSIGraph: topological orders. Plain lists. -/
import Derived.Test.YtabjbkdlacibjaaSgP3
namespace Go.Proofs.Ytabjbkdlacibjaa
open Go.Ab Go.Rp

/-- the first that waits for none of those that remain -/
def firstFree (q : Int → Int → Bool) (rem : List Int) : Option Nat := rem.findIdx? fun t => rem.all fun s => !q s t
/-- the order, or none -/
def topo (q : Int → Int → Bool) : Nat → List Int → List Int → Option (List Int)
  | 0, _, ord => some ord
  | n + 1, rem, ord => match firstFree q rem with
    | none => none
    | some i => match rem[i]? with
      | some t => topo q n (rem.take i ++ rem.drop (i + 1)) (ord ++ [t])
      | none => none

theorem firstFree_lt {q : Int → Int → Bool} {rem : List Int} {i : Nat} (h : firstFree q rem = some i) : i < rem.length := by
  unfold firstFree at h
  obtain ⟨h1, _⟩ := List.findIdx?_eq_some_iff_getElem.1 h
  exact h1

/-- a loop that takes them one after another -/
theorem topo_loop {ρ : Type} (q : Int → Int → Bool) (bad : ρ) (G : List Int → Prop) (step : (List Int × List Int) → Option ((List Int × List Int) ⊕ Out (List Int) ρ)) (hG : ∀ rem i, G rem → G (rem.take i ++ rem.drop (i + 1)))
    (hnil : ∀ ord, step ([], ord) = some (.inr (.go ord)))
    (hnone : ∀ rem ord, G rem → rem ≠ [] → rem.length ≤ 1000 → firstFree q rem = none → step (rem, ord) = some (.inr (.ret bad)))
    (hsome : ∀ rem ord i t, G rem → rem.length ≤ 1000 → ord.length ≤ 1000 → firstFree q rem = some i → rem[i]? = some t → step (rem, ord) = some (.inl (rem.take i ++ rem.drop (i + 1), ord ++ [t]))) :
    ∀ (m n : Nat) (rem ord : List Int), rem.length = n → n < m → ord.length + n ≤ 1000 → G rem → iterN step m (rem, ord) = some (match topo q n rem ord with | some o => .go o | none => .ret bad) := by
  intro m
  induction m with
  | zero => intro n rem ord _ h; omega
  | succ m ih =>
    intro n rem ord hl hm hb hg
    rw [iterN_succ]
    cases n with
    | zero =>
      have : rem = [] := List.eq_nil_of_length_eq_zero hl
      subst this
      rw [hnil]
      rfl
    | succ n =>
      have hne : rem ≠ [] := fun e => by rw [e] at hl; cases hl
      unfold topo
      cases hf : firstFree q rem with
      | none => rw [hnone rem ord hg hne (by omega) hf]
      | some i =>
        have hi := firstFree_lt hf
        have ht : rem[i]? = some rem[i] := List.getElem?_eq_getElem hi
        rw [hsome rem ord i _ hg (by omega) (by omega) hf ht]
        simp only [ht]
        exact ih n _ _ (by simp; omega) (by omega) (by simp; omega) (hG rem i hg)

theorem all_step (p : Int → Int → Option Bool) (q : Int → Int → Bool) {N : Nat} (hN : bigN N) {rem : List Int} (hs : small rem) {t : Int} (hp : ∀ s ∈ rem, p s t = some (q s t)) :
    iterN (σ := (Bool × Int)) (ρ := Bool) (fun ((v706, v707) : (Bool × Int)) =>
      if v707 < (rem.length : Int) then (idx rem v707).bind fun x730 =>
        Option.bind (α := Bool) (if v706 = true then (p x730 t).bind fun r736 => some (!r736) else some false) fun (v734 : Bool) => (chkI (v707 + 1)).bind fun v737 => some (.inl (v734, v737))
      else some (.inr v706)) N (true, 0) = some (rem.all fun s => !q s t) := by
  have := iter_list rem (fun (b : Bool) (v : Int) => (b, v)) (fun ((v706, v707) : (Bool × Int)) =>
      if v707 < (rem.length : Int) then (idx rem v707).bind fun x730 =>
        Option.bind (α := Bool) (if v706 = true then (p x730 t).bind fun r736 => some (!r736) else some false) fun (v734 : Bool) => (chkI (v707 + 1)).bind fun v737 => some (.inl (v734, v737))
      else some (.inr v706)) (fun _ s b => .inl (b && !q s t)) (fun b => b) (fun k x s hx hk => ?_) (fun s => ?_) (hs.lt hN) true
  · rw [this, listFor_fold]
    have key : ∀ (xs : List Int) (k : Nat) (b : Bool), foldI (fun _ s b => b && !q s t) xs k b = (b && xs.all fun s => !q s t) := by
      intro xs
      induction xs with
      | nil => intro k b; simp [foldI]
      | cons x xs ih => intro k b; rw [foldI, ih, List.all_cons, Bool.and_assoc]
    rw [key]
    simp
  · simp only []
    rw [if_pos (by omega : (k : Int) < (rem.length : Int)), idx_nat hx]
    simp only [Option.bind_some]
    rw [hp x (List.mem_of_getElem? hx)]
    simp only [chkI_succ hk hs]
    cases s <;> simp
  · simp

theorem find_step (p : Int → Int → Option Bool) (q : Int → Int → Bool) {N : Nat} (hN : bigN N) {rem : List Int} (hs : small rem) (hp : ∀ s ∈ rem, ∀ t ∈ rem, p s t = some (q s t)) :
    iterN (σ := Int) (ρ := Int) (fun (v608 : Int) =>
      if v608 < (rem.length : Int) then (idx rem v608).bind fun x698 =>
        Option.bind (α := Bool) (iterN (σ := (Bool × Int)) (ρ := Bool) (fun ((v706, v707) : (Bool × Int)) =>
          if v707 < (rem.length : Int) then (idx rem v707).bind fun x730 =>
            Option.bind (α := Bool) (if v706 = true then (p x730 x698).bind fun r736 => some (!r736) else some false) fun (v734 : Bool) => (chkI (v707 + 1)).bind fun v737 => some (.inl (v734, v737))
          else some (.inr v706)) N (true, 0)) fun (v728 : Bool) =>
        if v728 = true then some (.inr v608) else (chkI (v608 + 1)).bind fun v739 => some (.inl v739)
      else some (.inr (-1))) N 0 = some (optI (firstFree q rem)) := by
  have := iter_list rem (fun (_ : Unit) (v : Int) => v) (fun (v608 : Int) =>
      if v608 < (rem.length : Int) then (idx rem v608).bind fun x698 =>
        Option.bind (α := Bool) (iterN (σ := (Bool × Int)) (ρ := Bool) (fun ((v706, v707) : (Bool × Int)) =>
          if v707 < (rem.length : Int) then (idx rem v707).bind fun x730 =>
            Option.bind (α := Bool) (if v706 = true then (p x730 x698).bind fun r736 => some (!r736) else some false) fun (v734 : Bool) => (chkI (v707 + 1)).bind fun v737 => some (.inl (v734, v737))
          else some (.inr v706)) N (true, 0)) fun (v728 : Bool) =>
        if v728 = true then some (.inr v608) else (chkI (v608 + 1)).bind fun v739 => some (.inl v739)
      else some (.inr (-1))) (fun k t (_ : Unit) => if (rem.all fun s => !q s t) = true then .inr (k : Int) else .inl ()) (fun _ => -1) (fun k x s hx hk => ?_) (fun s => ?_) (hs.lt hN) ()
  · rw [this]
    unfold firstFree
    have key : ∀ (f : Int → Bool) (xs : List Int) (k : Nat), listFor (fun k x (_ : Unit) => if f x = true then .inr (k : Int) else .inl ()) (fun _ => (-1 : Int)) xs k () = match xs.findIdx? f with | some i => (k : Int) + i | none => -1 := by
      intro f xs
      induction xs with
      | nil => intro k; rfl
      | cons x xs ih =>
        intro k
        unfold listFor
        rw [List.findIdx?_cons]
        cases h : f x with
        | true => simp
        | false =>
          simp only [Bool.false_eq_true, if_false]
          rw [ih (k + 1)]
          cases xs.findIdx? f with
          | none => rfl
          | some i =>
            show (((k + 1 : Nat) : Int)) + (i : Int) = (k : Int) + ((i + 1 : Nat) : Int)
            omega
    rw [key (fun t => rem.all fun s => !q s t)]
    cases rem.findIdx? _ <;> simp [optI]
  · rw [if_pos (by omega : (k : Int) < (rem.length : Int)), idx_nat hx]
    simp only [Option.bind_some]
    rw [all_step p q hN hs (fun s hs' => hp s hs' x (List.mem_of_getElem? hx))]
    simp only [Option.bind_some, chkI_succ hk hs]
    cases rem.all fun s => !q s x <;> simp
  · simp

theorem mem_part {rem : List Int} {i : Nat} {x : Int} (h : x ∈ rem.take i ++ rem.drop (i + 1)) : x ∈ rem := by
  rcases List.mem_append.1 h with h | h
  · exact List.mem_of_mem_take h
  · exact List.mem_of_mem_drop h

theorem d31_eq {N : Nat} (hN : bigN N) (p : Int → Int → Option Bool) (q : Int → Int → Bool) {nodes : List Int} (hn : nodes.length ≤ 1000) (hp : ∀ s ∈ nodes, ∀ t ∈ nodes, p s t = some (q s t)) :
    d31 N nodes p = some (match topo q nodes.length nodes [] with | some o => (o, true) | none => ([], false)) := by
  unfold d31 d64
  rw [if_pos (Nat.le_trans (Nat.mul_le_mul_right 8 hn) (by decide))]
  simp only [Option.bind_some]
  have hloop := topo_loop q (([] : List Int), false) (fun rem => ∀ x ∈ rem, x ∈ nodes) (fun ((l188, l189) : ((List Int) × (List Int))) =>
      if (l188.length : Int) > 0 then
        Option.bind (α := Int) (iterN (σ := Int) (ρ := Int) (fun (v608 : Int) =>
          if v608 < (l188.length : Int) then (idx l188 v608).bind fun x698 =>
            Option.bind (α := Bool) (iterN (σ := (Bool × Int)) (ρ := Bool) (fun ((v706, v707) : (Bool × Int)) =>
              if v707 < (l188.length : Int) then (idx l188 v707).bind fun x730 =>
                Option.bind (α := Bool) (if v706 = true then (p x730 x698).bind fun r736 => some (!r736) else some false) fun (v734 : Bool) => (chkI (v707 + 1)).bind fun v737 => some (.inl (v734, v737))
              else some (.inr v706)) N (true, 0)) fun (v728 : Bool) =>
            if v728 = true then some (.inr v608) else (chkI (v608 + 1)).bind fun v739 => some (.inl v739)
          else some (.inr (-1))) N 0) fun (v696 : Int) =>
        if v696 < 0 then some (.inr (.ret (([] : List Int), false))) else
        (idx l188 v696).bind fun x741 =>
        (appL 8 l189 [x741]).bind fun l743 =>
        (natI v696 l188.length).bind fun n744 =>
        letv (l188.take n744) fun l745 =>
        (appL 8 ([] : List Int) l745).bind fun l746 =>
        (chkI ((n744 : Int) + 1)).bind fun v747 =>
        (natI v747 l188.length).bind fun n748 =>
        letv (l188.drop n748) fun l749 =>
        (appL 8 (([] : List Int) ++ l745) l749).bind fun l750 =>
        some (.inl (((([] : List Int) ++ l745) ++ l749), (l189 ++ [x741])))
      else some (.inr (.go l189)))
    (fun rem i h x hx => h x (mem_part hx)) (fun ord => by simp) (fun rem ord hg hne hle hf => ?_) (fun rem ord i t hg hle hle2 hf ht => ?_) N nodes.length nodes [] rfl (by unfold bigN at hN; omega) (by simpa using hn) (fun x hx => hx)
  · have e := congrArg (fun o => bindO (β := List Int) (ρ := ((List Int) × Bool)) o fun (l564 : List Int) => some (l564, true)) hloop
    refine Eq.trans e ?_
    cases topo q nodes.length nodes [] <;> rfl
  · have hpos : 0 < rem.length := List.length_pos_iff.2 hne
    simp only []
    rw [if_pos (by omega : (rem.length : Int) > 0), find_step p q hN (show small rem by unfold small; omega) (fun s hs t ht => hp s (hg s hs) t (hg t ht)), hf]
    simp [optI]
  · have hi := firstFree_lt hf
    simp only []
    rw [if_pos (by omega : (rem.length : Int) > 0), find_step p q hN (show small rem by unfold small; omega) (fun s hs t ht => hp s (hg s hs) t (hg t ht)), hf]
    simp only [Option.bind_some, optI]
    rw [if_neg (by omega), idx_nat ht]
    simp only [Option.bind_some]
    rw [appL_of (by simp only [List.length_cons, List.length_nil]; exact Nat.le_trans (Nat.mul_le_mul_right 8 (show ord.length + (0 + 1) ≤ 2000 by omega)) (by decide))]
    simp only [Option.bind_some]
    rw [natI_nat (by omega)]
    simp only [Option.bind_some, letv_eq]
    rw [appL_of (by simp only [List.length_nil, List.length_take]; exact Nat.le_trans (Nat.mul_le_mul_right 8 (show 0 + min i rem.length ≤ 2000 by omega)) (by decide)), Option.bind_some, chkI_of (by omega) (by omega), Option.bind_some,
      show ((i : Int) + 1) = ((i + 1 : Nat) : Int) by omega, natI_nat (by omega), Option.bind_some,
      appL_of (by simp only [List.nil_append, List.length_take, List.length_drop]; exact Nat.le_trans (Nat.mul_le_mul_right 8 (show min i rem.length + (rem.length - (i + 1)) ≤ 2000 by omega)) (by decide)), Option.bind_some]
    rfl
end Go.Proofs.Ytabjbkdlacibjaa
