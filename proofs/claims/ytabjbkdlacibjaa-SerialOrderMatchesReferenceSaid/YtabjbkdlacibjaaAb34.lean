/- Plain lemmas on functional programs: loops over lists and ranges. -/
import Derived.Test.YtabjbkdlacibjaaAb33
namespace Go.Ab
open Go.RowKit

/-- the fuel that is enough for all loops -/
abbrev bigN (N : Nat) : Prop := 9223372036854775808 ≤ N

theorem okI_of {n : Int} (h1 : -9223372036854775808 ≤ n) (h2 : n ≤ 9223372036854775807) : okI64 n := ⟨h1, h2⟩
theorem chkI_of {n : Int} (h1 : -9223372036854775808 ≤ n) (h2 : n ≤ 9223372036854775807) : chkI n = some n := if_pos ⟨h1, h2⟩
theorem idx_nat {α : Type} {xs : List α} {k : Nat} {x : α} (h : xs[k]? = some x) : idx xs (k : Int) = some x := by
  unfold idx
  rw [if_pos (by omega)]
  simpa using h
theorem idx_toNat {α : Type} {xs : List α} {i : Int} {x : α} (h0 : 0 ≤ i) (h : xs[i.toNat]? = some x) : idx xs i = some x := by
  unfold idx
  rw [if_pos h0]; exact h
theorem idx_out {α : Type} {xs : List α} {i : Int} (h : i < 0 ∨ (xs.length : Int) ≤ i) : idx xs i = none := by
  unfold idx
  by_cases h0 : 0 ≤ i
  · rw [if_pos h0]
    exact List.getElem?_eq_none (by omega)
  · rw [if_neg h0]
theorem appL_of {α : Type} {b : Nat} {xs ys : List α} (h : (xs.length + ys.length) * b ≤ Rp.reach) : appL b xs ys = some (xs ++ ys) := if_pos h
theorem natI_nat {k n : Nat} (h : k ≤ n) : natI (k : Int) n = some k := by
  unfold natI
  rw [if_pos (by omega)]
  simp
@[simp] theorem letv_eq {α β : Type} (x : α) (k : α → β) : letv x k = k x := rfl

/-- a run over a list, with an end ahead of time -/
def listFor {α σ ρ : Type} (body : Nat → α → σ → σ ⊕ ρ) (fin : σ → ρ) : List α → Nat → σ → ρ
  | [], _, s => fin s
  | x :: xs, k, s => match body k x s with
    | .inl s' => listFor body fin xs (k + 1) s'
    | .inr r => r

theorem iter_list {α σ τ ρ : Type} (xs : List α) (mkS : σ → Int → τ) (step : τ → Option (τ ⊕ ρ)) (body : Nat → α → σ → σ ⊕ ρ) (fin : σ → ρ)
    (hs : ∀ (k : Nat) x s, xs[k]? = some x → k < xs.length → step (mkS s k) = some (match body k x s with | .inl s' => .inl (mkS s' ((k : Int) + 1)) | .inr r => .inr r))
    (he : ∀ s, step (mkS s xs.length) = some (.inr (fin s))) {n : Nat} (hn : xs.length < n) (s : σ) : iterN step n (mkS s 0) = some (listFor body fin xs 0 s) := by
  have key : ∀ (m : Nat) (k : Nat) (s : σ), k ≤ xs.length → xs.length - k < m → iterN step m (mkS s k) = some (listFor body fin (xs.drop k) k s) := by
    intro m
    induction m with
    | zero => intro k s _ h; omega
    | succ m ih =>
      intro k s hk hm
      rw [iterN_succ]
      by_cases hlt : k < xs.length
      · have hx : xs[k]? = some xs[k] := List.getElem?_eq_getElem hlt
        rw [hs k _ s hx hlt, List.drop_eq_getElem_cons hlt]
        unfold listFor
        cases body k xs[k] s with
        | inl s' => exact ih (k + 1) s' (by omega) (by omega)
        | inr r => rfl
      · have hkk : k = xs.length := by omega
        subst hkk
        rw [he, List.drop_length]
        rfl
  exact key n 0 s (Nat.zero_le _) (by omega)

/-- a loop that counts up to n -/
theorem iter_range {σ τ ρ : Type} (m : Nat) (mkS : σ → Int → τ) (step : τ → Option (τ ⊕ ρ)) (body : Nat → σ → σ ⊕ ρ) (fin : σ → ρ)
    (hs : ∀ (k : Nat) s, k < m → step (mkS s k) = some (match body k s with | .inl s' => .inl (mkS s' ((k : Int) + 1)) | .inr r => .inr r))
    (he : ∀ s, step (mkS s m) = some (.inr (fin s))) {n : Nat} (hn : m < n) (s : σ) : iterN step n (mkS s 0) = some (listFor (fun k _ s => body k s) fin (List.replicate m ()) 0 s) := by
  refine iter_list (List.replicate m ()) mkS step (fun k _ s => body k s) fin (fun k x s _ hk => ?_) (fun s => ?_) (by simpa using hn) s
  · rw [List.length_replicate] at hk
    exact hs k s hk
  · rw [List.length_replicate]
    exact he s

/-- without an end ahead of time: a fold -/
def foldI {α σ : Type} (f : Nat → α → σ → σ) : List α → Nat → σ → σ
  | [], _, s => s
  | x :: xs, k, s => foldI f xs (k + 1) (f k x s)
theorem listFor_fold {α σ ρ : Type} (f : Nat → α → σ → σ) (fin : σ → ρ) : ∀ (xs : List α) (k : Nat) (s : σ), listFor (fun k x s => .inl (f k x s)) fin xs k s = fin (foldI f xs k s)
  | [], _, _ => rfl
  | x :: xs, k, s => listFor_fold f fin xs (k + 1) (f k x s)

/-- the same with an invariant -/
theorem iter_listI {α σ τ ρ : Type} (xs : List α) (mkS : σ → Int → τ) (step : τ → Option (τ ⊕ ρ)) (body : Nat → α → σ → σ ⊕ ρ) (fin : σ → ρ) (Inv : Nat → σ → Prop)
    (hs : ∀ (k : Nat) x s, xs[k]? = some x → k < xs.length → Inv k s → step (mkS s k) = some (match body k x s with | .inl s' => .inl (mkS s' ((k : Int) + 1)) | .inr r => .inr r))
    (hi : ∀ (k : Nat) x s s', xs[k]? = some x → k < xs.length → Inv k s → body k x s = .inl s' → Inv (k + 1) s')
    (he : ∀ s, Inv xs.length s → step (mkS s xs.length) = some (.inr (fin s))) {n : Nat} (hn : xs.length < n) (s : σ) (h0 : Inv 0 s) : iterN step n (mkS s 0) = some (listFor body fin xs 0 s) := by
  have key : ∀ (m : Nat) (k : Nat) (s : σ), k ≤ xs.length → xs.length - k < m → Inv k s → iterN step m (mkS s k) = some (listFor body fin (xs.drop k) k s) := by
    intro m
    induction m with
    | zero => intro k s _ h; omega
    | succ m ih =>
      intro k s hk hm hv
      rw [iterN_succ]
      by_cases hlt : k < xs.length
      · have hx : xs[k]? = some xs[k] := List.getElem?_eq_getElem hlt
        have hi' := fun s' => hi k _ s s' hx hlt hv
        rw [hs k _ s hx hlt hv, List.drop_eq_getElem_cons hlt]
        unfold listFor
        cases hb : body k xs[k] s with
        | inl s' => exact ih (k + 1) s' (by omega) (by omega) (hi' s' hb)
        | inr r => rfl
      · have hkk : k = xs.length := by omega
        subst hkk
        rw [he s hv, List.drop_length]
        rfl
  exact key n 0 s (Nat.zero_le _) (by omega) h0
theorem iter_rangeI {σ τ ρ : Type} (m : Nat) (mkS : σ → Int → τ) (step : τ → Option (τ ⊕ ρ)) (body : Nat → σ → σ ⊕ ρ) (fin : σ → ρ) (Inv : Nat → σ → Prop)
    (hs : ∀ (k : Nat) s, k < m → Inv k s → step (mkS s k) = some (match body k s with | .inl s' => .inl (mkS s' ((k : Int) + 1)) | .inr r => .inr r))
    (hi : ∀ (k : Nat) s s', k < m → Inv k s → body k s = .inl s' → Inv (k + 1) s')
    (he : ∀ s, Inv m s → step (mkS s m) = some (.inr (fin s))) {n : Nat} (hn : m < n) (s : σ) (h0 : Inv 0 s) : iterN step n (mkS s 0) = some (listFor (fun k _ s => body k s) fin (List.replicate m ()) 0 s) := by
  refine iter_listI (List.replicate m ()) mkS step (fun k _ s => body k s) fin Inv (fun k x s _ hk hv => ?_) (fun k x s s' _ hk hv hb => ?_) (fun s hv => ?_) (by simpa using hn) s h0
  · rw [List.length_replicate] at hk
    exact hs k s hk hv
  · rw [List.length_replicate] at hk
    exact hi k s s' hk hv hb
  · rw [List.length_replicate] at hv ⊢
    exact he s hv

/-- what is collected while counting -/
theorem foldI_collect {β : Type} (P : Nat → Bool) (f : Nat → β) : ∀ (m k : Nat) (s : List β), foldI (fun k (_ : Unit) s => if P k = true then s ++ [f k] else s) (List.replicate m ()) k s = s ++ ((List.range' k m).filter P).map f
  | 0, k, s => by simp [foldI]
  | m + 1, k, s => by
    rw [List.replicate_succ, foldI, foldI_collect P f m (k + 1), List.range'_succ, List.filter_cons]
    cases h : P k <;> simp [h]

def optI : Option Nat → Int
  | some i => i
  | none => -1
theorem optI_ge {α : Type} {p : α → Bool} {xs : List α} : decide (optI (xs.findIdx? p) ≥ 0) = xs.any p := by
  rw [← List.findIdx?_isSome]
  cases xs.findIdx? p with
  | none => rfl
  | some i => simp [optI]
theorem findIdx?_listFor {α : Type} (q : α → Bool) : ∀ (xs : List α) (k : Nat), listFor (fun k x (_ : Unit) => if q x = true then .inr (.ret (k : Int)) else .inl ()) (fun _ => (.go () : Out Unit Int)) xs k () = match xs.findIdx? q with
    | some i => .ret ((k : Int) + i)
    | none => .go ()
  | [], k => rfl
  | x :: xs, k => by
    unfold listFor
    rw [List.findIdx?_cons]
    cases h : q x with
    | true => simp
    | false =>
      simp only [Bool.false_eq_true, if_false]
      rw [findIdx?_listFor q xs (k + 1)]
      cases xs.findIdx? q with
      | none => rfl
      | some i =>
        simp only [Option.map_some]
        congr 1
        omega

/-- slices.IndexFunc -/
theorem indexFunc_eq {α : Type} (N : Nat) (xs : List α) (p : α → Option Bool) (q : α → Bool) (hp : ∀ x ∈ xs, p x = some (q x)) (hN : xs.length < N) (hb : xs.length < 9223372036854775807) :
    bindO (β := Unit) (ρ := Int) (iterN (σ := Int) (ρ := Out Unit Int) (fun (v : Int) => if v < (xs.length : Int) then (idx xs v).bind fun x => (p x).bind fun r => if r = true then some (.inr (.ret v)) else (chkI (v + 1)).bind fun v' => some (.inl v') else some (.inr (.go ()))) N 0) (fun _ => some (-1)) = some (optI (xs.findIdx? q)) := by
  have := iter_list xs (fun (_ : Unit) (v : Int) => v) (fun (v : Int) => if v < (xs.length : Int) then (idx xs v).bind fun x => (p x).bind fun r => if r = true then some (.inr (.ret v)) else (chkI (v + 1)).bind fun v' => some (.inl v') else some (.inr (.go () : Out Unit Int)))
    (fun k x (_ : Unit) => if q x = true then .inr (.ret (k : Int)) else .inl ()) (fun _ => .go ()) (fun k x s hx hk => ?_) (fun s => ?_) hN ()
  · rw [this, findIdx?_listFor]
    cases xs.findIdx? q <;> simp [optI]
  · have hlt : (k : Int) < (xs.length : Int) := by omega
    rw [if_pos hlt, idx_nat hx]
    simp only [Option.bind_some]
    rw [hp x (List.mem_of_getElem? hx)]
    simp only [Option.bind_some]
    cases q x with
    | true => simp
    | false => simp [chkI_of (show (-9223372036854775808 : Int) ≤ (k : Int) + 1 by omega) (show (k : Int) + 1 ≤ 9223372036854775807 by omega)]
  · simp

/-- slices.Equal -/
theorem equal_eq {α : Type} [DecidableEq α] (N : Nat) (xs ys : List α) (ne : α → α → Bool) (hne : ∀ x y, ne x y = true ↔ x ≠ y) (hN : xs.length < N) (hb : xs.length < 9223372036854775807) :
    (if ((xs.length : Int) != (ys.length : Int)) = true then some false else bindO (β := Unit) (ρ := Bool) (iterN (σ := Int) (ρ := Out Unit Bool) (fun (v : Int) => if v < (xs.length : Int) then (idx xs v).bind fun x => (idx ys v).bind fun y => if ne x y = true then some (.inr (.ret false)) else (chkI (v + 1)).bind fun v' => some (.inl v') else some (.inr (.go ()))) N 0) (fun _ => some true)) = some (decide (xs = ys)) := by
  by_cases hl : xs.length = ys.length
  · rw [if_neg (by simp [hl])]
    have := iter_list (xs.zip ys) (fun (_ : Unit) (v : Int) => v) (fun (v : Int) => if v < (xs.length : Int) then (idx xs v).bind fun x => (idx ys v).bind fun y => if ne x y = true then some (.inr (.ret false)) else (chkI (v + 1)).bind fun v' => some (.inl v') else some (.inr (.go () : Out Unit Bool)))
      (fun k p (_ : Unit) => if ne p.1 p.2 = true then .inr (.ret false) else .inl ()) (fun _ => .go ()) (fun k x s hx hk => ?_) (fun s => ?_) (n := N) (by simp; omega) ()
    · rw [this]
      have key : ∀ (xs ys : List α) (k : Nat), xs.length = ys.length → listFor (fun k (p : α × α) (_ : Unit) => if ne p.1 p.2 = true then .inr (.ret false) else .inl ()) (fun _ => (.go () : Out Unit Bool)) (xs.zip ys) k () = if xs = ys then .go () else .ret false := by
        intro xs
        induction xs with
        | nil => intro ys k h; cases ys with
          | nil => rfl
          | cons y ys => simp at h
        | cons x xs ih => intro ys k h; cases ys with
          | nil => simp at h
          | cons y ys =>
            rw [List.zip_cons_cons, listFor]
            by_cases hxy : x = y
            · subst hxy
              have : ne x x = false := by cases h2 : ne x x with
                | false => rfl
                | true => exact absurd rfl ((hne x x).1 h2)
              simp only [this, Bool.false_eq_true, if_false]
              rw [ih ys (k + 1) (by simpa using h)]
              simp
            · rw [if_pos ((hne x y).2 hxy)]
              simp [hxy]
      rw [key xs ys 0 hl]
      by_cases h : xs = ys <;> simp [h]
    · obtain ⟨h1, h2⟩ := List.getElem?_zip_eq_some.1 hx
      have hk' : k < xs.length := (List.getElem?_eq_some_iff.1 h1).1
      have hlt : (k : Int) < (xs.length : Int) := by omega
      rw [if_pos hlt, idx_nat h1]
      simp only [Option.bind_some]
      rw [idx_nat h2]
      simp only [Option.bind_some]
      cases ne x.1 x.2 with
      | true => simp
      | false => simp [chkI_of (show (-9223372036854775808 : Int) ≤ (k : Int) + 1 by omega) (show (k : Int) + 1 ≤ 9223372036854775807 by omega)]
    · rw [if_neg (by simp [hl])]
  · rw [if_pos (by simp; omega)]
    have : xs ≠ ys := fun e => hl (by rw [e])
    simp [this]
end Go.Ab
