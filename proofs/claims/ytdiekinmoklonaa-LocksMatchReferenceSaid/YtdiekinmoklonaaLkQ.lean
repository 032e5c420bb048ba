/- Lock tables as functional programs: searches, modes, what is granted, who conflicts. Lock tables as functional programs: the blockers of a request. Lock tables as functional programs: who is reached in the waits-for graph. Lock tables as functional programs: deletions, requests, releases. Lock tables as functional programs: requests. Lock tables as functional programs: releases. Lock tables as functional programs: the comparison of two tables; the law. The law's arguments as the functional program takes them. -/
import Derived.Test.YtdiekinmoklonaaLk14
import Derived.Test.YtdiekinmoklonaaA2
section
namespace Go.Proofs.Ytdiekinmoklonaa
open Go.Ab Go.Rp

theorem iter_post {τ ρ : Type} (step : τ → Option (τ ⊕ ρ)) (μ : τ → Nat) (Inv : τ → Prop) (Post : ρ → Prop)
  (h : ∀ s, Inv s → (∃ s', step s = some (.inl s') ∧ Inv s' ∧ μ s' < μ s) ∨ ∃ r, step s = some (.inr r) ∧ Post r) :
  ∀ (n : Nat) (s : τ), Inv s → μ s < n → ∃ r, iterN step n s = some r ∧ Post r := by
 intro n
 induction n with
 | zero => intro s _ h; omega
 | succ n ih =>
  intro s hi hm
  rcases h s hi with ⟨s', h1, h2, h3⟩ | ⟨r, h1, h2⟩
  ·obtain ⟨r, h4, h5⟩ := ih s' h2 (by omega)
   exact ⟨r, by rw [iterN, h1]; exact h4, h5⟩
  ·exact ⟨r, by rw [iterN, h1], h2⟩
theorem loop_idx {σ τ ρ : Type} (len : Nat) (mkS : σ → Int → τ) (step : τ → Option (τ ⊕ ρ)) (Inv : Nat → σ → Prop) (Post : ρ → Prop)
  (hs : ∀ k s, k < len → Inv k s → (∃ s', step (mkS s k) = some (.inl (mkS s' ((k : Int) + 1))) ∧ Inv (k + 1) s') ∨ ∃ r, step (mkS s k) = some (.inr r) ∧ Post r)
  (he : ∀ s, Inv len s → ∃ r, step (mkS s len) = some (.inr r) ∧ Post r) (s0 : σ) (h0 : Inv 0 s0) {n : Nat} (hn : len < n) : ∃ r, iterN step n (mkS s0 0) = some r ∧ Post r := by
 have key : ∀ (m k : Nat) (s : σ), k ≤ len → len - k < m → Inv k s → ∃ r, iterN step m (mkS s k) = some r ∧ Post r := by
  intro m
  induction m with
  | zero => intro k s _ h; omega
  | succ m ih =>
   intro k s hk hm hi
   rw [iterN_succ]
   by_cases hlt : k < len
   ·rcases hs k s hlt hi with ⟨s', h1, h2⟩ | ⟨r, h1, h2⟩
    ·rw [h1]
     exact ih (k + 1) s' (by omega) (by omega) h2
    ·rw [h1]; exact ⟨r, rfl, h2⟩
   ·obtain rfl : k = len := by omega
    obtain ⟨r, h1, h2⟩ := he s hi
    rw [h1]
    exact ⟨r, rfl, h2⟩
 exact key n 0 s0 (Nat.zero_le _) (by omega) h0
theorem get_of {α : Type} {l : List α} {k : Nat} (h : k < l.length) : ∃ a, l[k]? = some a := ⟨l[k], List.getElem?_eq_getElem h⟩
theorem mem_take_succ {α : Type} {xs : List α} {k : Nat} {x y : α} (h : xs[k]? = some x) : y ∈ xs.take (k + 1) ↔ y ∈ xs.take k ∨ y = x := by
 rw [List.take_add_one, h]; simp
theorem bind_ex {α β : Type} {d : Option α} {k : α → Option β} {P : α → Prop} {Q : β → Prop} (h : ∃ s, d = some s ∧ P s) (h2 : ∀ s, P s → ∃ r, k s = some r ∧ Q r) : ∃ r, d.bind k = some r ∧ Q r := by
 obtain ⟨s, rfl, hp⟩ := h
 exact h2 s hp
theorem bind_eq {α β : Type} {d : Option α} {k : α → Option β} {P : α → Prop} {r : β} (h : ∃ s, d = some s ∧ P s) (h2 : ∀ s, P s → k s = some r) : d.bind k = some r := by
 obtain ⟨s, rfl, hp⟩ := h
 exact h2 s hp
theorem bindO_eq {β ρ : Type} {d : Option (Out β ρ)} {k : β → Option ρ} {P : Out β ρ → Prop} {r : ρ} (h : ∃ s, d = some s ∧ P s) (h1 : ∀ x, P (.ret x) → x = r) (h2 : ∀ b, P (.go b) → k b = some r) : bindO d k = some r := by
 obtain ⟨s, rfl, hp⟩ := h
 cases s with
 | go b => exact h2 b hp
 | ret x => show some x = some r; rw [h1 x hp]

/-! ### searches -/
theorem d37_ok {N : Nat} (hN : bigN N) (xs : List S29) (p : S29 → Option Bool) (f : S29 → Bool) (hp : ∀ x, p x = some (f x)) (hl : xs.length ≤ 140737488355328) : d37 N xs p = some (optI (xs.findIdx? f)) := by
 have hN : 9223372036854775808 ≤ N := hN
 unfold d37
 refine bindO_eq (P := fun o => (o = .go () ∧ xs.findIdx? f = none) ∨ ∃ k : Nat, o = .ret (k : Int) ∧ xs.findIdx? f = some k) (loop_idx (σ := Unit) (τ := Int) xs.length (fun _ j => j) _ (fun k _ => ∀ x ∈ xs.take k, f x = false) _ ?_ ?_ () (by simp) (n := N) (by omega)) ?_ ?_
 ·intro k s hk hi
  obtain ⟨x, hx⟩ := get_of hk
  try dsimp only
  rw [if_pos (by omega), idx_nat hx, Option.bind_some, hp, Option.bind_some]
  by_cases hf : f x = true
  ·rw [if_pos hf]
   refine .inr ⟨_, rfl, .inr ⟨k, rfl, ?_⟩⟩
   rw [List.findIdx?_eq_some_iff_getElem]
   obtain ⟨h1, h2⟩ := List.getElem?_eq_some_iff.1 hx
   refine ⟨h1, by rw [h2]; exact hf, fun j hj => ?_⟩
   have := hi xs[j] (List.mem_take_iff_getElem.2 ⟨j, by omega, rfl⟩)
   simp [this]
  ·rw [if_neg hf, chkI_of (by omega) (by omega), Option.bind_some]
   refine .inl ⟨(), rfl, fun y hy => ?_⟩
   rcases (mem_take_succ hx).1 hy with h | rfl
   ·exact hi y h
   ·simpa using hf
 ·intro s hi
  try dsimp only
  rw [if_neg (by omega)]
  refine ⟨_, rfl, .inl ⟨rfl, ?_⟩⟩
  rw [List.findIdx?_eq_none_iff]
  simpa using hi
 ·rintro x (⟨h, _⟩ | ⟨k, h, h2⟩)
  ·cases h
  ·injection h with h; rw [h, h2]; rfl
 ·rintro b (⟨_, h⟩ | ⟨k, h, _⟩)
  ·rw [h]; rfl
  ·cases h
theorem d34_ok {N : Nat} (hN : bigN N) (xs : List S29) (p : S29 → Option Bool) (f : S29 → Bool) (hp : ∀ x, p x = some (f x)) (hl : xs.length ≤ 140737488355328) : d34 N xs p = some (optI (xs.findIdx? f)) := d37_ok hN xs p f hp hl
theorem d15_ok {N : Nat} (hN : bigN N) (xs : List S29) (p : S29 → Option Bool) (f : S29 → Bool) (hp : ∀ x, p x = some (f x)) (hl : xs.length ≤ 140737488355328) : d15 N xs p = some (xs.any f) := by
 unfold d15
 rw [d37_ok hN xs p f hp hl, Option.bind_some, optI_ge]
theorem d42_ok {N : Nat} (hN : bigN N) (xs : List Int) (a : Int) (hl : xs.length ≤ 140737488355328) : d42 N xs a = some (decide (a ∈ xs)) := by
 have hN : 9223372036854775808 ≤ N := hN
 unfold d42 d54
 have : ∃ o : Out Unit Int, iterN (σ := Int) (ρ := (Out Unit Int)) (fun (v5 : Int) =>
   if v5 < (xs.length : Int) then (
    (idx xs v5).bind fun x18 =>
    if (a == x18) then (
     some (.inr (.ret v5))
    ) else
    (chkI (v5 + 1)).bind fun v21 =>
    some (.inl v21)
   ) else
   some (.inr (.go ()))
  ) N 0 = some o ∧ ((∃ k : Nat, o = .ret (k : Int) ∧ a ∈ xs) ∨ (o = .go () ∧ a ∉ xs)) := by
  refine loop_idx (σ := Unit) (τ := Int) xs.length (fun _ j => j) _ (fun k _ => a ∉ xs.take k) _ ?_ ?_ () (by simp) (n := N) (by omega)
  ·intro k s hk hi
   obtain ⟨x, hx⟩ := get_of hk
   try dsimp only
   rw [if_pos (by omega), idx_nat hx, Option.bind_some]
   by_cases hf : a = x
   ·rw [if_pos (by simpa using hf)]
    exact .inr ⟨_, rfl, .inl ⟨k, rfl, hf ▸ List.mem_of_getElem? hx⟩⟩
   ·rw [if_neg (by simpa using hf), chkI_of (by omega) (by omega), Option.bind_some]
    refine .inl ⟨(), rfl, fun hy => ?_⟩
    rcases (mem_take_succ hx).1 hy with h | h
    ·exact hi h
    ·exact hf h
  ·intro s hi
   try dsimp only
   rw [if_neg (by omega)]
   exact ⟨_, rfl, .inr ⟨rfl, by simpa using hi⟩⟩
 obtain ⟨o, h1, h2⟩ := this
 rw [h1]
 rcases h2 with ⟨k, rfl, h⟩ | ⟨rfl, h⟩
 ·simp [bindO, h]
 ·simp [bindO, h]

/-! ### who holds what -/
def same3 (t : Int) (tb ky : ByteArray) (g : S29) : Bool := decide (g.Tx = t) && (decide (g.Table = tb) && decide (g.Key = ky))
def modeG (G : List S29) (t : Int) (tb ky : ByteArray) : Int := ((G.find? (same3 t tb ky)).map (·.Mode)).getD 0
theorem d39_ok (N : Nat) (x y : S29) : d39 N x y = some (same3 y.Tx y.Table y.Key x) := by
 unfold d39 same3
 by_cases h1 : x.Tx = y.Tx <;> by_cases h2 : x.Table = y.Table <;> simp [h1, h2]
theorem d38_ok (N : Nat) (x y : S29) : d38 N x y = some (same3 y.Tx y.Table y.Key x) := by unfold d38; rw [d39_ok]; rfl
theorem d44_ok (N : Nat) (x y : S29) : d44 N x y = some (same3 y.Tx y.Table y.Key x) := by unfold d44; rw [d39_ok]; rfl
theorem find_idx {α : Type} (xs : List α) (f : α → Bool) : (xs.findIdx? f = none ∧ xs.find? f = none) ∨ ∃ k x, xs.findIdx? f = some k ∧ xs.find? f = some x ∧ xs[k]? = some x ∧ f x = true := by
 cases h : xs.findIdx? f with
 | none =>
  refine .inl ⟨rfl, ?_⟩
  rw [List.findIdx?_eq_none_iff] at h
  rw [List.find?_eq_none]
  intro x hx
  simp [h x hx]
 | some k =>
  obtain ⟨h1, h2, h3⟩ := List.findIdx?_eq_some_iff_getElem.1 h
  refine .inr ⟨k, xs[k], rfl, ?_, List.getElem?_eq_getElem h1, h2⟩
  rw [List.find?_eq_some_iff_getElem]
  exact ⟨h2, k, h1, rfl, fun j hj => by have := h3 j hj; simpa using this⟩
theorem d17_ok {N : Nat} (hN : bigN N) (G Q : List S29) (l : S29) (hl : G.length ≤ 140737488355328) : d17 N ⟨G, Q⟩ l = some (modeG G l.Tx l.Table l.Key) := by
 unfold d17 modeG
 rw [d37_ok hN G _ (same3 l.Tx l.Table l.Key) (fun x => d38_ok N x l) hl, Option.bind_some]
 rcases find_idx G (same3 l.Tx l.Table l.Key) with ⟨h1, h2⟩ | ⟨k, x, h1, h2, h3, _⟩
 ·rw [h1, h2, if_neg (by simp [optI])]; rfl
 ·rw [h1, h2, if_pos (by simp [optI])]
  simp only [optI]
  rw [idx_nat h3]; rfl
theorem d25_ok {N : Nat} (hN : bigN N) (G Q : List S29) (t : Int) (tb ky : ByteArray) (hl : G.length ≤ 140737488355328) : d25 N ⟨G, Q⟩ t tb ky = some (modeG G t tb ky) := by
 have hN : 9223372036854775808 ≤ N := hN
 unfold d25 modeG
 refine bindO_eq (P := fun o => (o = .go () ∧ G.find? (same3 t tb ky) = none) ∨ ∃ x, o = .ret x.Mode ∧ G.find? (same3 t tb ky) = some x) (loop_idx (σ := Unit) (τ := Int) G.length (fun _ j => j) _ (fun k _ => ∀ x ∈ G.take k, same3 t tb ky x = false) _ ?_ ?_ () (by simp) (n := N) (by omega)) ?_ ?_
 ·intro k s hk hi
  obtain ⟨x, hx⟩ := get_of hk
  try dsimp only
  rw [if_pos (by omega), idx_nat hx, Option.bind_some]
  have e : (if (x.Tx == t) = true then if decide (x.Table = tb) = true then some (decide (x.Key = ky)) else some false else some false) = some (same3 t tb ky x) := by
   unfold same3
   by_cases h1 : x.Tx = t <;> by_cases h2 : x.Table = tb <;> simp [h1, h2]
  rw [e, Option.bind_some]
  by_cases hf : same3 t tb ky x = true
  ·rw [if_pos hf]
   refine .inr ⟨_, rfl, .inr ⟨x, rfl, ?_⟩⟩
   rw [List.find?_eq_some_iff_getElem]
   obtain ⟨h1, h2⟩ := List.getElem?_eq_some_iff.1 hx
   refine ⟨hf, k, h1, h2, fun j hj => ?_⟩
   have := hi G[j] (List.mem_take_iff_getElem.2 ⟨j, by omega, rfl⟩)
   simp [this]
  ·rw [if_neg hf, chkI_of (by omega) (by omega), Option.bind_some]
   refine .inl ⟨(), rfl, fun y hy => ?_⟩
   rcases (mem_take_succ hx).1 hy with h | rfl
   ·exact hi y h
   ·simpa using hf
 ·intro s hi
  try dsimp only
  rw [if_neg (by omega)]
  refine ⟨_, rfl, .inl ⟨rfl, ?_⟩⟩
  rw [List.find?_eq_none]
  intro x hx
  simp [hi x (by simpa using hx)]
 ·rintro x (⟨h, _⟩ | ⟨k, h, h2⟩)
  ·cases h
  ·injection h with h; rw [h, h2]; rfl
 ·rintro b (⟨_, h⟩ | ⟨k, h, _⟩)
  ·rw [h]; rfl
  ·cases h

/-! ### granting -/
def grantG (G : List S29) (l : S29) : List S29 := match G.findIdx? (same3 l.Tx l.Table l.Key) with
 | some k => G.set k ⟨l.Tx, l.Table, l.Key, l.Mode⟩
 | none => G ++ [l]
theorem same3_iff {t : Int} {tb ky : ByteArray} {g : S29} : same3 t tb ky g = true ↔ g.Tx = t ∧ g.Table = tb ∧ g.Key = ky := by simp [same3]
theorem setI_nat {α : Type} (xs : List α) (k : Nat) (x : α) : setI xs (k : Int) x = xs.set k x := by simp [setI]
theorem d21_ok {N : Nat} (hN : bigN N) (G Q : List S29) (l : S29) (hl : G.length ≤ 1000) : d21 N ⟨G, Q⟩ l = some ⟨grantG G l, Q⟩ := by
 unfold d21 grantG
 rw [d37_ok hN G _ (same3 l.Tx l.Table l.Key) (fun x => d44_ok N x l) (by omega), Option.bind_some]
 rcases find_idx G (same3 l.Tx l.Table l.Key) with ⟨h1, h2⟩ | ⟨k, x, h1, h2, h3, h4⟩
 ·rw [h1, if_neg (by simp [optI])]
  rw [appL_of (by simp [reach]; omega)]; rfl
 ·rw [h1, if_pos (by simp [optI])]
  simp only [optI]
  rw [idx_nat h3, Option.bind_some, letv_eq, setI_nat]
  obtain ⟨e1, e2, e3⟩ := same3_iff.1 h4
  rw [e1, e2, e3]
theorem d28_ok {N : Nat} (hN : bigN N) (G Q : List S29) (l : S29) (hl : G.length ≤ 1000) : d28 N ⟨G, Q⟩ l = some ⟨grantG G l, Q⟩ := by
 have hN : 9223372036854775808 ≤ N := hN
 unfold d28
 refine bindO_eq (P := fun o => (o = .go () ∧ G.findIdx? (same3 l.Tx l.Table l.Key) = none) ∨ o = .ret ⟨grantG G l, Q⟩) (loop_idx (σ := Unit) (τ := Int) G.length (fun _ j => j) _ (fun k _ => ∀ x ∈ G.take k, same3 l.Tx l.Table l.Key x = false) _ ?_ ?_ () (by simp) (n := N) (by omega)) ?_ ?_
 ·intro k s hk hi
  obtain ⟨x, hx⟩ := get_of hk
  try dsimp only
  rw [if_pos (by omega), idx_nat hx, Option.bind_some]
  have e : (if (x.Tx == l.Tx) = true then if decide (x.Table = l.Table) = true then some (decide (x.Key = l.Key)) else some false else some false) = some (same3 l.Tx l.Table l.Key x) := by
   unfold same3
   by_cases h1 : x.Tx = l.Tx <;> by_cases h2 : x.Table = l.Table <;> simp [h1, h2]
  rw [e, Option.bind_some]
  by_cases hf : same3 l.Tx l.Table l.Key x = true
  ·rw [if_pos hf, Option.bind_some, letv_eq, setI_nat]
   refine .inr ⟨_, rfl, .inr ?_⟩
   have : G.findIdx? (same3 l.Tx l.Table l.Key) = some k := by
    rw [List.findIdx?_eq_some_iff_getElem]
    obtain ⟨h1, h2⟩ := List.getElem?_eq_some_iff.1 hx
    refine ⟨h1, by rw [h2]; exact hf, fun j hj => ?_⟩
    have := hi G[j] (List.mem_take_iff_getElem.2 ⟨j, by omega, rfl⟩)
    simp [this]
   unfold grantG
   rw [this]
   obtain ⟨e1, e2, e3⟩ := same3_iff.1 hf
   rw [e1, e2, e3]
  ·rw [if_neg hf, chkI_of (by omega) (by omega), Option.bind_some]
   refine .inl ⟨(), rfl, fun y hy => ?_⟩
   rcases (mem_take_succ hx).1 hy with h | rfl
   ·exact hi y h
   ·simpa using hf
 ·intro s hi
  try dsimp only
  rw [if_neg (by omega)]
  refine ⟨_, rfl, .inl ⟨rfl, ?_⟩⟩
  rw [List.findIdx?_eq_none_iff]
  simpa using hi
 ·rintro x (⟨h, _⟩ | h)
  ·cases h
  ·injection h
 ·rintro b (⟨_, h⟩ | h)
  ·rw [appL_of (by simp [reach]; omega), Option.bind_some]
   unfold grantG
   rw [h]
  ·cases h

/-! ### conflicts -/
def compat (a b : Int) : Bool := !(decide (a = 2) || decide (b = 2)) && !((decide (a = 1) && decide (b = 4)) || (decide (a = 4) && decide (b = 1)))
def conf (x l : S29) : Bool := decide (x.Tx ≠ l.Tx) && (decide (x.Table = l.Table) && (decide (x.Key = l.Key) && !compat x.Mode l.Mode))
theorem d53_ok (N : Nat) (a b : Int) : d53 N a b = some (compat a b) := by
 unfold d53 compat
 by_cases h1 : a = 2 <;> by_cases h2 : b = 2 <;> by_cases h3 : a = 1 <;> by_cases h4 : b = 4 <;> by_cases h5 : a = 4 <;> by_cases h6 : b = 1 <;> simp [h1, h2, h3, h4, h5, h6]
theorem d41_ok (N : Nat) (x l : S29) : d41 N x l = some (conf x l) := by
 unfold d41 conf
 rw [d53_ok]
 by_cases h1 : x.Tx = l.Tx <;> by_cases h2 : x.Table = l.Table <;> by_cases h3 : x.Key = l.Key <;> simp [h1, h2, h3]
theorem d57_ok (N : Nat) {a b : Int} (ha : 1 ≤ a ∧ a ≤ 4) (hb : 1 ≤ b ∧ b ≤ 4) : d57 N a b = some (compat a b) := by
 have h1 : a = 1 ∨ a = 2 ∨ a = 3 ∨ a = 4 := by omega
 have h2 : b = 1 ∨ b = 2 ∨ b = 3 ∨ b = 4 := by omega
 rcases h1 with rfl | rfl | rfl | rfl <;> rcases h2 with rfl | rfl | rfl | rfl <;> rfl
theorem compat_comm (a b : Int) : compat a b = compat b a := by
 unfold compat
 by_cases h1 : a = 2 <;> by_cases h2 : b = 2 <;> by_cases h3 : a = 1 <;> by_cases h4 : b = 4 <;> by_cases h5 : a = 4 <;> by_cases h6 : b = 1 <;> simp [h1, h2, h3, h4, h5, h6]
theorem d46_ok (N : Nat) {l x : S29} (hl : 1 ≤ l.Mode ∧ l.Mode ≤ 4) (hx : 1 ≤ x.Mode ∧ x.Mode ≤ 4) : d46 N l x = some (conf x l) := by
 unfold d46 conf
 rw [d57_ok N hl hx, compat_comm]
 have e1 : (l.Tx != x.Tx) = decide (x.Tx ≠ l.Tx) := by
  by_cases h : l.Tx = x.Tx
  ·simp [h]
  ·have h' : ¬ x.Tx = l.Tx := fun e => h e.symm
   rw [show (l.Tx != x.Tx) = true from by simpa using h]
   simp [h']
 have e2 : decide (l.Table = x.Table) = decide (x.Table = l.Table) := by simp [eq_comm]
 have e3 : decide (l.Key = x.Key) = decide (x.Key = l.Key) := by simp [eq_comm]
 rw [e1, e2, e3]
 by_cases h1 : x.Tx = l.Tx <;> by_cases h2 : x.Table = l.Table <;> by_cases h3 : x.Key = l.Key <;> simp [h1, h2, h3]
end Go.Proofs.Ytdiekinmoklonaa
end
section
namespace Go.Proofs.Ytdiekinmoklonaa
open Go.Ab Go.Rp

def okL (l : S29) : Prop := 0 ≤ l.Tx ∧ l.Tx < 20 ∧ 1 ≤ l.Mode ∧ l.Mode ≤ 4
def r20 : List Int := (List.range 20).map fun n : Nat => (n : Int)
theorem mem_r20 {t : Int} : t ∈ r20 ↔ 0 ≤ t ∧ t < 20 := by
 unfold r20
 rw [List.mem_map]
 constructor
 ·rintro ⟨n, hn, rfl⟩
  have := List.mem_range.1 hn
  omega
 ·intro h
  exact ⟨t.toNat, List.mem_range.2 (by omega), by omega⟩
theorem r20_sorted : r20.Pairwise (· < ·) := by unfold r20; decide
def hits (xs : List S29) (l : S29) (t : Int) : Bool := xs.any fun x => decide (x.Tx = t) && conf x l
def blk (xs : List S29) (l : S29) : List Int := r20.filter (hits xs l)
theorem mem_blk {xs : List S29} {l : S29} {t : Int} : t ∈ blk xs l ↔ (0 ≤ t ∧ t < 20) ∧ hits xs l t = true := by
 unfold blk
 rw [List.mem_filter, mem_r20]
theorem blk_len (xs : List S29) (l : S29) : (blk xs l).length ≤ 20 := Nat.le_trans (List.length_filter_le _ _) (by unfold r20; simp)
theorem hits_iff {xs : List S29} {l : S29} {t : Int} : hits xs l t = true ↔ ∃ x ∈ xs, x.Tx = t ∧ conf x l = true := by
 unfold hits
 rw [List.any_eq_true]
 simp

theorem sorted_ext : ∀ {xs ys : List Int}, xs.Pairwise (· < ·) → ys.Pairwise (· < ·) → (∀ t, t ∈ xs ↔ t ∈ ys) → xs = ys
 | [], [], _, _, _ => rfl
 | [], y :: ys, _, _, h => by have := (h y).2 List.mem_cons_self; cases this
 | x :: xs, [], _, _, h => by have := (h x).1 List.mem_cons_self; cases this
 | x :: xs, y :: ys, hx, hy, h => by
  obtain ⟨hx1, hx2⟩ := List.pairwise_cons.1 hx
  obtain ⟨hy1, hy2⟩ := List.pairwise_cons.1 hy
  have e : x = y := by
   have h1 := (h x).1 List.mem_cons_self
   have h2 := (h y).2 List.mem_cons_self
   rcases List.mem_cons.1 h1 with h1 | h1
   ·exact h1
   ·rcases List.mem_cons.1 h2 with h2 | h2
    ·exact h2.symm
    ·have := hx1 y h2; have := hy1 x h1; omega
  subst e
  rw [sorted_ext hx2 hy2 fun t => ?_]
  constructor
  ·intro ht
   rcases List.mem_cons.1 ((h t).1 (List.mem_cons_of_mem _ ht)) with rfl | h1
   ·have := hx1 t ht; omega
   ·exact h1
  ·intro ht
   rcases List.mem_cons.1 ((h t).2 (List.mem_cons_of_mem _ ht)) with rfl | h1
   ·have := hy1 t ht; omega
   ·exact h1

theorem d43_ok (N : Nat) (s : List Int) (hn : s.Nodup) (hl : s.length ≤ 1000) : ∃ r, d43 N s = some r ∧ r.Pairwise (· < ·) ∧ ∀ t, t ∈ r ↔ t ∈ s := by
 unfold d43
 rw [if_pos (by omega)]
 refine ⟨_, rfl, ?_, fun t => by simp⟩
 have h1 : (s.mergeSort fun x y => decide (x ≤ y)).Pairwise fun x y => decide (x ≤ y) = true :=
  List.pairwise_mergeSort (le := fun x y => decide (x ≤ y)) (fun a b c => by simp only [decide_eq_true_eq]; omega) (fun a b => by simp only [Bool.or_eq_true, decide_eq_true_eq]; omega) s
 have h2 : (s.mergeSort fun x y => decide (x ≤ y)).Nodup := (List.mergeSort_perm s _).nodup_iff.2 hn
 refine (h1.and h2).imp ?_
 rintro a b ⟨h3, h4⟩
 simp only [decide_eq_true_eq] at h3
 omega

theorem d40_ok {N : Nat} (hN : bigN N) (A B : List S29) (hl : A.length + B.length ≤ 2000) : d40 N [A, B] = some (A ++ B) := by
 have hN : 9223372036854775808 ≤ N := hN
 obtain ⟨M, rfl⟩ : ∃ M, N = M + 3 := ⟨N - 3, by omega⟩
 unfold d40
 have i0 : idx [A, B] 0 = some A := rfl
 have i1 : idx [A, B] 1 = some B := rfl
 have e1 : iterN (σ := (Int × Int)) (ρ := Int) (fun ((v6, v7) : (Int × Int)) =>
   if v7 < (([A, B] : List (List S29)).length : Int) then (
    (idx [A, B] v7).bind fun x24 =>
    (chkI (v6 + (x24.length : Int))).bind fun v26 =>
    if v26 < 0 then (
     none
    ) else
    (chkI (v7 + 1)).bind fun v28 =>
    some (.inl (v26, v28))
   ) else
   some (.inr v6)) (M + 3) (0, 0) = some ((A.length : Int) + B.length) := by
  rw [iterN_succ]
  simp only [List.length_cons, List.length_nil]
  rw [if_pos (by omega), i0, Option.bind_some, chkI_of (by omega) (by omega), Option.bind_some, if_neg (by omega), chkI_of (by omega) (by omega), Option.bind_some]
  dsimp only
  rw [iterN_succ]
  dsimp only
  rw [if_pos (by omega), show (0 : Int) + 1 = 1 from rfl, i1, Option.bind_some, chkI_of (by omega) (by omega), Option.bind_some, if_neg (by omega), chkI_of (by omega) (by omega), Option.bind_some]
  dsimp only
  rw [iterN_succ]
  dsimp only
  rw [if_neg (by omega)]
  simp
 have e2 : iterN (σ := ((List S29) × Int)) (ρ := List S29) (fun ((l34, v35) : ((List S29) × Int)) =>
   if v35 < (([A, B] : List (List S29)).length : Int) then (
    (idx [A, B] v35).bind fun x50 =>
    (appL 48 l34 x50).bind fun l52 =>
    (chkI (v35 + 1)).bind fun v53 =>
    some (.inl ((l34 ++ x50), v53))
   ) else
   some (.inr l34)) (M + 3) (([] : List S29), 0) = some (A ++ B) := by
  rw [iterN_succ]
  simp only [List.length_cons, List.length_nil]
  rw [if_pos (by omega), i0, Option.bind_some, appL_of (by simp [reach]; omega), Option.bind_some, chkI_of (by omega) (by omega), Option.bind_some]
  dsimp only
  rw [iterN_succ]
  dsimp only
  rw [if_pos (by omega), show (0 : Int) + 1 = 1 from rfl, i1, Option.bind_some, appL_of (by simp [reach]; omega), Option.bind_some, chkI_of (by omega) (by omega), Option.bind_some]
  dsimp only
  rw [iterN_succ]
  dsimp only
  rw [if_neg (by omega)]
  simp
 rw [e1, Option.bind_some]
 unfold growL
 rw [if_pos (by simp [reach]; omega), Option.bind_some, e2]
 rfl

theorem d20_ok {N : Nat} (hN : bigN N) (G Q : List S29) (l : S29) (n : Nat) (hn : n ≤ Q.length) (hok : ∀ x ∈ G ++ Q, okL x) (hl : G.length + Q.length ≤ 1000) : d20 N ⟨G, Q⟩ l n = some (blk (G ++ Q.take n) l) := by
 have hN' : 9223372036854775808 ≤ N := hN
 unfold d20
 have htl : (Q.take n).length ≤ Q.length := List.length_take_le' _ _
 rw [natI_nat hn, Option.bind_some, letv_eq, d40_ok hN G (Q.take n) (by omega), Option.bind_some]
 have hxl : (G ++ Q.take n).length ≤ 1000 := by rw [List.length_append]; omega
 have hok' : ∀ x ∈ G ++ Q.take n, okL x := fun x hx => hok x (by
  rcases List.mem_append.1 hx with h | h
  ·exact List.mem_append.2 (.inl h)
  ·exact List.mem_append.2 (.inr (List.mem_of_mem_take h)))
 generalize G ++ Q.take n = xs at hxl hok'
 refine bind_eq (P := fun s : List Int => s.Nodup ∧ s.length ≤ 1000 ∧ ∀ t, t ∈ s ↔ ∃ x ∈ xs, x.Tx = t ∧ conf x l = true) (loop_idx (σ := List Int) (τ := List Int × Int) xs.length (fun s j => (s, j)) _ (fun k s => s.Nodup ∧ s.length ≤ k ∧ ∀ t, t ∈ s ↔ ∃ x ∈ xs.take k, x.Tx = t ∧ conf x l = true) _ ?_ ?_ [] ⟨List.nodup_nil, Nat.le_refl _, by simp⟩ (n := N) (by omega)) ?_
 ·rintro k s hk ⟨h1, h2, h3⟩
  obtain ⟨x, hx⟩ := get_of hk
  refine .inl ?_
  dsimp only
  rw [if_pos (by omega), idx_nat hx, Option.bind_some, d41_ok, Option.bind_some]
  have e : (if conf x l = true then (d42 N s x.Tx).bind fun r59 => some (!r59) else some false) = some (conf x l && !decide (x.Tx ∈ s)) := by
   cases conf x l with
   | false => rfl
   | true => rw [if_pos rfl, d42_ok hN s _ (by omega)]; rfl
  rw [e, Option.bind_some]
  by_cases hc : (conf x l && !decide (x.Tx ∈ s)) = true
  ·rw [if_pos hc, appL_of (by simp [reach]; omega), Option.bind_some, chkI_of (by omega) (by omega), Option.bind_some]
   simp only [Bool.and_eq_true, Bool.not_eq_true', decide_eq_false_iff_not] at hc
   refine ⟨_, rfl, ?_, by simp; omega, fun t => ?_⟩
   ·rw [List.nodup_append]
    refine ⟨h1, by simp, ?_⟩
    intro a ha b hb
    simp only [List.mem_singleton] at hb
    subst hb
    exact fun e => hc.2 (e ▸ ha)
   ·rw [List.mem_append, List.mem_singleton, h3]
    constructor
    ·rintro (⟨y, hy, h⟩ | rfl)
     ·exact ⟨y, (mem_take_succ hx).2 (.inl hy), h⟩
     ·exact ⟨x, (mem_take_succ hx).2 (.inr rfl), rfl, hc.1⟩
    ·rintro ⟨y, hy, rfl, h⟩
     rcases (mem_take_succ hx).1 hy with hy | rfl
     ·exact .inl ⟨y, hy, rfl, h⟩
     ·exact .inr rfl
  ·rw [if_neg hc, chkI_of (by omega) (by omega), Option.bind_some]
   refine ⟨_, rfl, h1, by omega, fun t => ?_⟩
   rw [h3]
   constructor
   ·rintro ⟨y, hy, h⟩
    exact ⟨y, (mem_take_succ hx).2 (.inl hy), h⟩
   ·rintro ⟨y, hy, rfl, h⟩
    rcases (mem_take_succ hx).1 hy with hy | rfl
    ·exact ⟨y, hy, rfl, h⟩
    ·simp only [Bool.and_eq_true, Bool.not_eq_true', decide_eq_false_iff_not] at hc
     have : y.Tx ∈ s := Decidable.byContradiction fun h' => hc ⟨h, h'⟩
     exact (h3 _).1 this
 ·rintro s ⟨h1, h2, h3⟩
  dsimp only
  rw [if_neg (by omega)]
  exact ⟨_, rfl, h1, by omega, by simpa using h3⟩
 ·rintro s ⟨h1, h2, h3⟩
  obtain ⟨r, hr, hs, hm⟩ := d43_ok N s h1 h2
  rw [hr, Option.bind_some]
  congr 1
  refine sorted_ext hs (r20_sorted.filter _) fun t => ?_
  rw [hm, h3, mem_blk, hits_iff]
  constructor
  ·rintro ⟨x, hx, rfl, h⟩
   obtain ⟨a, b, _⟩ := hok' x hx
   exact ⟨⟨a, b⟩, x, hx, rfl, h⟩
  ·rintro ⟨_, h⟩
   exact h

def vis (m : List (Int × Bool)) (t : Int) : Bool := (mget m t).getD false
theorem vis_put (m : List (Int × Bool)) (k t : Int) (v : Bool) : vis (mput m k v) t = if k = t then v else vis m t := by
 unfold vis
 rw [mget_put]
 split <;> rfl
theorem d27_ok {N : Nat} (hN : bigN N) (G Q : List S29) (l : S29) (n : Nat) (hn : n ≤ Q.length) (hlm : 1 ≤ l.Mode ∧ l.Mode ≤ 4) (hok : ∀ x ∈ G ++ Q, okL x) (hl : G.length + Q.length ≤ 1000) : d27 N ⟨G, Q⟩ l n = some (blk (G ++ Q.take n) l) := by
 have hN' : 9223372036854775808 ≤ N := hN
 unfold d27
 have htl : (Q.take n).length ≤ Q.length := List.length_take_le' _ _
 rw [appL_of (by simp [reach]; omega), Option.bind_some, natI_nat hn, Option.bind_some, letv_eq, List.nil_append, appL_of (by simp [reach]; omega), Option.bind_some, letv_eq]
 have hxl : (G ++ Q.take n).length ≤ 1000 := by rw [List.length_append]; omega
 have hok' : ∀ x ∈ G ++ Q.take n, okL x := fun x hx => hok x (by
  rcases List.mem_append.1 hx with h | h
  ·exact List.mem_append.2 (.inl h)
  ·exact List.mem_append.2 (.inr (List.mem_of_mem_take h)))
 generalize G ++ Q.take n = xs at hxl hok'
 refine bind_eq (P := fun m : List (Int × Bool) => ∀ t, vis m t = hits xs l t) (loop_idx (σ := List (Int × Bool)) (τ := List (Int × Bool) × Int) xs.length (fun s j => (s, j)) _ (fun k m => ∀ t, vis m t = hits (xs.take k) l t) _ ?_ ?_ [] (fun t => by simp [vis, hits, mget_nil]) (n := N) (by omega)) ?_
 ·intro k m hk hi
  obtain ⟨x, hx⟩ := get_of hk
  refine .inl ?_
  dsimp only
  rw [if_pos (by omega), idx_nat hx, Option.bind_some]
  have hxo := hok' x (List.mem_of_getElem? hx)
  have e : (letv ((mget m x.Tx).getD false) fun v50 => if v50 = true then some true else (d46 N l x).bind fun r52 => some r52) = some (vis m x.Tx || conf x l) := by
   rw [letv_eq, d46_ok N hlm ⟨hxo.2.2.1, hxo.2.2.2⟩]
   show (if vis m x.Tx = true then _ else _) = _
   cases vis m x.Tx <;> rfl
  rw [e, Option.bind_some, chkI_of (by omega) (by omega), Option.bind_some]
  refine ⟨_, rfl, fun t => ?_⟩
  rw [vis_put, hi, Bool.eq_iff_iff, hits_iff]
  by_cases ht : x.Tx = t
  ·rw [if_pos ht, Bool.or_eq_true, hits_iff]
   constructor
   ·rintro (⟨y, hy, h1, h2⟩ | h)
    ·exact ⟨y, (mem_take_succ hx).2 (.inl hy), by rw [h1, ht], h2⟩
    ·exact ⟨x, (mem_take_succ hx).2 (.inr rfl), ht, h⟩
   ·rintro ⟨y, hy, h1, h2⟩
    rcases (mem_take_succ hx).1 hy with hy | rfl
    ·exact .inl ⟨y, hy, by rw [h1, ht], h2⟩
    ·exact .inr h2
  ·rw [if_neg ht, hi, hits_iff]
   constructor
   ·rintro ⟨y, hy, h⟩
    exact ⟨y, (mem_take_succ hx).2 (.inl hy), h⟩
   ·rintro ⟨y, hy, h1, h2⟩
    rcases (mem_take_succ hx).1 hy with hy | rfl
    ·exact ⟨y, hy, h1, h2⟩
    ·exact absurd h1 ht
 ·intro m hi
  dsimp only
  rw [if_neg (by omega)]
  exact ⟨_, rfl, by simpa using hi⟩
 ·intro m hm
  refine bind_eq (P := fun r => r = blk xs l) (loop_idx (σ := List Int) (τ := List Int × Int) 20 (fun s j => (s, j)) _ (fun k s => s = (((List.range k).map fun n : Nat => (n : Int)).filter (hits xs l)) ∧ s.length ≤ k) _ ?_ ?_ [] ⟨rfl, Nat.le_refl _⟩ (n := N) (by omega)) ?_
  ·rintro k s hk ⟨hi, hs⟩
   refine .inl ?_
   dsimp only
   rw [if_pos (by omega), letv_eq]
   have e : (mget m (k : Int)).getD false = hits xs l k := hm k
   rw [e]
   have e2 : ((List.range (k + 1)).map fun n : Nat => (n : Int)).filter (hits xs l) = ((List.range k).map fun n : Nat => (n : Int)).filter (hits xs l) ++ if hits xs l k = true then [(k : Int)] else [] := by
    rw [List.range_succ, List.map_append, List.filter_append]
    congr 1
    simp only [List.map_cons, List.map_nil, List.filter_cons, List.filter_nil]
   by_cases hc : hits xs l k = true
   ·rw [if_pos hc, appL_of (by simp [reach]; omega), Option.bind_some, chkI_of (by omega) (by omega), Option.bind_some]
    exact ⟨_, rfl, by rw [e2, if_pos hc, hi], by simp; omega⟩
   ·rw [if_neg hc, chkI_of (by omega) (by omega), Option.bind_some]
    exact ⟨_, rfl, by rw [e2, if_neg hc, hi, List.append_nil], by omega⟩
  ·rintro s ⟨hi, _⟩
   dsimp only
   rw [if_neg (by omega)]
   exact ⟨_, rfl, hi⟩
  ·rintro s rfl
   rfl
end Go.Proofs.Ytdiekinmoklonaa
end
section
namespace Go.Proofs.Ytdiekinmoklonaa
open Go.Ab Go.Rp

theorem bindO_ex {β ρ : Type} {d : Option (Out β ρ)} {k : β → Option ρ} {P : Out β ρ → Prop} {R : ρ → Prop} (h : ∃ s, d = some s ∧ P s) (h1 : ∀ x, P (.ret x) → R x) (h2 : ∀ b, P (.go b) → ∃ r, k b = some r ∧ R r) : ∃ r, bindO d k = some r ∧ R r := by
 obtain ⟨s, rfl, hp⟩ := h
 cases s with
 | go b => exact h2 b hp
 | ret x => exact ⟨x, rfl, h1 x hp⟩
/-- an edge of the waits-for graph -/
def Edge (G Q : List S29) (t b : Int) : Prop := ∃ i q, Q[i]? = some q ∧ q.Tx = t ∧ b ∈ blk (G ++ Q.take i) q
inductive Rch (E : Int → Int → Prop) (F : List Int) : Int → Prop
 | base {t : Int} (h : t ∈ F) : Rch E F t
 | step {t b : Int} (h : Rch E F t) (e : E t b) : Rch E F b
def U (m : List (Int × Bool)) : Nat := r20.countP fun t => !vis m t
theorem countP_lt {α : Type} {p q : α → Bool} : ∀ {l : List α}, (∀ t ∈ l, q t = true → p t = true) → (∃ x ∈ l, p x = true ∧ q x = false) → l.countP q < l.countP p
 | [], _, ⟨x, hx, _⟩ => by cases hx
 | a :: l, h, ⟨x, hx, h1, h2⟩ => by
  have hl : ∀ t ∈ l, q t = true → p t = true := fun t ht => h t (List.mem_cons_of_mem _ ht)
  rw [List.countP_cons, List.countP_cons]
  rcases List.mem_cons.1 hx with rfl | hx
  ·rw [if_neg (by simp [h2]), if_pos h1]
   have := List.countP_mono_left hl
   omega
  ·have := countP_lt hl ⟨x, hx, h1, h2⟩
   by_cases ha : q a = true
   ·rw [if_pos ha, if_pos (h a List.mem_cons_self ha)]; omega
   ·rw [if_neg ha]
    split <;> omega
theorem U_put {m : List (Int × Bool)} {x : Int} (h0 : 0 ≤ x ∧ x < 20) (hv : vis m x = false) : U (mput m x true) < U m := by
 refine countP_lt (fun t _ ht => ?_) ⟨x, mem_r20.2 h0, by simp [hv], by simp [vis_put]⟩
 rw [vis_put] at ht
 split at ht
 ·simp at ht
 ·exact ht
theorem U_le (m : List (Int × Bool)) : U m ≤ 20 := Nat.le_trans List.countP_le_length (by unfold r20; simp)
theorem U_mono {m m' : List (Int × Bool)} (h : ∀ t, vis m t = true → vis m' t = true) : U m' ≤ U m :=
 List.countP_mono_left fun t _ ht => by
  cases hv : vis m t with
  | false => rfl
  | true => rw [h t hv] at ht; simp at ht
theorem U_lt {m m' : List (Int × Bool)} (h : ∀ t, vis m t = true → vis m' t = true) {x : Int} (h0 : 0 ≤ x ∧ x < 20) (h1 : vis m x = false) (h2 : vis m' x = true) : U m' < U m := by
 refine countP_lt (fun t _ ht => ?_) ⟨x, mem_r20.2 h0, by simp [h1], by simp [h2]⟩
 cases hv : vis m t with
 | false => rfl
 | true => rw [h t hv] at ht; simp at ht
theorem U_zero {m : List (Int × Bool)} (h : U m = 0) {x : Int} (h0 : 0 ≤ x ∧ x < 20) : vis m x = true := by
 unfold U at h
 rw [List.countP_eq_zero] at h
 simpa using h x (mem_r20.2 h0)

section
variable {N : Nat} {G Q : List S29} (hN : bigN N) (hok : ∀ x ∈ G ++ Q, okL x) (hl : G.length + Q.length ≤ 1000) (hq : Q.length ≤ 20) {F : List Int} (hF : ∀ t ∈ F, 0 ≤ t ∧ t < 20) (hFl : F.length ≤ 20) (a : Int)
include hN hok hl hq hF hFl

/-- the worklist -/
theorem d22_ok : ∃ r, d22 N ⟨G, Q⟩ F a = some r ∧ (r = true ↔ Rch (Edge G Q) F a) := by
 have hN' : 9223372036854775808 ≤ N := hN
 unfold d22 d45
 rw [if_pos (by simp [reach]; omega), Option.bind_some]
 have main : ∃ o : Out Unit Bool, _ ∧ ((o = .ret true ∧ Rch (Edge G Q) F a) ∨ (o = .go () ∧ ¬ Rch (Edge G Q) F a)) := iter_post (τ := List (Int × Bool) × List Int) (ρ := Out Unit Bool) (fun ((m43, l44) : ((List (Int × Bool)) × (List Int))) =>
   if (l44.length : Int) > 0 then (
    (idx l44 0).bind fun x130 =>
    if (x130 == a) then (
     some (.inr (.ret true))
    ) else
    letv ((mget m43 x130).getD false) fun v132 =>
    if v132 = true then (
     some (.inl (m43, l44.drop 1))
    ) else
    Option.bind (α := List Int) (
     iterN (σ := ((List Int) × Int)) (ρ := List Int) (fun ((l141, v142) : ((List Int) × Int)) =>
      if v142 < (Q.length : Int) then (
       (idx Q v142).bind fun x163 =>
       if (x163.Tx == x130) then (
        (d20 N ⟨G, Q⟩ x163 v142).bind fun r166 =>
        (appL 8 l141 r166).bind fun l167 =>
        (chkI (v142 + 1)).bind fun v168 =>
        some (.inl ((l141 ++ r166), v168))
       ) else
       (chkI (v142 + 1)).bind fun v169 =>
       some (.inl (l141, v169))
      ) else
      some (.inr l141)
     ) N (l44.drop 1, 0)
    ) fun (l161 : List Int) =>
    some (.inl ((mput m43 x130 true), l161))
   ) else
   some (.inr (.go ()))) (fun s => U s.1 * 500 + s.2.length)
   (fun s => (∀ t ∈ s.2, (0 ≤ t ∧ t < 20) ∧ Rch (Edge G Q) F t) ∧ vis s.1 a = false ∧ (∀ t ∈ F, t ∈ s.2 ∨ vis s.1 t = true) ∧ (∀ t b, vis s.1 t = true → Edge G Q t b → b ∈ s.2 ∨ vis s.1 b = true) ∧ s.2.length + 500 * U s.1 ≤ 20020)
   (fun o => (o = .ret true ∧ Rch (Edge G Q) F a) ∨ (o = .go () ∧ ¬ Rch (Edge G Q) F a)) ?_ N ([], F) ⟨fun t ht => ⟨hF t ht, .base ht⟩, rfl, fun t ht => .inl ht, fun t b h => by simp [vis, mget_nil] at h, by have := U_le []; dsimp only; omega⟩ (by have := U_le []; dsimp only; omega)
 ·refine bindO_ex main ?_ ?_
  ·rintro x (⟨h, h2⟩ | ⟨h, _⟩)
   ·injection h with h
    exact ⟨fun _ => h2, fun _ => h⟩
   ·cases h
  ·rintro b (⟨h, _⟩ | ⟨_, h2⟩)
   ·cases h
   ·exact ⟨false, rfl, ⟨fun h => (by cases h), fun h => absurd h h2⟩⟩
 ·rintro ⟨m, p⟩ ⟨h1, h2, h3, h4, h5⟩
  dsimp only at h1 h2 h3 h4 h5 ⊢
  match p, h1, h3, h4, h5 with
  | [], h1, h3, h4, h5 =>
   rw [if_neg (by simp)]
   refine .inr ⟨_, rfl, .inr ⟨rfl, fun hr => ?_⟩⟩
   have : ∀ t, Rch (Edge G Q) F t → vis m t = true := by
    intro t ht
    induction ht with
    | base h => rcases h3 _ h with h | h; cases h; exact h
    | step h e ih => rcases h4 _ _ ih e with h | h; cases h; exact h
   rw [this a hr] at h2
   cases h2
  | x :: p, h1, h3, h4, h5 =>
   rw [if_pos (by simp), show idx (x :: p) 0 = some x from rfl, Option.bind_some]
   obtain ⟨hx0, hxr⟩ := h1 x List.mem_cons_self
   simp only [List.length_cons] at h5 ⊢
   by_cases hxa : x = a
   ·rw [if_pos (by simpa using hxa)]
    exact .inr ⟨_, rfl, .inl ⟨rfl, hxa ▸ hxr⟩⟩
   ·rw [if_neg (by simpa using hxa), letv_eq]
    refine .inl ?_
    by_cases hv : vis m x = true
    ·have : (mget m x).getD false = true := hv
     rw [if_pos this]
     refine ⟨_, rfl, ⟨fun t ht => h1 t (List.mem_cons_of_mem _ ht), h2, fun t ht => ?_, fun t b ht e => ?_, by simp; omega⟩, by simp⟩
     ·rcases h3 t ht with h | h
      ·rcases List.mem_cons.1 h with rfl | h
       ·exact .inr hv
       ·exact .inl h
      ·exact .inr h
     ·rcases h4 t b ht e with h | h
      ·rcases List.mem_cons.1 h with rfl | h
       ·exact .inr hv
       ·exact .inl h
      ·exact .inr h
    ·have : ¬ (mget m x).getD false = true := hv
     rw [if_neg this, List.drop_one, List.tail_cons]
     have hv' : vis m x = false := by simpa using hv
     have hU := U_put hx0 hv'
     have inner : ∃ p' : List Int, iterN (σ := ((List Int) × Int)) (ρ := List Int) (fun ((l141, v142) : ((List Int) × Int)) =>
       if v142 < (Q.length : Int) then (
        (idx Q v142).bind fun x163 =>
        if (x163.Tx == x) then (
         (d20 N ⟨G, Q⟩ x163 v142).bind fun r166 =>
         (appL 8 l141 r166).bind fun l167 =>
         (chkI (v142 + 1)).bind fun v168 =>
         some (.inl ((l141 ++ r166), v168))
        ) else
        (chkI (v142 + 1)).bind fun v169 =>
        some (.inl (l141, v169))
       ) else
       some (.inr l141)) N (p, 0) = some p' ∧ p'.length ≤ p.length + 400 ∧ (∀ t ∈ p', t ∈ p ∨ Edge G Q x t) ∧ (∀ t ∈ p, t ∈ p') ∧ ∀ t, Edge G Q x t → t ∈ p' := by
      refine loop_idx (σ := List Int) (τ := List Int × Int) Q.length (fun s j => (s, j)) _ (fun k s => s.length ≤ p.length + 20 * k ∧ (∀ t ∈ s, t ∈ p ∨ Edge G Q x t) ∧ (∀ t ∈ p, t ∈ s) ∧ ∀ i q, i < k → Q[i]? = some q → q.Tx = x → ∀ t ∈ blk (G ++ Q.take i) q, t ∈ s) _ ?_ ?_ p ⟨by omega, fun t ht => .inl ht, fun t ht => ht, fun i q hi => by omega⟩ (n := N) (by omega)
      ·rintro k s hk ⟨g1, g2, g3, g4⟩
       obtain ⟨q, hqk⟩ := get_of hk
       refine .inl ?_
       dsimp only
       rw [if_pos (by omega), idx_nat hqk, Option.bind_some]
       by_cases hqx : q.Tx = x
       ·rw [if_pos (by simpa using hqx), d20_ok hN G Q q k (by omega) hok hl, Option.bind_some]
        have hbl := blk_len (G ++ Q.take k) q
        rw [appL_of (by simp [reach]; omega), Option.bind_some, chkI_of (by omega) (by omega), Option.bind_some]
        refine ⟨_, rfl, by rw [List.length_append]; omega, fun t ht => ?_, fun t ht => List.mem_append.2 (.inl (g3 t ht)), fun i q' hi hq' hx' t ht => ?_⟩
        ·rcases List.mem_append.1 ht with h | h
         ·exact g2 t h
         ·exact .inr ⟨k, q, hqk, hqx, h⟩
        ·by_cases hik : i = k
         ·subst hik
          rw [hqk] at hq'
          injection hq' with hq'
          subst hq'
          exact List.mem_append.2 (.inr ht)
         ·exact List.mem_append.2 (.inl (g4 i q' (by omega) hq' hx' t ht))
       ·rw [if_neg (by simpa using hqx), chkI_of (by omega) (by omega), Option.bind_some]
        refine ⟨_, rfl, by omega, g2, g3, fun i q' hi hq' hx' t ht => ?_⟩
        by_cases hik : i = k
        ·subst hik
         rw [hqk] at hq'
         injection hq' with hq'
         subst hq'
         exact absurd hx' hqx
        ·exact g4 i q' (by omega) hq' hx' t ht
      ·rintro s ⟨g1, g2, g3, g4⟩
       dsimp only
       rw [if_neg (by omega)]
       refine ⟨_, rfl, by omega, g2, g3, ?_⟩
       rintro t ⟨i, q, h1, h2, h3⟩
       exact g4 i q (List.getElem?_eq_some_iff.1 h1).1 h1 h2 t h3
     obtain ⟨p', e1, e2, e3, e4, e5⟩ := inner
     rw [e1, Option.bind_some]
     refine ⟨_, rfl, ⟨fun t ht => ?_, ?_, fun t ht => ?_, fun t b ht e => ?_, ?_⟩, ?_⟩
     ·rcases e3 t ht with h | h
      ·exact h1 t (List.mem_cons_of_mem _ h)
      ·refine ⟨?_, .step hxr h⟩
       obtain ⟨i, q, _, _, h⟩ := h
       exact (mem_blk.1 h).1
     ·dsimp only
      rw [vis_put, if_neg hxa]; exact h2
     ·dsimp only
      rw [vis_put]
      rcases h3 t ht with h | h
      ·rcases List.mem_cons.1 h with rfl | h
       ·exact .inr (by rw [if_pos rfl])
       ·exact .inl (e4 t h)
      ·exact .inr (by rw [h]; split <;> rfl)
     ·dsimp only at ht ⊢
      rw [vis_put] at ht ⊢
      by_cases htx : x = t
      ·subst htx
       exact .inl (e5 b e)
      ·rw [if_neg htx] at ht
       rcases h4 t b ht e with h | h
       ·rcases List.mem_cons.1 h with rfl | h
        ·exact .inr (by rw [if_pos rfl])
        ·exact .inl (e4 b h)
       ·exact .inr (by rw [h]; split <;> rfl)
     ·dsimp only; omega
     ·dsimp only; omega

/-- the rounds -/
theorem d29_ok : ∃ r, d29 N ⟨G, Q⟩ F a = some r ∧ (r = true ↔ Rch (Edge G Q) F a) := by
 have hN' : 9223372036854775808 ≤ N := hN
 have hE : ∀ t b, Edge G Q t b → 0 ≤ b ∧ b < 20 := fun t b ⟨i, q, _, _, h⟩ => (mem_blk.1 h).1
 unfold d29
 refine bind_ex (P := fun m : List (Int × Bool) => ∀ t, vis m t = true ↔ t ∈ F) (loop_idx (σ := List (Int × Bool)) (τ := List (Int × Bool) × Int) F.length (fun s j => (s, j)) _ (fun k m => ∀ t, vis m t = true ↔ t ∈ F.take k) _ ?_ ?_ [] (fun t => by simp [vis, mget_nil]) (n := N) (by omega)) ?_
 ·intro k m hk hi
  obtain ⟨x, hx⟩ := get_of hk
  refine .inl ?_
  dsimp only
  rw [if_pos (by omega), idx_nat hx, Option.bind_some, chkI_of (by omega) (by omega), Option.bind_some]
  refine ⟨_, rfl, fun t => ?_⟩
  rw [vis_put, mem_take_succ hx]
  by_cases h : x = t
  ·simp [h]
  ·rw [if_neg h, hi]
   exact ⟨fun h => .inl h, fun h' => h'.resolve_right fun e => h e.symm⟩
 ·intro m hi
  dsimp only
  rw [if_neg (by omega)]
  exact ⟨_, rfl, by simpa using hi⟩
 intro m0 hm0
 let Closed : List (Int × Bool) → Prop := fun m => ∀ t b, vis m t = true → Edge G Q t b → vis m b = true
 refine bind_ex (P := fun m : List (Int × Bool) => (∀ t, vis m t = true ↔ Rch (Edge G Q) F t)) (loop_idx (σ := List (Int × Bool)) (τ := List (Int × Bool) × Int) 20 (fun s j => (s, j)) _ (fun k m => (∀ t ∈ F, vis m t = true) ∧ (∀ t, vis m t = true → (0 ≤ t ∧ t < 20) ∧ Rch (Edge G Q) F t) ∧ (Closed m ∨ U m + k ≤ 20)) _ ?_ ?_ m0 ⟨fun t ht => (hm0 t).2 ht, fun t ht => ⟨hF t ((hm0 t).1 ht), .base ((hm0 t).1 ht)⟩, .inr (U_le m0)⟩ (n := N) (by omega)) ?_
 ·rintro k m hk ⟨h1, h2, h3⟩
  refine .inl ?_
  dsimp only
  rw [if_pos (by omega)]
  have inner : ∃ m' : List (Int × Bool), iterN (σ := ((List (Int × Bool)) × Int)) (ρ := List (Int × Bool)) (fun ((m408, v409) : ((List (Int × Bool)) × Int)) =>
      if v409 < (Q.length : Int) then (
       (idx Q v409).bind fun x470 =>
       letv ((mget m408 x470.Tx).getD false) fun v472 =>
       if v472 = true then (
        (d27 N ⟨G, Q⟩ x470 v409).bind fun r474 =>
        Option.bind (α := List (Int × Bool)) (
         iterN (σ := ((List (Int × Bool)) × Int)) (ρ := List (Int × Bool)) (fun ((m478, v479) : ((List (Int × Bool)) × Int)) =>
          if v479 < (r474.length : Int) then (
           (idx r474 v479).bind fun x492 =>
           (chkI (v479 + 1)).bind fun v494 =>
           some (.inl ((mput m478 x492 true), v494))
          ) else
          some (.inr m478)
         ) N (m408, 0)
        ) fun (m490 : List (Int × Bool)) =>
        (chkI (v409 + 1)).bind fun v495 =>
        some (.inl (m490, v495))
       ) else
       (chkI (v409 + 1)).bind fun v496 =>
       some (.inl (m408, v496))
      ) else
      some (.inr m408)
     ) N (m, 0) = some m' ∧ (∀ t, vis m t = true → vis m' t = true) ∧ (∀ t, vis m' t = true → (0 ≤ t ∧ t < 20) ∧ Rch (Edge G Q) F t) ∧ (∀ t b, vis m t = true → Edge G Q t b → vis m' b = true) ∧ (Closed m → ∀ t, vis m' t = true → vis m t = true) := by
   refine loop_idx (σ := List (Int × Bool)) (τ := List (Int × Bool) × Int) Q.length (fun s j => (s, j)) _ (fun j m' => (∀ t, vis m t = true → vis m' t = true) ∧ (∀ t, vis m' t = true → (0 ≤ t ∧ t < 20) ∧ Rch (Edge G Q) F t) ∧ (∀ i q, i < j → Q[i]? = some q → vis m q.Tx = true → ∀ b ∈ blk (G ++ Q.take i) q, vis m' b = true) ∧ (Closed m → ∀ t, vis m' t = true → vis m t = true)) _ ?_ ?_ m ⟨fun t h => h, h2, fun i q hi => by omega, fun _ t h => h⟩ (n := N) (by omega)
   ·rintro j m' hj ⟨g1, g2, g3, g4⟩
    obtain ⟨q, hqj⟩ := get_of hj
    have hqo := hok q (List.mem_append.2 (.inr (List.mem_of_getElem? hqj)))
    refine .inl ?_
    dsimp only
    rw [if_pos (by omega), idx_nat hqj, Option.bind_some, letv_eq]
    by_cases hv : vis m' q.Tx = true
    ·rw [if_pos (show (mget m' q.Tx).getD false = true from hv), d27_ok hN G Q q j (by omega) ⟨hqo.2.2.1, hqo.2.2.2⟩ hok hl, Option.bind_some]
     have hbl := blk_len (G ++ Q.take j) q
     have hed : ∀ b ∈ blk (G ++ Q.take j) q, Edge G Q q.Tx b := fun b hb => ⟨j, q, hqj, rfl, hb⟩
     generalize hB : blk (G ++ Q.take j) q = B at hbl hed
     have fill : ∃ m2 : List (Int × Bool), iterN (σ := ((List (Int × Bool)) × Int)) (ρ := List (Int × Bool)) (fun ((m478, v479) : ((List (Int × Bool)) × Int)) =>
          if v479 < (B.length : Int) then (
           (idx B v479).bind fun x492 =>
           (chkI (v479 + 1)).bind fun v494 =>
           some (.inl ((mput m478 x492 true), v494))
          ) else
          some (.inr m478)
         ) N (m', 0) = some m2 ∧ ∀ t, vis m2 t = true ↔ vis m' t = true ∨ t ∈ B := by
      refine loop_idx (σ := List (Int × Bool)) (τ := List (Int × Bool) × Int) B.length (fun s j => (s, j)) _ (fun k m2 => ∀ t, vis m2 t = true ↔ vis m' t = true ∨ t ∈ B.take k) _ ?_ ?_ m' (fun t => by simp) (n := N) (by omega)
      ·intro k m2 hk hi
       obtain ⟨x, hx⟩ := get_of hk
       refine .inl ?_
       dsimp only
       rw [if_pos (by omega), idx_nat hx, Option.bind_some, chkI_of (by omega) (by omega), Option.bind_some]
       refine ⟨_, rfl, fun t => ?_⟩
       rw [vis_put, mem_take_succ hx]
       by_cases h : x = t
       ·simp [h]
       ·rw [if_neg h, hi]
        exact ⟨fun h => h.imp_right .inl, fun h' => h'.imp_right fun h'' => h''.resolve_right fun e => h e.symm⟩
      ·intro m2 hi
       dsimp only
       rw [if_neg (by omega)]
       exact ⟨_, rfl, by simpa using hi⟩
     obtain ⟨m2, e1, e2⟩ := fill
     rw [e1, Option.bind_some, chkI_of (by omega) (by omega), Option.bind_some]
     refine ⟨_, rfl, fun t h => (e2 t).2 (.inl (g1 t h)), fun t h => ?_, fun i q' hi hq' hv' b hb => ?_, fun hc t h => ?_⟩
     ·rcases (e2 t).1 h with h | h
      ·exact g2 t h
      ·exact ⟨hE _ _ (hed t h), .step (g2 _ hv).2 (hed t h)⟩
     ·by_cases hij : i = j
      ·subst hij
       rw [hqj] at hq'
       injection hq' with hq'
       subst hq'
       rw [hB] at hb
       exact (e2 b).2 (.inr hb)
      ·exact (e2 b).2 (.inl (g3 i q' (by omega) hq' hv' b hb))
     ·rcases (e2 t).1 h with h | h
      ·exact g4 hc t h
      ·exact hc _ _ (g4 hc _ hv) (hed t h)
    ·rw [if_neg (show ¬ (mget m' q.Tx).getD false = true from hv), chkI_of (by omega) (by omega), Option.bind_some]
     refine ⟨_, rfl, g1, g2, fun i q' hi hq' hv' b hb => ?_, g4⟩
     by_cases hij : i = j
     ·subst hij
      rw [hqj] at hq'
      injection hq' with hq'
      subst hq'
      exact absurd (g1 _ hv') hv
     ·exact g3 i q' (by omega) hq' hv' b hb
   ·rintro m' ⟨g1, g2, g3, g4⟩
    dsimp only
    rw [if_neg (by omega)]
    refine ⟨_, rfl, g1, g2, ?_, g4⟩
    rintro t b ht ⟨i, q, h1, rfl, h3⟩
    exact g3 i q (List.getElem?_eq_some_iff.1 h1).1 h1 ht b h3
  obtain ⟨m', e1, e2, e3, e4, e5⟩ := inner
  rw [e1, Option.bind_some, chkI_of (by omega) (by omega), Option.bind_some]
  refine ⟨_, rfl, fun t ht => e2 t (h1 t ht), e3, ?_⟩
  by_cases hnew : ∃ x, vis m x = false ∧ vis m' x = true
  ·obtain ⟨x, hx1, hx2⟩ := hnew
   rcases h3 with hc | hu
   ·rw [e5 hc x hx2] at hx1; cases hx1
   ·have := U_lt e2 (e3 x hx2).1 hx1 hx2
    exact .inr (by omega)
  ·have hsame : ∀ t, vis m' t = true → vis m t = true := fun t ht => by
    cases hv : vis m t with
    | true => rfl
    | false => exact absurd ⟨t, hv, ht⟩ hnew
   exact .inl fun t b ht e => e4 t b (hsame t ht) e
 ·rintro m ⟨h1, h2, h3⟩
  dsimp only
  rw [if_neg (by omega)]
  refine ⟨_, rfl, fun t => ⟨fun h => (h2 t h).2, fun h => ?_⟩⟩
  have hc : Closed m := by
   rcases h3 with h | h
   ·exact h
   ·exact fun t b _ e => U_zero (by omega) (hE t b e)
  induction h with
  | base h => exact h1 _ h
  | step _ e ih => exact hc _ _ ih e
 ·intro m hm
  rw [letv_eq]
  exact ⟨_, rfl, hm a⟩
end
end Go.Proofs.Ytdiekinmoklonaa
end
section
namespace Go.Proofs.Ytdiekinmoklonaa
open Go.Ab Go.Rp

theorem iter_fwd {σ τ ρ : Type} (len : Nat) (mkS : σ → Int → τ) (step : τ → Option (τ ⊕ ρ)) (Inv : Nat → σ → Prop) (fin : σ → ρ)
  (hs : ∀ k s, k < len → Inv k s → ∃ s', step (mkS s k) = some (.inl (mkS s' ((k : Int) + 1))) ∧ Inv (k + 1) s') (he : ∀ s, Inv len s → step (mkS s len) = some (.inr (fin s)))
  (s0 : σ) (h0 : Inv 0 s0) {n : Nat} (hn : len < n) : ∃ s, iterN step n (mkS s0 0) = some (fin s) ∧ Inv len s := by
 have key : ∀ (m k : Nat) (s : σ), k ≤ len → len - k < m → Inv k s → ∃ s', iterN step m (mkS s k) = some (fin s') ∧ Inv len s' := by
  intro m
  induction m with
  | zero => intro k s _ h; omega
  | succ m ih =>
   intro k s hk hm hi
   rw [iterN_succ]
   by_cases hlt : k < len
   ·obtain ⟨s', h1, h2⟩ := hs k s hlt hi
    rw [h1]
    exact ih (k + 1) s' (by omega) (by omega) h2
   ·obtain rfl : k = len := by omega
    rw [he s hi]
    exact ⟨s, rfl, hi⟩
 exact key n 0 s0 (Nat.zero_le _) (by omega) h0
/-- slices.DeleteFunc -/
theorem d31_ok {N : Nat} (hN : bigN N) (xs : List S29) (f : S29 → Bool) (p : S29 → Option Bool) (hp : ∀ x, p x = some (f x)) (hl : xs.length ≤ 140737488355328) : d31 N xs p = some (xs.filter (!f ·)) := by
 have hN' : 9223372036854775808 ≤ N := hN
 unfold d31
 rw [d37_ok hN xs p f hp hl, Option.bind_some]
 rcases find_idx xs f with ⟨h1, h2⟩ | ⟨k, a, h1, _, hk, hfa⟩
 ·rw [h1, show optI none = -1 from rfl]
  rw [if_pos (show ((-1 : Int) == -1) = true from rfl)]
  congr 1
  rw [List.filter_eq_self.2]
  intro b hb
  rw [List.findIdx?_eq_none_iff] at h1
  simp [h1 b hb]
 ·have hkl : k < xs.length := (List.getElem?_eq_some_iff.1 hk).1
  have ha : ∀ y ∈ xs.take k, f y = false := fun y hy => by
   obtain ⟨j, hj, rfl⟩ := List.mem_take_iff_getElem.1 hy
   have := (List.findIdx?_eq_some_iff_getElem.1 h1).2.2 j (by omega)
   simpa using this
  rw [h1, show optI (some k) = (k : Int) from rfl]
  rw [if_neg (by simp), chkI_of (by omega) (by omega), Option.bind_some]
  -- the state: the kept ones ahead, then what was there
  have hsplit : ∀ j, k < j → j ≤ xs.length → (xs.take j).filter (!f ·) = xs.take k ++ ((xs.take j).drop (k + 1)).filter (!f ·) := fun j h1 h2 => by
   have e : xs.take j = xs.take k ++ a :: (xs.take j).drop (k + 1) := by
    have h3 : (xs.take j)[k]? = some a := by rw [List.getElem?_take_of_lt h1]; exact hk
    have h4 : (xs.take j).take k = xs.take k := by rw [List.take_take]; congr 1; omega
    have h5 := List.take_append_drop k (xs.take j)
    rw [h4, List.drop_eq_getElem_cons (by rw [List.length_take]; omega)] at h5
    rw [(List.getElem?_eq_some_iff.1 h3).2] at h5
    exact h5.symm
   conv => lhs; rw [e]
   rw [List.filter_append, List.filter_cons_of_neg (by simp [hfa]), List.filter_eq_self.2]
   intro b hb
   simp [ha b hb]
  obtain ⟨s, hs1, hs2⟩ := iter_fwd (σ := List S29 × Nat) (τ := List S29 × Int × Int) (ρ := List S29 × Int) (xs.length - (k + 1)) (fun s j => (s.1, (s.2 : Int), j + (k + 1 : Nat)))
   (fun ((l15, v16, v17) : ((List S29) × Int × Int)) =>
   if v17 < (l15.length : Int) then (
    (idx l15 v17).bind fun x46 =>
    (p x46).bind fun r48 =>
    if (!r48) = true then (
     (idx l15 v16).bind fun x50 =>
     letv (setI l15 v16 x46) fun l52 =>
     (chkI (v16 + 1)).bind fun v53 =>
     (chkI (v17 + 1)).bind fun v54 =>
     some (.inl (l52, v53, v54))
    ) else
    (chkI (v17 + 1)).bind fun v55 =>
    some (.inl (l15, v16, v55))
   ) else
   some (.inr (l15, v16)))
   (fun j s => s.1.length = xs.length ∧ s.2 ≤ k + j ∧ s.1.take s.2 = (xs.take (k + 1 + j)).filter (!f ·) ∧ s.1.drop (k + 1 + j) = xs.drop (k + 1 + j) ∧ s.2 = ((xs.take (k + 1 + j)).filter (!f ·)).length)
   (fun s => (s.1, (s.2 : Int)))
   (fun j s hj hI => by
    obtain ⟨l, i⟩ := s
    obtain ⟨i1, i2, i3, i4, i5⟩ := hI
    simp only at i1 i2 i3 i4 i5
    have hjl : k + 1 + j < xs.length := by omega
    obtain ⟨x, hx⟩ := get_of hjl
    have hlx : l[k + 1 + j]? = some x := by
     have := congrArg (fun l => l[0]?) i4
     simp only [List.getElem?_drop, Nat.add_zero] at this
     rw [this]; exact hx
    have hdrop : ∀ (l' : List S29), l'.drop (k + 1 + j) = xs.drop (k + 1 + j) → l'.drop (k + 1 + (j + 1)) = xs.drop (k + 1 + (j + 1)) := fun l' h => by
     have := congrArg (List.drop 1) h
     simpa [List.drop_drop, Nat.add_assoc] using this
    have htk : xs.take (k + 1 + (j + 1)) = xs.take (k + 1 + j) ++ [x] := by
     rw [show k + 1 + (j + 1) = (k + 1 + j) + 1 from by omega, List.take_add_one, hx]; rfl
    have e1 : ((j : Int) + ((k + 1 : Nat) : Int)) = ((k + 1 + j : Nat) : Int) := by omega
    simp only [e1]
    rw [if_pos (by rw [i1]; omega), idx_nat hlx, Option.bind_some, hp, Option.bind_some]
    by_cases hxa : f x = true
    ·rw [if_neg (by simp [hxa]), chkI_of (by omega) (by omega), Option.bind_some]
     refine ⟨(l, i), ?_, i1, by simp only; omega, ?_, hdrop l i4, ?_⟩
     ·congr 4; omega
     ·rw [htk, List.filter_append, List.filter_cons_of_neg (by simp [hxa])]; simpa using i3
     ·rw [htk, List.filter_append, List.filter_cons_of_neg (by simp [hxa])]; simpa using i5
    ·obtain ⟨y, hy⟩ := get_of (l := l) (k := i) (by omega)
     rw [if_pos (by simp [hxa]), idx_nat hy, Option.bind_some, letv_eq, chkI_of (by omega) (by omega), Option.bind_some, chkI_of (by omega) (by omega), Option.bind_some]
     have hset : setI l (i : Int) x = l.set i x := rfl
     rw [hset]
     refine ⟨(l.set i x, i + 1), ?_, by simpa using i1, by simp only; omega, ?_, ?_, ?_⟩
     ·congr 4; omega
     ·rw [htk, List.filter_append, List.filter_cons_of_pos (by simp [hxa]), ← i3]
      simp only [List.filter_nil]
      rw [List.take_add_one, List.take_set_of_le (Nat.le_refl _), List.getElem?_set_self (by omega)]
      rfl
     ·simp only
      rw [List.drop_set_of_lt (by omega)]
      exact hdrop l i4
     ·rw [htk, List.filter_append, List.filter_cons_of_pos (by simp [hxa]), List.length_append, ← i5]
      rfl)
   (fun s hI => by
    obtain ⟨l, i⟩ := s
    obtain ⟨i1, i2, i3, i4, i5⟩ := hI
    simp only at i1 ⊢
    rw [if_neg (by rw [i1]; omega)])
   (xs, k) ⟨rfl, by simp, by rw [hsplit (k + 1 + 0) (by omega) (by omega)]; simp, rfl, by rw [hsplit (k + 1 + 0) (by omega) (by omega)]; simp; omega⟩ (n := N) (by omega)
  obtain ⟨l, i⟩ := s
  obtain ⟨i1, i2, i3, i4, i5⟩ := hs2
  have hs1' := hs1
  rw [show (((0 : Int) + ((k + 1 : Nat) : Int))) = (k : Int) + 1 from by omega] at hs1'
  simp only at hs1' i1 i2 i3 i5
  have hfull : xs.take (k + 1 + (xs.length - (k + 1))) = xs := List.take_of_length_le (by omega)
  rw [hfull] at i3 i5
  rw [hs1', Option.bind_some]
  simp only []
  have hil : i ≤ l.length := by omega
  have hpos : 0 < l.length - i := by omega
  rw [natI_nat hil, Option.bind_some, posN, if_pos hpos, Option.bind_some, letv_eq, natI_nat (by simp; omega), Option.bind_some, letv_eq]
  congr 1
  rw [List.take_append_of_le_length (by rw [List.length_take]; omega), List.take_take, Nat.min_self, i3]

/-! ### what a lock table keeps -/
def key (x : S29) : Int × ByteArray × ByteArray := (x.Tx, x.Table, x.Key)
def held (G : List S29) (q : S29) : Bool := G.any (same3 q.Tx q.Table q.Key)
structure Ok (G Q : List S29) : Prop where
 ok : ∀ x ∈ G ++ Q, okL x
 gnd : (G.map key).Nodup
 qnd : (Q.map (·.Tx)).Nodup
 len : G.length + Q.countP (fun q => !held G q) ≤ 200
theorem nodup_len : ∀ (n : Nat) {xs : List Int}, xs.Nodup → (∀ x ∈ xs, 0 ≤ x ∧ x < n) → xs.length ≤ n
 | 0, xs, _, h => by
  cases xs with
  | nil => exact Nat.le_refl _
  | cons x xs => have := h x List.mem_cons_self; omega
 | n + 1, xs, hn, h => by
  have h1 := nodup_len n (xs := xs.erase n) (hn.erase _) fun x hx => by
   obtain ⟨h2, h3⟩ := hn.mem_erase_iff.1 hx
   have := h x h3
   omega
  by_cases hm : (n : Int) ∈ xs
  ·rw [List.length_erase_of_mem hm] at h1; omega
  ·rw [List.erase_of_not_mem hm] at h1; omega
theorem Ok.qlen {G Q : List S29} (h : Ok G Q) : Q.length ≤ 20 := by
 have := nodup_len 20 h.qnd fun x hx => by
  obtain ⟨q, hq, rfl⟩ := List.mem_map.1 hx
  obtain ⟨a, b, _⟩ := h.ok q (List.mem_append.2 (.inr hq))
  exact ⟨a, b⟩
 simpa using this
theorem Ok.glen {G Q : List S29} (h : Ok G Q) : G.length ≤ 200 := by have := h.len; omega
theorem Ok.sz {G Q : List S29} (h : Ok G Q) : G.length + Q.length ≤ 1000 := by have := h.qlen; have := h.glen; omega
theorem modeG_range {G : List S29} (h : ∀ x ∈ G, okL x) (t : Int) (tb ky : ByteArray) : (modeG G t tb ky = 0 ∧ G.any (same3 t tb ky) = false) ∨ (1 ≤ modeG G t tb ky ∧ modeG G t tb ky ≤ 4 ∧ G.any (same3 t tb ky) = true) := by
 unfold modeG
 cases hf : G.find? (same3 t tb ky) with
 | none =>
  refine .inl ⟨rfl, ?_⟩
  rw [List.find?_eq_none] at hf
  rw [List.any_eq_false]
  exact hf
 | some x =>
  have hx := h x (List.mem_of_find?_eq_some hf)
  exact .inr ⟨hx.2.2.1, hx.2.2.2, List.any_eq_true.2 ⟨x, List.mem_of_find?_eq_some hf, List.find?_some hf⟩⟩
theorem same3_key {x y : S29} : same3 x.Tx x.Table x.Key y = true ↔ key y = key x := by
 rw [same3_iff]; simp [key]

/-! ### a grant -/
theorem grantG_cases (G : List S29) (l : S29) : (held G l = false ∧ grantG G l = G ++ [l]) ∨ ∃ k x, G[k]? = some x ∧ key x = key l ∧ held G l = true ∧ grantG G l = G.set k ⟨l.Tx, l.Table, l.Key, l.Mode⟩ := by
 unfold grantG held
 rcases find_idx G (same3 l.Tx l.Table l.Key) with ⟨h1, h2⟩ | ⟨k, x, h1, _, h3, h4⟩
 ·rw [h1]
  refine .inl ⟨?_, rfl⟩
  rw [List.findIdx?_eq_none_iff] at h1
  rw [List.any_eq_false]
  intro x hx
  simp [h1 x hx]
 ·rw [h1]
  exact .inr ⟨k, x, h3, same3_key.1 h4, List.any_eq_true.2 ⟨x, List.mem_of_getElem? h3, h4⟩, rfl⟩
theorem map_set_key {G : List S29} {k : Nat} {x l : S29} (h : G[k]? = some x) (hk : key x = key l) : (G.set k ⟨l.Tx, l.Table, l.Key, l.Mode⟩).map key = G.map key := by
 rw [List.map_set]
 apply List.ext_getElem?
 intro j
 rw [List.getElem?_set]
 by_cases hj : k = j
 ·subst hj
  obtain ⟨h1, h2⟩ := List.getElem?_eq_some_iff.1 h
  rw [if_pos rfl, if_pos (by simpa using h1), List.getElem?_map, h]
  show some (key _) = some (key x)
  rw [hk]
 ·rw [if_neg hj]
theorem held_key {G : List S29} {q : S29} : held G q = true ↔ key q ∈ G.map key := by
 unfold held
 rw [List.any_eq_true, List.mem_map]
 constructor
 ·rintro ⟨x, hx, h⟩; exact ⟨x, hx, same3_key.1 h⟩
 ·rintro ⟨x, hx, h⟩; exact ⟨x, hx, same3_key.2 h⟩
theorem grant_ok {G : List S29} {l : S29} (hg : ∀ x ∈ G, okL x) (hl : okL l) (hn : (G.map key).Nodup) : (∀ x ∈ grantG G l, okL x) ∧ ((grantG G l).map key).Nodup ∧ (∀ q, held (grantG G l) q = true ↔ held G q = true ∨ key q = key l) ∧ (grantG G l).length = G.length + if held G l = true then 0 else 1 := by
 rcases grantG_cases G l with ⟨h1, h2⟩ | ⟨k, x, h1, h2, h3, h4⟩
 ·rw [h2, h1]
  refine ⟨fun x hx => ?_, ?_, fun q => ?_, by simp⟩
  ·rcases List.mem_append.1 hx with h | h
   ·exact hg x h
   ·rw [List.mem_singleton] at h; subst h; exact hl
  ·rw [List.map_append, List.nodup_append]
   refine ⟨hn, by simp, ?_⟩
   intro a ha b hb
   simp only [List.map_cons, List.map_nil, List.mem_singleton] at hb
   subst hb
   rintro rfl
   rw [held_key.2 ha] at h1
   cases h1
  ·rw [held_key, held_key, List.map_append, List.mem_append]
   simp
 ·rw [h4, h3]
  have hm := map_set_key h1 h2
  refine ⟨fun y hy => ?_, by rw [hm]; exact hn, fun q => ?_, by simp⟩
  ·rcases List.mem_or_eq_of_mem_set hy with h | h
   ·exact hg y h
   ·subst h; exact hl
  ·rw [held_key, held_key, hm]
   refine ⟨.inl, fun h => h.elim (fun h => h) fun h => ?_⟩
   rw [h, ← h2]; exact List.mem_map.2 ⟨x, List.mem_of_getElem? h1, rfl⟩
end Go.Proofs.Ytdiekinmoklonaa
end
section
namespace Go.Proofs.Ytdiekinmoklonaa
open Go.Ab Go.Rp

theorem bindO_go {β ρ : Type} (b : β) (k : β → Option ρ) : bindO (some (.go b)) k = k b := rfl
/-! ### validation, modes -/
def val (l : S29) : Int := if l.Tx < 0 ∨ 20 ≤ l.Tx then 1 else if l.Mode < 1 ∨ 4 < l.Mode ∨ (l.Key ≠ ByteArray.mk #[] ∧ 2 < l.Mode) ∨ l.Table = ByteArray.mk #[] then 3 else if 24 < (l.Table.size : Int) ∨ 24 < (l.Key.size : Int) then 2 else 0
theorem d14_ok (N : Nat) (l : S29) : d14 N l = some (val l) := by
 unfold d14 val
 by_cases h1 : l.Tx < 0 <;> by_cases h2 : 20 ≤ l.Tx <;> by_cases h3 : l.Mode < 1 <;> by_cases h4 : 4 < l.Mode <;> by_cases h5 : l.Key = ByteArray.mk #[] <;> by_cases h6 : 2 < l.Mode <;> by_cases h7 : l.Table = ByteArray.mk #[] <;> by_cases h8 : 24 < (l.Table.size : Int) <;> by_cases h9 : 24 < (l.Key.size : Int) <;> simp [h1, h2, h3, h4, h5, h6, h7, h8, h9, show (ByteArray.mk #[]).size = 0 from rfl]
theorem d10_ok (N : Nat) (a b c : Int) : d10 N a b c = some (decide (b ≤ a ∧ a ≤ c)) := by
 unfold d10
 by_cases h1 : b ≤ a <;> by_cases h2 : a ≤ c <;> simp [h1, h2]
theorem d23_ok (N : Nat) (l : S29) : d23 N l = some (val l) := by
 unfold d23 val
 rw [d10_ok, d10_ok]
 by_cases h1 : l.Tx < 0
 ·simp [h1, show ¬ 0 ≤ l.Tx from by omega]
 by_cases h2 : 20 ≤ l.Tx
 ·simp [h2, show ¬ l.Tx ≤ 19 from by omega]
 have h3 : (0 ≤ l.Tx ∧ l.Tx ≤ 19) := by omega
 by_cases h4 : 1 ≤ l.Mode ∧ l.Mode ≤ 4
 ·have a1 : ¬ l.Mode < 1 := by omega
  have a2 : ¬ 4 < l.Mode := by omega
  by_cases h5 : l.Key = ByteArray.mk #[] <;> by_cases h6 : 2 < l.Mode <;> by_cases h7 : l.Table = ByteArray.mk #[] <;> by_cases h8 : 24 < (l.Table.size : Int) <;> by_cases h9 : 24 < (l.Key.size : Int) <;> simp [h1, h2, h3, h4, h5, h6, h7, h8, h9, a1, a2, show (ByteArray.mk #[]).size = 0 from rfl]
 ·have : l.Mode < 1 ∨ 4 < l.Mode := by omega
  rcases this with h | h
  ·simp [h1, h2, h3, h4, h]
  ·simp [h1, h2, h3, h4, h]
theorem val_zero {l : S29} (h : val l = 0) : okL l ∧ (l.Key ≠ ByteArray.mk #[] → l.Mode ≤ 2) := by
 unfold val at h
 split at h
 ·cases h
 ·rename_i h1
  split at h
  ·cases h
  ·rename_i h2
   refine ⟨⟨by omega, by omega, by omega, by omega⟩, fun hk => ?_⟩
   have : ¬ 2 < l.Mode := fun hm => h2 (.inr (.inr (.inl ⟨hk, hm⟩)))
   omega

def cov (a b : Int) : Bool := decide (a = b) || (decide (a = 2) || decide (b = 3))
theorem d18_ok (N : Nat) (a b : Int) : d18 N a b = some (cov a b) := by
 unfold d18 cov
 by_cases h1 : a = b <;> by_cases h2 : a = 2 <;> by_cases h3 : b = 3 <;> simp [h1, h2, h3]
def sup (a b : Int) : Int := if cov a b = true then a else if cov b a = true then b else 2
theorem d19_ok (N : Nat) (a b : Int) : d19 N a b = some (sup a b) := by
 unfold d19 sup
 rw [d18_ok, d18_ok]
 cases cov a b <;> cases cov b a <;> rfl
theorem d24_ok {N : Nat} (hN : bigN N) {a b : Int} (ha : 0 ≤ a ∧ a ≤ 4) (hb : 1 ≤ b ∧ b ≤ 4) : d24 N a b = some (!decide (a = 0) && cov a b) := by
 have h1 : a = 0 ∨ a = 1 ∨ a = 2 ∨ a = 3 ∨ a = 4 := by omega
 have h2 : b = 1 ∨ b = 2 ∨ b = 3 ∨ b = 4 := by omega
 unfold d24
 simp only [letv_eq]
 rcases h2 with rfl | rfl | rfl | rfl
 ·rw [show idx ([[], [1, 2], [2], [1, 2, 3, 4], [2, 4]] : List (List Int)) 1 = some [1, 2] from rfl, Option.bind_some, d42_ok hN _ _ (by simp)]
  rcases h1 with rfl | rfl | rfl | rfl | rfl <;> rfl
 ·rw [show idx ([[], [1, 2], [2], [1, 2, 3, 4], [2, 4]] : List (List Int)) 2 = some [2] from rfl, Option.bind_some, d42_ok hN _ _ (by simp)]
  rcases h1 with rfl | rfl | rfl | rfl | rfl <;> rfl
 ·rw [show idx ([[], [1, 2], [2], [1, 2, 3, 4], [2, 4]] : List (List Int)) 3 = some [1, 2, 3, 4] from rfl, Option.bind_some, d42_ok hN _ _ (by simp)]
  rcases h1 with rfl | rfl | rfl | rfl | rfl <;> rfl
 ·rw [show idx ([[], [1, 2], [2], [1, 2, 3, 4], [2, 4]] : List (List Int)) 4 = some [2, 4] from rfl, Option.bind_some, d42_ok hN _ _ (by simp)]
  rcases h1 with rfl | rfl | rfl | rfl | rfl <;> rfl
def both (a b m : Int) : Bool := cov m a && cov m b
theorem d26_ok {N : Nat} (hN : bigN N) {a b : Int} (ha : 1 ≤ a ∧ a ≤ 4) (hb : 1 ≤ b ∧ b ≤ 4) (hc : cov a b = false) : d26 N a b = some (sup a b) := by
 have hN' : 9223372036854775808 ≤ N := hN
 unfold d26
 rw [letv_eq]
 refine bindO_eq (P := fun o => (o = .go () ∧ ([3, 1, 4, 2] : List Int).find? (both a b) = none) ∨ ∃ x, o = .ret x ∧ ([3, 1, 4, 2] : List Int).find? (both a b) = some x) (loop_idx (σ := Unit) (τ := Int) ([3, 1, 4, 2] : List Int).length (fun _ j => j) _ (fun k _ => ∀ x ∈ ([3, 1, 4, 2] : List Int).take k, both a b x = false) _ ?_ ?_ () (by simp) (n := N) (by simp; omega)) ?_ ?_
 ·intro k s hk hi
  obtain ⟨x, hx⟩ := get_of hk
  try dsimp only
  have hm : x = 3 ∨ x = 1 ∨ x = 4 ∨ x = 2 := by
   have := List.mem_of_getElem? hx
   simpa using this
  have hk4 : k < 4 := hk
  rw [if_pos (by omega), idx_nat hx, Option.bind_some]
  have e : ((d24 N x a).bind fun r46 => if r46 = true then (d24 N x b).bind fun r48 => some r48 else some false) = some (both a b x) := by
   rw [d24_ok hN (by omega) ha, d24_ok hN (by omega) hb]
   have : decide (x = 0) = false := by simp; omega
   rw [this]
   unfold both
   cases cov x a <;> cases cov x b <;> rfl
  rw [e, Option.bind_some]
  by_cases hf : both a b x = true
  ·rw [if_pos hf]
   refine .inr ⟨_, rfl, .inr ⟨x, rfl, ?_⟩⟩
   rw [List.find?_eq_some_iff_getElem]
   obtain ⟨h1, h2⟩ := List.getElem?_eq_some_iff.1 hx
   refine ⟨hf, k, h1, h2, fun j hj => ?_⟩
   have := hi ([3, 1, 4, 2] : List Int)[j] (List.mem_take_iff_getElem.2 ⟨j, by omega, rfl⟩)
   simp [this]
  ·rw [if_neg hf, chkI_of (by omega) (by omega), Option.bind_some]
   refine .inl ⟨(), rfl, fun y hy => ?_⟩
   rcases (mem_take_succ hx).1 hy with h | rfl
   ·exact hi y h
   ·simpa using hf
 ·intro s hi
  try dsimp only
  rw [if_neg (by omega)]
  refine ⟨_, rfl, .inl ⟨rfl, ?_⟩⟩
  rw [List.find?_eq_none]
  intro x hx
  simp [hi x (by simpa using hx)]
 ·rintro x (⟨h, _⟩ | ⟨k, h, h2⟩)
  ·cases h
  ·injection h with h; rw [h]
   have h1 : a = 1 ∨ a = 2 ∨ a = 3 ∨ a = 4 := by omega
   have h3 : b = 1 ∨ b = 2 ∨ b = 3 ∨ b = 4 := by omega
   rcases h1 with rfl | rfl | rfl | rfl <;> rcases h3 with rfl | rfl | rfl | rfl <;> first | (cases hc; done) | (injection h2 with h2; rw [← h2]; rfl)
 ·rintro x (⟨_, h⟩ | ⟨k, h, h2⟩)
  ·have h1 : a = 1 ∨ a = 2 ∨ a = 3 ∨ a = 4 := by omega
   have h3 : b = 1 ∨ b = 2 ∨ b = 3 ∨ b = 4 := by omega
   rcases h1 with rfl | rfl | rfl | rfl <;> rcases h3 with rfl | rfl | rfl | rfl <;> cases h
  ·cases h
theorem sup_range {a b : Int} (ha : 1 ≤ a ∧ a ≤ 4) (hb : 1 ≤ b ∧ b ≤ 4) : 1 ≤ sup a b ∧ sup a b ≤ 4 := by
 unfold sup
 split
 ·exact ha
 ·split
  ·exact hb
  ·omega

/-! ### a request -/
theorem findQ {N : Nat} (hN : bigN N) (Q : List S29) (t : Int) (R : S33 × Int) (hl : Q.length ≤ 1000) : ∃ o : Out Unit (S33 × Int), iterN (σ := Int) (ρ := (Out Unit (S33 × Int))) (fun (v7 : Int) =>
   if v7 < (Q.length : Int) then (
    (idx Q v7).bind fun x20 =>
    if (x20.Tx == t) then (
     some (.inr (.ret R))
    ) else
    (chkI (v7 + 1)).bind fun v23 =>
    some (.inl v23)
   ) else
   some (.inr (.go ()))
  ) N 0 = some o ∧ ((o = .ret R ∧ Q.any (fun q => q.Tx == t) = true) ∨ (o = .go () ∧ Q.any (fun q => q.Tx == t) = false)) := by
 have hN' : 9223372036854775808 ≤ N := hN
 refine loop_idx (σ := Unit) (τ := Int) Q.length (fun _ j => j) _ (fun k _ => ∀ q ∈ Q.take k, (q.Tx == t) = false) _ ?_ ?_ () (by simp) (n := N) (by omega)
 ·intro k s hk hi
  obtain ⟨x, hx⟩ := get_of hk
  try dsimp only
  rw [if_pos (by omega), idx_nat hx, Option.bind_some]
  by_cases hf : (x.Tx == t) = true
  ·rw [if_pos hf]
   exact .inr ⟨_, rfl, .inl ⟨rfl, List.any_eq_true.2 ⟨x, List.mem_of_getElem? hx, hf⟩⟩⟩
  ·rw [if_neg hf, chkI_of (by omega) (by omega), Option.bind_some]
   refine .inl ⟨(), rfl, fun y hy => ?_⟩
   rcases (mem_take_succ hx).1 hy with h | rfl
   ·exact hi y h
   ·simpa using hf
 ·intro s hi
  try dsimp only
  rw [if_neg (by omega)]
  refine ⟨_, rfl, .inr ⟨rfl, ?_⟩⟩
  rw [List.any_eq_false]
  intro x hx
  have := hi x (by simpa using hx)
  simpa using this

theorem countP_append_le {α : Type} (p : α → Bool) (xs : List α) (x : α) : (xs ++ [x]).countP p = xs.countP p + if p x = true then 1 else 0 := by
 rw [List.countP_append, List.countP_cons, List.countP_nil, Nat.zero_add]

theorem finish_ok {N : Nat} (hN : bigN N) {G Q : List S29} (h : Ok G Q) (l : S29) (hl : okL l) (hq : ∀ q ∈ Q, q.Tx ≠ l.Tx) (hc : held G l = true ∨ G.length + Q.length < 200) : ∃ G' Q' e,
  ((d20 N (S48.mk G Q) l (Q.length : Int)).bind fun r41 =>
   if ((r41.length : Int) == 0) = true then (d21 N (S48.mk G Q) l).bind fun r43 => some (r43, (0 : Int))
   else (d22 N (S48.mk G Q) r41 l.Tx).bind fun r44 => if r44 = true then some (S48.mk G Q, 14) else (appL 48 Q [l]).bind fun _ => some (S48.mk G (Q ++ [l]), 16)) = some (S48.mk G' Q', e) ∧
  ((d27 N (S33.mk G Q) l (Q.length : Int)).bind fun r46 =>
   if ((r46.length : Int) == 0) = true then (d28 N (S33.mk G Q) l).bind fun r48 => some (r48, (0 : Int))
   else (d29 N (S33.mk G Q) r46 l.Tx).bind fun r49 => if r49 = true then some (S33.mk G Q, 14) else (appL 48 Q [l]).bind fun _ => some (S33.mk G (Q ++ [l]), 16)) = some (S33.mk G' Q', e) ∧ Ok G' Q' := by
 have hgl := h.glen
 have hql := h.qlen
 have hsz := h.sz
 have hgo : ∀ x ∈ G, okL x := fun x hx => h.ok x (List.mem_append.2 (.inl hx))
 rw [d20_ok hN G Q l Q.length (Nat.le_refl _) h.ok hsz, d27_ok hN G Q l Q.length (Nat.le_refl _) ⟨hl.2.2.1, hl.2.2.2⟩ h.ok hsz, Option.bind_some, Option.bind_some, List.take_length]
 have hB : ∀ t ∈ blk (G ++ Q) l, 0 ≤ t ∧ t < 20 := fun t ht => (mem_blk.1 ht).1
 have hBl := blk_len (G ++ Q) l
 generalize blk (G ++ Q) l = B at hB hBl
 by_cases hb : B.length = 0
 ·have : ((B.length : Int) == 0) = true := by simpa using hb
  rw [if_pos this, if_pos this, d21_ok hN G Q l (by omega), d28_ok hN G Q l (by omega), Option.bind_some, Option.bind_some]
  obtain ⟨g1, g2, g3, g4⟩ := grant_ok hgo hl h.gnd
  refine ⟨_, Q, 0, rfl, rfl, ⟨fun x hx => ?_, g2, h.qnd, ?_⟩⟩
  ·rcases List.mem_append.1 hx with hx | hx
   ·exact g1 x hx
   ·exact h.ok x (List.mem_append.2 (.inr hx))
  ·have hm : Q.countP (fun q => !held (grantG G l) q) ≤ Q.countP (fun q => !held G q) := List.countP_mono_left fun q _ hq' => by
    cases hh : held G q with
    | false => rfl
    | true => rw [(g3 q).2 (.inl hh)] at hq'; simp at hq'
   have := h.len
   rw [g4]
   by_cases hh : held G l = true
   ·rw [if_pos hh]; omega
   ·rw [if_neg hh]
    have h2 := hc.resolve_left hh
    have h3 : Q.countP (fun q => !held (grantG G l) q) ≤ Q.length := List.countP_le_length
    omega
 ·have : ¬ ((B.length : Int) == 0) = true := by simpa using hb
  rw [if_neg this, if_neg this]
  obtain ⟨r, hr, hr2⟩ := d22_ok hN h.ok hsz hql hB hBl l.Tx
  obtain ⟨r', hr', hr2'⟩ := d29_ok hN h.ok hsz hql hB hBl l.Tx
  have hrr : r = r' := by rw [Bool.eq_iff_iff, hr2, hr2']
  subst hrr
  rw [hr, hr', Option.bind_some, Option.bind_some]
  by_cases hrt : r = true
  ·rw [if_pos hrt, if_pos hrt]
   exact ⟨G, Q, _, rfl, rfl, h⟩
  ·rw [if_neg hrt, if_neg hrt, appL_of (by simp [reach]; omega), Option.bind_some, Option.bind_some]
   refine ⟨G, Q ++ [l], _, rfl, rfl, ⟨fun x hx => ?_, h.gnd, ?_, ?_⟩⟩
   ·rcases List.mem_append.1 hx with hx | hx
    ·exact hgo x hx
    ·rcases List.mem_append.1 hx with hx | hx
     ·exact h.ok x (List.mem_append.2 (.inr hx))
     ·rw [List.mem_singleton] at hx; subst hx; exact hl
   ·rw [List.map_append, List.nodup_append]
    refine ⟨h.qnd, by simp, ?_⟩
    intro a ha b hb'
    simp only [List.map_cons, List.map_nil, List.mem_singleton] at hb'
    subst hb'
    obtain ⟨q, hq', rfl⟩ := List.mem_map.1 ha
    exact hq q hq'
   ·have := h.len
    rw [countP_append_le]
    by_cases hh : held G l = true
    ·rw [if_neg (by simp [hh])]; omega
    ·have h2 := hc.resolve_left hh
     have h3 : Q.countP (fun q => !held G q) ≤ Q.length := List.countP_le_length
     split <;> omega

theorem acquire_ok {N : Nat} (hN : bigN N) {G Q : List S29} (h : Ok G Q) (l : S29) : ∃ G' Q' e, d5 N ⟨G, Q⟩ l = some (⟨G', Q'⟩, e) ∧ d8 N ⟨G, Q⟩ l = some (⟨G', Q'⟩, e) ∧ Ok G' Q' := by
 have hN' : 9223372036854775808 ≤ N := hN
 have hgl := h.glen
 have hql := h.qlen
 have hsz := h.sz
 unfold d5 d8
 dsimp only
 rw [d14_ok, d23_ok, Option.bind_some, Option.bind_some]
 by_cases hv : val l = 0
 case neg =>
  have : (val l != 0) = true := by simpa using hv
  rw [if_pos this, if_pos this]
  exact ⟨G, Q, _, rfl, rfl, h⟩
 have hv' : ¬ (val l != 0) = true := by simp [hv]
 rw [if_neg hv', if_neg hv']
 obtain ⟨hlo, hkm⟩ := val_zero hv
 have hgo : ∀ x ∈ G, okL x := fun x hx => h.ok x (List.mem_append.2 (.inl hx))
 rw [d15_ok hN Q (fun b0 => d16 N b0 l) (fun q => q.Tx == l.Tx) (fun x => rfl) (by omega), Option.bind_some]
 obtain ⟨o, ho, ho2⟩ := findQ hN Q l.Tx (⟨G, Q⟩, 15) (by omega)
 rw [ho]
 rcases ho2 with ⟨rfl, hany⟩ | ⟨rfl, hany⟩
 ·rw [if_pos hany]
  exact ⟨G, Q, _, rfl, rfl, h⟩
 rw [hany, if_neg (by simp)]
 show ∃ G' Q' e, _ ∧ Option.bind _ _ = _ ∧ _
 have hqn : ∀ q ∈ Q, q.Tx ≠ l.Tx := fun q hq => by
  rw [List.any_eq_false] at hany
  simpa using hany q hq
 obtain ⟨hl1, hl2, hl3, hl4⟩ := hlo
 -- the intention
 have hX : ∃ kf : Bool, (if (!decide (l.Key = (ByteArray.mk #[]))) = true then (
   (chkI (l.Mode + 3)).bind fun v16 =>
   (chkI (v16 - 1)).bind fun v17 =>
   (d17 N (S48.mk G Q) (S29.mk l.Tx l.Table (ByteArray.mk #[]) v17)).bind fun r18 =>
   Option.bind (α := Bool) (
    if (r18 == 0) = true then (
     some true
    ) else
    (d18 N r18 v17).bind fun r23 =>
    some (!r23)
   ) fun (v21 : Bool) =>
   if v21 = true then (
    some (.ret (S48.mk G Q, 6))
   ) else
   some (.go ())
  ) else
  some (.go ())) = some (if kf = true then Out.ret (S48.mk G Q, (6 : Int)) else Out.go ()) ∧ (if (!decide (l.Key = (ByteArray.mk #[]))) = true then (
   (d25 N (S33.mk G Q) l.Tx l.Table (ByteArray.mk #[])).bind fun r30 =>
   (chkI (l.Mode + 2)).bind fun v31 =>
   (d24 N r30 v31).bind fun r32 =>
   some (!r32)
  ) else
  some false) = some kf := by
  by_cases hk : l.Key = ByteArray.mk #[]
  ·refine ⟨false, ?_⟩
   have e : (!decide (l.Key = ByteArray.mk #[])) = false := by simp [hk]
   rw [e]
   exact ⟨rfl, rfl⟩
  ·have hm2 := hkm hk
   have e : (!decide (l.Key = ByteArray.mk #[])) = true := by simp [hk]
   rw [e, if_pos rfl, if_pos rfl, chkI_of (by omega) (by omega), Option.bind_some, show l.Mode + 3 - 1 = l.Mode + 2 from by omega, chkI_of (by omega) (by omega), Option.bind_some, d17_ok hN G Q _ (by omega), d25_ok hN G Q _ _ _ (by omega)]
   simp only [Option.bind_some]
   generalize hh1 : modeG G l.Tx l.Table (ByteArray.mk #[]) = h1
   have hr := modeG_range hgo l.Tx l.Table (ByteArray.mk #[])
   rw [hh1] at hr
   rw [d24_ok hN (by omega) (by omega), Option.bind_some, d18_ok, Option.bind_some]
   refine ⟨_, ?_, rfl⟩
   by_cases h0 : h1 = 0
   ·simp [h0]
   ·rw [if_neg (by simpa using h0), Option.bind_some]
    cases hcv : cov h1 (l.Mode + 2) <;> simp [h0]
 obtain ⟨kf, hX1, hX2⟩ := hX
 rw [hX1, hX2, Option.bind_some]
 by_cases hkf : kf = true
 ·rw [if_pos hkf, if_pos hkf]
  exact ⟨G, Q, _, rfl, rfl, h⟩
 rw [if_neg hkf, if_neg hkf]
 show ∃ G' Q' e, Option.bind _ _ = _ ∧ _ ∧ _
 rw [d17_ok hN G Q l (by omega), d25_ok hN G Q _ _ _ (by omega), Option.bind_some, Option.bind_some]
 have hr := modeG_range hgo l.Tx l.Table l.Key
 generalize modeG G l.Tx l.Table l.Key = hd at hr
 rw [d24_ok hN (by omega) (by omega), Option.bind_some]
 rcases hr with ⟨rfl, hnh⟩ | ⟨hd1, hd2, hh⟩
 ·rw [if_neg (show ¬ (0 : Int) > 0 from by omega), if_neg (show ¬ (!decide ((0 : Int) = 0) && cov 0 l.Mode) = true by simp), if_neg (show ¬ (0 : Int) > 0 from by omega), chkI_of (by omega) (by omega), Option.bind_some]
  rw [bindO_go]
  rw [if_pos (show ((0 : Int) == 0) = true from rfl), Option.bind_some, Option.bind_some]
  by_cases h200 : (G.length : Int) + (Q.length : Int) ≥ 200
  ·rw [if_pos (show decide ((G.length : Int) + (Q.length : Int) ≥ 200) = true by simpa using h200), if_pos h200]
   exact ⟨G, Q, _, rfl, rfl, h⟩
  ·rw [if_neg (show ¬ decide ((G.length : Int) + (Q.length : Int) ≥ 200) = true by simpa using h200), if_neg h200]
   exact finish_ok hN h l ⟨hl1, hl2, hl3, hl4⟩ hqn (.inr (by omega))
 ·rw [if_pos (show hd > 0 from by omega), d18_ok, Option.bind_some]
  have hne : decide (hd = 0) = false := by simp; omega
  rw [hne, Bool.not_false, Bool.true_and]
  by_cases hcv : cov hd l.Mode = true
  ·rw [if_pos hcv, if_pos hcv]
   exact ⟨G, Q, _, rfl, rfl, h⟩
  ·rw [if_neg hcv, if_neg hcv, if_pos (show hd > 0 from by omega), d19_ok, d26_ok hN ⟨hd1, hd2⟩ ⟨hl3, hl4⟩ (by simpa using hcv), Option.bind_some, Option.bind_some]
   have hsr := sup_range (a := hd) (b := l.Mode) ⟨hd1, hd2⟩ ⟨hl3, hl4⟩
   rw [bindO_go]
   rw [if_neg (show ¬ (hd == 0) = true by simp; omega), Option.bind_some, if_neg (show ¬ false = true by simp)]
   exact finish_ok hN h ⟨l.Tx, l.Table, l.Key, sup hd l.Mode⟩ ⟨hl1, hl2, hsr⟩ hqn (.inl hh)
end Go.Proofs.Ytdiekinmoklonaa
end
section
namespace Go.Proofs.Ytdiekinmoklonaa
open Go.Ab Go.Rp

/-- what a release does with the queue -/
def relL (G D : List S29) (R : List Int) : List S29 → List S29 × List S29 × List Int
 | [] => (G, D, R)
 | q :: rest => if (blk (G ++ D) q).length = 0 then relL (grantG G q) D (R ++ [q.Tx]) rest else relL G (D ++ [q]) R rest

theorem Ok.grant {G D rest : List S29} {q : S29} (h : Ok G (D ++ q :: rest)) : Ok (grantG G q) (D ++ rest) := by
 have hq : okL q := h.ok q (by simp)
 obtain ⟨g1, g2, g3, g4⟩ := grant_ok (fun x hx => h.ok x (List.mem_append.2 (.inl hx))) hq h.gnd
 have hsub : (D ++ rest).Sublist (D ++ q :: rest) := (List.Sublist.refl D).append (List.sublist_cons_self q rest)
 refine ⟨fun x hx => ?_, g2, h.qnd.sublist (hsub.map _), ?_⟩
 ·rcases List.mem_append.1 hx with hx | hx
  ·exact g1 x hx
  ·exact h.ok x (List.mem_append.2 (.inr (hsub.subset hx)))
 ·have hm : (D ++ rest).countP (fun q => !held (grantG G q) q) ≤ (D ++ rest).countP (fun q => !held G q) := List.countP_mono_left fun x _ hx => by
   cases hh : held G x with
   | false => rfl
   | true =>
    obtain ⟨a1, a2, a3, a4⟩ := grant_ok (l := x) (fun x hx => h.ok x (List.mem_append.2 (.inl hx))) (h.ok x (by
     rename_i hmem
     exact List.mem_append.2 (.inr (hsub.subset hmem)))) h.gnd
    rw [(a3 x).2 (.inl hh)] at hx; simp at hx
  have hm : (D ++ rest).countP (fun x => !held (grantG G q) x) ≤ (D ++ rest).countP (fun q => !held G q) := List.countP_mono_left fun x _ hx => by
   cases hh : held G x with
   | false => rfl
   | true => rw [(g3 x).2 (.inl hh)] at hx; simp at hx
  have hl := h.len
  rw [List.countP_append, List.countP_cons] at hl
  rw [List.countP_append] at hm
  rw [List.countP_append] at hm
  rw [g4, List.countP_append]
  by_cases hh : held G q = true
  ·rw [if_pos hh]
   omega
  ·rw [if_neg hh]
   rw [if_pos (by simpa using hh)] at hl
   omega

theorem loopP {N : Nat} (hN : bigN N) : ∀ (rest G D : List S29) (R : List Int) (n : Nat), Ok G (D ++ rest) → R.length + rest.length ≤ 20 → rest.length < n →
  iterN (σ := ((List S29) × (List S29) × (List Int) × Int)) (ρ := ((List Int) × (List S29) × (List S29))) (fun ((l16, l17, l18, v19) : ((List S29) × (List S29) × (List Int) × Int)) =>
   if v19 < (l17.length : Int) then (
    (idx l17 v19).bind fun x48 =>
    (d20 N (S48.mk l16 l17) x48 v19).bind fun r50 =>
    if (r50.length : Int) > 0 then (
     (chkI (v19 + 1)).bind fun v52 =>
     some (.inl (l16, l17, l18, v52))
    ) else
    (d21 N (S48.mk l16 l17) x48).bind fun r53 =>
    (chkI (v19 + 1)).bind fun v54 =>
    (d32 N r53.queue v19 v54).bind fun l55 =>
    (appL 8 l18 [x48.Tx]).bind fun _l56 =>
    some (.inl (r53.granted, l55, (l18 ++ [x48.Tx]), v19))
   ) else
   some (.inr (l18, l16, l17))) n (G, D ++ rest, R, (D.length : Int)) = some ((relL G D R rest).2.2, (relL G D R rest).1, (relL G D R rest).2.1)
 | [], G, D, R, n, h, hR, hn => by
  obtain ⟨n, rfl⟩ : ∃ m, n = m + 1 := ⟨n - 1, by omega⟩
  rw [iterN_succ]
  dsimp only
  rw [List.append_nil, if_neg (by omega)]
  rfl
 | q :: rest, G, D, R, n, h, hR, hn => by
  simp only [List.length_cons] at hR hn
  obtain ⟨n, rfl⟩ : ∃ m, n = m + 1 := ⟨n - 1, by omega⟩
  have hql := h.qlen
  have hgl := h.glen
  have hsz := h.sz
  rw [List.length_append, List.length_cons] at hql
  rw [iterN_succ]
  dsimp only
  have hx : (D ++ q :: rest)[D.length]? = some q := by simp
  rw [if_pos (by rw [List.length_append, List.length_cons]; omega), idx_nat hx, Option.bind_some, d20_ok hN G (D ++ q :: rest) q D.length (by simp) h.ok hsz, Option.bind_some, List.take_left' rfl]
  by_cases hb : (blk (G ++ D) q).length = 0
  ·rw [if_neg (by omega), d21_ok hN G _ q (by omega), Option.bind_some, chkI_of (by omega) (by omega), Option.bind_some]
   have hd : d32 N (D ++ q :: rest) (D.length : Int) ((D.length : Int) + 1) = some (D ++ rest) := by
    unfold d32 delL
    rw [if_pos (by refine ⟨by omega, by omega, ?_⟩; rw [List.length_append, List.length_cons]; omega)]
    congr 1
    rw [show ((D.length : Int) + 1).toNat = D.length + 1 from by omega, Int.toNat_natCast, List.take_left' rfl]
    rw [show D ++ q :: rest = (D ++ [q]) ++ rest by simp, List.drop_left' (by simp)]
   rw [hd, Option.bind_some, appL_of (by simp [reach]; omega), Option.bind_some]
   dsimp only
   rw [loopP hN rest (grantG G q) D (R ++ [q.Tx]) n h.grant (by simp; omega) (by omega)]
   conv => rhs; unfold relL
   rw [if_pos hb]
  ·rw [if_pos (by omega), chkI_of (by omega) (by omega), Option.bind_some]
   dsimp only
   have e : D ++ q :: rest = (D ++ [q]) ++ rest := by simp
   have e2 : ((D.length : Int) + 1) = ((D ++ [q]).length : Int) := by simp
   rw [e] at h ⊢
   rw [e2, loopP hN rest G (D ++ [q]) R n h (by omega) (by omega)]
   conv => rhs; unfold relL
   rw [if_neg hb]

theorem loopR {N : Nat} (hN : bigN N) (Q : List S29) (tx : Int) (hQ : Q.length ≤ 20) : ∀ (rest : List S29) (k : Nat) (G D : List S29) (R : List Int) (n : Nat), Q.drop k = rest → Ok G (D ++ rest.filter (fun q => !(q.Tx == tx))) → R.length + rest.length ≤ 20 → rest.length < n →
  iterN (σ := ((List S29) × (List S29) × (List Int) × Int)) (ρ := ((List Int) × (List S29) × (List S29))) (fun ((l45, l46, l47, v48) : ((List S29) × (List S29) × (List Int) × Int)) =>
   if v48 < (Q.length : Int) then (
    (idx Q v48).bind fun x81 =>
    if (x81.Tx == tx) then (
     (chkI (v48 + 1)).bind fun v84 =>
     some (.inl (l45, l46, l47, v84))
    ) else
    (d27 N (S33.mk l45 l46) x81 (l46.length : Int)).bind fun r85 =>
    if ((r85.length : Int) == 0) then (
     (d28 N (S33.mk l45 l46) x81).bind fun r87 =>
     (appL 8 l47 [x81.Tx]).bind fun _l88 =>
     (chkI (v48 + 1)).bind fun v89 =>
     some (.inl (r87.Granted, r87.Queue, (l47 ++ [x81.Tx]), v89))
    ) else
    (appL 48 l46 [x81]).bind fun _l90 =>
    (chkI (v48 + 1)).bind fun v91 =>
    some (.inl (l45, (l46 ++ [x81]), l47, v91))
   ) else
   some (.inr (l47, l45, l46))) n (G, D, R, (k : Int)) = some ((relL G D R (rest.filter (fun q => !(q.Tx == tx)))).2.2, (relL G D R (rest.filter (fun q => !(q.Tx == tx)))).1, (relL G D R (rest.filter (fun q => !(q.Tx == tx)))).2.1)
 | [], k, G, D, R, n, hk, h, hR, hn => by
  obtain ⟨n, rfl⟩ : ∃ m, n = m + 1 := ⟨n - 1, by omega⟩
  rw [iterN_succ]
  dsimp only
  have := List.drop_eq_nil_iff.1 hk
  rw [if_neg (by omega)]
  rfl
 | q :: rest, k, G, D, R, n, hk, h, hR, hn => by
  simp only [List.length_cons] at hR hn
  obtain ⟨n, rfl⟩ : ∃ m, n = m + 1 := ⟨n - 1, by omega⟩
  have hkl : k < Q.length := by
   rcases Nat.lt_or_ge k Q.length with h' | h'
   ·exact h'
   ·rw [List.drop_eq_nil_of_le h'] at hk; cases hk
  have hqk : Q[k]? = some q := by
   have := congrArg (fun l => l[0]?) hk
   simpa using this
  have hk' : Q.drop (k + 1) = rest := by
   rw [List.drop_eq_getElem_cons hkl] at hk
   exact (List.cons.inj hk).2
  have hql := h.qlen
  have hgl := h.glen
  have hsz := h.sz
  rw [List.length_append] at hql
  rw [iterN_succ]
  dsimp only
  rw [if_pos (by omega), idx_nat hqk, Option.bind_some]
  by_cases ht : (q.Tx == tx) = true
  ·rw [if_pos ht, chkI_of (by omega) (by omega), Option.bind_some]
   dsimp only
   have ef : (q :: rest).filter (fun q => !(q.Tx == tx)) = rest.filter (fun q => !(q.Tx == tx)) := List.filter_cons_of_neg (by simp [ht])
   rw [ef] at h ⊢
   have := loopR hN Q tx hQ rest (k + 1) G D R n hk' h (by omega) (by omega)
   rw [show ((k : Int) + 1) = ((k + 1 : Nat) : Int) from by omega]
   exact this
  ·rw [if_neg ht]
   have ef : (q :: rest).filter (fun q => !(q.Tx == tx)) = q :: rest.filter (fun q => !(q.Tx == tx)) := List.filter_cons_of_pos (by simpa using ht)
   rw [ef] at h hql hsz ⊢
   simp only [List.length_cons] at hql
   have hqo := h.ok q (by simp)
   have hokD : ∀ x ∈ G ++ D, okL x := fun x hx => h.ok x (by
    rcases List.mem_append.1 hx with hx | hx
    ·exact List.mem_append.2 (.inl hx)
    ·exact List.mem_append.2 (.inr (List.mem_append.2 (.inl hx))))
   rw [d27_ok hN G D q D.length (Nat.le_refl _) ⟨hqo.2.2.1, hqo.2.2.2⟩ hokD (by omega), Option.bind_some, List.take_length]
   by_cases hb : (blk (G ++ D) q).length = 0
   ·rw [if_pos (by simpa using hb), d28_ok hN G D q (by omega), Option.bind_some, appL_of (by simp [reach]; omega), Option.bind_some, chkI_of (by omega) (by omega), Option.bind_some]
    dsimp only
    rw [show ((k : Int) + 1) = ((k + 1 : Nat) : Int) from by omega, loopR hN Q tx hQ rest (k + 1) (grantG G q) D (R ++ [q.Tx]) n hk' h.grant (by simp; omega) (by omega)]
    conv => rhs; unfold relL
    rw [if_pos hb]
   ·rw [if_neg (by simpa using hb), appL_of (by simp [reach]; omega), Option.bind_some, chkI_of (by omega) (by omega), Option.bind_some]
    dsimp only
    have e : D ++ q :: rest.filter (fun q => !(q.Tx == tx)) = (D ++ [q]) ++ rest.filter (fun q => !(q.Tx == tx)) := by simp
    rw [e] at h
    rw [show ((k : Int) + 1) = ((k + 1 : Nat) : Int) from by omega, loopR hN Q tx hQ rest (k + 1) G (D ++ [q]) R n hk' h (by omega) (by omega)]
    conv => rhs; unfold relL
    rw [if_neg hb]

theorem relL_ok : ∀ (rest G D : List S29) (R : List Int), Ok G (D ++ rest) → Ok (relL G D R rest).1 (relL G D R rest).2.1 ∧ (relL G D R rest).2.2.length ≤ R.length + rest.length
 | [], G, D, R, h => ⟨by simpa [relL] using h, by simp [relL]⟩
 | q :: rest, G, D, R, h => by
  unfold relL
  split
  ·obtain ⟨h1, h2⟩ := relL_ok rest (grantG G q) D (R ++ [q.Tx]) h.grant
   refine ⟨h1, ?_⟩
   simp only [List.length_append, List.length_cons, List.length_nil] at h2 ⊢
   omega
  ·obtain ⟨h1, h2⟩ := relL_ok rest G (D ++ [q]) R (by simpa using h)
   refine ⟨h1, ?_⟩
   simp only [List.length_cons]
   omega

theorem Ok.without {G Q : List S29} (h : Ok G Q) (tx : Int) : Ok (G.filter (fun q => !(q.Tx == tx))) (Q.filter (fun q => !(q.Tx == tx))) := by
 refine ⟨fun x hx => h.ok x ?_, h.gnd.sublist (List.filter_sublist.map _), h.qnd.sublist (List.filter_sublist.map _), ?_⟩
 ·rcases List.mem_append.1 hx with hx | hx
  ·exact List.mem_append.2 (.inl ((List.mem_filter.1 hx).1))
  ·exact List.mem_append.2 (.inr ((List.mem_filter.1 hx).1))
 ·have h1 : (G.filter (fun q => !(q.Tx == tx))).length ≤ G.length := List.length_filter_le _ _
  have h2 : (Q.filter (fun q => !(q.Tx == tx))).countP (fun q => !held (G.filter (fun q => !(q.Tx == tx))) q) ≤ (Q.filter (fun q => !(q.Tx == tx))).countP (fun q => !held G q) := List.countP_mono_left fun x hx hx' => by
   cases hh : held G x with
   | false => rfl
   | true =>
    exfalso
    rw [held_key, List.mem_map] at hh
    obtain ⟨y, hy, hk⟩ := hh
    have : held (G.filter (fun q => !(q.Tx == tx))) x = true := by
     rw [held_key, List.mem_map]
     refine ⟨y, List.mem_filter.2 ⟨hy, ?_⟩, hk⟩
     have e : y.Tx = x.Tx := congrArg Prod.fst hk
     rw [e]
     exact (List.mem_filter.1 hx).2
    rw [this] at hx'
    simp at hx'
  have h3 : (Q.filter (fun q => !(q.Tx == tx))).countP (fun q => !held G q) ≤ Q.countP (fun q => !held G q) := List.Sublist.countP_le List.filter_sublist
  have := h.len
  omega

theorem release_ok {N : Nat} (hN : bigN N) {G Q : List S29} (h : Ok G Q) (tx : Int) (ht : 0 ≤ tx ∧ tx < 20) : ∃ G' Q' R, d9 N ⟨G, Q⟩ tx = some (⟨G', Q'⟩, R, 0) ∧ d12 N ⟨G, Q⟩ tx = some (⟨G', Q'⟩, R) ∧ Ok G' Q' ∧ R.length ≤ 20 := by
 have hN' : 9223372036854775808 ≤ N := hN
 have hgl := h.glen
 have hql := h.qlen
 have hw := h.without tx
 have hQf : (Q.filter (fun q => !(q.Tx == tx))).length ≤ Q.length := List.length_filter_le _ _
 have e9 : d9 N ⟨G, Q⟩ tx = some (⟨(relL (G.filter (fun q => !(q.Tx == tx))) [] [] (Q.filter (fun q => !(q.Tx == tx)))).1, (relL (G.filter (fun q => !(q.Tx == tx))) [] [] (Q.filter (fun q => !(q.Tx == tx)))).2.1⟩, (relL (G.filter (fun q => !(q.Tx == tx))) [] [] (Q.filter (fun q => !(q.Tx == tx)))).2.2, 0) := by
  unfold d9
  rw [if_neg (by omega), Option.bind_some, if_neg (by simp; omega), d31_ok hN G (fun q => q.Tx == tx) (fun b0 => d30 N b0 tx) (fun x => rfl) (by omega), d31_ok hN Q (fun q => q.Tx == tx) (fun b0 => d30 N b0 tx) (fun x => rfl) (by omega), Option.bind_some, Option.bind_some]
  refine bind_eq (P := fun r => r = _) ⟨_, loopP hN _ _ [] [] N (by simpa using hw) (by simp; omega) (by omega), rfl⟩ ?_
  rintro _ rfl
  rfl
 have e12 : d12 N ⟨G, Q⟩ tx = some (⟨(relL (G.filter (fun q => !(q.Tx == tx))) [] [] (Q.filter (fun q => !(q.Tx == tx)))).1, (relL (G.filter (fun q => !(q.Tx == tx))) [] [] (Q.filter (fun q => !(q.Tx == tx)))).2.1⟩, (relL (G.filter (fun q => !(q.Tx == tx))) [] [] (Q.filter (fun q => !(q.Tx == tx)))).2.2) := by
  unfold d12
  refine bind_eq (P := fun l => l = G.filter (fun q => !(q.Tx == tx))) (loop_idx (σ := List S29) (τ := List S29 × Int) G.length (fun s j => (s, j)) _ (fun k s => s = (G.take k).filter (fun q => !(q.Tx == tx)) ∧ s.length ≤ k) _ ?_ ?_ [] ⟨by simp, by simp⟩ (n := N) (by omega)) ?_
  ·rintro k s hk ⟨hs, hsl⟩
   obtain ⟨x, hx⟩ := get_of hk
   refine .inl ?_
   dsimp only
   rw [if_pos (by omega), idx_nat hx, Option.bind_some]
   have e : (G.take (k + 1)).filter (fun q => !(q.Tx == tx)) = (G.take k).filter (fun q => !(q.Tx == tx)) ++ if (!(x.Tx == tx)) = true then [x] else [] := by
    rw [List.take_add_one, hx, List.filter_append]
    congr 1
    simp [List.filter_cons]
   by_cases hc : (x.Tx == tx) = true
   ·rw [if_neg (by simpa using hc), chkI_of (by omega) (by omega), Option.bind_some]
    exact ⟨_, rfl, by rw [e, if_neg (by simp [hc]), List.append_nil]; exact hs, by omega⟩
   ·rw [if_pos (by simpa using hc), appL_of (by simp [reach]; omega), Option.bind_some, chkI_of (by omega) (by omega), Option.bind_some]
    exact ⟨_, rfl, by rw [e, if_pos (by simpa using hc), hs], by simp; omega⟩
  ·rintro s ⟨hs, _⟩
   dsimp only
   rw [if_neg (by omega)]
   exact ⟨_, rfl, by rw [hs, List.take_length]⟩
  ·rintro s rfl
   refine bind_eq (P := fun r => r = _) ⟨_, loopR hN Q tx hql Q 0 (G.filter (fun q => !(q.Tx == tx))) [] [] N (by simp) (by simpa using hw) (by simp; omega) (by omega), rfl⟩ ?_
   rintro _ rfl
   rfl
 refine ⟨_, _, _, e9, e12, (relL_ok _ _ [] [] (by simpa using hw)).1, ?_⟩
 ·have := (relL_ok (Q.filter (fun q => !(q.Tx == tx))) (G.filter (fun q => !(q.Tx == tx))) [] [] (by simpa using hw)).2
  simp only [List.length_nil, Nat.zero_add] at this
  omega
end Go.Proofs.Ytdiekinmoklonaa
end
section
namespace Go.Proofs.Ytdiekinmoklonaa
open Go.Ab Go.Rp

theorem cmpL : ∀ (x y : List UInt8), (Lib.compareBytes x y < 0 ↔ x < y) ∧ (Lib.compareBytes x y = 0 ↔ x = y)
 | [], [] => by simp [Lib.compareBytes]
 | [], _ :: _ => by simp [Lib.compareBytes]
 | _ :: _, [] => by simp [Lib.compareBytes]
 | a :: x, b :: y => by
  obtain ⟨h1, h2⟩ := cmpL x y
  unfold Lib.compareBytes
  rw [List.cons_lt_cons_iff]
  by_cases hab : a < b
  ·rw [if_pos hab]
   refine ⟨by simp [hab], ⟨fun h => (by cases h), fun h => ?_⟩⟩
   injection h with h3 h4
   subst h3
   exact absurd hab (UInt8.lt_irrefl a)
  ·rw [if_neg hab]
   by_cases hba : b < a
   ·rw [if_pos hba]
    have hne : a ≠ b := fun e => UInt8.lt_irrefl a (by rw [e] at hba ⊢; exact hba)
    refine ⟨⟨fun h => (by omega), fun h => ?_⟩, ⟨fun h => (by cases h), fun h => ?_⟩⟩
    ·rcases h with h | ⟨h, _⟩
     ·exact absurd h hab
     ·exact absurd h hne
    ·injection h with h3 h4
     exact absurd h3 hne
   ·rw [if_neg hba]
    have he : a = b := by
     apply UInt8.toNat_inj.1
     have a1 : ¬ a.toNat < b.toNat := fun h => hab (UInt8.lt_iff_toNat_lt.2 h)
     have a2 : ¬ b.toNat < a.toNat := fun h => hba (UInt8.lt_iff_toNat_lt.2 h)
     omega
    subst he
    refine ⟨⟨fun h => .inr ⟨rfl, h1.1 h⟩, fun h => h1.2 ?_⟩, ⟨fun h => (by rw [h2.1 h]), fun h => h2.2 ?_⟩⟩
    ·rcases h with h | ⟨_, h⟩
     ·exact absurd h hab
     ·exact h
    ·injection h

abbrev bs (s : ByteArray) : List UInt8 := s.data.toList
theorem bs_inj {a b : ByteArray} (h : bs a = bs b) : a = b := by
 cases a; cases b
 simp only [bs] at h
 congr 1
 exact Array.toList_inj.1 h
/-- the order of the locks that Held hands back -/
def lt3 (x y : S29) : Prop := x.Tx < y.Tx ∨ (x.Tx = y.Tx ∧ (bs x.Table < bs y.Table ∨ (x.Table = y.Table ∧ bs x.Key < bs y.Key)))
theorem d50_ok (N : Nat) {x y : S29} (hx : 0 ≤ x.Tx ∧ x.Tx < 20) (hy : 0 ≤ y.Tx ∧ y.Tx < 20) : ∃ c, d50 N x y = some c ∧ (c < 0 ↔ lt3 x y) := by
 unfold d50 d51 d59 lt3
 simp only [Option.bind_some]
 by_cases hT : x.Tx = y.Tx
 ·rw [if_neg (by simpa using hT)]
  have c1 := cmpL (bs x.Table) (bs y.Table)
  have c2 := cmpL (bs x.Key) (bs y.Key)
  by_cases h0 : Lib.compareBytes (bs x.Table) (bs y.Table) = 0
  ·rw [if_neg (by simpa using h0)]
   refine ⟨_, rfl, ?_⟩
   have he := bs_inj (c1.2.1 h0)
   rw [c2.1]
   constructor
   ·intro h; exact .inr ⟨hT, .inr ⟨he, h⟩⟩
   ·rintro (h | ⟨_, h | ⟨_, h⟩⟩)
    ·omega
    ·have := c1.1.2 h; omega
    ·exact h
  ·rw [if_pos (by simpa using h0)]
   refine ⟨_, rfl, ?_⟩
   rw [c1.1]
   constructor
   ·intro h; exact .inr ⟨hT, .inl h⟩
   ·rintro (h | ⟨_, h | ⟨h, _⟩⟩)
    ·omega
    ·exact h
    ·exact absurd (c1.2.2 (by rw [h])) h0
 ·rw [if_pos (by simpa using hT), chkI_of (by omega) (by omega), Option.bind_some]
  refine ⟨_, rfl, ?_⟩
  constructor
  ·intro h; exact .inl (by omega)
  ·rintro (h | ⟨h, _⟩)
   ·omega
   ·exact absurd h hT
theorem lt3_irrefl (x : S29) : ¬ lt3 x x := by
 rintro (h | ⟨_, h | ⟨_, h⟩⟩)
 ·omega
 ·exact List.lt_irrefl _ h
 ·exact List.lt_irrefl _ h
theorem lt3_trans {x y z : S29} (h1 : lt3 x y) (h2 : lt3 y z) : lt3 x z := by
 rcases h1 with h1 | ⟨e1, h1⟩
 ·rcases h2 with h2 | ⟨e2, _⟩
  ·exact .inl (by omega)
  ·exact .inl (by omega)
 ·rcases h2 with h2 | ⟨e2, h2⟩
  ·exact .inl (by omega)
  ·refine .inr ⟨by omega, ?_⟩
   rcases h1 with h1 | ⟨f1, h1⟩
   ·rcases h2 with h2 | ⟨f2, _⟩
    ·exact .inl (List.lt_trans h1 h2)
    ·exact .inl (by rw [← f2]; exact h1)
   ·rcases h2 with h2 | ⟨f2, h2⟩
    ·exact .inl (by rw [f1]; exact h2)
    ·exact .inr ⟨f1.trans f2, List.lt_trans h1 h2⟩
theorem lt3_total {x y : S29} (h1 : ¬ lt3 x y) (h2 : ¬ lt3 y x) : key x = key y := by
 have e1 : x.Tx = y.Tx := by
  have a : ¬ x.Tx < y.Tx := fun h => h1 (.inl h)
  have b : ¬ y.Tx < x.Tx := fun h => h2 (.inl h)
  omega
 have e2 : x.Table = y.Table := bs_inj (List.le_antisymm (fun h => h2 (.inr ⟨e1.symm, .inl h⟩)) (fun h => h1 (.inr ⟨e1, .inl h⟩)))
 have e3 : x.Key = y.Key := bs_inj (List.le_antisymm (fun h => h2 (.inr ⟨e1.symm, .inr ⟨e2.symm, h⟩⟩)) (fun h => h1 (.inr ⟨e1, .inr ⟨e2, h⟩⟩)))
 simp [key, e1, e2, e3]
theorem lt3_key {x y z : S29} (h : key x = key y) : (lt3 x z ↔ lt3 y z) ∧ (lt3 z x ↔ lt3 z y) := by
 simp only [key, Prod.mk.injEq] at h
 obtain ⟨a, b, c⟩ := h
 unfold lt3
 rw [a, b, c]
 exact ⟨Iff.rfl, Iff.rfl⟩

theorem held_ok {N : Nat} {G Q : List S29} (h : Ok G Q) : ∃ ys, d36 N ⟨G, Q⟩ = some ys ∧ ys.Perm G ∧ ys.Pairwise fun a b => ¬ lt3 b a := by
 have hgl := h.glen
 have hgo : ∀ x ∈ G, 0 ≤ x.Tx ∧ x.Tx < 20 := fun x hx => by
  obtain ⟨a, b, _⟩ := h.ok x (List.mem_append.2 (.inl hx))
  exact ⟨a, b⟩
 unfold d36 d48 d49
 rw [if_pos (by simp [reach]; omega), Option.bind_some]
 have hc : ∀ x ∈ G, ∀ y ∈ G, ∃ c, d50 N x y = some c ∧ (c < 0 ↔ lt3 x y) := fun x hx y hy => d50_ok N (hgo x hx) (hgo y hy)
 have hget : ∀ x ∈ G, ∀ y ∈ G, ((d50 N x y).getD 0 < 0 ↔ lt3 x y) := fun x hx y hy => by
  obtain ⟨c, h1, h2⟩ := hc x hx y hy
  rw [h1]; exact h2
 obtain ⟨r, h1, h2, h3⟩ := sortO_some (fun b0 b1 => d50 N b0 b1) G (fun x hx y hy => by
   obtain ⟨c, h1, _⟩ := hc x hx y hy
   try dsimp only
   rw [h1]; rfl) (fun x hx => by
   try dsimp only
   rw [hget x hx x hx]; exact lt3_irrefl x)
  (fun x hx y hy z hz => by
   try dsimp only
   rw [hget x hx y hy, hget y hy z hz, hget x hx z hz]; exact lt3_trans)
  (fun x hx y hy z hz => by
   try dsimp only
   rw [hget x hx y hy, hget y hy z hz, hget x hx z hz]
   intro a b c
   by_cases hyx : lt3 y x
   ·exact b (lt3_trans hyx c)
   ·have hk := lt3_total a hyx
    exact b ((lt3_key hk).1.1 c)) (by omega)
 rw [h1, Option.bind_some]
 refine ⟨r, rfl, h2, ?_⟩
 refine List.pairwise_iff_forall_sublist.2 ?_
 intro a b hs
 have ha : a ∈ G := h2.subset (hs.subset (by simp))
 have hb : b ∈ G := h2.subset (hs.subset (by simp))
 have h5 := List.pairwise_iff_forall_sublist.1 h3 hs
 rwa [hget b hb a ha] at h5

theorem d11_same {N : Nat} (hN : bigN N) (xs : List Int) (hl : xs.length ≤ 1000) : d11 N xs xs = some true := by
 have hN' : 9223372036854775808 ≤ N := hN
 unfold d11
 rw [if_neg (by simp)]
 refine bindO_eq (P := fun o => o = .go ()) (loop_idx (σ := Unit) (τ := Int) xs.length (fun _ j => j) _ (fun _ _ => True) _ ?_ ?_ () trivial (n := N) (by omega)) ?_ ?_
 ·intro k s hk _
  obtain ⟨x, hx⟩ := get_of hk
  try dsimp only
  rw [if_pos (by omega), idx_nat hx, Option.bind_some, Option.bind_some, if_neg (by simp), chkI_of (by omega) (by omega), Option.bind_some]
  exact .inl ⟨(), rfl, trivial⟩
 ·intro s _
  try dsimp only
  rw [if_neg (by omega)]
  exact ⟨_, rfl, rfl⟩
 ·intro x h; cases h
 ·intro b _; rfl

theorem same_ok {N : Nat} (hN : bigN N) {G Q : List S29} (h : Ok G Q) (tx : Int) : d13 N ⟨G, Q⟩ ⟨G, Q⟩ tx = some (⟨G, Q⟩, ⟨G, Q⟩, true) := by
 have hN' : 9223372036854775808 ≤ N := hN
 have hgl := h.glen
 have hql := h.qlen
 have hsz := h.sz
 have hgo : ∀ x ∈ G, okL x := fun x hx => h.ok x (List.mem_append.2 (.inl hx))
 obtain ⟨ys, hys, hperm, hsort⟩ := held_ok (N := N) h
 unfold d13 d33
 dsimp only
 rw [d37_ok hN Q (fun b0 => d47 N b0 tx) (fun q => q.Tx == tx) (fun x => rfl) (by omega), d34_ok hN Q (fun b0 => d35 N b0 tx) (fun q => q.Tx == tx) (fun x => rfl) (by omega), Option.bind_some]
 have tail : (d36 N (S48.mk G Q)).bind (fun r37 =>
   if ((r37.length : Int) != (G.length : Int)) = true then (
    some (S48.mk G Q, S33.mk G Q, false)
   ) else
   bindO (β := Unit) (ρ := (S48 × S33 × Bool)) (
    iterN (σ := Int) (ρ := (Out Unit (S48 × S33 × Bool))) (fun (v75 : Int) =>
     if v75 < (r37.length : Int) then (
      bindO (β := Unit) (ρ := (Int ⊕ (Out Unit (S48 × S33 × Bool)))) (
       (idx r37 v75).bind fun x172 =>
       (d25 N (S33.mk G Q) x172.Tx x172.Table x172.Key).bind fun r174 =>
       if (r174 != x172.Mode) = true then (
        some (.ret (.inr (.ret (S48.mk G Q, S33.mk G Q, false))))
       ) else
       if (v75 == 0) = true then (
        some (.go ())
       ) else
       (chkI (v75 - 1)).bind fun v177 =>
       (idx r37 v177).bind fun x178 =>
       Option.bind (α := Bool) (
        if x178.Tx > x172.Tx then (
         some true
        ) else
        if (x178.Tx == x172.Tx) = true then (
         if (!Op.bytesLess x178.Table.toList x172.Table.toList && !decide (x178.Table = x172.Table)) = true then (
          some true
         ) else
         if decide (x178.Table = x172.Table) = true then (
          some (!Op.bytesLess x178.Key.toList x172.Key.toList)
         ) else
         some false
        ) else
        some false
       ) fun (v184 : Bool) =>
       if v184 = true then (
        some (.ret (.inr (.ret (S48.mk G Q, S33.mk G Q, false))))
       ) else
       some (.go ())
      ) fun (_ : Unit) =>
      (chkI (v75 + 1)).bind fun v190 =>
      some (.inl v190)
     ) else
     some (.inr (.go ()))
    ) N 0
   ) fun (_ : Unit) =>
   some (S48.mk G Q, S33.mk G Q, true)) = some (S48.mk G Q, S33.mk G Q, true) := by
  have hyl : ys.length = G.length := hperm.length_eq
  have hyn : (ys.map key).Nodup := (hperm.map key).nodup_iff.2 h.gnd
  rw [hys, Option.bind_some, if_neg (by simp [hyl])]
  refine bindO_eq (P := fun o => o = .go ()) (loop_idx (σ := Unit) (τ := Int) ys.length (fun _ j => j) _ (fun _ _ => True) _ ?_ ?_ () trivial (n := N) (by omega)) ?_ ?_
  ·intro k s hk _
   obtain ⟨x, hx⟩ := get_of hk
   try dsimp only
   refine .inl ⟨(), ?_, trivial⟩
   have hxG : x ∈ G := hperm.subset (List.mem_of_getElem? hx)
   have hm : modeG G x.Tx x.Table x.Key = x.Mode := by
    unfold modeG
    cases hf : G.find? (same3 x.Tx x.Table x.Key) with
    | none =>
     rw [List.find?_eq_none] at hf
     exact absurd (same3_key.2 rfl) (hf x hxG)
    | some y =>
     have hy := same3_key.1 (List.find?_some hf)
     have hyG := List.mem_of_find?_eq_some hf
     have : y = x := by
      obtain ⟨i, hi, rfl⟩ := List.getElem_of_mem hyG
      obtain ⟨j, hj, rfl⟩ := List.getElem_of_mem hxG
      have hij : i = j := by
       rcases Nat.lt_trichotomy i j with hlt | heq | hgt
       ·have := List.pairwise_iff_getElem.1 h.gnd i j (by simpa using hi) (by simpa using hj) hlt
        simp only [List.getElem_map] at this
        exact absurd hy this
       ·exact heq
       ·have := List.pairwise_iff_getElem.1 h.gnd j i (by simpa using hj) (by simpa using hi) hgt
        simp only [List.getElem_map] at this
        exact absurd hy.symm this
      subst hij; rfl
     rw [this]; rfl
   rw [if_pos (by omega), idx_nat hx, Option.bind_some, d25_ok hN G Q _ _ _ (by omega), Option.bind_some, hm, if_neg (by simp)]
   by_cases hk0 : k = 0
   ·subst hk0
    rw [if_pos (by simp)]
    rw [bindO_go, chkI_of (by omega) (by omega)]; rfl
   ·rw [if_neg (by simpa using hk0), chkI_of (by omega) (by omega), Option.bind_some]
    obtain ⟨p, hp⟩ := get_of (l := ys) (k := k - 1) (by omega)
    rw [show ((k : Int) - 1) = ((k - 1 : Nat) : Int) from by omega, idx_nat hp, Option.bind_some]
    have hlt : lt3 p x := by
     have h1 : ¬ lt3 x p := by
      have := List.pairwise_iff_getElem.1 hsort (k - 1) k (by omega) hk (by omega)
      rw [(List.getElem?_eq_some_iff.1 hp).2, (List.getElem?_eq_some_iff.1 hx).2] at this
      exact this
     refine Classical.byContradiction fun h2 => ?_
     have hkk := lt3_total h2 h1
     have e1 : (ys.map key)[k - 1]? = some (key p) := by rw [List.getElem?_map, hp]; rfl
     have e2 : (ys.map key)[k]? = some (key x) := by rw [List.getElem?_map, hx]; rfl
     have hne := List.pairwise_iff_getElem.1 hyn (k - 1) k (by simp; omega) (by simpa using hk) (by omega)
     rw [(List.getElem?_eq_some_iff.1 e1).2, (List.getElem?_eq_some_iff.1 e2).2] at hne
     exact hne hkk
    have e : (if p.Tx > x.Tx then some true else if (p.Tx == x.Tx) = true then (if (!Op.bytesLess p.Table.toList x.Table.toList && !decide (p.Table = x.Table)) = true then some true else if decide (p.Table = x.Table) = true then some (!Op.bytesLess p.Key.toList x.Key.toList) else some false) else some false) = some false := by
     rcases hlt with h1 | ⟨h1, h2 | ⟨h2, h3⟩⟩
     ·rw [if_neg (by omega), if_neg (by simp; omega)]
     ·have : Op.bytesLess p.Table.toList x.Table.toList = true := by rw [Go.Proofs.bytesLess_eq, Lib.toList_data, Lib.toList_data]; simpa using h2
      have hne : ¬ p.Table = x.Table := fun e => List.lt_irrefl _ (e ▸ h2)
      rw [if_neg (by omega), if_pos (by simpa using h1), this]
      simp [hne]
     ·have : Op.bytesLess p.Key.toList x.Key.toList = true := by rw [Go.Proofs.bytesLess_eq, Lib.toList_data, Lib.toList_data]; simpa using h3
      rw [if_neg (by omega), if_pos (by simpa using h1), this]
      simp [h2]
    rw [e, Option.bind_some, if_neg (by simp)]
    rw [bindO_go, chkI_of (by omega) (by omega)]; rfl
  ·intro s _
   try dsimp only
   rw [if_neg (by omega)]
   exact ⟨_, rfl, rfl⟩
  ·intro x h; cases h
  ·intro b _; rfl
 rcases find_idx Q (fun q => q.Tx == tx) with ⟨h1, _⟩ | ⟨k, x, h1, _, h3, _⟩
 ·rw [h1, show optI none = -1 from rfl, if_pos (show (-1 : Int) < 0 by omega), Option.bind_some]
  dsimp only
  rw [Option.bind_some, if_pos (show (-1 : Int) < 0 by omega), if_neg (show ¬ ((4 : Int) != 4) = true by simp), Option.bind_some, if_neg (show ¬ ((([] : List Int).length : Int) != 0) = true by simp), bindO_go]
  exact tail
 ·have hkl : k < Q.length := (List.getElem?_eq_some_iff.1 h3).1
  have hxo := h.ok x (List.mem_append.2 (.inr (List.mem_of_getElem? h3)))
  rw [h1, show optI (some k) = (k : Int) from rfl, if_neg (show ¬ (k : Int) < 0 by omega), idx_nat h3, Option.bind_some, d20_ok hN G Q x k (by omega) h.ok hsz, Option.bind_some, Option.bind_some]
  dsimp only
  rw [Option.bind_some, if_neg (show ¬ (k : Int) < 0 by omega), if_neg (show ¬ ((0 : Int) != 0) = true by simp), idx_nat h3, Option.bind_some, d27_ok hN G Q x k (by omega) ⟨hxo.2.2.1, hxo.2.2.2⟩ h.ok hsz, Option.bind_some]
  have := blk_len (G ++ Q.take k) x
  rw [d11_same hN _ (by omega), Option.bind_some, Option.bind_some, if_neg (show ¬ (!true) = true by simp), bindO_go]
  exact tail

/-! ### the law -/
theorem d6_tot (N : Nat) (l : List Int) {i : Int} (hi : 0 ≤ i) : ∃ r, d6 N l i = some r := by
 unfold d6
 by_cases h : i < (l.length : Int)
 ·obtain ⟨a, ha⟩ := get_of (l := l) (k := i.toNat) (by omega)
  rw [if_pos h, idx_toNat hi ha]
  exact ⟨a, rfl⟩
 ·rw [if_neg h]; exact ⟨0, rfl⟩
theorem u64_wrap (n : Int) : 0 ≤ IntKind.u64.wrap n := by
 simp only [IntKind.wrap, IntKind.signed, IntKind.bits]
 simp
 omega
theorem u64_len {n : Nat} (h : n ≤ 140737488355328) : IntKind.u64.wrap (n : Int) = (n : Int) := by
 simp only [IntKind.wrap, IntKind.signed, IntKind.bits]
 simp
 omega
theorem rem_lt {x : Int} {n : Nat} (hx : 0 ≤ x) (hn : n ≠ 0) : ∃ k : Nat, remI x (n : Int) = some (k : Int) ∧ k < n := by
 refine ⟨(x.toNat % n), ?_, Nat.mod_lt _ (by omega)⟩
 unfold remI
 rw [if_neg (by omega)]
 have : x = (x.toNat : Int) := (Int.toNat_of_nonneg hx).symm
 conv => lhs; rw [this]
 rfl
theorem d7_tot (N : Nat) (l : List ByteArray) (i : Int) (hl : l.length ≤ 140737488355328) : ∃ r, d7 N l i = some r := by
 unfold d7
 by_cases h : l.length = 0
 ·exact ⟨_, by rw [if_pos (by simp [h])]⟩
 ·obtain ⟨k, h1, h2⟩ := rem_lt (u64_wrap i) h
  obtain ⟨a, ha⟩ := get_of h2
  refine ⟨a, ?_⟩
  rw [if_neg (by simpa using h), letv_eq, letv_eq, u64_len hl, h1, Option.bind_some, chkI_of (by omega) (by omega), Option.bind_some, idx_nat ha]
  rfl
theorem ok_nil : Ok [] [] := ⟨fun x h => (by cases h), List.nodup_nil, List.nodup_nil, by simp⟩

def l0 : S29 := ⟨0, ByteArray.mk #[116], ByteArray.mk #[], 2⟩
def l1 : S29 := ⟨1, ByteArray.mk #[116], ByteArray.mk #[], 1⟩
theorem first_ok {N : Nat} (hN : bigN N) : d5 N ⟨[], []⟩ l0 = some (⟨[l0], []⟩, 0) := by
 unfold d5
 dsimp only
 rw [d14_ok, show val l0 = 0 from by kernel_rfl, Option.bind_some, if_neg (show ¬ ((0 : Int) != 0) = true by simp), d15_ok hN [] (fun b0 => d16 N b0 l0) (fun q => q.Tx == l0.Tx) (fun x => rfl) (by simp), Option.bind_some, if_neg (show ¬ ([] : List S29).any (fun q => q.Tx == l0.Tx) = true by simp),
  if_neg (show ¬ (!decide (l0.Key = ByteArray.mk #[])) = true by simp [l0]), bindO_go, d17_ok hN [] [] l0 (by simp), show modeG [] l0.Tx l0.Table l0.Key = 0 from rfl, Option.bind_some, if_neg (show ¬ (0 : Int) > 0 by omega), bindO_go, if_pos (show ((0 : Int) == 0) = true from rfl), chkI_of (by simp) (by simp), Option.bind_some, Option.bind_some,
  if_neg (show ¬ decide (((([] : List S29).length : Int) + ([] : List S29).length) ≥ 200) = true by simp)]
 have := d20_ok hN [] [] (S29.mk l0.Tx l0.Table l0.Key l0.Mode) 0 (by simp) (fun x h => by cases h) (by simp)
 rw [show (([] : List S29).length : Int) = ((0 : Nat) : Int) from rfl, this, Option.bind_some, show blk ([] ++ ([] : List S29).take 0) (S29.mk l0.Tx l0.Table l0.Key l0.Mode) = [] from rfl, if_pos (by simp), d21_ok hN [] [] _ (by simp)]
 rfl
theorem second_ok {N : Nat} (hN : bigN N) : ∃ M, d5 N ⟨[l0], []⟩ l1 = some (M, 16) := by
 have hok : ∀ x ∈ ([l0] : List S29) ++ [], okL x := fun x hx => by
  simp at hx
  subst hx
  exact ⟨by decide, by decide, by decide, by decide⟩
 have hB : blk ([l0] ++ ([] : List S29).take 0) (S29.mk l1.Tx l1.Table l1.Key l1.Mode) = [0] := by kernel_rfl
 unfold d5
 dsimp only
 rw [d14_ok, show val l1 = 0 from by kernel_rfl, Option.bind_some, if_neg (show ¬ ((0 : Int) != 0) = true by simp), d15_ok hN [] (fun b0 => d16 N b0 l1) (fun q => q.Tx == l1.Tx) (fun x => rfl) (by simp), Option.bind_some, if_neg (show ¬ ([] : List S29).any (fun q => q.Tx == l1.Tx) = true by simp),
  if_neg (show ¬ (!decide (l1.Key = ByteArray.mk #[])) = true by simp [l1]), bindO_go, d17_ok hN [l0] [] l1 (by simp), show modeG [l0] l1.Tx l1.Table l1.Key = 0 from by kernel_rfl, Option.bind_some, if_neg (show ¬ (0 : Int) > 0 by omega), bindO_go, if_pos (show ((0 : Int) == 0) = true from rfl), chkI_of (by simp) (by simp), Option.bind_some, Option.bind_some,
  if_neg (show ¬ decide (((([l0] : List S29).length : Int) + ([] : List S29).length) ≥ 200) = true by simp)]
 have := d20_ok hN [l0] [] (S29.mk l1.Tx l1.Table l1.Key l1.Mode) 0 (by simp) hok (by simp)
 rw [show (([] : List S29).length : Int) = ((0 : Nat) : Int) from rfl, this, Option.bind_some, hB, if_neg (by simp)]
 obtain ⟨r, h1, h2⟩ := d22_ok hN hok (by simp) (by simp) (F := [0]) (by simp) (by simp) l1.Tx
 have hr : r = false := by
  cases r with
  | false => rfl
  | true =>
   exfalso
   have h3 := h2.1 rfl
   have : ∀ t, Rch (Edge [l0] []) [0] t → t = 0 := by
    intro t ht
    induction ht with
    | base h => simpa using h
    | step _ e _ =>
     obtain ⟨i, q, h, _⟩ := e
     simp at h
   have := this _ h3
   simp [l1] at this
 rw [h1, hr, Option.bind_some, if_neg (by simp), appL_of (by simp [reach]), Option.bind_some]
 exact ⟨_, rfl⟩

theorem d3_true {N : Nat} (hN : bigN N) (a0 : List (List Int)) (a1 : List ByteArray) (h0 : a0.length ≤ 140737488355328) (h1 : a1.length ≤ 140737488355328) : d3 N a0 a1 = some true := by
 have hN' : 9223372036854775808 ≤ N := hN
 unfold d3 d4
 rw [Option.bind_some]
 show Option.bind _ _ = _
 have hfirst : ((d5 N ⟨[], []⟩ l0).bind fun r6 =>
  if (r6.2 != 0) = true then (
   some true
  ) else
  (d5 N r6.1 l1).bind fun r8 =>
  some (r8.2 != 16)) = some false := by
  obtain ⟨M, hM⟩ := second_ok hN
  rw [first_ok hN, Option.bind_some, if_neg (by simp), hM]
  rfl
 refine (congrArg (fun d => Option.bind d _) hfirst).trans ?_
 show Option.bind _ _ = _
 rw [Option.bind_some]
 show bindO _ _ = _
 refine bindO_eq (P := fun o => o = .go ()) (loop_idx (σ := List S29 × List S29) (τ := List S29 × List S29 × List S29 × List S29 × Int) a0.length (fun s j => (s.1, s.2, s.1, s.2, j)) _ (fun _ s => Ok s.1 s.2) _ ?_ ?_ ([], []) ok_nil (n := N) (by omega)) ?_ ?_
 ·rintro k ⟨G, Q⟩ hk hok
  obtain ⟨op, hop⟩ := get_of hk
  refine .inl ?_
  dsimp only at hok ⊢
  obtain ⟨tx, htx⟩ := d6_tot N op (i := 1) (by omega)
  obtain ⟨kd, hkd⟩ := d6_tot N op (i := 0) (by omega)
  rw [if_pos (by omega), idx_nat hop, Option.bind_some, htx, Option.bind_some, hkd, Option.bind_some]
  have step : ∀ G' Q', Ok G' Q' → ((d13 N (S48.mk G' Q') (S33.mk G' Q') tx).bind fun r258 =>
     if (!r258.2.2) = true then (
      some (.inr (.ret false))
     ) else
     (chkI ((k : Int) + 1)).bind fun v260 =>
     some (.inl (r258.1.granted, r258.1.queue, r258.2.1.Granted, r258.2.1.Queue, v260))) = some (Sum.inl (G', Q', G', Q', (k : Int) + 1) : (List S29 × List S29 × List S29 × List S29 × Int) ⊕ Out Unit Bool) := fun G' Q' h' => by
   rw [same_ok hN h' tx, Option.bind_some, if_neg (by simp), chkI_of (by omega) (by omega)]
   rfl
  by_cases h1k : (kd == 1) = true
  ·rw [if_pos h1k]
   obtain ⟨i2, hi2⟩ := d6_tot N op (i := 2) (by omega)
   obtain ⟨s2, hs2⟩ := d7_tot N a1 i2 h1
   obtain ⟨i4, hi4⟩ := d6_tot N op (i := 4) (by omega)
   obtain ⟨i3, hi3⟩ := d6_tot N op (i := 3) (by omega)
   obtain ⟨s3, hs3⟩ := d7_tot N a1 i3 h1
   rw [hi2, Option.bind_some, hs2, Option.bind_some, hi4, Option.bind_some, hi3, Option.bind_some]
   have e : ∃ ky, (if i3 > 0 then (some i3).bind fun r253 => (d7 N a1 r253).bind fun r254 => some r254 else some (ByteArray.mk #[])) = some ky := by
    by_cases h3 : i3 > 0
    ·exact ⟨s3, by rw [if_pos h3, Option.bind_some, hs3]; rfl⟩
    ·exact ⟨_, if_neg h3⟩
   obtain ⟨ky, hky⟩ := e
   rw [hky, Option.bind_some]
   obtain ⟨G', Q', e, e5, e8, hok'⟩ := acquire_ok hN hok ⟨tx, s2, ky, i4⟩
   rw [e5, Option.bind_some, e8, Option.bind_some, if_neg (by simp)]
   exact ⟨(G', Q'), step G' Q' hok', hok'⟩
  ·rw [if_neg h1k]
   by_cases h2k : (kd == 2) = true
   ·rw [if_pos h2k, d10_ok]
    by_cases hr : 0 ≤ tx ∧ tx ≤ 19
    ·obtain ⟨G', Q', R, e9, e12, hok', hR⟩ := release_ok hN hok tx (by omega)
     rw [e9, Option.bind_some, Option.bind_some, if_neg (by simp [hr])]
     dsimp only
     rw [if_neg (show ¬ ((0 : Int) != 0) = true by simp), e12, Option.bind_some, d11_same hN R (by omega), Option.bind_some, Option.bind_some]
     dsimp only
     rw [if_neg (by simp)]
     exact ⟨(G', Q'), step G' Q' hok', hok'⟩
    ·have e9 : d9 N ⟨G, Q⟩ tx = some (⟨G, Q⟩, [], 1) := by
      unfold d9
      by_cases hneg : tx < 0
      ·rw [if_pos hneg]; rfl
      ·rw [if_neg hneg, Option.bind_some, if_pos (by simp; omega)]
     rw [e9, Option.bind_some, Option.bind_some, if_pos (by rw [decide_eq_false hr]; rfl)]
     dsimp only
     rw [if_neg (show ¬ ((1 : Int) != 1) = true by simp), Option.bind_some, if_neg (by simp)]
     exact ⟨(G, Q), step G Q hok, hok⟩
   ·rw [if_neg h2k]
    exact ⟨(G, Q), step G Q hok, hok⟩
 ·rintro ⟨G, Q⟩ hok
  dsimp only
  rw [if_neg (by omega)]
  exact ⟨_, rfl, rfl⟩
 ·intro x h; cases h
 ·intro b _; rfl
end Go.Proofs.Ytdiekinmoklonaa
end
section
namespace Go.Proofs.Ytdiekinmoklonaa
open Go.Ab Go.Rp
open Go.Ab.Enc (eC eV)

theorem locks_fun (a0 : List (List Int)) (a1 : List ByteArray) (h0 : a0.length * 24 ≤ reach) (h1 : a1.length * 16 ≤ reach) : Fun Try.prog 3 [eV a0, eV a1] (fun r _ => r = .d (.lit (.bool true))) := by
 have h := p3 9223372036854775808 a0 a1 true (d3_true (Nat.le_refl _) a0 a1 (by unfold reach at h0; omega) (by unfold reach at h1; omega))
 have e0 : (eV a0 : V) = .d (.sl (a0.map (cL (cI .i64)))) := rfl
 have e1 : (eV a1 : V) = .d (.sl (a1.map cS)) := rfl
 rw [e0, e1]
 exact h.2.mono fun _ _ h => h.1
end Go.Proofs.Ytdiekinmoklonaa
end
