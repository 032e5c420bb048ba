/- Clusters as functional programs: loops, the middle of a sorted row, the commit index. Clusters as functional programs: how a server takes entries. Clusters as functional programs: what holds between operations; Append, Send, Deliver, Drop. Clusters as functional programs: messages are delivered and dropped. Clusters as functional programs: elections. Clusters as functional programs: elections in the reference; what holds behind them. Clusters as functional programs: the comparison of two clusters; the first clusters. ReplicationMatchesReference as a functional program is true. The law's arguments as the functional program takes them. -/
import Derived.Test.YtifcmomjjkbboabRp20
section
namespace Go.Proofs.Ytifcmomjjkbboab
open Go.Ab Go.Rp

theorem iter_post {τ ρ : Type} (step : τ → Option (τ ⊕ ρ)) (μ : τ → Nat) (Inv : τ → Prop) (Post : ρ → Prop)
  (h : ∀ s, Inv s → (∃ s', step s = some (.inl s') ∧ Inv s' ∧ μ s' < μ s) ∨ ∃ r, step s = some (.inr r) ∧ Post r) :
  ∀ (n : Nat) (s : τ), Inv s → μ s < n → ∃ r, iterN step n s = some r ∧ Post r := by
 intro n
 induction n with
 | zero => intro s _ h; omega
 | succ n ih =>
  intro s hi hm
  rcases h s hi with ⟨s', h1, h2, h3⟩ | ⟨r, h1, h2⟩
  ·obtain ⟨r, h4, h5⟩ := ih s' h2 (by omega)
   exact ⟨r, by rw [iterN, h1]; exact h4, h5⟩
  ·exact ⟨r, by rw [iterN, h1], h2⟩
theorem loop_idx {σ τ ρ : Type} (len : Nat) (mkS : σ → Int → τ) (step : τ → Option (τ ⊕ ρ)) (Inv : Nat → σ → Prop) (Post : ρ → Prop)
  (hs : ∀ k s, k < len → Inv k s → (∃ s', step (mkS s k) = some (.inl (mkS s' ((k : Int) + 1))) ∧ Inv (k + 1) s') ∨ ∃ r, step (mkS s k) = some (.inr r) ∧ Post r)
  (he : ∀ s, Inv len s → ∃ r, step (mkS s len) = some (.inr r) ∧ Post r) (s0 : σ) (h0 : Inv 0 s0) {n : Nat} (hn : len < n) : ∃ r, iterN step n (mkS s0 0) = some r ∧ Post r := by
 have key : ∀ (m k : Nat) (s : σ), k ≤ len → len - k < m → Inv k s → ∃ r, iterN step m (mkS s k) = some r ∧ Post r := by
  intro m
  induction m with
  | zero => intro k s _ h; omega
  | succ m ih =>
   intro k s hk hm hi
   rw [iterN_succ]
   by_cases hlt : k < len
   ·rcases hs k s hlt hi with ⟨s', h1, h2⟩ | ⟨r, h1, h2⟩
    ·rw [h1]
     exact ih (k + 1) s' (by omega) (by omega) h2
    ·rw [h1]; exact ⟨r, rfl, h2⟩
   ·obtain rfl : k = len := by omega
    obtain ⟨r, h1, h2⟩ := he s hi
    rw [h1]
    exact ⟨r, rfl, h2⟩
 exact key n 0 s0 (Nat.zero_le _) (by omega) h0
theorem get_of {α : Type} {l : List α} {k : Nat} (h : k < l.length) : ∃ a, l[k]? = some a := ⟨l[k], List.getElem?_eq_getElem h⟩
theorem lt_of {α : Type} {l : List α} {k : Nat} {a : α} (h : l[k]? = some a) : k < l.length := (List.getElem?_eq_some_iff.1 h).1
theorem mem_take_succ {α : Type} {xs : List α} {k : Nat} {x y : α} (h : xs[k]? = some x) : y ∈ xs.take (k + 1) ↔ y ∈ xs.take k ∨ y = x := by
 rw [List.take_add_one, h]; simp
theorem setI_nat {α : Type} (xs : List α) (k : Nat) (x : α) : setI xs (k : Int) x = xs.set k x := by simp [setI]
theorem bind_ex {α β : Type} {d : Option α} {k : α → Option β} {P : α → Prop} {Q : β → Prop} (h : ∃ s, d = some s ∧ P s) (h2 : ∀ s, P s → ∃ r, k s = some r ∧ Q r) : ∃ r, d.bind k = some r ∧ Q r := by
 obtain ⟨s, rfl, hp⟩ := h
 exact h2 s hp
theorem bind_eq {α β : Type} {d : Option α} {k : α → Option β} {P : α → Prop} {r : β} (h : ∃ s, d = some s ∧ P s) (h2 : ∀ s, P s → k s = some r) : d.bind k = some r := by
 obtain ⟨s, rfl, hp⟩ := h
 exact h2 s hp
theorem bindO_eq {β ρ : Type} {d : Option (Out β ρ)} {k : β → Option ρ} {P : Out β ρ → Prop} {r : ρ} (h : ∃ s, d = some s ∧ P s) (h1 : ∀ x, P (.ret x) → x = r) (h2 : ∀ b, P (.go b) → k b = some r) : bindO d k = some r := by
 obtain ⟨s, rfl, hp⟩ := h
 cases s with
 | go b => exact h2 b hp
 | ret x => show some x = some r; rw [h1 x hp]
theorem bindO_ex {β ρ : Type} {d : Option (Out β ρ)} {k : β → Option ρ} {P : Out β ρ → Prop} {Q : ρ → Prop} (h : ∃ s, d = some s ∧ P s) (h1 : ∀ x, P (.ret x) → Q x) (h2 : ∀ b, P (.go b) → ∃ r, k b = some r ∧ Q r) : ∃ r, bindO d k = some r ∧ Q r := by
 obtain ⟨s, rfl, hp⟩ := h
 cases s with
 | go b => exact h2 b hp
 | ret x => exact ⟨x, rfl, h1 x hp⟩

/-! ### the middle of a sorted row -/
def srt (l : List Int) : List Int := l.mergeSort fun x y => decide (x ≤ y)
theorem srt_sorted (l : List Int) : (srt l).Pairwise fun x y => x ≤ y := by
 have := List.pairwise_mergeSort (le := fun x y : Int => decide (x ≤ y)) (fun a b c h1 h2 => by simp at *; omega) (fun a b => by simp; omega) l
 exact this.imp (by simp)
theorem srt_length (l : List Int) : (srt l).length = l.length := by unfold srt; simp
/-- how many are at least v -/
def atl (l : List Int) (v : Int) : Nat := l.countP fun x => decide (x ≥ v)
theorem atl_srt (l : List Int) (v : Int) : atl (srt l) v = atl l v := (List.mergeSort_perm l _).countP_eq _
theorem atl_mid (l : List Int) {k : Nat} {x : Int} (hk : k = (l.length - 1) / 2) (hx : (srt l)[k]? = some x) (v : Int) : 2 * atl l v > l.length ↔ v ≤ x := by
 have hs := srt_sorted l
 have hl := srt_length l
 rw [← atl_srt]
 generalize srt l = r at *
 have hkl := lt_of hx
 have hpair := List.pairwise_iff_getElem.1 hs
 obtain ⟨_, hxk⟩ := List.getElem?_eq_some_iff.1 hx
 by_cases hv : v ≤ x
 ·have h1 : atl (r.drop k) v = r.length - k := by
   unfold atl
   rw [List.countP_eq_length.2, List.length_drop]
   intro y hy
   obtain ⟨i, hi, rfl⟩ := List.getElem_of_mem hy
   rw [List.getElem_drop]
   rw [List.length_drop] at hi
   by_cases h0 : i = 0
   ·subst h0
    have : r[k + 0] = x := by simpa using hxk
    rw [this]; simpa using hv
   ·have := hpair k (k + i) hkl (by omega) (by omega)
    rw [hxk] at this
    simp; omega
  have h2 : atl r v = atl (r.take k) v + atl (r.drop k) v := by
   unfold atl
   rw [← List.countP_append, List.take_append_drop]
  simp only [hv, iff_true]
  omega
 ·have h1 : atl (r.take (k + 1)) v = 0 := by
   unfold atl
   rw [List.countP_eq_zero]
   intro y hy
   obtain ⟨i, hi, rfl⟩ := List.getElem_of_mem hy
   rw [List.getElem_take]
   rw [List.length_take] at hi
   by_cases h0 : i = k
   ·subst h0
    rw [hxk]; simp; omega
   ·have := hpair i k (by omega) hkl (by omega)
    rw [hxk] at this
    simp; omega
  have h2 : atl r v = atl (r.take (k + 1)) v + atl (r.drop (k + 1)) v := by
   unfold atl
   rw [← List.countP_append, List.take_append_drop]
  have h3 : atl (r.drop (k + 1)) v ≤ r.length - (k + 1) := by
   unfold atl
   have := List.countP_le_length (p := fun x => decide (x ≥ v)) (l := r.drop (k + 1))
   rwa [List.length_drop] at this
  simp only [hv, iff_false]
  omega
theorem srt_mem {l : List Int} {x : Int} (h : x ∈ srt l) : x ∈ l := (List.mergeSort_perm l _).mem_iff.1 h
/-- the count in the reference -/
theorem count_ok {N : Nat} (hN : bigN N) (l : List Int) (v : Int) (hl : l.length ≤ 100) :
  ∃ c : Int, iterN (σ := (Int × Int)) (ρ := Int) (fun ((v188, v189) : (Int × Int)) =>
      if v189 < (l.length : Int) then (
       (idx l v189).bind fun x208 =>
       if x208 ≥ v then (
        (chkI (v188 + 1)).bind fun v211 =>
        (chkI (v189 + 1)).bind fun v212 =>
        some (.inl (v211, v212))
       ) else
       (chkI (v189 + 1)).bind fun v213 =>
       some (.inl (v188, v213))
      ) else
      some (.inr v188)) N (0, 0) = some c ∧ c = (atl l v : Int) := by
 have hN : 9223372036854775808 ≤ N := hN
 refine loop_idx (σ := Int) (τ := Int × Int) l.length (fun s k => (s, k)) _ (fun k s => s = (atl (l.take k) v : Int)) _ ?_ ?_ (0 : Int) (by simp [atl]) (n := N) (by omega)
 ·rintro k s hk rfl
  obtain ⟨x, hx⟩ := get_of hk
  have hle : atl (l.take k) v ≤ k := by
   have := List.countP_le_length (p := fun x => decide (x ≥ v)) (l := l.take k)
   rw [List.length_take] at this
   unfold atl; omega
  have hs : atl (l.take (k + 1)) v = atl (l.take k) v + (if x ≥ v then 1 else 0) := by
   unfold atl
   rw [List.take_add_one, hx, List.countP_append]
   by_cases h : x ≥ v <;> simp [h]
  try dsimp only
  rw [if_pos (by omega), idx_nat hx, Option.bind_some]
  by_cases h : x ≥ v
  ·rw [if_pos h, chkI_of (by omega) (by omega), Option.bind_some, chkI_of (by omega) (by omega), Option.bind_some]
   exact .inl ⟨_, rfl, by rw [hs, if_pos h]; rfl⟩
  ·rw [if_neg h, chkI_of (by omega) (by omega), Option.bind_some]
   exact .inl ⟨_, rfl, by rw [hs, if_neg h]; rfl⟩
 ·rintro s rfl
  try dsimp only
  rw [if_neg (by omega)]
  exact ⟨_, rfl, by rw [List.take_length]⟩

/-! ### two clusters that are alike -/
def sv (s : S61) : S68 := ⟨s.term, s.commit, s.log, s.match_⟩
theorem idx_map {l : List S61} {i : Nat} {s : S61} (h : l[i]? = some s) : idx (l.map sv) (i : Int) = some (sv s) := idx_nat (by rw [List.getElem?_map, h]; rfl)
theorem get_map {l : List S61} {i : Nat} {s : S61} (h : l[i]? = some s) : (l.map sv)[i]? = some (sv s) := by rw [List.getElem?_map, h]; rfl
theorem set_map (l : List S61) (i : Nat) (s : S61) : (l.map sv).set i (sv s) = (l.set i s).map sv := by rw [List.map_set]
theorem get_set {α : Type} {l : List α} {i : Nat} {x : α} (h : i < l.length) : (l.set i x)[i]? = some x := by simp [h]
/-- what advanceCommit makes of a leader's server -/
def adv (s : S61) (i : Nat) : S61 :=
 let m := s.match_.set i (s.log.length : Int)
 let x := ((srt m)[(m.length - 1) / 2]?).getD 0
 ⟨s.term, if x > s.commit ∧ ((s.log[(x - 1).toNat]?).map S64.Term) = some s.term then x else s.commit, s.log, m⟩

structure MatchOk (n : Nat) (s : S61) : Prop where
 len : s.match_.length = n
 rng : ∀ x ∈ s.match_, 0 ≤ x ∧ x ≤ (s.log.length : Int)
theorem d25_ok {N : Nat} {servers : List S61} {leaders : List Int} {network : List S73} {i n : Nat} {s : S61} (hs : servers[i]? = some s) (hn : i < n) (hn5 : n ≤ 5) (hm : MatchOk n s) (hl : s.log.length ≤ 60) (hc : 0 ≤ s.commit) :
  d25 N ⟨servers, leaders, network⟩ i = some ⟨servers.set i (adv s i), leaders, network⟩ := by
 have hi := lt_of hs
 obtain ⟨y, hy⟩ := get_of (l := s.match_) (k := i) (by rw [hm.len]; exact hn)
 have hml : (s.match_.set i (s.log.length : Int)).length = n := by rw [List.length_set, hm.len]
 unfold d25
 have hsl : (srt (s.match_.set i (s.log.length : Int))).length = n := by rw [srt_length, hml]
 obtain ⟨x, hx⟩ := get_of (l := srt (s.match_.set i (s.log.length : Int))) (k := (n - 1) / 2) (by rw [hsl]; omega)
 have hxr : 0 ≤ x ∧ x ≤ (s.log.length : Int) := by
  rcases List.mem_or_eq_of_mem_set (srt_mem (List.mem_of_getElem? hx)) with h | rfl
  ·exact hm.rng x h
  ·omega
 rw [idx_nat hs, Option.bind_some, Option.bind_some, idx_nat hy, Option.bind_some, letv_eq, letv_eq, setI_nat, setI_nat]
 rw [idx_nat (get_set hi), Option.bind_some]
 rw [show d40 N (s.match_.set i (s.log.length : Int)) = some (s.match_.set i (s.log.length : Int)) from if_pos (by rw [hml]; unfold reach; omega), Option.bind_some]
 rw [show d41 N (s.match_.set i (s.log.length : Int)) = some (srt (s.match_.set i (s.log.length : Int))) from if_pos (by rw [hml]; omega), Option.bind_some, hsl]
 rw [chkI_of (by omega) (by omega), Option.bind_some]
 have hq : quoI ((n : Int) - 1) 2 = some (((n - 1) / 2 : Nat) : Int) := by
  unfold quoI
  rw [if_neg (by decide), Int.tdiv_eq_ediv_of_nonneg (by omega), chkI_of (by omega) (by omega)]
  congr 1
  omega
 rw [hq, Option.bind_some, idx_nat hx, Option.bind_some, Option.bind_some]
 have hadv : adv s i = ⟨s.term, if x > s.commit ∧ ((s.log[(x - 1).toNat]?).map S64.Term) = some s.term then x else s.commit, s.log, s.match_.set i (s.log.length : Int)⟩ := by
  unfold adv
  simp only [hml, hx, Option.getD_some]
 by_cases hgt : x > s.commit
 ·obtain ⟨e, he⟩ := get_of (l := s.log) (k := (x - 1).toNat) (by omega)
  rw [if_pos hgt, chkI_of (by omega) (by omega), Option.bind_some, idx_toNat (by omega) he, Option.bind_some, Option.bind_some]
  by_cases ht : e.Term = s.term
  ·rw [if_pos (by simpa using ht), Option.bind_some, letv_eq, setI_nat, List.set_set, hadv, if_pos ⟨hgt, by rw [he]; simp [ht]⟩]
  ·rw [if_neg (by simpa using ht), hadv, if_neg (fun h => ht (by have := h.2; rw [he] at this; simpa using this))]
 ·rw [if_neg hgt, Option.bind_some, if_neg (by simp), hadv, if_neg (fun h => hgt h.1)]
theorem d27_ok {N : Nat} (hN : bigN N) {servers : List S61} {leaders : List Int} {network : List S73} {i n : Nat} {s : S61} (hs : servers[i]? = some s) (hn : i < n) (hsn : servers.length = n) (hn5 : n ≤ 5) (hm : MatchOk n s) (hl : s.log.length ≤ 60) (hc : 0 ≤ s.commit) :
  d27 N ⟨servers.map sv, leaders, network⟩ i = some ⟨(servers.set i (adv s i)).map sv, leaders, network⟩ := by
 have hN' : 9223372036854775808 ≤ N := hN
 have hi := lt_of hs
 obtain ⟨y, hy⟩ := get_of (l := s.match_) (k := i) (by rw [hm.len]; exact hn)
 have hml : (s.match_.set i (s.log.length : Int)).length = n := by rw [List.length_set, hm.len]
 have hsl : (srt (s.match_.set i (s.log.length : Int))).length = n := by rw [srt_length, hml]
 obtain ⟨x, hx⟩ := get_of (l := srt (s.match_.set i (s.log.length : Int))) (k := (n - 1) / 2) (by rw [hsl]; omega)
 have hxr : 0 ≤ x ∧ x ≤ (s.log.length : Int) := by
  rcases List.mem_or_eq_of_mem_set (srt_mem (List.mem_of_getElem? hx)) with h | rfl
  ·exact hm.rng x h
  ·omega
 have hadv : adv s i = ⟨s.term, if x > s.commit ∧ ((s.log[(x - 1).toNat]?).map S64.Term) = some s.term then x else s.commit, s.log, s.match_.set i (s.log.length : Int)⟩ := by
  unfold adv
  simp only [hml, hx, Option.getD_some]
 have hmid := atl_mid (s.match_.set i (s.log.length : Int)) (k := (n - 1) / 2) (by rw [hml]) hx
 rw [hml] at hmid
 unfold d27
 dsimp only
 rw [idx_map hs, Option.bind_some, Option.bind_some]
 rw [show idx (sv s).Match (i : Int) = some y from idx_nat hy, Option.bind_some, letv_eq, letv_eq, setI_nat, setI_nat]
 have htk : (sv s).Match.set i ((sv s).Log.length : Int) = s.match_.set i (s.log.length : Int) := rfl
 rw [htk]
 generalize hs1 : (⟨s.term, s.commit, s.log, s.match_.set i (s.log.length : Int)⟩ : S61) = s1 at *
 have e1 : (⟨(sv s).Term, (sv s).Commit, (sv s).Log, s.match_.set i (s.log.length : Int)⟩ : S68) = sv s1 := by rw [← hs1]; rfl
 rw [e1, set_map]
 have g1 : (servers.set i s1)[i]? = some s1 := get_set hi
 rw [idx_map g1, Option.bind_some]
 have c1 : (sv s1).Commit = s.commit := by rw [← hs1]; rfl
 have c2 : (sv s1).Match = s.match_.set i (s.log.length : Int) := by rw [← hs1]; rfl
 have c3 : (sv s1).Log = s.log := by rw [← hs1]; rfl
 have c4 : (sv s1).Term = s.term := by rw [← hs1]; rfl
 have hmapl : ((servers.set i s1).map sv).length = n := by rw [List.length_map, List.length_set, hsn]
 refine bindO_eq (P := fun o => (o = .go () ∧ adv s i = s1) ∨ o = .ret ⟨(servers.set i (adv s i)).map sv, leaders, network⟩) (iter_post _ (fun v => v.toNat) (fun v : Int => x ≤ v ∧ v ≤ (s.log.length : Int) ∧ 0 ≤ v) _ ?_ N _ ?_ ?_) ?_ ?_
 ·rintro v ⟨hv1, hv2, hv0⟩
  try dsimp only
  rw [Option.bind_some, c1]
  by_cases hgt : v > s.commit
  ·rw [if_pos hgt, Option.bind_some, c2]
   obtain ⟨c, hc1, hc2⟩ := count_ok hN (s.match_.set i (s.log.length : Int)) v (by rw [hml]; omega)
   have hat : atl (s.match_.set i (s.log.length : Int)) v ≤ n := by
    have := List.countP_le_length (p := fun x => decide (x ≥ v)) (l := s.match_.set i (s.log.length : Int))
    rw [hml] at this
    exact this
   rw [hc1, Option.bind_some, chkI_of (by omega) (by omega), Option.bind_some, hmapl]
   have hm2 := hmid v
   by_cases hmaj : 2 * c > (n : Int)
   ·have hvx : v = x := by
     have : v ≤ x := hm2.1 (by omega)
     omega
    subst hvx
    obtain ⟨e, he⟩ := get_of (l := s.log) (k := (v - 1).toNat) (by omega)
    rw [if_pos hmaj, Option.bind_some, chkI_of (by omega) (by omega), Option.bind_some, c3, idx_toNat (by omega) he, Option.bind_some, c4]
    by_cases ht : e.Term = s.term
    ·rw [if_pos (by simpa using ht), Option.bind_some, letv_eq, setI_nat]
     refine .inr ⟨_, rfl, .inr ?_⟩
     have e2 : (⟨(sv s1).Term, v, (sv s1).Log, (sv s1).Match⟩ : S68) = sv (adv s i) := by rw [c2, c3, c4, hadv, if_pos ⟨hgt, by rw [he]; simp [ht]⟩]; rfl
     rw [e2, set_map, List.set_set]
    ·rw [if_neg (by simpa using ht)]
     refine .inr ⟨_, rfl, .inr ?_⟩
     have e2 : adv s i = s1 := by rw [hadv, if_neg (fun h => ht (by have := h.2; rw [he] at this; simpa using this)), hs1]
     rw [e2]
   ·have hvx : ¬ v ≤ x := fun h => hmaj (by have := hm2.2 h; omega)
    rw [if_neg hmaj, chkI_of (by omega) (by omega), Option.bind_some]
    exact .inl ⟨_, rfl, ⟨by omega, by omega, by omega⟩, by omega⟩
  ·rw [if_neg hgt]
   refine .inr ⟨_, rfl, .inl ⟨rfl, ?_⟩⟩
   rw [hadv, if_neg (fun h => by have := h.1; omega), hs1]
 ·rw [c3]; exact ⟨hxr.2, Int.le_refl _, by omega⟩
 ·rw [c3]; omega
 ·rintro z (⟨h, _⟩ | h)
  ·cases h
  ·injection h
 ·rintro _ (⟨_, h⟩ | h)
  ·rw [h]
  ·cases h
end Go.Proofs.Ytifcmomjjkbboab
end
section
namespace Go.Proofs.Ytifcmomjjkbboab
open Go.Ab Go.Rp

/-- the log behind k entries that are laid from place a on -/
def extS (log : List S64) (a : Nat) (e : S64) : List S64 := if (log[a]?).map S64.Term = some e.Term then log else log.take a ++ [e]
def extK (log : List S64) (a : Nat) (es : List S64) : Nat → List S64
 | 0 => log
 | k + 1 => match es[k]? with
  | some e => extS (extK log a es k) (a + k) e
  | none => extK log a es k
theorem extK_succ {log : List S64} {a : Nat} {es : List S64} {k : Nat} {e : S64} (h : es[k]? = some e) : extK log a es (k + 1) = extS (extK log a es k) (a + k) e := by
 simp only [extK, h]
theorem extS_len {log : List S64} {a : Nat} {e : S64} (h : a ≤ log.length) : a + 1 ≤ (extS log a e).length ∧ (extS log a e).length ≤ max log.length (a + 1) := by
 unfold extS
 split
 ·rename_i hc
  cases hl : log[a]? with
  | none => rw [hl] at hc; cases hc
  | some x => have := lt_of hl; omega
 ·simp; omega
theorem extK_len {log : List S64} {a : Nat} {es : List S64} (h : a ≤ log.length) : ∀ k, k ≤ es.length → a + k ≤ (extK log a es k).length ∧ (extK log a es k).length ≤ max log.length (a + k)
 | 0, _ => by simp only [extK]; omega
 | k + 1, hk => by
  obtain ⟨e, he⟩ := get_of (l := es) (k := k) (by omega)
  obtain ⟨h1, h2⟩ := extK_len (es := es) h k (by omega)
  rw [extK_succ he]
  obtain ⟨h3, h4⟩ := extS_len (log := extK log a es k) (a := a + k) (e := e) h1
  omega
def okPrev (log : List S64) (a : Nat) (prev : Int) : Bool := decide (a ≤ log.length) && (decide (a = 0) || decide ((log[a - 1]?).map S64.Term = some prev))
def recv (s : S61) (m : S73) : S61 :=
 if okPrev s.log m.Index.toNat m.PrevTerm = true then ⟨m.Term, maxI s.commit (minI m.Commit (m.Index + (m.Entries.length : Int))), extK s.log m.Index.toNat m.Entries m.Entries.length, s.match_⟩ else ⟨m.Term, s.commit, s.log, s.match_⟩
def ackOf (m : S73) : S73 := S73.mk 2 m.To m.From m.Term (m.Index + (m.Entries.length : Int)) 0 0 []
def recvN (s : S61) (m : S73) (nw : List S73) : List S73 := if okPrev s.log m.Index.toNat m.PrevTerm = true ∧ nw.length < 100 then nw ++ [ackOf m] else nw

structure TakeOk (servers : List S61) (i : Nat) (s : S61) (m : S73) (nw : List S73) : Prop where
 hs : servers[i]? = some s
 to : m.To = (i : Int)
 idx : 0 ≤ m.Index
 sum : m.Index + (m.Entries.length : Int) ≤ 60
 len : s.log.length ≤ 60
 net : nw.length ≤ 100

theorem natI_of {n : Nat} {k : Nat} (h : n ≤ k) : natI (n : Int) k = some n := by
 unfold natI
 rw [if_pos ⟨by omega, by omega⟩]
 rfl
theorem prev_prog {log : List S64} {a : Nat} {prev : Int} (ha : a ≤ 60) : (if (a : Int) > (log.length : Int) then (some true) else if (a : Int) > 0 then ((chkI ((a : Int) - 1)).bind fun v23 => (Go.Ab.idx log v23).bind fun x24 => some (x24.Term != prev)) else some false) = some (!okPrev log a prev) := by
 unfold okPrev
 by_cases h1 : a ≤ log.length
 ·rw [if_neg (by omega)]
  by_cases h2 : a = 0
  ·subst h2; rw [if_neg (by decide)]; simp
  ·obtain ⟨e, he⟩ := get_of (l := log) (k := a - 1) (by omega)
   rw [if_pos (by omega), chkI_of (by omega) (by omega), Option.bind_some, show (a : Int) - 1 = ((a - 1 : Nat) : Int) by omega, idx_nat he, Option.bind_some, he]
   simp [h1, h2]
   by_cases h3 : e.Term = prev <;> simp [h3]
 ·rw [if_pos (by omega)]; simp [h1]

theorem d30_ok {N : Nat} (hN : bigN N) {servers : List S61} {leaders : List Int} {nw : List S73} {i : Nat} {s : S61} {m : S73} (h : TakeOk servers i s m nw) :
  d30 N ⟨servers, leaders, nw⟩ m = some ⟨servers.set i (recv s m), leaders, recvN s m nw⟩ := by
 have hN' : 9223372036854775808 ≤ N := hN
 obtain ⟨hs, hto, hidx, hsum, hlen, hnet⟩ := h
 obtain ⟨a, ha⟩ : ∃ a : Nat, m.Index = (a : Int) := ⟨m.Index.toNat, by omega⟩
 have hi := lt_of hs
 unfold d30
 dsimp only
 rw [hto, ha, idx_nat hs, Option.bind_some, Option.bind_some, letv_eq, setI_nat]
 have g1 : ∀ x : S61, (servers.set i x)[i]? = some x := fun x => get_set hi
 rw [idx_nat (g1 _), Option.bind_some]
 rw [prev_prog (by omega), Option.bind_some]
 unfold recv recvN
 rw [ha, Int.toNat_natCast]
 cases hok : okPrev s.log a m.PrevTerm with
 | false =>
  rw [if_pos (by rfl), if_neg (by simp), if_neg (by simp)]
 | true =>
  have hal : a ≤ s.log.length := by
   unfold okPrev at hok
   simp only [Bool.and_eq_true, decide_eq_true_eq] at hok
   exact hok.1
  rw [if_neg (by decide), if_pos rfl]
  refine bind_eq (P := fun l => l = servers.set i ⟨m.Term, s.commit, extK s.log a m.Entries m.Entries.length, s.match_⟩) (loop_idx (σ := List S61) (τ := List S61 × Int) m.Entries.length (fun l k => (l, k)) _ (fun k l => l = servers.set i ⟨m.Term, s.commit, extK s.log a m.Entries k, s.match_⟩) _ ?_ ?_ _ rfl (n := N) (by omega)) ?_
  ·rintro k l hk rfl
   obtain ⟨e, he⟩ := get_of hk
   obtain ⟨l1, l2⟩ := extK_len (es := m.Entries) hal k (by omega)
   try dsimp only
   rw [if_pos (by omega), idx_nat he, Option.bind_some, chkI_of (by omega) (by omega), Option.bind_some, idx_nat (g1 _)]
   simp only [Option.bind_some]
   have hak : (a : Int) + (k : Int) = ((a + k : Nat) : Int) := by omega
   rw [hak]
   have htl : (extK s.log a m.Entries k).take (a + k) = (extK s.log a m.Entries k).take (a + k) := rfl
   refine .inl ⟨servers.set i ⟨m.Term, s.commit, extK s.log a m.Entries (k + 1), s.match_⟩, ?_, rfl⟩
   rw [extK_succ he]
   have key : ∀ b : Bool, b = decide (((extK s.log a m.Entries k)[a + k]?).map S64.Term = some e.Term) → ((if b = true then some (servers.set i ⟨m.Term, s.commit, extK s.log a m.Entries k, s.match_⟩) else
     (natI ((a + k : Nat) : Int) (extK s.log a m.Entries k).length).bind fun n277 =>
     (d26 N ((extK s.log a m.Entries k).take n277)).bind fun r278 =>
     (appL 24 r278 [e]).bind fun l279 =>
     letv (setI (servers.set i ⟨m.Term, s.commit, extK s.log a m.Entries k, s.match_⟩) i (S61.mk m.Term s.commit (r278 ++ [e]) s.match_)) fun l280 =>
     some l280)) = some (servers.set i ⟨m.Term, s.commit, extS (extK s.log a m.Entries k) (a + k) e, s.match_⟩) := fun b hb => by
    unfold extS
    by_cases hc : ((extK s.log a m.Entries k)[a + k]?).map S64.Term = some e.Term
    ·rw [if_pos (by rw [hb]; simpa using hc), if_pos hc]
    ·rw [if_neg (by rw [hb]; simpa using hc), if_neg hc, natI_of l1, Option.bind_some]
     have htk : ((extK s.log a m.Entries k).take (a + k)).length ≤ 60 := by rw [List.length_take]; omega
     rw [show d26 N ((extK s.log a m.Entries k).take (a + k)) = some ((extK s.log a m.Entries k).take (a + k)) from if_pos (by unfold reach; omega), Option.bind_some, appL_of (by simp only [List.length_cons, List.length_nil]; unfold reach; omega), Option.bind_some, letv_eq, setI_nat, List.set_set]
   by_cases hlt : a + k < (extK s.log a m.Entries k).length
   ·obtain ⟨x, hx⟩ := get_of hlt
    rw [if_pos (by omega), idx_nat hx, Option.bind_some, Option.bind_some]
    rw [key _ (by rw [hx]; by_cases hq : x.Term = e.Term <;> simp [hq]), Option.bind_some, chkI_of (by omega) (by omega), Option.bind_some]
   ·rw [if_neg (by omega), Option.bind_some]
    rw [key _ (by rw [List.getElem?_eq_none (by omega)]; simp), Option.bind_some, chkI_of (by omega) (by omega), Option.bind_some]
  ·rintro l rfl
   try dsimp only
   rw [if_neg (by omega)]
   exact ⟨_, rfl, rfl⟩
  ·rintro l rfl
   rw [chkI_of (by omega) (by omega), Option.bind_some, idx_nat (g1 _), Option.bind_some, letv_eq, letv_eq, letv_eq, setI_nat, List.set_set]
   by_cases hn : nw.length < 100
   ·rw [if_pos (by omega), if_pos ⟨rfl, hn⟩, appL_of (by simp only [List.length_cons, List.length_nil]; unfold reach; omega), Option.bind_some]
    unfold ackOf
    rw [hto, ha]
   ·rw [if_neg (by omega), if_neg (fun h => hn h.2)]
theorem d18_ok {N : Nat} (hN : bigN N) {servers : List S61} {leaders : List Int} {nw : List S73} {i : Nat} {s : S61} {m : S73} (h : TakeOk servers i s m nw) (ht : s.term ≤ m.Term) (hk : m.Kind = 1) :
  d18 N ⟨servers.map sv, leaders, nw⟩ m = some ⟨(servers.set i (recv s m)).map sv, leaders, recvN s m nw⟩ := by
 have hN' : 9223372036854775808 ≤ N := hN
 obtain ⟨hs, hto, hidx, hsum, hlen, hnet⟩ := h
 obtain ⟨a, ha⟩ : ∃ a : Nat, m.Index = (a : Int) := ⟨m.Index.toNat, by omega⟩
 have hi := lt_of hs
 unfold d18
 dsimp only
 rw [hto, ha, idx_map hs, Option.bind_some, Option.bind_some, if_neg (show ¬ m.Term < (sv s).Term by show ¬ m.Term < s.term; omega), if_neg (by rw [hk]; decide), Option.bind_some, letv_eq, setI_nat]
 have g1 : ∀ x : S61, ((servers.set i x).map sv)[i]? = some (sv x) := fun x => get_map (get_set hi)
 have e0 : (⟨m.Term, (sv s).Commit, (sv s).Log, (sv s).Match⟩ : S68) = sv ⟨m.Term, s.commit, s.log, s.match_⟩ := rfl
 rw [e0, set_map, idx_nat (g1 _), Option.bind_some]
 have hp := prev_prog (log := s.log) (a := a) (prev := m.PrevTerm) (by omega)
 have hp' : (if ((sv ⟨m.Term, s.commit, s.log, s.match_⟩).Log.length : Int) < (a : Int) then (some true) else if (a : Int) > 0 then ((chkI ((a : Int) - 1)).bind fun v23 => (Go.Ab.idx (sv ⟨m.Term, s.commit, s.log, s.match_⟩).Log v23).bind fun x24 => some (x24.Term != m.PrevTerm)) else some false) = some (!okPrev s.log a m.PrevTerm) := hp
 rw [hp', Option.bind_some]
 unfold recv recvN
 rw [ha, Int.toNat_natCast]
 cases hok : okPrev s.log a m.PrevTerm with
 | false =>
  rw [if_pos (by rfl), if_neg (by simp), if_neg (by simp)]
 | true =>
  have hal : a ≤ s.log.length := by
   unfold okPrev at hok
   simp only [Bool.and_eq_true, decide_eq_true_eq] at hok
   exact hok.1
  rw [if_neg (by decide), if_pos rfl]
  refine bind_eq (P := fun l => l = (servers.set i ⟨m.Term, s.commit, extK s.log a m.Entries m.Entries.length, s.match_⟩).map sv) (loop_idx (σ := List S68) (τ := List S68 × Int) m.Entries.length (fun l k => (l, k)) _ (fun k l => l = (servers.set i ⟨m.Term, s.commit, extK s.log a m.Entries k, s.match_⟩).map sv) _ ?_ ?_ _ rfl (n := N) (by omega)) ?_
  ·rintro k l hk rfl
   obtain ⟨e, he⟩ := get_of hk
   obtain ⟨l1, l2⟩ := extK_len (es := m.Entries) hal k (by omega)
   have hext := extK_succ (log := s.log) (a := a) he
   generalize extK s.log a m.Entries k = L at *
   rw [hext]
   try dsimp only
   rw [if_pos (by omega), idx_nat he, Option.bind_some, chkI_of (by omega) (by omega), Option.bind_some, idx_nat (g1 _)]
   simp only [Option.bind_some]
   have hak : (a : Int) + (k : Int) = ((a + k : Nat) : Int) := by omega
   rw [hak]
   refine .inl ⟨(servers.set i ⟨m.Term, s.commit, extS L (a + k) e, s.match_⟩).map sv, ?_, rfl⟩
   have cL : (sv ⟨m.Term, s.commit, L, s.match_⟩).Log = L := rfl
   have cT : (sv ⟨m.Term, s.commit, L, s.match_⟩).Term = m.Term := rfl
   have cC : (sv ⟨m.Term, s.commit, L, s.match_⟩).Commit = s.commit := rfl
   have cM : (sv ⟨m.Term, s.commit, L, s.match_⟩).Match = s.match_ := rfl
   rw [cL, cT, cC, cM]
   have fin : ∀ L' : List S64, (⟨m.Term, s.commit, L', s.match_⟩ : S68) = sv ⟨m.Term, s.commit, L', s.match_⟩ := fun _ => rfl
   have hlen60 : L.length ≤ 60 := by omega
   by_cases hlt : a + k < L.length
   ·obtain ⟨x, hx⟩ := get_of hlt
    rw [if_pos (by omega), idx_nat hx, Option.bind_some, Option.bind_some]
    by_cases hc : x.Term = e.Term
    ·rw [if_neg (by simpa using hc), Option.bind_some]
     dsimp only
     rw [idx_nat (g1 _), Option.bind_some, cL, if_neg (by simp; omega), chkI_of (by omega) (by omega), Option.bind_some]
     unfold extS
     rw [if_pos (by rw [hx]; simp [hc])]
    ·rw [if_pos (by simpa using hc)]
     have htk : (L.take (a + k)).length = a + k := by rw [List.length_take]; omega
     rw [natI_of l1, Option.bind_some, letv_eq, appL_of (by rw [htk]; simp only [List.length_nil]; unfold reach; omega), Option.bind_some, letv_eq, setI_nat, fin, set_map, List.set_set, Option.bind_some]
     dsimp only
     rw [idx_nat (g1 _), Option.bind_some, Option.bind_some]
     have cL' : (sv ⟨m.Term, s.commit, L.take (a + k), s.match_⟩).Log = L.take (a + k) := rfl
     rw [cL', if_pos (by simp), appL_of (by rw [htk]; simp only [List.length_nil]; unfold reach; omega), Option.bind_some, appL_of (by simp only [List.nil_append, List.length_cons, List.length_nil]; rw [htk]; unfold reach; omega), Option.bind_some, letv_eq, setI_nat]
     rw [show (⟨(sv ⟨m.Term, s.commit, L.take (a + k), s.match_⟩).Term, (sv ⟨m.Term, s.commit, L.take (a + k), s.match_⟩).Commit, ([] ++ L.take (a + k)) ++ [e], (sv ⟨m.Term, s.commit, L.take (a + k), s.match_⟩).Match⟩ : S68) = sv ⟨m.Term, s.commit, L.take (a + k) ++ [e], s.match_⟩ from rfl, set_map, List.set_set, chkI_of (by omega) (by omega), Option.bind_some]
     unfold extS
     rw [if_neg (by rw [hx]; simpa using hc)]
   ·rw [if_neg (by omega), Option.bind_some, if_neg (by decide), Option.bind_some]
    dsimp only
    have hL : a + k = L.length := by omega
    rw [idx_nat (g1 _), Option.bind_some, Option.bind_some, cL, if_pos (by rw [hL]; simp), appL_of (by simp only [List.length_nil]; unfold reach; omega), Option.bind_some, appL_of (by simp only [List.nil_append, List.length_cons, List.length_nil]; unfold reach; omega), Option.bind_some, letv_eq, setI_nat]
    rw [show (⟨(sv ⟨m.Term, s.commit, L, s.match_⟩).Term, (sv ⟨m.Term, s.commit, L, s.match_⟩).Commit, ([] ++ L) ++ [e], (sv ⟨m.Term, s.commit, L, s.match_⟩).Match⟩ : S68) = sv ⟨m.Term, s.commit, L ++ [e], s.match_⟩ from rfl, set_map, List.set_set, chkI_of (by omega) (by omega), Option.bind_some]
    unfold extS
    rw [if_neg (by rw [List.getElem?_eq_none (by omega)]; simp), List.take_of_length_le (by omega)]
  ·rintro l rfl
   try dsimp only
   rw [if_neg (by omega)]
   exact ⟨_, rfl, rfl⟩
  ·rintro l rfl
   rw [chkI_of (by omega) (by omega), Option.bind_some, letv_eq, idx_nat (g1 _), Option.bind_some, Option.bind_some]
   generalize hv : minI m.Commit ((a : Int) + (m.Entries.length : Int)) = v at *
   have hset : (if v > (sv ⟨m.Term, s.commit, extK s.log a m.Entries m.Entries.length, s.match_⟩).Commit then
     (letv (setI ((servers.set i ⟨m.Term, s.commit, extK s.log a m.Entries m.Entries.length, s.match_⟩).map sv) i (S68.mk (sv ⟨m.Term, s.commit, extK s.log a m.Entries m.Entries.length, s.match_⟩).Term v (sv ⟨m.Term, s.commit, extK s.log a m.Entries m.Entries.length, s.match_⟩).Log (sv ⟨m.Term, s.commit, extK s.log a m.Entries m.Entries.length, s.match_⟩).Match)) fun l284 => some l284)
     else some ((servers.set i ⟨m.Term, s.commit, extK s.log a m.Entries m.Entries.length, s.match_⟩).map sv)) = some ((servers.set i ⟨m.Term, maxI s.commit v, extK s.log a m.Entries m.Entries.length, s.match_⟩).map sv) := by
    have cC : (sv ⟨m.Term, s.commit, extK s.log a m.Entries m.Entries.length, s.match_⟩).Commit = s.commit := rfl
    rw [cC]
    unfold maxI
    by_cases hgt : v > s.commit
    ·rw [if_pos hgt, if_pos hgt, letv_eq, setI_nat]
     rw [show (S68.mk (sv ⟨m.Term, s.commit, extK s.log a m.Entries m.Entries.length, s.match_⟩).Term v (sv ⟨m.Term, s.commit, extK s.log a m.Entries m.Entries.length, s.match_⟩).Log (sv ⟨m.Term, s.commit, extK s.log a m.Entries m.Entries.length, s.match_⟩).Match) = sv ⟨m.Term, v, extK s.log a m.Entries m.Entries.length, s.match_⟩ from rfl, set_map, List.set_set]
    ·rw [if_neg hgt, if_neg hgt]
   rw [hset, Option.bind_some]
   by_cases hn : nw.length < 100
   ·rw [if_pos (by omega), if_pos ⟨rfl, hn⟩, appL_of (by simp only [List.length_cons, List.length_nil]; unfold reach; omega), Option.bind_some]
    unfold ackOf
    rw [hto, ha]
   ·rw [if_neg (by omega), if_neg (fun h => hn h.2)]
end Go.Proofs.Ytifcmomjjkbboab
end
section
namespace Go.Proofs.Ytifcmomjjkbboab
open Go.Ab Go.Rp

structure MsgOk (n : Nat) (S : List S61) (tl : List Int) (m : S73) : Prop where
 fr : 0 ≤ m.From ∧ m.From < n
 to : 0 ≤ m.To ∧ m.To < n
 idx : 0 ≤ m.Index
 com : 0 ≤ m.Commit
 sum : m.Index + (m.Entries.length : Int) ≤ 60
 own : ∃ t o : Nat, m.Term = (t : Int) + 1 ∧ tl[t]? = some (o : Int) ∧ ((m.Kind = 1 ∧ m.From = o ∧ m.To ≠ o) ∨ (m.Kind = 2 ∧ m.To = o)) ∧ ∀ s, S[o]? = some s → s.term = m.Term → m.Index + (m.Entries.length : Int) ≤ (s.log.length : Int)
structure SrvOk (n : Nat) (tl : List Int) (i : Nat) (s : S61) : Prop where
 term : ∃ t : Nat, s.term = (t : Int) + 1 ∧ t < tl.length
 com : 0 ≤ s.commit
 len : s.log.length ≤ 60
 lead : ∀ t : Nat, s.term = (t : Int) + 1 → tl[t]? = some (i : Int) → MatchOk n s
structure Inv (n : Nat) (S : List S61) (tl : List Int) (W : List S73) : Prop where
 n1 : 1 ≤ n
 n5 : n ≤ 5
 sl : S.length = n
 tl1 : 1 ≤ tl.length
 tl60 : tl.length ≤ 60
 lead : ∀ x ∈ tl, 0 ≤ x ∧ x < (n : Int)
 srv : ∀ (i : Nat) s, S[i]? = some s → SrvOk n tl i s
 wl : W.length ≤ 100
 msg : ∀ m ∈ W, MsgOk n S tl m

theorem MsgOk.upd {n : Nat} {S : List S61} {tl : List Int} {m : S73} (h : MsgOk n S tl m) {i : Nat} {s s' : S61} (hs : S[i]? = some s)
  (h3 : (s'.term = s.term ∧ s.log.length ≤ s'.log.length) ∨ (∀ t : Nat, s'.term = (t : Int) + 1 → tl[t]? ≠ some (i : Int))) : MsgOk n (S.set i s') tl m := by
 refine ⟨h.fr, h.to, h.idx, h.com, h.sum, ?_⟩
 obtain ⟨t, o, h1, h2, h4, h5⟩ := h.own
 refine ⟨t, o, h1, h2, h4, fun q hq hqt => ?_⟩
 rw [List.getElem?_set] at hq
 split at hq
 ·rename_i hio
  subst hio
  split at hq
  ·injection hq with hq
   subst hq
   rcases h3 with ⟨e1, e2⟩ | h3
   ·have := h5 s hs (by rw [← e1]; exact hqt)
    omega
   ·exact absurd h2 (h3 t (by rw [hqt, h1]))
  ·cases hq
 ·exact h5 q hq hqt
theorem Inv.upd {n : Nat} {S : List S61} {tl : List Int} {W : List S73} (h : Inv n S tl W) {i : Nat} {s s' : S61} (hs : S[i]? = some s) (h1 : SrvOk n tl i s')
  (h3 : (s'.term = s.term ∧ s.log.length ≤ s'.log.length) ∨ (∀ t : Nat, s'.term = (t : Int) + 1 → tl[t]? ≠ some (i : Int))) : Inv n (S.set i s') tl W := by
 refine ⟨h.n1, h.n5, by rw [List.length_set]; exact h.sl, h.tl1, h.tl60, h.lead, fun j q hq => ?_, h.wl, fun m hm => (h.msg m hm).upd hs h3⟩
 rw [List.getElem?_set] at hq
 split at hq
 ·rename_i hio
  subst hio
  split at hq
  ·injection hq with hq
   subst hq
   exact h1
  ·cases hq
 ·exact h.srv j q hq
theorem Inv.sub {n : Nat} {S : List S61} {tl : List Int} {W W' : List S73} (h : Inv n S tl W) (hl : W'.length ≤ 100) (hm : ∀ m ∈ W', MsgOk n S tl m) : Inv n S tl W' :=
 ⟨h.n1, h.n5, h.sl, h.tl1, h.tl60, h.lead, h.srv, hl, hm⟩

theorem adv_match {n i : Nat} {s : S61} (h : MatchOk n s) : MatchOk n (adv s i) := by
 refine ⟨?_, fun x hx => ?_⟩
 ·show (s.match_.set i _).length = n
  rw [List.length_set]; exact h.len
 ·have hx : x ∈ s.match_.set i (s.log.length : Int) := hx
  rcases List.mem_or_eq_of_mem_set hx with hx | rfl
  ·exact h.rng x hx
  ·exact ⟨by omega, Int.le_refl _⟩
theorem adv_ok {n i : Nat} {tl : List Int} {s : S61} (h : SrvOk n tl i s) (hm : MatchOk n s) (_hi : i < n) : SrvOk n tl i (adv s i) := by
 refine ⟨h.term, ?_, h.len, fun _ _ _ => adv_match hm⟩
 show 0 ≤ (if _ then _ else _ : Int)
 split
 ·rename_i hc
  have := h.com
  have := hc.1
  omega
 ·exact h.com

/-! ### the reference keeps the row of matches of servers that never led -/
def rel (s g : S61) : Prop := s = g ∨ (s.match_ = [] ∧ s.term = g.term ∧ s.commit = g.commit ∧ s.log = g.log)
theorem rel.term {s g : S61} (h : rel s g) : s.term = g.term := h.elim (fun e => e ▸ rfl) fun h => h.2.1
theorem rel.commit {s g : S61} (h : rel s g) : s.commit = g.commit := h.elim (fun e => e ▸ rfl) fun h => h.2.2.1
theorem rel.log {s g : S61} (h : rel s g) : s.log = g.log := h.elim (fun e => e ▸ rfl) fun h => h.2.2.2
theorem rel.lead {s g : S61} (h : rel s g) {n : Nat} (hn : 1 ≤ n) (hm : MatchOk n s) : s = g := by
 rcases h with h | ⟨h, _⟩
 ·exact h
 ·have := hm.len
  rw [h] at this
  simp at this
  omega
structure Like (P G : List S61) : Prop where
 len : P.length = G.length
 get : ∀ (i : Nat) s, P[i]? = some s → ∃ g, G[i]? = some g ∧ rel s g
theorem Like.back {P G : List S61} (h : Like P G) {i : Nat} {g : S61} (hg : G[i]? = some g) : ∃ s, P[i]? = some s ∧ rel s g := by
 obtain ⟨s, hs⟩ := get_of (l := P) (k := i) (by rw [h.len]; exact lt_of hg)
 obtain ⟨g', hg', hr⟩ := h.get i s hs
 rw [hg] at hg'
 injection hg' with hg'
 subst hg'
 exact ⟨s, hs, hr⟩
theorem Like.set {P G : List S61} (h : Like P G) (i : Nat) {s g : S61} (hr : rel s g) : Like (P.set i s) (G.set i g) := by
 refine ⟨by rw [List.length_set, List.length_set]; exact h.len, fun j q hq => ?_⟩
 rw [List.getElem?_set] at hq ⊢
 by_cases hij : i = j
 ·subst hij
  rw [if_pos rfl] at hq ⊢
  split at hq
  ·rename_i hl
   injection hq with hq
   subst hq
   exact ⟨g, by rw [if_pos (by rw [← h.len]; exact hl)], hr⟩
  ·cases hq
 ·rw [if_neg hij] at hq ⊢
  exact h.get j q hq

/-! ### small programs -/
theorem nt : ¬ ((!true) = true) := by decide
theorem d23_ok (N : Nat) (p : S59) (a : Int) : d23 N p a = some (decide (0 ≤ a ∧ a < (p.servers.length : Int))) := by
 unfold d23
 by_cases h : a ≥ 0
 ·rw [if_pos h, Option.bind_some]; congr 1; by_cases h2 : a < (p.servers.length : Int) <;> simp [h2] <;> omega
 ·rw [if_neg h, Option.bind_some]; congr 1; simp; omega
theorem d12_ok (N : Nat) (x lo hi : Int) : d12 N x lo hi = some (decide (lo ≤ x ∧ x ≤ hi)) := by
 unfold d12
 by_cases h : x ≥ lo
 ·rw [if_pos h, Option.bind_some]; congr 1; by_cases h2 : x ≤ hi <;> simp [h2] <;> omega
 ·rw [if_neg h, Option.bind_some]; congr 1; simp; omega
theorem valid_ref (N : Nat) {n : Nat} (hn : 1 ≤ n) (hn5 : n ≤ 5) (a : Int) {β : Type} (K : Bool → Option β) : ((chkI ((n : Int) - 1)).bind fun v => (d12 N a 0 v).bind K) = K (decide (0 ≤ a ∧ a < (n : Int))) := by
 rw [chkI_of (by omega) (by omega), Option.bind_some, d12_ok, Option.bind_some]
 congr 1
 exact decide_eq_decide.2 ⟨fun h => ⟨h.1, by omega⟩, fun h => ⟨h.1, by omega⟩⟩
def isL (tl : List Int) (s : S61) (i : Int) : Bool := decide (tl[(s.term - 1).toNat]? = some i)
theorem d24_ok (N : Nat) {n : Nat} {S : List S61} {tl : List Int} {W : List S73} {i : Nat} {s : S61} (hs : S[i]? = some s) (h : SrvOk n tl i s) : d24 N ⟨S, 0 :: tl, W⟩ i = some (isL tl s i) := by
 obtain ⟨t, h1, h2⟩ := h.term
 obtain ⟨x, hx⟩ := get_of h2
 unfold d24 isL
 rw [idx_nat hs, Option.bind_some, h1, show (t : Int) + 1 = ((t + 1 : Nat) : Int) by omega, idx_nat (x := x) (by simpa using hx), Option.bind_some]
 congr 1
 rw [show (((t + 1 : Nat) : Int) - 1).toNat = t by omega, hx]
 by_cases h : x = (i : Int) <;> simp [h]
theorem d13_ok (N : Nat) {n : Nat} {S : List S61} {tl : List Int} {W : List S73} {i : Nat} {s0 s : S61} (hs : S[i]? = some s) (h : SrvOk n tl i s0) (hr : rel s0 s) : d13 N ⟨S.map sv, -1 :: tl, W⟩ i = some (isL tl s0 i) := by
 obtain ⟨t, h1, h2⟩ := h.term
 have hi : isL tl s0 i = isL tl s i := by unfold isL; rw [hr.term]
 rw [hi]
 rw [hr.term] at h1
 obtain ⟨x, hx⟩ := get_of h2
 unfold d13 isL
 dsimp only
 rw [idx_map hs, Option.bind_some, show (sv s).Term = s.term from rfl, h1, show (t : Int) + 1 = ((t + 1 : Nat) : Int) by omega, idx_nat (x := x) (by simpa using hx), Option.bind_some]
 congr 1
 rw [show (((t + 1 : Nat) : Int) - 1).toNat = t by omega, hx]
 by_cases h : x = (i : Int) <;> simp [h]
theorem isL_match {n : Nat} {tl : List Int} {i : Nat} {s : S61} (h : SrvOk n tl i s) (hl : isL tl s i = true) : MatchOk n s := by
 obtain ⟨t, h1, h2⟩ := h.term
 refine h.lead t h1 ?_
 unfold isL at hl
 rw [h1] at hl
 simpa using hl

/-! ### Append -/
theorem append_ok {N : Nat} (hN : bigN N) {n : Nat} {S G : List S61} {tl : List Int} {W : List S73} (h : Inv n S tl W) (hG : Like S G) (a : Int) (b : ByteArray) :
  ∃ S' G' e, d5 N ⟨S, 0 :: tl, W⟩ a b = some (⟨S', 0 :: tl, W⟩, e) ∧ d10 N ⟨G.map sv, -1 :: tl, W⟩ a b = some (⟨G'.map sv, -1 :: tl, W⟩, e) ∧ Inv n S' tl W ∧ Like S' G' := by
 unfold d5 d10
 dsimp only
 have hGl : G.length = n := hG.len.symm.trans h.sl
 rw [List.length_map, hGl, valid_ref N h.n1 h.n5 a, d23_ok, h.sl, Option.bind_some]
 by_cases hr : 0 ≤ a ∧ a < (n : Int)
 ·obtain ⟨i, rfl⟩ : ∃ i : Nat, a = (i : Int) := ⟨a.toNat, by omega⟩
  have hi : i < n := by omega
  obtain ⟨s, hs⟩ := get_of (l := S) (k := i) (by rw [h.sl]; exact hi)
  have so := h.srv i s hs
  obtain ⟨g, hg, hrl⟩ := hG.get i s hs
  rw [decide_eq_true hr, if_neg nt, if_neg nt]
  by_cases hb : (b.size : Int) > 24
  ·rw [if_pos hb, if_pos hb]
   exact ⟨S, G, _, rfl, rfl, h, hG⟩
  ·rw [if_neg hb, if_neg hb, d24_ok N hs so, d13_ok N hg so hrl, Option.bind_some, Option.bind_some]
   cases hl : isL tl s i with
   | false => exact ⟨S, G, _, rfl, rfl, h, hG⟩
   | true =>
    have hm := isL_match so hl
    obtain rfl := hrl.lead h.n1 hm
    rw [if_neg nt, if_neg nt, idx_nat hs, idx_map hg]
    simp only [Option.bind_some]
    have hlen := so.len
    by_cases hf : s.log.length = 60
    ·rw [if_pos (by simp [hf]), if_pos (show ((sv s).Log.length : Int) ≥ 60 by show (s.log.length : Int) ≥ 60; omega)]
     exact ⟨S, G, _, rfl, rfl, h, hG⟩
    ·rw [if_neg (by simp; omega), if_neg (show ¬ ((sv s).Log.length : Int) ≥ 60 by show ¬ (s.log.length : Int) ≥ 60; omega)]
     rw [appL_of (by simp only [List.length_cons, List.length_nil]; unfold reach; omega), Option.bind_some, letv_eq, setI_nat]
     rw [show appL 24 (sv s).Log [(⟨(sv s).Term, b⟩ : S64)] = some ((sv s).Log ++ [⟨(sv s).Term, b⟩]) from appL_of (by show (s.log.length + 1) * 24 ≤ reach; unfold reach; omega), Option.bind_some, letv_eq, setI_nat]
     generalize hs1 : (⟨s.term, s.commit, s.log ++ [⟨s.term, b⟩], s.match_⟩ : S61) = s1
     rw [show (⟨(sv s).Term, (sv s).Commit, (sv s).Log ++ [⟨(sv s).Term, b⟩], (sv s).Match⟩ : S68) = sv s1 by rw [← hs1]; rfl, set_map]
     have g1 : (S.set i s1)[i]? = some s1 := get_set (by rw [h.sl]; exact hi)
     have g2 : (G.set i s1)[i]? = some s1 := get_set (by rw [hGl]; exact hi)
     have hm1 : MatchOk n s1 := by
      rw [← hs1]
      exact ⟨hm.len, fun x hx => ⟨(hm.rng x hx).1, by have := (hm.rng x hx).2; simp; omega⟩⟩
     have so1 : SrvOk n tl i s1 := ⟨by rw [← hs1]; exact so.term, by rw [← hs1]; exact so.com, by rw [← hs1]; simp; omega, fun _ _ _ => hm1⟩
     have inv1 : Inv n (S.set i s1) tl W := h.upd hs so1 (.inl (by rw [← hs1]; simp))
     rw [d25_ok g1 hi h.n5 hm1 so1.len so1.com, d27_ok hN g2 hi (by rw [List.length_set]; exact hGl) h.n5 hm1 so1.len so1.com, Option.bind_some, Option.bind_some, List.set_set, List.set_set]
     refine ⟨_, _, _, rfl, rfl, ?_, hG.set i (.inl rfl)⟩
     have := inv1.upd g1 (adv_ok so1 hm1 hi) (.inl ⟨rfl, Nat.le_refl _⟩)
     rwa [List.set_set] at this
 ·rw [decide_eq_false hr]
  exact ⟨S, G, _, rfl, rfl, h, hG⟩

/-! ### Send -/
def sendOf (s : S61) (i j : Int) (x : Nat) : S73 := S73.mk 1 i j s.term x (if x > 0 then ((s.log[x - 1]?).map S64.Term).getD 0 else 0) s.commit ((s.log.take (min s.log.length (x + 3))).drop x)
theorem take_drop_succ {α : Type} {l : List α} {x k : Nat} {e : α} (h : l[x + k]? = some e) : (l.take (x + (k + 1))).drop x = (l.take (x + k)).drop x ++ [e] := by
 rw [← Nat.add_assoc, List.take_add_one, h, List.drop_append]
 have := lt_of h
 rw [List.length_take, Nat.min_eq_left (by omega), show x - (x + k) = 0 by omega]
 rfl
theorem d14_ok {N : Nat} (hN : bigN N) {S : List S61} {ld : List Int} {W : List S73} {i j x : Nat} {s : S61} (hs : S[i]? = some s) (hx : s.match_[j]? = some (x : Int)) (hxl : x ≤ s.log.length) (hl : s.log.length ≤ 60) :
  d14 N ⟨S.map sv, ld, W⟩ i j = some (sendOf s i j x) := by
 have hN' : 9223372036854775808 ≤ N := hN
 unfold d14
 dsimp only
 rw [idx_map hs, Option.bind_some, show idx (sv s).Match (j : Int) = some (x : Int) from idx_nat hx, Option.bind_some]
 have c1 : (sv s).Log = s.log := rfl
 have c2 : (sv s).Term = s.term := rfl
 have c3 : (sv s).Commit = s.commit := rfl
 rw [c1, c2, c3]
 refine bind_eq (P := fun l => l = (s.log.take (min s.log.length (x + 3))).drop x) (iter_post _ (fun q => (x + 3 : Nat) - q.2.toNat) (fun q => ∃ k : Nat, q = ((s.log.take (x + k)).drop x, ((x + k : Nat) : Int)) ∧ x + k ≤ min s.log.length (x + 3)) _ ?_ N _ ⟨0, by simp, by omega⟩ (by dsimp only; omega)) ?_
 ·rintro q ⟨k, rfl, hk⟩
  try dsimp only
  have hlen : ((s.log.take (x + k)).drop x).length ≤ 60 := by rw [List.length_drop, List.length_take]; omega
  by_cases h1 : x + k < s.log.length
  ·rw [if_pos (by omega), chkI_of (by omega) (by omega), Option.bind_some, Option.bind_some]
   by_cases h2 : x + k < x + 3
   ·obtain ⟨e, he⟩ := get_of h1
    rw [if_pos (by simp; omega), idx_nat he, Option.bind_some, appL_of (by simp only [List.length_cons, List.length_nil]; unfold reach; omega), Option.bind_some, chkI_of (by omega) (by omega), Option.bind_some]
    refine .inl ⟨_, rfl, ⟨k + 1, ?_, by omega⟩, by dsimp only; omega⟩
    rw [take_drop_succ he]
    rfl
   ·rw [if_neg (by simp; omega)]
    exact .inr ⟨_, rfl, by rw [show min s.log.length (x + 3) = x + k by omega]⟩
  ·rw [if_neg (by omega), Option.bind_some, if_neg (by decide)]
   exact .inr ⟨_, rfl, by rw [show min s.log.length (x + 3) = x + k by omega]⟩
 ·rintro l rfl
  unfold sendOf
  by_cases h0 : x > 0
  ·obtain ⟨e, he⟩ := get_of (l := s.log) (k := x - 1) (by omega)
   rw [if_pos (by omega), chkI_of (by omega) (by omega), Option.bind_some, show (x : Int) - 1 = ((x - 1 : Nat) : Int) by omega, idx_nat he, Option.bind_some, if_pos h0, he]
   rfl
  ·rw [if_neg (by omega), if_neg h0]
theorem sendOf_ok {n : Nat} {S : List S61} {tl : List Int} {W : List S73} (h : Inv n S tl W) {i j x : Nat} {s : S61} (hs : S[i]? = some s) (hi : i < n) (hj : j < n) (hij : i ≠ j) (hl : isL tl s i = true) (hxl : x ≤ s.log.length) : MsgOk n S tl (sendOf s i j x) := by
 have so := h.srv i s hs
 obtain ⟨t, h1, h2⟩ := so.term
 have hlen : ((s.log.take (min s.log.length (x + 3))).drop x).length = min s.log.length (x + 3) - x := by rw [List.length_drop, List.length_take]; omega
 have hl60 := so.len
 refine ⟨⟨by show (0 : Int) ≤ (i : Int); omega, by show (i : Int) < n; omega⟩, ⟨by show (0 : Int) ≤ (j : Int); omega, by show (j : Int) < n; omega⟩, by show (0 : Int) ≤ (x : Int); omega, so.com, ?_, t, i, h1, ?_, .inl ⟨rfl, rfl, ?_⟩, fun q hq hqt => ?_⟩
 ·show (x : Int) + (((s.log.take (min s.log.length (x + 3))).drop x).length : Int) ≤ 60
  rw [hlen]; omega
 ·unfold isL at hl
  rw [h1] at hl
  simpa using hl
 ·show (j : Int) ≠ i
  omega
 ·rw [hs] at hq
  injection hq with hq
  subst hq
  show (x : Int) + (((s.log.take (min s.log.length (x + 3))).drop x).length : Int) ≤ _
  rw [hlen]; omega
theorem d11_ok {N : Nat} {n : Nat} {S : List S61} {tl : List Int} {W : List S73} (h : Inv n S tl W) (a b : Int) :
  ∃ W' e, d11 N ⟨S, 0 :: tl, W⟩ a b = some (⟨S, 0 :: tl, W'⟩, e) ∧ Inv n S tl W' ∧
   (((¬ (0 ≤ a ∧ a < (n : Int)) ∨ ¬ (0 ≤ b ∧ b < (n : Int)) ∨ a = b) ∧ W' = W ∧ e = 1) ∨
    ∃ i j s, a = (i : Nat) ∧ b = (j : Nat) ∧ i < n ∧ j < n ∧ i ≠ j ∧ S[i]? = some s ∧
     ((isL tl s i = false ∧ W' = W ∧ e = 15) ∨ (isL tl s i = true ∧ W.length = 100 ∧ W' = W ∧ e = 18) ∨
     (isL tl s i = true ∧ W.length < 100 ∧ e = 0 ∧ ∃ x : Nat, s.match_[j]? = some (x : Int) ∧ x ≤ s.log.length ∧ s.log.length ≤ 60 ∧ W' = W ++ [sendOf s i j x]))) := by
 unfold d11
 have hb : ((d23 N ⟨S, 0 :: tl, W⟩ a).bind fun r6 => if (!r6) = true then (some true) else (d23 N ⟨S, 0 :: tl, W⟩ b).bind fun r8 => if (!r8) = true then (some true) else some (a == b)) =
   some (decide (¬ (0 ≤ a ∧ a < (n : Int)) ∨ ¬ (0 ≤ b ∧ b < (n : Int)) ∨ a = b)) := by
  rw [d23_ok, d23_ok, h.sl, Option.bind_some, Option.bind_some]
  by_cases h1 : 0 ≤ a ∧ a < (n : Int)
  ·rw [decide_eq_true h1, if_neg (by decide)]
   by_cases h2 : 0 ≤ b ∧ b < (n : Int)
   ·rw [decide_eq_true h2, if_neg (by decide)]
    by_cases h3 : a = b <;> simp [h1, h2, h3]
   ·rw [decide_eq_false h2, if_pos (by decide)]; simp [h1, h2]
  ·rw [decide_eq_false h1, if_pos (by decide)]; simp [h1]
 rw [hb, Option.bind_some]
 by_cases hc : ¬ (0 ≤ a ∧ a < (n : Int)) ∨ ¬ (0 ≤ b ∧ b < (n : Int)) ∨ a = b
 ·rw [if_pos (decide_eq_true hc)]
  exact ⟨W, 1, rfl, h, .inl ⟨hc, rfl, rfl⟩⟩
 ·rw [if_neg (by rw [decide_eq_false hc]; decide)]
  have hc1 : 0 ≤ a ∧ a < (n : Int) := Classical.byContradiction fun g => hc (.inl g)
  have hc2 : 0 ≤ b ∧ b < (n : Int) := Classical.byContradiction fun g => hc (.inr (.inl g))
  have hc3 : a ≠ b := fun g => hc (.inr (.inr g))
  obtain ⟨i, rfl⟩ : ∃ i : Nat, a = (i : Int) := ⟨a.toNat, by omega⟩
  obtain ⟨j, rfl⟩ : ∃ j : Nat, b = (j : Int) := ⟨b.toNat, by omega⟩
  have hi : i < n := by omega
  have hj : j < n := by omega
  have hij : i ≠ j := by omega
  obtain ⟨s, hs⟩ := get_of (l := S) (k := i) (by rw [h.sl]; exact hi)
  have so := h.srv i s hs
  rw [d24_ok N hs so, Option.bind_some]
  have hwl := h.wl
  cases hl : isL tl s i with
  | false =>
   rw [if_pos (by decide)]
   exact ⟨W, 15, rfl, h, .inr ⟨i, j, s, rfl, rfl, hi, hj, hij, hs, .inl ⟨hl, rfl, rfl⟩⟩⟩
  | true =>
   have hm := isL_match so hl
   rw [if_neg (by decide)]
   by_cases hw : W.length = 100
   ·rw [if_pos (by simp [hw])]
    exact ⟨W, 18, rfl, h, .inr ⟨i, j, s, rfl, rfl, hi, hj, hij, hs, .inr (.inl ⟨hl, hw, rfl, rfl⟩)⟩⟩
   ·rw [if_neg (by simp; omega)]
    obtain ⟨y, hy⟩ := get_of (l := s.match_) (k := j) (by rw [hm.len]; exact hj)
    have hyr := hm.rng y (List.mem_of_getElem? hy)
    obtain ⟨x, rfl⟩ : ∃ x : Nat, y = (x : Int) := ⟨y.toNat, by omega⟩
    have hxl : x ≤ s.log.length := by omega
    have hl60 := so.len
    rw [idx_nat hs, Option.bind_some, idx_nat hy, Option.bind_some, chkI_of (by omega) (by omega), Option.bind_some, letv_eq]
    have hmin : minI (s.log.length : Int) ((x : Int) + 3) = ((min s.log.length (x + 3) : Nat) : Int) := by
     unfold minI
     split <;> omega
    rw [hmin, natI_of (by omega), Option.bind_some, natI_of (by omega), Option.bind_some, letv_eq]
    have hdl : ((s.log.take (min s.log.length (x + 3))).drop x).length ≤ 60 := by rw [List.length_drop, List.length_take]; omega
    rw [show d26 N ((s.log.take (min s.log.length (x + 3))).drop x) = some ((s.log.take (min s.log.length (x + 3))).drop x) from if_pos (by unfold reach; omega), Option.bind_some]
    have hprev : (if (x : Int) > 0 then ((chkI ((x : Int) - 1)).bind fun v30 => (idx s.log v30).bind fun x31 => some x31.Term) else some 0) = some (if x > 0 then ((s.log[x - 1]?).map S64.Term).getD 0 else 0) := by
     by_cases h0 : x > 0
     ·obtain ⟨e, he⟩ := get_of (l := s.log) (k := x - 1) (by omega)
      rw [if_pos (by omega), chkI_of (by omega) (by omega), Option.bind_some, show (x : Int) - 1 = ((x - 1 : Nat) : Int) by omega, idx_nat he, Option.bind_some, if_pos h0, he]
      rfl
     ·rw [if_neg (by omega), if_neg h0]
    rw [hprev, Option.bind_some, appL_of (by simp only [List.length_cons, List.length_nil]; unfold reach; omega), Option.bind_some]
    refine ⟨W ++ [sendOf s i j x], 0, rfl, h.sub (by simp; omega) (fun m hm' => ?_), .inr ⟨i, j, s, rfl, rfl, hi, hj, hij, hs, .inr (.inr ⟨hl, by omega, rfl, x, hy, hxl, hl60, rfl⟩)⟩⟩
    rcases List.mem_append.1 hm' with hm' | hm'
    ·exact h.msg m hm'
    ·obtain rfl := List.mem_singleton.1 hm'
     exact sendOf_ok h hs hi hj hij hl hxl
end Go.Proofs.Ytifcmomjjkbboab
end
section
namespace Go.Proofs.Ytifcmomjjkbboab
open Go.Ab Go.Rp

theorem d17_ok {N : Nat} (hN : bigN N) (l1 l2 : List S73) (h1 : l1.length ≤ 200) (h2 : l2.length ≤ 200) : d17 N [l1, l2] = some (l1 ++ l2) := by
 have hN' : 9223372036854775808 ≤ N := hN
 obtain ⟨k, rfl⟩ : ∃ k, N = k + 3 := ⟨N - 3, by omega⟩
 unfold d17
 have i0 : idx [l1, l2] 0 = some l1 := rfl
 have i1 : idx [l1, l2] 1 = some l2 := rfl
 have len : (([l1, l2] : List (List S73)).length : Int) = 2 := rfl
 rw [len]
 rw [iterN_succ]
 dsimp only
 rw [if_pos (by decide), i0, Option.bind_some, chkI_of (by omega) (by omega), Option.bind_some, if_neg (by omega), chkI_of (by omega) (by omega), Option.bind_some]
 dsimp only
 rw [iterN_succ]
 dsimp only
 rw [if_pos (by decide), show (0 : Int) + 1 = 1 from rfl, i1, Option.bind_some, chkI_of (by omega) (by omega), Option.bind_some, if_neg (by omega), chkI_of (by omega) (by omega), Option.bind_some]
 dsimp only
 rw [iterN_succ]
 dsimp only
 rw [if_neg (by decide)]
 dsimp only
 rw [Option.bind_some, show growL 80 (0 + (l1.length : Int) + (l2.length : Int)) = some () from if_pos ⟨by omega, by unfold reach; omega⟩, Option.bind_some]
 rw [iterN_succ]
 dsimp only
 rw [if_pos (by decide), i0, Option.bind_some, appL_of (by simp only [List.length_nil]; unfold reach; omega), Option.bind_some, chkI_of (by omega) (by omega), Option.bind_some]
 dsimp only
 rw [iterN_succ]
 dsimp only
 rw [if_pos (by decide), show (0 : Int) + 1 = 1 from rfl, i1, Option.bind_some, appL_of (by simp only [List.nil_append]; unfold reach; omega), Option.bind_some, chkI_of (by omega) (by omega), Option.bind_some]
 dsimp only
 rw [iterN_succ]
 dsimp only
 rw [if_neg (by decide)]
 rfl
def without (W : List S73) (a : Nat) : List S73 := W.take a ++ W.drop (a + 1)
theorem without_mem {W : List S73} {a : Nat} {m : S73} (h : m ∈ without W a) : m ∈ W := by
 rcases List.mem_append.1 h with h | h
 ·exact List.mem_of_mem_take h
 ·exact List.mem_of_mem_drop h
theorem without_len {W : List S73} {a : Nat} (h : a < W.length) : (without W a).length = W.length - 1 := by
 unfold without
 rw [List.length_append, List.length_take, List.length_drop]; omega
theorem del_ok (N : Nat) {W : List S73} {a : Nat} (h : a < W.length) (hw : W.length ≤ 100) : ((d29 N W).bind fun r7 => (chkI ((a : Int) + 1)).bind fun v8 => d28 N r7 a v8) = some (without W a) := by
 rw [show d29 N W = some W from if_pos (by unfold reach; omega), Option.bind_some, chkI_of (by omega) (by omega), Option.bind_some]
 unfold d28 delL without
 rw [if_pos ⟨by omega, by omega, by omega⟩]
 rfl
theorem del_okK {β : Type} (N : Nat) {W : List S73} {a : Nat} (h : a < W.length) (hw : W.length ≤ 100) (K : List S73 → Option β) : ((d29 N W).bind fun r7 => (chkI ((a : Int) + 1)).bind fun v8 => (d28 N r7 a v8).bind K) = K (without W a) := by
 have := del_ok N h hw
 rw [show d29 N W = some W from if_pos (by unfold reach; omega), Option.bind_some, chkI_of (by omega) (by omega), Option.bind_some] at this ⊢
 rw [this, Option.bind_some]
theorem range_test (W : List S73) (a : Int) : (if a < 0 then (some true) else some (decide (a ≥ (W.length : Int)))) = some (!decide (0 ≤ a ∧ a < (W.length : Int))) := by
 by_cases h : a < 0
 ·rw [if_pos h]; congr 1; rw [Bool.eq_iff_iff]; simp; omega
 ·rw [if_neg h]; congr 1; rw [Bool.eq_iff_iff]; simp; omega
theorem d16_ok {N : Nat} {n : Nat} {S : List S61} {tl : List Int} {W : List S73} (h : Inv n S tl W) (a : Int) :
  (¬ (0 ≤ a ∧ a < (W.length : Int)) ∧ d16 N ⟨S, 0 :: tl, W⟩ a = some (⟨S, 0 :: tl, W⟩, 4)) ∨ ∃ k : Nat, a = k ∧ k < W.length ∧ d16 N ⟨S, 0 :: tl, W⟩ a = some (⟨S, 0 :: tl, without W k⟩, 0) ∧ Inv n S tl (without W k) := by
 unfold d16
 dsimp only
 rw [range_test, Option.bind_some]
 by_cases hr : 0 ≤ a ∧ a < (W.length : Int)
 ·obtain ⟨k, rfl⟩ : ∃ k : Nat, a = (k : Int) := ⟨a.toNat, by omega⟩
  have hk : k < W.length := by omega
  refine .inr ⟨k, rfl, hk, ?_, h.sub (by rw [without_len hk]; have := h.wl; omega) fun m hm => h.msg m (without_mem hm)⟩
  rw [decide_eq_true hr, if_neg nt, del_okK N hk h.wl]
 ·exact .inl ⟨hr, by rw [decide_eq_false hr]; rfl⟩

theorem recv_srv {n : Nat} {S : List S61} {tl : List Int} {W : List S73} (h : Inv n S tl W) {i : Nat} {s : S61} (hs : S[i]? = some s) {m : S73} (hm : MsgOk n S tl m) (hk : m.Kind = 1) (hto : m.To = (i : Int)) : SrvOk n tl i (recv s m) ∧ ∀ t : Nat, (recv s m).term = (t : Int) + 1 → tl[t]? ≠ some (i : Int) := by
 have so := h.srv i s hs
 obtain ⟨t, o, h1, h2, h3, h4⟩ := hm.own
 have ho : (m.From = o ∧ m.To ≠ o) := by
  rcases h3 with ⟨_, h3⟩ | ⟨h3, _⟩
  ·exact h3
  ·omega
 have ht : (recv s m).term = m.Term := by unfold recv; split <;> rfl
 have hnl : ∀ t : Nat, (recv s m).term = (t : Int) + 1 → tl[t]? ≠ some (i : Int) := fun t' ht' hc => by
  rw [ht, h1] at ht'
  have : t' = t := by omega
  subst this
  rw [h2] at hc
  injection hc with hc
  exact ho.2 (by rw [hto]; exact hc.symm)
 refine ⟨⟨⟨t, by rw [ht, h1], lt_of h2⟩, ?_, ?_, fun t' h5 h6 => absurd h6 (hnl t' h5)⟩, hnl⟩
 ·have hc := so.com
  have hmc := hm.com
  have hix := hm.idx
  unfold recv
  split
  ·show 0 ≤ maxI _ _
   unfold maxI minI
   split <;> (try split) <;> omega
  ·exact hc
 ·have hl := so.len
  have hsum := hm.sum
  have hix := hm.idx
  unfold recv
  split
  ·rename_i hok
   have hal : m.Index.toNat ≤ s.log.length := by
    unfold okPrev at hok
    simp only [Bool.and_eq_true, decide_eq_true_eq] at hok
    exact hok.1
   have := (extK_len (es := m.Entries) hal m.Entries.length (Nat.le_refl _)).2
   show (extK s.log m.Index.toNat m.Entries m.Entries.length).length ≤ 60
   omega
  ·exact hl
theorem ack_ok {n : Nat} {S : List S61} {tl : List Int} {m : S73} (hm : MsgOk n S tl m) (hk : m.Kind = 1) : MsgOk n S tl (ackOf m) := by
 have hix := hm.idx
 have hsum := hm.sum
 obtain ⟨t, o, h1, h2, h3, h4⟩ := hm.own
 have ho : (m.From = o ∧ m.To ≠ o) := by
  rcases h3 with ⟨_, h3⟩ | ⟨h3, _⟩
  ·exact h3
  ·omega
 refine ⟨hm.to, hm.fr, ?_, Int.le_refl _, ?_, t, o, h1, h2, .inr ⟨rfl, ho.1⟩, fun q hq hqt => ?_⟩
 ·show 0 ≤ m.Index + (m.Entries.length : Int)
  omega
 ·show m.Index + (m.Entries.length : Int) + 0 ≤ 60
  omega
 ·have := h4 q hq hqt
  show m.Index + (m.Entries.length : Int) + 0 ≤ _
  omega
theorem recv_inv {n : Nat} {S : List S61} {tl : List Int} {W : List S73} (h : Inv n S tl W) {i : Nat} {s : S61} (hs : S[i]? = some s) {m : S73} (hm : MsgOk n S tl m) (hk : m.Kind = 1) (hto : m.To = (i : Int)) : Inv n (S.set i (recv s m)) tl (recvN s m W) := by
 obtain ⟨h1, h2⟩ := recv_srv h hs hm hk hto
 have h3 := h.upd hs h1 (.inr h2)
 unfold recvN
 split
 ·rename_i hc
  refine h3.sub (by simp; omega) fun q hq => ?_
  rcases List.mem_append.1 hq with hq | hq
  ·exact h3.msg q hq
  ·obtain rfl := List.mem_singleton.1 hq
   exact ack_ok (hm.upd hs (.inr h2)) hk
 ·exact h3

theorem recv_rel {s g : S61} (h : rel s g) (m : S73) : rel (recv s m) (recv g m) := by
 rcases h with rfl | ⟨h1, h2, h3, h4⟩
 ·exact .inl rfl
 ·unfold recv
  rw [h3, h4, h1]
  split
  ·exact .inr ⟨rfl, rfl, rfl, rfl⟩
  ·exact .inr ⟨rfl, rfl, rfl, rfl⟩
theorem deliver_ok {N : Nat} (hN : bigN N) {n : Nat} {S G : List S61} {tl : List Int} {W : List S73} (h : Inv n S tl W) (hG : Like S G) {k : Nat} {m : S73} (hm : W[k]? = some m) :
  ∃ S' G' W', d15 N ⟨S, 0 :: tl, W⟩ k = some (⟨S', 0 :: tl, W'⟩, 0) ∧ d18 N ⟨G.map sv, -1 :: tl, without W k⟩ m = some ⟨G'.map sv, -1 :: tl, W'⟩ ∧ Inv n S' tl W' ∧ Like S' G' := by
 have hk := lt_of hm
 have hw := h.wl
 have mo := h.msg m (List.mem_of_getElem? hm)
 have h0 : Inv n S tl (without W k) := h.sub (by rw [without_len hk]; omega) fun q hq => h.msg q (without_mem hq)
 unfold d15
 dsimp only
 rw [range_test, Option.bind_some, decide_eq_true (show (0 : Int) ≤ (k : Int) ∧ (k : Int) < (W.length : Int) by omega), if_neg nt, idx_nat hm, Option.bind_some, del_okK N hk hw]
 obtain ⟨i, hto⟩ : ∃ i : Nat, m.To = (i : Int) := ⟨m.To.toNat, by have := mo.to.1; omega⟩
 have hi : i < n := by have := mo.to.2; omega
 obtain ⟨s, hs⟩ := get_of (l := S) (k := i) (by rw [h.sl]; exact hi)
 have so := h.srv i s hs
 obtain ⟨g, hg, hr⟩ := hG.get i s hs
 have hGl : G.length = n := hG.len.symm.trans h.sl
 have tok : TakeOk S i s m (without W k) := ⟨hs, hto, mo.idx, mo.sum, so.len, by rw [without_len hk]; omega⟩
 have tokG : TakeOk G i g m (without W k) := ⟨hg, hto, mo.idx, mo.sum, by rw [← hr.log]; exact so.len, by rw [without_len hk]; omega⟩
 obtain ⟨t, o, o1, o2, o3, o4⟩ := mo.own
 by_cases ht : m.Term < s.term
 ·refine ⟨S, G, without W k, ?_, ?_, h0, hG⟩
  ·rw [hto, idx_nat hs, Option.bind_some, Option.bind_some, if_pos ht]
  ·unfold d18
   dsimp only
   rw [hto, idx_map hg, Option.bind_some, Option.bind_some, if_pos (show m.Term < (sv g).Term from by show m.Term < g.term; rw [← hr.term]; exact ht)]
 ·rcases o3 with ⟨k1, k2, k3⟩ | ⟨k1, k2⟩
  ·have hrn : recvN g m (without W k) = recvN s m (without W k) := by unfold recvN; rw [hr.log]
   have h18 := d18_ok hN tokG (leaders := -1 :: tl) (by rw [← hr.term]; omega) k1
   rw [hrn] at h18
   refine ⟨_, _, _, ?_, h18, recv_inv h0 hs mo k1 hto, hG.set i (recv_rel hr m)⟩
   rw [hto, idx_nat hs, Option.bind_some, Option.bind_some, if_neg ht, if_pos (by rw [k1]; decide), d30_ok hN tok, Option.bind_some]
  ·have hio : i = o := by omega
   subst hio
   obtain ⟨j, hfr⟩ : ∃ j : Nat, m.From = (j : Int) := ⟨m.From.toNat, by have := mo.fr.1; omega⟩
   have hj : j < n := by have := mo.fr.2; omega
   have hlead : m.Term = s.term → isL tl s i = true := fun he => by
    unfold isL
    rw [← he, o1]
    simpa using o2
   rw [hto, hfr, idx_nat hs, Option.bind_some, Option.bind_some, if_neg ht, if_neg (by rw [k1]; decide), Option.bind_some]
   unfold d18
   dsimp only
   rw [hto, hfr, idx_map hg]
   simp only [Option.bind_some]
   rw [if_neg (show ¬ m.Term < (sv g).Term from by show ¬ m.Term < g.term; rw [← hr.term]; exact ht), if_pos (show (m.Kind == 2) = true by rw [k1]; decide)]
   by_cases he : m.Term = s.term
   ·have hl := hlead he
    have mt := isL_match so hl
    obtain rfl := hr.lead h.n1 mt
    obtain ⟨y, hy⟩ := get_of (l := s.match_) (k := j) (by rw [mt.len]; exact hj)
    rw [if_pos (by simpa using he), d24_ok N hs so, hl, Option.bind_some, Option.bind_some, if_pos rfl]
    rw [if_pos (show (m.Term == (sv s).Term) = true from (by simpa using he : (m.Term == s.term) = true)), d13_ok N hg so (.inl rfl), hl, Option.bind_some, Option.bind_some, if_pos rfl]
    rw [idx_nat hy, show idx (sv s).Match (j : Int) = some y from idx_nat hy]
    simp only [Option.bind_some, letv_eq]
    rw [setI_nat, setI_nat, setI_nat, setI_nat]
    generalize hs1 : (⟨s.term, s.commit, s.log, s.match_.set j (maxI y m.Index)⟩ : S61) = s1
    rw [show (⟨(sv s).Term, (sv s).Commit, (sv s).Log, (sv s).Match.set j (maxI y m.Index)⟩ : S68) = sv s1 by rw [← hs1]; rfl, set_map]
    have g1 : (S.set i s1)[i]? = some s1 := get_set (by rw [h.sl]; exact hi)
    have g2 : (G.set i s1)[i]? = some s1 := get_set (by rw [hGl]; exact hi)
    have hend := o4 s hs he.symm
    have hix := mo.idx
    have hm1 : MatchOk n s1 := by
     rw [← hs1]
     refine ⟨by show (s.match_.set j _).length = n; rw [List.length_set]; exact mt.len, fun x hx => ?_⟩
     have hx : x ∈ s.match_.set j (maxI y m.Index) := hx
     rcases List.mem_or_eq_of_mem_set hx with hx | rfl
     ·exact mt.rng x hx
     ·have := mt.rng y (List.mem_of_getElem? hy)
      show 0 ≤ maxI y m.Index ∧ maxI y m.Index ≤ (s.log.length : Int)
      unfold maxI
      split <;> omega
    have so1 : SrvOk n tl i s1 := ⟨by rw [← hs1]; exact so.term, by rw [← hs1]; exact so.com, by rw [← hs1]; exact so.len, fun _ _ _ => hm1⟩
    have inv1 : Inv n (S.set i s1) tl (without W k) := h0.upd hs so1 (.inl (by rw [← hs1]; exact ⟨rfl, Nat.le_refl _⟩))
    rw [d25_ok g1 hi h.n5 hm1 so1.len so1.com, d27_ok hN g2 hi (by rw [List.length_set]; exact hGl) h.n5 hm1 so1.len so1.com, Option.bind_some, Option.bind_some, List.set_set, List.set_set]
    refine ⟨_, _, _, rfl, rfl, ?_, hG.set i (.inl rfl)⟩
    have := inv1.upd g1 (adv_ok so1 hm1 hi) (.inl ⟨rfl, Nat.le_refl _⟩)
    rwa [List.set_set] at this
   ·rw [if_neg (by simpa using he), Option.bind_some, if_neg (by decide), if_neg (show ¬ (m.Term == (sv g).Term) = true from by show ¬ (m.Term == g.term) = true; rw [← hr.term]; simpa using he), Option.bind_some, if_neg (by decide)]
    exact ⟨S, G, _, rfl, rfl, h0, hG⟩
end Go.Proofs.Ytifcmomjjkbboab
end
section
namespace Go.Proofs.Ytifcmomjjkbboab
open Go.Ab Go.Rp

theorem bindO_go {β ρ : Type} (b : β) (k : β → Option ρ) : bindO (some (.go b)) k = k b := rfl
theorem bindO_ret {β ρ : Type} (r : ρ) (k : β → Option ρ) : bindO (some (.ret r : Out β ρ)) k = some r := rfl
theorem d42_ok {N : Nat} (hN : bigN N) (l : List Int) (x : Int) (hl : l.length ≤ 140737488355328) : ∃ r, d42 N l x = some r ∧ (r ≥ 0 ↔ x ∈ l) := by
 have hN' : 9223372036854775808 ≤ N := hN
 unfold d42
 refine bindO_ex (P := fun o => (o = .go () ∧ x ∉ l) ∨ ∃ k : Nat, o = .ret (k : Int) ∧ x ∈ l) (loop_idx (σ := Unit) (τ := Int) l.length (fun _ j => j) _ (fun k _ => x ∉ l.take k) _ ?_ ?_ () (by simp) (n := N) (by omega)) ?_ ?_
 ·intro k s hk hi
  obtain ⟨y, hy⟩ := get_of hk
  try dsimp only
  rw [if_pos (by omega), idx_nat hy, Option.bind_some]
  by_cases hf : x = y
  ·rw [if_pos (by simpa using hf)]
   exact .inr ⟨_, rfl, .inr ⟨k, rfl, hf ▸ List.mem_of_getElem? hy⟩⟩
  ·rw [if_neg (by simpa using hf), chkI_of (by omega) (by omega), Option.bind_some]
   refine .inl ⟨(), rfl, fun h => ?_⟩
   rcases (mem_take_succ hy).1 h with h | h
   ·exact hi h
   ·exact hf h
 ·intro s hi
  try dsimp only
  rw [if_neg (by omega)]
  exact ⟨_, rfl, .inl ⟨rfl, by simpa using hi⟩⟩
 ·rintro r (⟨h, _⟩ | ⟨k, h, h2⟩)
  ·cases h
  ·injection h with h
   subst h
   exact ⟨fun _ => h2, fun _ => by omega⟩
 ·rintro b (⟨_, h⟩ | ⟨k, h, _⟩)
  ·exact ⟨-1, rfl, by simp [h]⟩
  ·cases h
theorem d32_ok {N : Nat} (hN : bigN N) (l : List Int) (x : Int) (hl : l.length ≤ 140737488355328) : d32 N l x = some (decide (x ∈ l)) := by
 obtain ⟨r, h1, h2⟩ := d42_ok hN l x hl
 unfold d32
 rw [h1, Option.bind_some]
 congr 1
 exact decide_eq_decide.2 h2

def lastT (l : List S64) : Int := if l.length = 0 then 0 else ((l[l.length - 1]?).map S64.Term).getD 0
theorem d43_ok (N : Nat) (l : List S64) (hl : l.length ≤ 60) : d43 N l = some (lastT l) := by
 unfold d43 lastT
 by_cases h : l.length = 0
 ·rw [if_pos (by simp [h]), if_pos h]
 ·obtain ⟨e, he⟩ := get_of (l := l) (k := l.length - 1) (by omega)
  rw [if_neg (by simpa using h), if_neg h, chkI_of (by omega) (by omega), Option.bind_some, show (l.length : Int) - 1 = ((l.length - 1 : Nat) : Int) by omega, idx_nat he, Option.bind_some, he]
  rfl
theorem d44_ok (N : Nat) (l : List S64) (hl : l.length ≤ 60) : d44 N l = some (lastT l) := d43_ok N l hl
def mutd (a b : List S64) : Bool := if (lastT a != lastT b) = true then decide (lastT a > lastT b) else decide ((a.length : Int) > (b.length : Int))
theorem mutd_self (a : List S64) : mutd a a = false := by
 unfold mutd
 rw [if_neg (by simp)]
 simp
theorem d33_ok (N : Nat) (a b : List S64) (ha : a.length ≤ 60) (hb : b.length ≤ 60) : d33 N a b = some (mutd a b) := by
 unfold d33 mutd
 rw [d43_ok N a ha, d43_ok N b hb, Option.bind_some, Option.bind_some]
 split <;> rfl
theorem d34_ok (N : Nat) (a b : List S64) (ha : a.length ≤ 60) (hb : b.length ≤ 60) : d34 N a b = some (mutd a b) := by
 unfold d34 mutd
 rw [d44_ok N a ha, d44_ok N b hb, Option.bind_some, Option.bind_some, Option.bind_some, Option.bind_some]
 split <;> rfl

/-! ### lists without repetition -/
theorem nodup_len : ∀ (n : Nat) (l : List Int), l.Nodup → (∀ x ∈ l, 0 ≤ x ∧ x < (n : Int)) → l.length ≤ n
 | 0, l, _, h => by
  cases l with
  | nil => exact Nat.le_refl _
  | cons a l => have := h a (.head _); omega
 | n + 1, l, hn, h => by
  by_cases hm : (n : Int) ∈ l
  ·have h1 := nodup_len n (l.erase (n : Int)) (hn.erase _) fun x hx => by
    have := (hn.mem_erase_iff).1 hx
    have := h x this.2
    omega
   rw [List.length_erase_of_mem hm] at h1
   omega
  ·have := nodup_len n l hn fun x hx => by
    have := h x hx
    have : x ≠ n := fun e => hm (e ▸ hx)
    omega
   omega
theorem same_len {l l' : List Int} (h : l.Nodup) (h' : l'.Nodup) (hm : ∀ x, x ∈ l ↔ x ∈ l') : l.length = l'.length := ((List.perm_ext_iff_of_nodup h h').2 hm).length_eq
def keysOf (m : List (Int × Bool)) : List Int := m.map Prod.fst
theorem mget_isSome {m : List (Int × Bool)} {k : Int} : (mget m k).isSome = true ↔ k ∈ keysOf m := by
 unfold mget keysOf
 rw [Option.isSome_map, List.find?_isSome]
 constructor
 ·rintro ⟨p, hp, h⟩
  exact List.mem_map.2 ⟨p, hp, by simpa using h⟩
 ·intro h
  obtain ⟨p, hp, rfl⟩ := List.mem_map.1 h
  exact ⟨p, hp, by simp⟩
theorem mput_keys {m : List (Int × Bool)} {k : Int} (hn : (keysOf m).Nodup) : (keysOf (mput m k true)).Nodup ∧ ∀ x, x ∈ keysOf (mput m k true) ↔ x ∈ keysOf m ∨ x = k := by
 unfold mput
 by_cases h : (mget m k).isSome = true
 ·rw [if_pos h]
  have hk : keysOf (m.map fun p => if p.1 = k then (k, true) else p) = keysOf m := by
   unfold keysOf
   rw [List.map_map]
   refine List.map_congr_left fun p _ => ?_
   show (if p.1 = k then (k, true) else p).1 = p.1
   split
   ·rename_i hc; exact hc.symm
   ·rfl
  rw [hk]
  exact ⟨hn, fun x => ⟨.inl, fun hx => hx.elim id fun e => e ▸ mget_isSome.1 h⟩⟩
 ·rw [if_neg h]
  have hk : k ∉ keysOf m := fun hc => h (mget_isSome.2 hc)
  have e : keysOf (m ++ [(k, true)]) = keysOf m ++ [k] := by simp [keysOf]
  rw [e]
  refine ⟨List.nodup_append.2 ⟨hn, by simp, fun a ha b hb => ?_⟩, fun x => by simp⟩
  obtain rfl := List.mem_singleton.1 hb
  exact fun e => hk (e ▸ ha)

/-! ### terms are raised -/
def upT (S : List S61) (T : Int) (p : Nat → Bool) : List S61 := S.mapIdx fun j s => if p j = true then ⟨T, s.commit, s.log, s.match_⟩ else s
theorem upT_get {S : List S61} {T : Int} {p : Nat → Bool} {j : Nat} {s : S61} (h : S[j]? = some s) : (upT S T p)[j]? = some (if p j = true then ⟨T, s.commit, s.log, s.match_⟩ else s) := by
 unfold upT
 rw [List.getElem?_mapIdx, h]; rfl
theorem upT_len (S : List S61) (T : Int) (p : Nat → Bool) : (upT S T p).length = S.length := by unfold upT; simp
theorem upT_false (S : List S61) (T : Int) : upT S T (fun _ => false) = S := by
 unfold upT
 refine List.ext_getElem? fun j => ?_
 rw [List.getElem?_mapIdx]
 cases S[j]? <;> rfl
theorem upT_set {S : List S61} {T : Int} {p : Nat → Bool} {j : Nat} {s : S61} (h : S[j]? = some s) : (upT S T p).set j ⟨T, s.commit, s.log, s.match_⟩ = upT S T (fun k => p k || decide (k = j)) := by
 refine List.ext_getElem? fun k => ?_
 rw [List.getElem?_set]
 by_cases hk : j = k
 ·subst hk
  rw [if_pos rfl, if_pos (by rw [upT_len]; exact lt_of h), upT_get h]
  simp
 ·rw [if_neg hk]
  unfold upT
  rw [List.getElem?_mapIdx, List.getElem?_mapIdx]
  cases S[k]? with
  | none => rfl
  | some q =>
   have : decide (k = j) = false := by simp; exact fun e => hk e.symm
   simp [this]
theorem upT_congr {S : List S61} {T : Int} {p q : Nat → Bool} (h : ∀ j, p j = q j) : upT S T p = upT S T q := by rw [show p = q from funext h]
/-! ### the program -/
def okV (n : Nat) (x : Int) : Prop := 0 ≤ x ∧ x < (n : Int)
instance (n : Nat) (x : Int) : Decidable (okV n x) := inferInstanceAs (Decidable (_ ∧ _))
/-- the end of an election -/
def elected (n : Nat) (S : List S61) (T : Int) (p : Nat → Bool) (i : Nat) : List S61 :=
 (upT S T p).set i ⟨((((upT S T p)[i]?).map S61.term).getD 0), (((upT S T p)[i]?).map S61.commit).getD 0, (((upT S T p)[i]?).map S61.log).getD [], List.replicate n 0⟩
def rejects (S : List S61) (i : Int) (l : List Int) : Bool := l.any fun v => mutd (((S[v.toNat]?).map S61.log).getD []) (((S[i.toNat]?).map S61.log).getD [])
def elect (n : Nat) (S : List S61) (tl : List Int) (i : Int) (l : List Int) : List S61 × List Int × Int :=
 if 2 * ((l.length : Int) + 1) ≤ (n : Int) then (S, tl, 4)
 else if rejects S i l = true then (S, tl, 21)
 else if tl.length + 1 > 60 then (S, tl, 18)
 else (elected n S ((tl.length : Int) + 1) (fun j => decide ((j : Int) ∈ l ++ [i])) i.toNat, tl ++ [i], 0)

theorem d19_ok {N : Nat} (hN : bigN N) {n : Nat} {S : List S61} {tl : List Int} {W : List S73} (h : Inv n S tl W) (a : Int) (vs : List Int) (hv : vs.length * 8 ≤ reach) :
  (¬ (okV n a ∧ ∀ v ∈ vs, okV n v) ∧ d19 N ⟨S, 0 :: tl, W⟩ a vs = some (⟨S, 0 :: tl, W⟩, 1)) ∨
  ((okV n a ∧ ∀ v ∈ vs, okV n v) ∧ ∃ l : List Int, l.Nodup ∧ (∀ x, x ∈ l ↔ x ∈ vs ∧ x ≠ a) ∧ d19 N ⟨S, 0 :: tl, W⟩ a vs = some (⟨(elect n S tl a l).1, 0 :: (elect n S tl a l).2.1, W⟩, (elect n S tl a l).2.2)) := by
 have hN' : 9223372036854775808 ≤ N := hN
 have hn5 := h.n5
 have hn1 := h.n1
 have htl := h.tl60
 have hvl : vs.length ≤ 140737488355328 := by unfold reach at hv; omega
 unfold d19
 rw [d23_ok, Option.bind_some]
 have hsl : (⟨S, 0 :: tl, W⟩ : S59).servers.length = n := h.sl
 rw [hsl]
 by_cases ha : okV n a
 case neg => exact .inl ⟨fun hc => ha hc.1, by rw [show decide (0 ≤ a ∧ a < (n : Int)) = false from decide_eq_false ha]; rfl⟩
 rw [show decide (0 ≤ a ∧ a < (n : Int)) = true from decide_eq_true ha, if_neg nt]
 obtain ⟨i, rfl⟩ : ∃ i : Nat, a = (i : Int) := ⟨a.toNat, by have := ha.1; omega⟩
 have hi : i < n := by have := ha.2; omega
 obtain ⟨s, hs⟩ := get_of (l := S) (k := i) (by rw [h.sl]; exact hi)
 have hlog : ∀ (j : Nat) q, S[j]? = some q → q.log.length ≤ 60 := fun j q hq => (h.srv j q hq).len
 -- the voters
 have loop1 := loop_idx (σ := List Int) (τ := List Int × Int) (ρ := Out (List Int) (S59 × Int)) vs.length (fun l k => (l, k)) (fun ((l16, v17) : ((List Int) × Int)) =>
   if v17 < (vs.length : Int) then (
    (idx vs v17).bind fun x50 =>
    (d23 N ⟨S, 0 :: tl, W⟩ x50).bind fun r52 =>
    if (!r52) = true then (
     some (.inr (.ret (⟨S, 0 :: tl, W⟩, 1)))
    ) else
    Option.bind (α := Bool) (
     if (x50 != (i : Int)) then (
      (d32 N l16 x50).bind fun r58 =>
      some (!r58)
     ) else
     some false
    ) fun (v56 : Bool) =>
    if v56 = true then (
     (appL 8 l16 [x50]).bind fun l60 =>
     (chkI (v17 + 1)).bind fun v61 =>
     some (.inl ((l16 ++ [x50]), v61))
    ) else
    (chkI (v17 + 1)).bind fun v62 =>
    some (.inl (l16, v62))
   ) else
   some (.inr (.go l16))) (fun k l => (∀ v ∈ vs.take k, okV n v) ∧ l.Nodup ∧ l.length ≤ k ∧ ∀ x, x ∈ l ↔ x ∈ vs.take k ∧ x ≠ (i : Int))
   (fun o => (o = .ret (⟨S, 0 :: tl, W⟩, 1) ∧ ¬ ∀ v ∈ vs, okV n v) ∨ ∃ l, o = .go l ∧ (∀ v ∈ vs, okV n v) ∧ l.Nodup ∧ ∀ x, x ∈ l ↔ x ∈ vs ∧ x ≠ (i : Int)) ?s1 ?s2 [] ⟨by simp, by simp, by simp, by simp⟩ (n := N) (by omega)
 case s1 =>
  rintro k l hk ⟨q1, q2, q3, q4⟩
  obtain ⟨x, hx⟩ := get_of hk
  try dsimp only
  rw [if_pos (by omega), idx_nat hx, Option.bind_some, d23_ok, Option.bind_some, hsl]
  by_cases hxv : okV n x
  ·rw [show decide (0 ≤ x ∧ x < (n : Int)) = true from decide_eq_true hxv, if_neg nt]
   have hv' : ∀ v ∈ vs.take (k + 1), okV n v := fun v hv => by
    rcases (mem_take_succ hx).1 hv with hv | rfl
    ·exact q1 v hv
    ·exact hxv
   have hmem : ∀ y, y ∈ vs.take (k + 1) ↔ y ∈ vs.take k ∨ y = x := fun y => mem_take_succ hx
   by_cases hxi : x = (i : Int)
   ·rw [if_neg (by simp [hxi]), Option.bind_some, if_neg (by decide), chkI_of (by omega) (by omega), Option.bind_some]
    refine .inl ⟨l, rfl, hv', q2, by omega, fun y => ?_⟩
    rw [q4, hmem]
    constructor
    ·rintro ⟨y1, y2⟩; exact ⟨.inl y1, y2⟩
    ·rintro ⟨y1 | y1, y2⟩
     ·exact ⟨y1, y2⟩
     ·exact absurd (y1.trans hxi) y2
   ·rw [if_pos (by simp [hxi]), d32_ok hN l x (by omega), Option.bind_some, Option.bind_some]
    by_cases hxl : x ∈ l
    ·rw [if_neg (by simp [hxl]), chkI_of (by omega) (by omega), Option.bind_some]
     refine .inl ⟨l, rfl, hv', q2, by omega, fun y => ?_⟩
     rw [q4, hmem]
     constructor
     ·rintro ⟨y1, y2⟩; exact ⟨.inl y1, y2⟩
     ·rintro ⟨y1 | rfl, y2⟩
      ·exact ⟨y1, y2⟩
      ·exact (q4 _).1 hxl
    ·rw [if_pos (by simp [hxl]), appL_of (by simp only [List.length_cons, List.length_nil]; unfold reach at hv ⊢; omega), Option.bind_some, chkI_of (by omega) (by omega), Option.bind_some]
     refine .inl ⟨l ++ [x], rfl, hv', List.nodup_append.2 ⟨q2, by simp, fun y hy z hz => ?_⟩, by simp; omega, fun y => ?_⟩
     ·obtain rfl := List.mem_singleton.1 hz
      exact fun e => hxl (e ▸ hy)
     ·rw [List.mem_append, List.mem_singleton, q4, hmem]
      constructor
      ·rintro (⟨y1, y2⟩ | rfl)
       ·exact ⟨.inl y1, y2⟩
       ·exact ⟨.inr rfl, hxi⟩
      ·rintro ⟨y1 | y1, y2⟩
       ·exact .inl ⟨y1, y2⟩
       ·exact .inr y1
  ·rw [show decide (0 ≤ x ∧ x < (n : Int)) = false from decide_eq_false hxv, if_pos (show (!false) = true from rfl)]
   exact .inr ⟨_, rfl, .inl ⟨rfl, fun hc => hxv (hc x (List.mem_of_getElem? hx))⟩⟩
 case s2 =>
  rintro l ⟨q1, q2, q3, q4⟩
  try dsimp only
  rw [if_neg (by omega)]
  rw [List.take_length] at q1
  simp only [List.take_length] at q4
  exact ⟨_, rfl, .inr ⟨l, rfl, q1, q2, q4⟩⟩
 obtain ⟨o, ho, hP⟩ := loop1
 rw [ho]
 rcases hP with ⟨rfl, hc⟩ | ⟨l, rfl, hall, hnd, hmem⟩
 ·exact .inl ⟨fun g => hc g.2, rfl⟩
 refine .inr ⟨⟨ha, hall⟩, l, hnd, hmem, ?_⟩
 have hlv : ∀ x ∈ l, okV n x := fun x hx => hall x ((hmem x).1 hx).1
 have hll : l.length ≤ n := nodup_len n l hnd hlv
 rw [bindO_go, chkI_of (by omega) (by omega), Option.bind_some, chkI_of (by omega) (by omega), Option.bind_some]
 unfold elect
 by_cases h2 : 2 * ((l.length : Int) + 1) ≤ (n : Int)
 ·rw [if_pos h2, if_pos h2]
 rw [if_neg h2, if_neg h2]
 -- rejected
 have hrej : ∀ v ∈ l, ∃ (j : Nat) (q : S61), v = (j : Int) ∧ S[j]? = some q := fun v hv => by
  have := hlv v hv
  obtain ⟨j, rfl⟩ : ∃ j : Nat, v = (j : Int) := ⟨v.toNat, by have := this.1; omega⟩
  obtain ⟨q, hq⟩ := get_of (l := S) (k := j) (by rw [h.sl]; have := this.2; omega)
  exact ⟨j, q, rfl, hq⟩
 have his : ((S[(i : Int).toNat]?).map S61.log).getD [] = s.log := by rw [Int.toNat_natCast, hs]; rfl
 refine bindO_eq (P := fun o => (o = .ret (⟨S, 0 :: tl, W⟩, 21) ∧ rejects S i l = true) ∨ (o = .go () ∧ rejects S i l = false)) (loop_idx (σ := Unit) (τ := Int) (ρ := Out Unit (S59 × Int)) l.length (fun _ j => j) _ (fun k _ => rejects S i (l.take k) = false) _ ?_ ?_ () (by rfl) (n := N) (by omega)) ?_ ?_
 ·intro k u hk hi'
  obtain ⟨v, hv⟩ := get_of hk
  obtain ⟨j, q, rfl, hq⟩ := hrej v (List.mem_of_getElem? hv)
  try dsimp only
  rw [if_pos (by omega), idx_nat hv, Option.bind_some, idx_nat hq, Option.bind_some, idx_nat hs, Option.bind_some, d33_ok N _ _ (hlog j q hq) (hlog i s hs), Option.bind_some]
  have hone : rejects S i (l.take (k + 1)) = (rejects S i (l.take k) || mutd q.log s.log) := by
   unfold rejects
   rw [List.take_add_one, hv, List.any_append, his]
   simp [hq]
  cases hm : mutd q.log s.log with
  | true =>
   rw [if_pos rfl]
   refine .inr ⟨_, rfl, .inl ⟨rfl, ?_⟩⟩
   unfold rejects
   rw [List.any_eq_true]
   exact ⟨_, List.mem_of_getElem? hv, by rw [his, Int.toNat_natCast, hq]; exact hm⟩
  | false =>
   rw [if_neg (by decide), chkI_of (by omega) (by omega), Option.bind_some]
   exact .inl ⟨(), rfl, by rw [hone, hi', hm]; rfl⟩
 ·intro u hi'
  try dsimp only
  rw [if_neg (by omega)]
  rw [List.take_length] at hi'
  exact ⟨_, rfl, .inr ⟨rfl, hi'⟩⟩
 ·rintro x (⟨h3, h4⟩ | ⟨h3, _⟩)
  ·injection h3 with h3
   rw [if_pos h4, h3]
  ·cases h3
 ·rintro _ (⟨h3, _⟩ | ⟨_, h4⟩)
  ·cases h3
  rw [if_neg (show ¬ rejects S (i : Int) l = true by rw [h4]; decide)]
  dsimp only
  rw [List.length_cons]
  by_cases hf : tl.length + 1 > 60
  ·rw [if_pos (by omega), if_pos hf]
  rw [if_neg (by omega), if_neg hf, appL_of (by simp only [List.length_cons, List.length_nil]; unfold reach; omega), Option.bind_some, chkI_of (by simp only [List.length_append, List.length_cons, List.length_nil]; omega) (by simp only [List.length_append, List.length_cons, List.length_nil]; omega), Option.bind_some, appL_of (by simp only [List.length_cons, List.length_nil]; unfold reach; omega), Option.bind_some, letv_eq, letv_eq]
  have hT : ((((0 :: tl) ++ [(i : Int)]).length : Nat) : Int) - 1 = (tl.length : Int) + 1 := by simp only [List.length_append, List.length_cons, List.length_nil]; omega
  rw [hT]
  generalize hTT : (tl.length : Int) + 1 = T
  have hil : ∀ v ∈ l ++ [(i : Int)], ∃ (j : Nat) (q : S61), v = (j : Int) ∧ S[j]? = some q := fun v hv => by
   rcases List.mem_append.1 hv with hv | hv
   ·exact hrej v hv
   ·obtain rfl := List.mem_singleton.1 hv
    exact ⟨i, s, rfl, hs⟩
  refine bind_eq (P := fun r => r = upT S T (fun j => decide ((j : Int) ∈ l ++ [(i : Int)]))) (loop_idx (σ := List S61) (τ := List S61 × Int) (l ++ [(i : Int)]).length (fun s k => (s, k)) _ (fun k r => r = upT S T (fun j => decide ((j : Int) ∈ (l ++ [(i : Int)]).take k))) _ ?_ ?_ S ((upT_false S T).symm.trans (upT_congr fun j => by simp)) (n := N) (by simp; omega)) ?_
  ·rintro k r hk rfl
   obtain ⟨v, hv⟩ := get_of hk
   obtain ⟨j, q, rfl, hq⟩ := hil v (List.mem_of_getElem? hv)
   have hlen : (l ++ [(i : Int)]).length ≤ 6 := by simp; omega
   try dsimp only
   rw [if_pos (by omega), idx_nat hv, Option.bind_some, idx_nat (upT_get hq), Option.bind_some, letv_eq, setI_nat, chkI_of (by omega) (by omega), Option.bind_some]
   refine .inl ⟨_, rfl, ?_⟩
   have e1 : (⟨T, (if decide ((j : Int) ∈ (l ++ [(i : Int)]).take k) = true then (⟨T, q.commit, q.log, q.match_⟩ : S61) else q).commit, (if decide ((j : Int) ∈ (l ++ [(i : Int)]).take k) = true then (⟨T, q.commit, q.log, q.match_⟩ : S61) else q).log, (if decide ((j : Int) ∈ (l ++ [(i : Int)]).take k) = true then (⟨T, q.commit, q.log, q.match_⟩ : S61) else q).match_⟩ : S61) = ⟨T, q.commit, q.log, q.match_⟩ := by split <;> rfl
   rw [e1, upT_set hq]
   refine upT_congr fun b => ?_
   rw [Bool.eq_iff_iff]
   simp only [Bool.or_eq_true, decide_eq_true_eq]
   rw [mem_take_succ hv]
   constructor
   ·rintro (h | h)
    ·exact .inl h
    ·exact .inr (by omega)
   ·rintro (h | h)
    ·exact .inl h
    ·exact .inr (by omega)
  ·rintro r rfl
   try dsimp only
   rw [if_neg (by omega)]
   exact ⟨_, rfl, upT_congr fun j => by rw [List.take_length]⟩
  ·rintro r rfl
   have hgi := upT_get (T := T) (p := fun j => decide ((j : Int) ∈ l ++ [(i : Int)])) hs
   rw [idx_nat hgi, Option.bind_some, upT_len, h.sl]
   rw [show mkL 8 (n : Int) (0 : Int) = some (List.replicate n 0) from if_pos ⟨by omega, by unfold reach; omega⟩, Option.bind_some, letv_eq, setI_nat]
   unfold elected
   rw [Int.toNat_natCast, hgi]
   rfl
end Go.Proofs.Ytifcmomjjkbboab
end
section
namespace Go.Proofs.Ytifcmomjjkbboab
open Go.Ab Go.Rp

theorem rangeL_any {κ ρ : Type} {f : κ → Unit → Option (Out Unit ρ)} {g : κ → Bool} {r : ρ} : ∀ (l : List κ), (∀ x ∈ l, f x () = some (if g x = true then .ret r else .go ())) → rangeL f l () = some (if l.any g = true then .ret r else .go ())
 | [], _ => rfl
 | x :: l, h => by
  have ih := rangeL_any l fun y hy => h y (.tail _ hy)
  have hx := h x (.head _)
  by_cases hg : g x = true
  ·rw [if_pos hg] at hx
   simp only [rangeL, hx, List.any_cons, hg]
   simp
  ·rw [if_neg hg] at hx
   simp only [rangeL, hx, List.any_cons]
   rw [ih]
   simp [hg]
theorem rangeM_any {κ ρ : Type} {f : κ → Unit → Option (Out Unit ρ)} {g : κ → Bool} {r : ρ} (l : List κ) (h : ∀ x ∈ l, f x () = some (if g x = true then .ret r else .go ())) : rangeM f l () = some (if l.any g = true then .ret r else .go ()) := by
 refine rangeM_of fun l' hl => ?_
 rw [rangeL_any l' fun x hx => h x (hl.mem_iff.1 hx)]
 have : l'.any g = l.any g := by
  rw [Bool.eq_iff_iff, List.any_eq_true, List.any_eq_true]
  exact ⟨fun ⟨x, h1, h2⟩ => ⟨x, hl.mem_iff.1 h1, h2⟩, fun ⟨x, h1, h2⟩ => ⟨x, hl.mem_iff.2 h1, h2⟩⟩
 rw [this]

theorem d21_ok {N : Nat} (hN : bigN N) {n : Nat} {P S : List S61} {tl : List Int} {W : List S73} (h0 : Inv n P tl W) (hPS : Like P S) (a : Int) (vs : List Int) (hv : vs.length * 8 ≤ reach) :
  (¬ (okV n a ∧ ∀ v ∈ vs, okV n v) ∧ d21 N ⟨S.map sv, -1 :: tl, W⟩ a vs = some (⟨S.map sv, -1 :: tl, W⟩, 1)) ∨
  ((okV n a ∧ ∀ v ∈ vs, okV n v) ∧ ∀ l : List Int, l.Nodup → (∀ x, x ∈ l ↔ x ∈ vs ∧ x ≠ a) → d21 N ⟨S.map sv, -1 :: tl, W⟩ a vs = some (⟨(elect n S tl a l).1.map sv, -1 :: (elect n S tl a l).2.1, W⟩, (elect n S tl a l).2.2)) := by
 have hN' : 9223372036854775808 ≤ N := hN
 have hn5 := h0.n5
 have hn1 := h0.n1
 have htl := h0.tl60
 have hSl : S.length = n := hPS.len.symm.trans h0.sl
 have hvl : vs.length ≤ 140737488355328 := by unfold reach at hv; omega
 unfold d21
 rw [appW_of (by simp only [List.length_cons, List.length_nil]; unfold reach at hv; omega) (by simp only [List.length_cons, List.length_nil]; unfold reach at hv; unfold maxLen; omega), Option.bind_some, letv_eq]
 have hsl : (⟨S.map sv, -1 :: tl, W⟩ : S44).Servers.length = n := by show (S.map sv).length = n; rw [List.length_map]; exact hSl
 rw [hsl]
 have happ : ([a] : List Int) ++ vs = a :: vs := rfl
 rw [happ]
 have loop1 := loop_idx (σ := List (Int × Bool)) (τ := List (Int × Bool) × Int) (ρ := Out (List (Int × Bool)) (S44 × Int)) (a :: vs).length (fun l k => (l, k)) (fun ((m9, v10) : ((List (Int × Bool)) × Int)) =>
   if v10 < ((a :: vs).length : Int) then (
    (idx (a :: vs) v10).bind fun x29 =>
    (chkI ((n : Int) - 1)).bind fun v31 =>
    (d12 N x29 0 v31).bind fun r32 =>
    if (!r32) = true then (
     some (.inr (.ret (⟨S.map sv, -1 :: tl, W⟩, 1)))
    ) else
    (chkI (v10 + 1)).bind fun v34 =>
    some (.inl ((mput m9 x29 true), v34))
   ) else
   some (.inr (.go m9))) (fun k m => (∀ v ∈ (a :: vs).take k, okV n v) ∧ (keysOf m).Nodup ∧ ∀ x, x ∈ keysOf m ↔ x = a ∨ x ∈ (a :: vs).take k)
   (fun o => (o = .ret (⟨S.map sv, -1 :: tl, W⟩, 1) ∧ ¬ ∀ v ∈ a :: vs, okV n v) ∨ ∃ m, o = .go m ∧ (∀ v ∈ a :: vs, okV n v) ∧ (keysOf m).Nodup ∧ ∀ x, x ∈ keysOf m ↔ x ∈ a :: vs) ?s1 ?s2 (mput [] a true) ⟨by simp, by simp [mput, mget, keysOf], by simp [mput, mget, keysOf]⟩ (n := N) (by simp; omega)
 case s1 =>
  rintro k m hk ⟨q1, q2, q3⟩
  obtain ⟨x, hx⟩ := get_of hk
  have hlen : (a :: vs).length ≤ 140737488355329 := by simp; omega
  try dsimp only
  rw [if_pos (by omega), idx_nat hx, Option.bind_some, valid_ref N hn1 hn5 x]
  by_cases hxv : okV n x
  ·rw [show decide (0 ≤ x ∧ x < (n : Int)) = true from decide_eq_true hxv, if_neg nt, chkI_of (by omega) (by omega), Option.bind_some]
   obtain ⟨k1, k2⟩ := mput_keys (k := x) q2
   refine .inl ⟨_, rfl, fun v hv => ?_, k1, fun y => ?_⟩
   ·rcases (mem_take_succ hx).1 hv with hv | rfl
    ·exact q1 v hv
    ·exact hxv
   ·rw [k2, q3, mem_take_succ hx]
    exact or_assoc
  ·rw [show decide (0 ≤ x ∧ x < (n : Int)) = false from decide_eq_false hxv, if_pos (show (!false) = true from rfl)]
   exact .inr ⟨_, rfl, .inl ⟨rfl, fun hc => hxv (hc x (List.mem_of_getElem? hx))⟩⟩
 case s2 =>
  rintro m ⟨q1, q2, q3⟩
  try dsimp only
  rw [if_neg (by omega)]
  rw [List.take_length] at q1
  simp only [List.take_length] at q3
  refine ⟨_, rfl, .inr ⟨m, rfl, q1, q2, fun x => ?_⟩⟩
  rw [q3]
  exact ⟨fun h => h.elim (fun e => e ▸ .head _) id, .inr⟩
 obtain ⟨o, ho, hP⟩ := loop1
 rw [ho]
 rcases hP with ⟨rfl, hc⟩ | ⟨m, rfl, hall, hnd, hmem⟩
 ·refine .inl ⟨fun g => hc fun v hv => ?_, rfl⟩
  rcases List.mem_cons.1 hv with rfl | hv
  ·exact g.1
  ·exact g.2 v hv
 have ha : okV n a := hall a (.head _)
 refine .inr ⟨⟨ha, fun v hv => hall v (.tail _ hv)⟩, fun l hl hlm => ?_⟩
 obtain ⟨i, rfl⟩ : ∃ i : Nat, a = (i : Int) := ⟨a.toNat, by have := ha.1; omega⟩
 have hi : i < n := by have := ha.2; omega
 obtain ⟨s, hs⟩ := get_of (l := S) (k := i) (by rw [hSl]; exact hi)
 have hlog : ∀ (j : Nat) q, S[j]? = some q → q.log.length ≤ 60 := fun j q hq => by
  obtain ⟨p, hp, hr⟩ := hPS.back hq
  rw [← hr.log]
  exact (h0.srv j p hp).len
 have hkl : ∀ x, x ∈ keysOf m ↔ x ∈ l ++ [(i : Int)] := fun x => by
  rw [hmem, List.mem_append, List.mem_singleton, hlm, List.mem_cons]
  constructor
  ·rintro (h | h)
   ·exact .inr h
   ·by_cases e : x = (i : Int)
    ·exact .inr e
    ·exact .inl ⟨h, e⟩
  ·rintro (h | h)
   ·exact .inr h.1
   ·exact .inl h
 have hnd2 : (l ++ [(i : Int)]).Nodup := List.nodup_append.2 ⟨hl, by simp, fun x hx y hy => by
  obtain rfl := List.mem_singleton.1 hy
  exact ((hlm x).1 hx).2⟩
 have hml : m.length = l.length + 1 := by
  have := same_len hnd hnd2 hkl
  simpa [keysOf] using this
 have hlv : ∀ x ∈ l, okV n x := fun x hx => hall x (.tail _ ((hlm x).1 hx).1)
 have hll : l.length ≤ n := nodup_len n l hl hlv
 rw [bindO_go, hml, chkI_of (by omega) (by omega), Option.bind_some]
 unfold elect
 rw [show ((l.length + 1 : Nat) : Int) = (l.length : Int) + 1 by omega]
 by_cases h2 : 2 * ((l.length : Int) + 1) ≤ (n : Int)
 ·rw [if_pos h2, if_pos h2]
 rw [if_neg h2, if_neg h2]
 have hkey : ∀ x ∈ m, ∃ (j : Nat) (q : S61), x.1 = (j : Int) ∧ S[j]? = some q := fun x hx => by
  have hv : okV n x.1 := hall x.1 ((hmem x.1).1 (List.mem_map.2 ⟨x, hx, rfl⟩))
  obtain ⟨q, hq⟩ := get_of (l := S) (k := x.1.toNat) (by rw [hSl]; have := hv.1; have := hv.2; omega)
  exact ⟨x.1.toNat, q, by have := hv.1; omega, hq⟩
 have his : ((S[(i : Int).toNat]?).map S61.log).getD [] = s.log := by rw [Int.toNat_natCast, hs]; rfl
 have hrej : m.any (fun x => mutd (((S[x.1.toNat]?).map S61.log).getD []) s.log) = rejects S i l := by
  unfold rejects
  rw [his, Bool.eq_iff_iff, List.any_eq_true, List.any_eq_true]
  constructor
  ·rintro ⟨x, h1, h3⟩
   have hx := (hkl x.1).1 (List.mem_map.2 ⟨x, h1, rfl⟩)
   rcases List.mem_append.1 hx with hx | hx
   ·exact ⟨x.1, hx, h3⟩
   ·rw [List.mem_singleton.1 hx, Int.toNat_natCast, hs] at h3
    have h3 : mutd s.log s.log = true := h3
    rw [mutd_self] at h3
    cases h3
  ·rintro ⟨v, h1, h3⟩
   obtain ⟨x, hx, rfl⟩ := List.mem_map.1 ((hkl v).2 (List.mem_append_left _ h1))
   exact ⟨x, hx, h3⟩
 rw [rangeM_any (g := fun x : Int × Bool => mutd (((S[x.1.toNat]?).map S61.log).getD []) s.log) (r := ((⟨S.map sv, -1 :: tl, W⟩ : S44), (21 : Int))) m (fun x hx => by
  obtain ⟨j, q, hj, hq⟩ := hkey x hx
  dsimp only
  rw [hj, idx_map hq, Option.bind_some, idx_map hs, Option.bind_some, show d34 N (sv q).Log (sv s).Log = some (mutd q.log s.log) from d34_ok N _ _ (hlog j q hq) (hlog i s hs), Option.bind_some, Int.toNat_natCast, hq]
  show (if mutd q.log s.log = true then _ else _) = some (if mutd q.log s.log = true then _ else _)
  split <;> rfl), hrej]
 cases hr : rejects S i l with
 | true => rw [if_pos rfl, if_pos rfl, bindO_ret]
 | false =>
  rw [if_neg (show ¬ (false = true) by decide), if_neg (show ¬ (false = true) by decide), bindO_go, List.length_cons]
  by_cases hf : tl.length + 1 > 60
  ·rw [if_pos (by omega), if_pos hf]
  rw [if_neg (by omega), if_neg hf, appW_of (by simp only [List.length_cons, List.length_nil]; omega) (by simp only [List.length_cons, List.length_nil]; unfold maxLen; omega), Option.bind_some]
  have hT : ((((-1 :: tl) ++ [(i : Int)]).length : Nat) : Int) - 1 = (tl.length : Int) + 1 := by simp only [List.length_append, List.length_cons, List.length_nil]; omega
  rw [hT]
  have hchk : chkI ((tl.length : Int) + 1) = some ((tl.length : Int) + 1) := chkI_of (by omega) (by omega)
  rw [hchk]
  generalize hTT : (tl.length : Int) + 1 = T
  have key : ∀ (l' : List (Int × Bool)) (p : Nat → Bool), (∀ x ∈ l', ∃ (j : Nat) (q : S61), x.1 = (j : Int) ∧ S[j]? = some q) →
    rangeL (β := List S68) (ρ := S44 × Int) (fun (x58 : Int × Bool) (l67 : List S68) => (idx l67 x58.1).bind fun x79 => (some T).bind fun v83 => letv (setI l67 x58.1 (S68.mk v83 x79.Commit x79.Log x79.Match)) fun l84 => some (.go l84)) l' ((upT S T p).map sv) =
     some (.go ((upT S T (fun j => p j || decide ((j : Int) ∈ keysOf l'))).map sv)) := by
   intro l'
   induction l' with
   | nil =>
    intro p _
    simp only [rangeL]
    rw [show upT S T p = upT S T (fun j => p j || decide ((j : Int) ∈ keysOf [])) from upT_congr fun j => by simp [keysOf]]
   | cons x l' ih =>
    intro p hp
    obtain ⟨j, q, hj, hq⟩ := hp x (.head _)
    simp only [rangeL]
    rw [hj, idx_map (upT_get hq), Option.bind_some, Option.bind_some, letv_eq, setI_nat]
    have e1 : (⟨T, (sv (if p j = true then (⟨T, q.commit, q.log, q.match_⟩ : S61) else q)).Commit, (sv (if p j = true then (⟨T, q.commit, q.log, q.match_⟩ : S61) else q)).Log, (sv (if p j = true then (⟨T, q.commit, q.log, q.match_⟩ : S61) else q)).Match⟩ : S68) = sv ⟨T, q.commit, q.log, q.match_⟩ := by split <;> rfl
    rw [e1, set_map, upT_set hq]
    dsimp only
    rw [ih _ fun y hy => hp y (.tail _ hy)]
    refine congrArg (fun z : List S61 => some (Out.go (z.map sv))) (upT_congr fun b => ?_)
    rw [Bool.eq_iff_iff]
    simp only [Bool.or_eq_true, decide_eq_true_eq, keysOf, List.map_cons, List.mem_cons, hj]
    constructor
    ·rintro ((h | h) | h)
     ·exact .inl h
     ·exact .inr (.inl (by omega))
     ·exact .inr (.inr (of_decide_eq_true h))
    ·rintro (h | h | h)
     ·exact .inl (.inl h)
     ·exact .inl (.inr (by omega))
     ·exact .inr (decide_eq_true h)
  rw [rangeM_of (o := .go ((upT S T (fun j => decide ((j : Int) ∈ l ++ [(i : Int)]))).map sv)) (fun l' hl' => by
   have := key l' (fun _ => false) (fun x hx => hkey x (hl'.mem_iff.1 hx))
   rw [upT_false] at this
   rw [this]
   refine congrArg (fun z : List S61 => some (Out.go (z.map sv))) (upT_congr fun j => ?_)
   rw [Bool.false_or]
   refine decide_eq_decide.2 ?_
   rw [← hkl]
   exact (hl'.map Prod.fst).mem_iff), bindO_go]
  have hgi := upT_get (T := T) (p := fun j => decide ((j : Int) ∈ l ++ [(i : Int)])) hs
  rw [idx_map hgi, Option.bind_some, List.length_map, upT_len, hSl]
  rw [show mkL 8 (n : Int) (0 : Int) = some (List.replicate n 0) from if_pos ⟨by omega, by unfold reach; omega⟩, Option.bind_some, letv_eq, setI_nat]
  unfold elected
  rw [Int.toNat_natCast, hgi, ← set_map]
  rfl

theorem elect_inv {n : Nat} {S : List S61} {tl : List Int} {W : List S73} (h : Inv n S tl W) {a : Int} {l : List Int} (ha : okV n a) : Inv n (elect n S tl a l).1 (elect n S tl a l).2.1 W := by
 unfold elect
 split
 ·exact h
 split
 ·exact h
 split
 ·exact h
 rename_i hf
 obtain ⟨i, rfl⟩ : ∃ i : Nat, a = (i : Int) := ⟨a.toNat, by have := ha.1; omega⟩
 have hi : i < n := by have := ha.2; omega
 obtain ⟨s, hs⟩ := get_of (l := S) (k := i) (by rw [h.sl]; exact hi)
 show Inv n (elected n S ((tl.length : Int) + 1) (fun j => decide ((j : Int) ∈ l ++ [(i : Int)])) (i : Int).toNat) (tl ++ [(i : Int)]) W
 generalize hp : (fun j : Nat => decide ((j : Int) ∈ l ++ [(i : Int)])) = p
 have hpi : p i = true := by rw [← hp]; simp
 have hgi := upT_get (T := (tl.length : Int) + 1) (p := p) hs
 rw [if_pos hpi] at hgi
 have hE : elected n S ((tl.length : Int) + 1) p (i : Int).toNat = (upT S ((tl.length : Int) + 1) p).set i ⟨(tl.length : Int) + 1, s.commit, s.log, List.replicate n 0⟩ := by
  unfold elected
  rw [Int.toNat_natCast, hgi]
  rfl
 rw [hE]
 have htl : ∀ t : Nat, t < tl.length → (tl ++ [(i : Int)])[t]? = tl[t]? := fun t ht => List.getElem?_append_left ht
 have hlen : (upT S ((tl.length : Int) + 1) p).length = n := by rw [upT_len]; exact h.sl
 have hget : ∀ (j : Nat) q', ((upT S ((tl.length : Int) + 1) p).set i ⟨(tl.length : Int) + 1, s.commit, s.log, List.replicate n 0⟩)[j]? = some q' → ∃ q, S[j]? = some q ∧ q'.log = q.log ∧ q'.commit = q.commit ∧ ((j = i ∧ q'.term = (tl.length : Int) + 1 ∧ q'.match_ = List.replicate n 0) ∨ (j ≠ i ∧ q'.term = (tl.length : Int) + 1) ∨ (j ≠ i ∧ q' = q)) := fun j q' hq' => by
  rw [List.getElem?_set] at hq'
  by_cases hij : i = j
  ·subst hij
   rw [if_pos rfl, if_pos (by rw [hlen]; exact hi)] at hq'
   injection hq' with hq'
   subst hq'
   exact ⟨s, hs, rfl, rfl, .inl ⟨rfl, rfl, rfl⟩⟩
  ·rw [if_neg hij] at hq'
   have hj : j < n := by
    have := lt_of hq'
    rwa [hlen] at this
   obtain ⟨q, hq⟩ := get_of (l := S) (k := j) (by rw [h.sl]; exact hj)
   rw [upT_get hq] at hq'
   injection hq' with hq'
   refine ⟨q, hq, ?_⟩
   by_cases hpj : p j = true
   ·rw [if_pos hpj] at hq'
    subst hq'
    exact ⟨rfl, rfl, .inr (.inl ⟨fun e => hij e.symm, rfl⟩)⟩
   ·rw [if_neg hpj] at hq'
    subst hq'
    exact ⟨rfl, rfl, .inr (.inr ⟨fun e => hij e.symm, rfl⟩)⟩
 refine ⟨h.n1, h.n5, by rw [List.length_set]; exact hlen, by simp, by simp; omega, fun x hx => ?_, fun j q' hq' => ?_, h.wl, fun m hm => ?_⟩
 ·rcases List.mem_append.1 hx with hx | hx
  ·exact h.lead x hx
  ·obtain rfl := List.mem_singleton.1 hx
   omega
 ·obtain ⟨q, hq, e1, e2, hcase⟩ := hget j q' hq'
  have so := h.srv j q hq
  refine ⟨?_, by rw [e2]; exact so.com, by rw [e1]; exact so.len, fun t ht hl' => ?_⟩
  ·rcases hcase with ⟨_, e3, _⟩ | ⟨_, e3⟩ | ⟨_, rfl⟩
   ·exact ⟨tl.length, e3, by simp⟩
   ·exact ⟨tl.length, e3, by simp⟩
   ·obtain ⟨t, t1, t2⟩ := so.term
    exact ⟨t, t1, by simp; omega⟩
  ·rcases hcase with ⟨rfl, e3, e4⟩ | ⟨hji, e3⟩ | ⟨hji, rfl⟩
   ·refine ⟨by rw [e4]; simp, fun x hx => ?_⟩
    rw [e4] at hx
    have := (List.mem_replicate.1 hx).2
    omega
   ·have htt : t = tl.length := by omega
    subst htt
    rw [List.getElem?_append_right (Nat.le_refl _)] at hl'
    simp at hl'
    omega
   ·obtain ⟨t', t1, t2⟩ := so.term
    have htt : t = t' := by omega
    subst htt
    rw [htl t t2] at hl'
    exact so.lead t ht hl'
 ·have mo := h.msg m hm
  obtain ⟨t, o, o1, o2, o3, o4⟩ := mo.own
  have ht := lt_of o2
  refine ⟨mo.fr, mo.to, mo.idx, mo.com, mo.sum, t, o, o1, by rw [htl t ht]; exact o2, o3, fun q' hq' hqt => ?_⟩
  obtain ⟨q, hq, e1, e2, hcase⟩ := hget o q' hq'
  rw [e1]
  rcases hcase with ⟨_, e3, _⟩ | ⟨_, e3⟩ | ⟨_, rfl⟩
  ·omega
  ·omega
  ·exact o4 q' hq hqt
theorem upT_like {P G : List S61} (h : Like P G) (T : Int) (p : Nat → Bool) : Like (upT P T p) (upT G T p) := by
 refine ⟨by rw [upT_len, upT_len]; exact h.len, fun j q hq => ?_⟩
 have hj := lt_of hq
 rw [upT_len] at hj
 obtain ⟨s, hs⟩ := get_of hj
 obtain ⟨g, hg, hr⟩ := h.get j s hs
 rw [upT_get hs] at hq
 injection hq with hq
 subst hq
 refine ⟨_, upT_get hg, ?_⟩
 split
 ·rcases hr with rfl | ⟨h1, h2, h3, h4⟩
  ·exact .inl rfl
  ·exact .inr ⟨h1, rfl, h3, h4⟩
 ·exact hr
theorem elect_like {n : Nat} {P G : List S61} {tl : List Int} {W : List S73} (h : Inv n P tl W) (hPG : Like P G) {a : Int} {l : List Int} (ha : okV n a) : (elect n G tl a l).2 = (elect n P tl a l).2 ∧ Like (elect n P tl a l).1 (elect n G tl a l).1 := by
 have hlog : ∀ v : Int, ((G[v.toNat]?).map S61.log).getD [] = ((P[v.toNat]?).map S61.log).getD [] := fun v => by
  cases hp : P[v.toNat]? with
  | none =>
   have := List.getElem?_eq_none_iff.1 hp
   rw [List.getElem?_eq_none (by rw [← hPG.len]; exact this)]
  | some s =>
   obtain ⟨g, hg, hr⟩ := hPG.get _ s hp
   rw [hg]
   exact hr.log.symm
 have hrj : rejects G a l = rejects P a l := by
  unfold rejects
  rw [hlog]
  congr 1
  funext v
  rw [hlog]
 unfold elect
 rw [hrj]
 split
 ·exact ⟨rfl, hPG⟩
 split
 ·exact ⟨rfl, hPG⟩
 split
 ·exact ⟨rfl, hPG⟩
 refine ⟨rfl, ?_⟩
 obtain ⟨i, rfl⟩ : ∃ i : Nat, a = (i : Int) := ⟨a.toNat, by have := ha.1; omega⟩
 have hi : i < n := by have := ha.2; omega
 have hU := upT_like hPG ((tl.length : Int) + 1) (fun j => decide ((j : Int) ∈ l ++ [(i : Int)]))
 obtain ⟨s, hs⟩ := get_of (l := upT P ((tl.length : Int) + 1) (fun j => decide ((j : Int) ∈ l ++ [(i : Int)]))) (k := i) (by rw [upT_len, h.sl]; exact hi)
 obtain ⟨g, hg, hr⟩ := hU.get i s hs
 show Like (elected n P _ _ (i : Int).toNat) (elected n G _ _ (i : Int).toNat)
 unfold elected
 rw [Int.toNat_natCast, hs, hg]
 refine hU.set i (.inl ?_)
 show (⟨s.term, s.commit, s.log, _⟩ : S61) = ⟨g.term, g.commit, g.log, _⟩
 rw [hr.term, hr.commit, hr.log]
theorem elect_ok {N : Nat} (hN : bigN N) {n : Nat} {P G : List S61} {tl : List Int} {W : List S73} (h : Inv n P tl W) (hPG : Like P G) (a : Int) (vs : List Int) (hv : vs.length * 8 ≤ reach) :
  ∃ P' G' tl' e, d19 N ⟨P, 0 :: tl, W⟩ a vs = some (⟨P', 0 :: tl', W⟩, e) ∧ d21 N ⟨G.map sv, -1 :: tl, W⟩ a vs = some (⟨G'.map sv, -1 :: tl', W⟩, e) ∧ Inv n P' tl' W ∧ Like P' G' := by
 rcases d19_ok hN h a vs hv with ⟨h1, h2⟩ | ⟨h1, l, h3, h4, h5⟩
 ·rcases d21_ok hN h hPG a vs hv with ⟨_, h3⟩ | ⟨h3, _⟩
  ·exact ⟨P, G, tl, 1, h2, h3, h, hPG⟩
  ·exact absurd h3 h1
 ·rcases d21_ok hN h hPG a vs hv with ⟨h6, _⟩ | ⟨_, h6⟩
  ·exact absurd h1 h6
  ·obtain ⟨e1, e2⟩ := elect_like (l := l) h hPG h1.1
   have h7 := h6 l h3 h4
   rw [e1] at h7
   exact ⟨_, _, _, _, h5, h7, elect_inv h h1.1, e2⟩
end Go.Proofs.Ytifcmomjjkbboab
end
section
namespace Go.Proofs.Ytifcmomjjkbboab
open Go.Ab Go.Rp

/-! ### the comparison -/
theorem d45_same {N : Nat} (hN : bigN N) (l : List S64) (p : S64 → S64 → Option Bool) (hp : ∀ x, p x x = some true) (hl : l.length ≤ 1000) : d45 N l l p = some true := by
 have hN' : 9223372036854775808 ≤ N := hN
 unfold d45
 rw [if_neg (by simp)]
 refine bindO_eq (P := fun o => o = .go ()) (loop_idx (σ := Unit) (τ := Int) l.length (fun _ j => j) _ (fun _ _ => True) _ ?_ ?_ () trivial (n := N) (by omega)) (fun x hx => by cases hx) (fun b _ => rfl)
 ·intro k s hk _
  obtain ⟨x, hx⟩ := get_of hk
  try dsimp only
  rw [if_pos (by omega), idx_nat hx, Option.bind_some, Option.bind_some, hp, Option.bind_some, if_neg nt, chkI_of (by omega) (by omega), Option.bind_some]
  exact .inl ⟨(), rfl, trivial⟩
 ·intro s _
  try dsimp only
  rw [if_neg (by omega)]
  exact ⟨_, rfl, rfl⟩
theorem d37_same {N : Nat} (hN : bigN N) (l : List S73) (p : S73 → S73 → Option Bool) (hp : ∀ x ∈ l, p x x = some true) (hl : l.length ≤ 1000) : d37 N l l p = some true := by
 have hN' : 9223372036854775808 ≤ N := hN
 unfold d37
 rw [if_neg (by simp)]
 refine bindO_eq (P := fun o => o = .go ()) (loop_idx (σ := Unit) (τ := Int) l.length (fun _ j => j) _ (fun _ _ => True) _ ?_ ?_ () trivial (n := N) (by omega)) (fun x hx => by cases hx) (fun b _ => rfl)
 ·intro k s hk _
  obtain ⟨x, hx⟩ := get_of hk
  try dsimp only
  rw [if_pos (by omega), idx_nat hx, Option.bind_some, Option.bind_some, hp x (List.mem_of_getElem? hx), Option.bind_some, if_neg nt, chkI_of (by omega) (by omega), Option.bind_some]
  exact .inl ⟨(), rfl, trivial⟩
 ·intro s _
  try dsimp only
  rw [if_neg (by omega)]
  exact ⟨_, rfl, rfl⟩
theorem d46_same (N : Nat) (x : S64) : d46 N x x = some true := by
 unfold d46
 rw [if_pos (by simp)]
 simp
theorem d35_same {N : Nat} (hN : bigN N) (l : List S64) (hl : l.length ≤ 1000) : d35 N l l = some true := by
 unfold d35
 rw [d45_same hN l _ (fun x => d46_same N x) hl]
 rfl
theorem d39_same {N : Nat} (hN : bigN N) (m : S73) (hl : m.Entries.length ≤ 1000) : d39 N m m = some true := by
 unfold d39
 rw [if_pos (by simp), if_pos (by simp), if_pos (by simp), if_pos (by simp), if_pos (by simp), if_pos (by simp), if_pos (by simp), d35_same hN _ hl]
 rfl
theorem d38_ok {N : Nat} (hN : bigN N) {n : Nat} {P : List S61} {tl : List Int} {W : List S73} (h : Inv n P tl W) : d38 N ⟨P, 0 :: tl, W⟩ = some (⟨P, 0 :: tl, W⟩, W) := by
 have hN' : 9223372036854775808 ≤ N := hN
 have hw := h.wl
 unfold d38
 refine bind_eq (P := fun l => l = W) (loop_idx (σ := List S73) (τ := List S73 × Int) W.length (fun l k => (l, k)) _ (fun k l => l = W.take k) _ ?_ ?_ [] (by simp) (n := N) (by omega)) (fun l hl => by rw [hl])
 ·rintro k l hk rfl
  obtain ⟨m, hm⟩ := get_of hk
  have mo := h.msg m (List.mem_of_getElem? hm)
  have hs := mo.sum
  have hx := mo.idx
  try dsimp only
  rw [if_pos (by omega), idx_nat hm, Option.bind_some, show d26 N m.Entries = some m.Entries from if_pos (by unfold reach; omega), Option.bind_some, appL_of (by simp only [List.length_take, List.length_cons, List.length_nil]; unfold reach; omega), Option.bind_some, chkI_of (by omega) (by omega), Option.bind_some]
  exact .inl ⟨_, rfl, by rw [List.take_add_one, hm]; rfl⟩
 ·rintro l rfl
  try dsimp only
  rw [if_neg (by omega)]
  exact ⟨_, rfl, List.take_length⟩
theorem d6_in {N : Nat} {n : Nat} {P : List S61} {tl : List Int} {W : List S73} (h : Inv n P tl W) {i : Nat} {s : S61} (hs : P[i]? = some s) : d6 N ⟨P, 0 :: tl, W⟩ i = some (s.log, s.commit, 0) := by
 have hi := lt_of hs
 have so := (h.srv i s hs).len
 unfold d6
 rw [d23_ok, Option.bind_some]
 show (if (!decide (0 ≤ (i : Int) ∧ (i : Int) < (P.length : Int))) = true then _ else _) = _
 rw [decide_eq_true (by omega), if_neg nt]
 show (idx P (i : Int)).bind _ = _
 rw [idx_nat hs, Option.bind_some, show d26 N s.log = some s.log from if_pos (by unfold reach; omega), Option.bind_some]
theorem d6_out {N : Nat} {P : List S61} {ld : List Int} {W : List S73} {i : Int} (h : ¬ (0 ≤ i ∧ i < (P.length : Int))) : d6 N ⟨P, ld, W⟩ i = some ([], 0, 1) := by
 unfold d6
 rw [d23_ok, Option.bind_some]
 show (if (!decide (0 ≤ i ∧ i < (P.length : Int))) = true then _ else _) = _
 rw [decide_eq_false h]
 rfl
theorem d22_ok {N : Nat} (hN : bigN N) {n : Nat} {P G : List S61} {tl : List Int} {W : List S73} (h : Inv n P tl W) (hG : Like P G) : d22 N ⟨P, 0 :: tl, W⟩ ⟨G.map sv, -1 :: tl, W⟩ = some (⟨P, 0 :: tl, W⟩, ⟨G.map sv, -1 :: tl, W⟩, true) := by
 have hN' : 9223372036854775808 ≤ N := hN
 have hGl : G.length = n := hG.len.symm.trans h.sl
 have hsl : (⟨G.map sv, -1 :: tl, W⟩ : S44).Servers.length = n := by show (G.map sv).length = n; rw [List.length_map]; exact hGl
 have hn5 := h.n5
 have htl := h.tl60
 have htl1 := h.tl1
 unfold d22
 rw [hsl]
 refine bindO_eq (P := fun o => o = .go ()) (iter_post _ (fun v => ((n : Int) + 1 - v).toNat) (fun v : Int => -1 ≤ v ∧ v ≤ (n : Int) + 1) _ ?_ N _ ⟨by omega, by omega⟩ (by omega)) (fun x hx => by cases hx) (fun b _ => ?_)
 ·rintro v ⟨h1, h2⟩
  try dsimp only
  by_cases hv : v ≤ (n : Int)
  ·rw [if_pos hv]
   by_cases hin : 0 ≤ v ∧ v < (n : Int)
   ·obtain ⟨i, rfl⟩ : ∃ i : Nat, v = (i : Int) := ⟨v.toNat, by omega⟩
    obtain ⟨s, hs⟩ := get_of (l := P) (k := i) (by rw [h.sl]; omega)
    obtain ⟨g, hg, hr⟩ := hG.get i s hs
    have so := (h.srv i s hs).len
    rw [d6_in h hs, Option.bind_some, if_neg (by omega), Option.bind_some, if_neg (by simp; omega)]
    dsimp only
    rw [if_neg (by decide), idx_map hg, Option.bind_some, if_neg (show ¬ (s.commit != (sv g).Commit) = true by show ¬ (s.commit != g.commit) = true; rw [hr.commit]; simp)]
    rw [show (sv g).Log = s.log from hr.log.symm, d35_same hN _ (by omega), Option.bind_some, Option.bind_some, if_neg nt, chkI_of (by omega) (by omega), Option.bind_some]
    exact .inl ⟨_, rfl, ⟨by omega, by omega⟩, by omega⟩
   ·rw [d6_out (by rw [h.sl]; exact hin), Option.bind_some]
    have ht : (if v < 0 then (some true) else some (v == (n : Int))) = some true := by
     by_cases h0 : v < 0
     ·rw [if_pos h0]
     ·rw [if_neg h0]; congr 1; simp; omega
    rw [ht, Option.bind_some, if_pos rfl]
    dsimp only
    rw [if_neg (by decide), if_neg (by decide), Option.bind_some, if_neg (by decide), chkI_of (by omega) (by omega), Option.bind_some]
    exact .inl ⟨_, rfl, ⟨by omega, by omega⟩, by omega⟩
  ·rw [if_neg hv]
   exact .inr ⟨_, rfl, rfl⟩
 ·obtain ⟨x, hx⟩ := get_of (l := tl) (k := tl.length - 1) (by omega)
  have i1 : idx (0 :: tl) (tl.length : Int) = some x := idx_nat (by rw [show tl.length = (tl.length - 1) + 1 by omega, List.getElem?_cons_succ]; exact hx)
  have i2 : idx (-1 :: tl) (tl.length : Int) = some x := idx_nat (by rw [show tl.length = (tl.length - 1) + 1 by omega, List.getElem?_cons_succ]; exact hx)
  have h36 : d36 N ⟨P, 0 :: tl, W⟩ = some (x, (tl.length : Int)) := by
   unfold d36
   dsimp only
   rw [List.length_cons, chkI_of (by omega) (by omega), Option.bind_some, show ((tl.length + 1 : Nat) : Int) - 1 = (tl.length : Int) by omega, i1, Option.bind_some]
  rw [h36, Option.bind_some]
  dsimp only
  rw [List.length_cons, chkI_of (by omega) (by omega), Option.bind_some, show ((tl.length + 1 : Nat) : Int) - 1 = (tl.length : Int) by omega, if_neg (by simp), Option.bind_some, i2, Option.bind_some, Option.bind_some, if_neg (by simp), d38_ok hN h, Option.bind_some]
  dsimp only
  have hw := h.wl
  rw [d37_same hN W _ (fun m hm => d39_same hN m (by have mo := h.msg m hm; have := mo.sum; have := mo.idx; omega)) (by omega), Option.bind_some]

/-! ### the first clusters -/
def P0 (n : Nat) : List S61 := (List.replicate n ⟨1, 0, [], []⟩).set 0 ⟨1, 0, [], List.replicate n 0⟩
def G0 (n : Nat) : List S61 := List.replicate n ⟨1, 0, [], List.replicate n 0⟩
theorem d4_1 (k : Nat) : d4 (k + 6) (1 : Int) = some (some ⟨P0 1, [0, 0], []⟩, 0) := by kernel_rfl
theorem d4_2 (k : Nat) : d4 (k + 6) (2 : Int) = some (some ⟨P0 2, [0, 0], []⟩, 0) := by kernel_rfl
theorem d4_3 (k : Nat) : d4 (k + 6) (3 : Int) = some (some ⟨P0 3, [0, 0], []⟩, 0) := by kernel_rfl
theorem d4_4 (k : Nat) : d4 (k + 6) (4 : Int) = some (some ⟨P0 4, [0, 0], []⟩, 0) := by kernel_rfl
theorem d4_5 (k : Nat) : d4 (k + 6) (5 : Int) = some (some ⟨P0 5, [0, 0], []⟩, 0) := by kernel_rfl
theorem d4_ok {N : Nat} (hN : bigN N) {n : Nat} (h1 : 1 ≤ n) (h5 : n ≤ 5) : d4 N n = some (some ⟨P0 n, [0, 0], []⟩, 0) := by
 have hN' : 9223372036854775808 ≤ N := hN
 obtain ⟨k, rfl⟩ : ∃ k, N = k + 6 := ⟨N - 6, by omega⟩
 have : n = 1 ∨ n = 2 ∨ n = 3 ∨ n = 4 ∨ n = 5 := by omega
 rcases this with rfl | rfl | rfl | rfl | rfl
 ·exact d4_1 k
 ·exact d4_2 k
 ·exact d4_3 k
 ·exact d4_4 k
 ·exact d4_5 k
theorem d4_bad (N : Nat) {a : Int} (h : ¬ (1 ≤ a ∧ a ≤ 5)) : d4 N a = some (none, 1) := by
 unfold d4
 by_cases h1 : a < 1
 ·rw [if_pos h1, Option.bind_some, if_pos rfl]
 ·rw [if_neg h1, Option.bind_some, if_pos (by simp; omega)]
theorem d7_1 (k : Nat) : d7 (k + 6) (1 : Int) = some (some ⟨(G0 1).map sv, [-1, 0], []⟩) := by kernel_rfl
theorem d7_2 (k : Nat) : d7 (k + 6) (2 : Int) = some (some ⟨(G0 2).map sv, [-1, 0], []⟩) := by kernel_rfl
theorem d7_3 (k : Nat) : d7 (k + 6) (3 : Int) = some (some ⟨(G0 3).map sv, [-1, 0], []⟩) := by kernel_rfl
theorem d7_4 (k : Nat) : d7 (k + 6) (4 : Int) = some (some ⟨(G0 4).map sv, [-1, 0], []⟩) := by kernel_rfl
theorem d7_5 (k : Nat) : d7 (k + 6) (5 : Int) = some (some ⟨(G0 5).map sv, [-1, 0], []⟩) := by kernel_rfl
theorem d7_ok {N : Nat} (hN : bigN N) {n : Nat} (h1 : 1 ≤ n) (h5 : n ≤ 5) : d7 N n = some (some ⟨(G0 n).map sv, [-1, 0], []⟩) := by
 have hN' : 9223372036854775808 ≤ N := hN
 obtain ⟨k, rfl⟩ : ∃ k, N = k + 6 := ⟨N - 6, by omega⟩
 have : n = 1 ∨ n = 2 ∨ n = 3 ∨ n = 4 ∨ n = 5 := by omega
 rcases this with rfl | rfl | rfl | rfl | rfl
 ·exact d7_1 k
 ·exact d7_2 k
 ·exact d7_3 k
 ·exact d7_4 k
 ·exact d7_5 k
theorem P0_get {n i : Nat} {s : S61} (h : (P0 n)[i]? = some s) : i < n ∧ ((i = 0 ∧ s = ⟨1, 0, [], List.replicate n 0⟩) ∨ (i ≠ 0 ∧ s = ⟨1, 0, [], []⟩)) := by
 have hl := lt_of h
 unfold P0 at h hl
 rw [List.length_set, List.length_replicate] at hl
 refine ⟨hl, ?_⟩
 rw [List.getElem?_set] at h
 by_cases h0 : 0 = i
 ·rw [if_pos h0, if_pos (by rw [List.length_replicate]; omega)] at h
  injection h with h
  exact .inl ⟨h0.symm, h.symm⟩
 ·rw [if_neg h0, List.getElem?_replicate, if_pos hl] at h
  injection h with h
  exact .inr ⟨fun e => h0 e.symm, h.symm⟩
theorem inv0 {n : Nat} (h1 : 1 ≤ n) (h5 : n ≤ 5) : Inv n (P0 n) [0] [] := by
 refine ⟨h1, h5, by unfold P0; simp, by simp, by simp, by simp; omega, fun i s hs => ?_, by simp, by simp⟩
 obtain ⟨hi, h⟩ := P0_get hs
 rcases h with ⟨rfl, rfl⟩ | ⟨h0, rfl⟩
 ·exact ⟨⟨0, by rfl, by simp⟩, Int.le_refl _, by simp, fun _ _ _ => ⟨by simp, fun x hx => by have := (List.mem_replicate.1 hx).2; subst this; simp⟩⟩
 ·refine ⟨⟨0, by rfl, by simp⟩, Int.le_refl _, by simp, fun t ht hl => ?_⟩
  have ht : (1 : Int) = (t : Int) + 1 := ht
  have : t = 0 := by omega
  subst this
  simp at hl
  omega
theorem like0 {n : Nat} : Like (P0 n) (G0 n) := by
 refine ⟨by unfold P0 G0; simp, fun i s hs => ?_⟩
 obtain ⟨hi, h⟩ := P0_get hs
 refine ⟨_, by unfold G0; rw [List.getElem?_replicate, if_pos hi], ?_⟩
 rcases h with ⟨_, rfl⟩ | ⟨_, rfl⟩
 ·exact .inl rfl
 ·exact .inr ⟨rfl, rfl, rfl, rfl⟩
theorem d5_first {N : Nat} : d5 N ⟨P0 1, [0, 0], []⟩ 0 (ByteArray.mk #[97]) = some (⟨[⟨1, 1, [⟨1, ByteArray.mk #[97]⟩], [1]⟩], [0, 0], []⟩, 0) := by
 have h := inv0 (n := 1) (by decide) (by decide)
 have hs : (P0 1)[0]? = some ⟨1, 0, [], [0]⟩ := rfl
 have so := h.srv 0 _ hs
 unfold d5
 rw [d23_ok, Option.bind_some, if_neg (by decide), if_neg (by decide), show d24 N ⟨P0 1, [0, 0], []⟩ 0 = some (isL [0] ⟨1, 0, [], [0]⟩ (0 : Nat)) from d24_ok N hs so, Option.bind_some, if_neg (by decide)]
 dsimp only
 rw [show idx (P0 1) 0 = some ⟨1, 0, [], [0]⟩ from rfl, Option.bind_some, Option.bind_some, if_neg (by decide), Option.bind_some, appL_of (by decide), Option.bind_some, letv_eq]
 have hm1 : MatchOk 1 (⟨1, 0, [] ++ [⟨1, ByteArray.mk #[97]⟩], [0]⟩ : S61) := ⟨rfl, by simp⟩
 have e1 : setI (P0 1) 0 (⟨1, 0, [] ++ [⟨1, ByteArray.mk #[97]⟩], [0]⟩ : S61) = [⟨1, 0, [] ++ [⟨1, ByteArray.mk #[97]⟩], [0]⟩] := rfl
 rw [e1]
 have e2 := d25_ok (N := N) (servers := [⟨1, 0, [] ++ [⟨1, ByteArray.mk #[97]⟩], [0]⟩]) (leaders := [0, 0]) (network := []) (i := 0) (n := 1) (s := ⟨1, 0, [] ++ [⟨1, ByteArray.mk #[97]⟩], [0]⟩) rfl (by decide) (by decide) hm1 (by decide) (by decide)
 rw [List.set_cons_zero, show ((0 : Nat) : Int) = 0 from rfl] at e2
 rw [e2, Option.bind_some]
 unfold adv
 simp [srt]
end Go.Proofs.Ytifcmomjjkbboab
end
section
namespace Go.Proofs.Ytifcmomjjkbboab
open Go.Ab Go.Rp

theorem d8_tot (N : Nat) (l : List Int) {i : Int} (h0 : 0 ≤ i) : ∃ r, d8 N l i = some r := by
 unfold d8
 by_cases h : i < (l.length : Int)
 ·obtain ⟨a, ha⟩ := get_of (l := l) (k := i.toNat) (by omega)
  rw [if_pos h, idx_toNat h0 ha]; exact ⟨a, rfl⟩
 ·rw [if_neg h]; exact ⟨0, rfl⟩
theorem u64_wrap (n : Int) : 0 ≤ IntKind.u64.wrap n := by
 simp only [IntKind.wrap, IntKind.signed, IntKind.bits]
 simp
 omega
theorem u64_len {n : Nat} (h : n ≤ 140737488355328) : IntKind.u64.wrap (n : Int) = (n : Int) := by
 simp only [IntKind.wrap, IntKind.signed, IntKind.bits]
 simp
 omega
theorem rem_lt {x : Int} {n : Nat} (hx : 0 ≤ x) (hn : n ≠ 0) : ∃ k : Nat, remI x (n : Int) = some (k : Int) ∧ k < n := by
 refine ⟨(x.toNat % n), ?_, Nat.mod_lt _ (by omega)⟩
 unfold remI
 rw [if_neg (by omega)]
 have : x = (x.toNat : Int) := (Int.toNat_of_nonneg hx).symm
 conv => lhs; rw [this]
 rfl
theorem d9_tot (N : Nat) (l : List ByteArray) (i : Int) (hl : l.length ≤ 140737488355328) : ∃ r, d9 N l i = some r := by
 unfold d9
 by_cases h : l.length = 0
 ·exact ⟨_, by rw [if_pos (by simp [h])]⟩
 ·obtain ⟨k, h1, h2⟩ := rem_lt (u64_wrap i) h
  obtain ⟨a, ha⟩ := get_of h2
  refine ⟨a, ?_⟩
  rw [if_neg (by simpa using h), letv_eq, letv_eq, u64_len hl, h1, Option.bind_some, chkI_of (by omega) (by omega), Option.bind_some, idx_nat ha]
  rfl
theorem d20_tot (N : Nat) (l : List (List Int)) (i : Int) (hl : l.length ≤ 140737488355328) : ∃ r, d20 N l i = some r ∧ (r ∈ l ∨ r = []) := by
 unfold d20
 by_cases h : l.length = 0
 ·exact ⟨_, by rw [if_pos (by simp [h])], .inr rfl⟩
 ·obtain ⟨k, h1, h2⟩ := rem_lt (u64_wrap i) h
  obtain ⟨a, ha⟩ := get_of h2
  refine ⟨a, ?_, .inl (List.mem_of_getElem? ha)⟩
  rw [if_neg (by simpa using h), letv_eq, letv_eq, u64_len hl, h1, Option.bind_some, chkI_of (by omega) (by omega), Option.bind_some, idx_nat ha]
  rfl
theorem oc_some {α β : Type} (x : α) (n : Option β) (f : α → Option β) : ocase (some x) n f = f x := rfl
theorem oc_none {α β : Type} (n : Option β) (f : α → Option β) : ocase none n f = n := rfl
theorem or_left {τ ρ σ : Type} {o : Option (τ ⊕ ρ)} {mk : σ → τ} {I : σ → Prop} {B : Prop} (h : ∃ r, o = some r ∧ ∃ s', r = .inl (mk s') ∧ I s') : (∃ s', o = some (.inl (mk s')) ∧ I s') ∨ B := by
 obtain ⟨r, h1, s', rfl, h2⟩ := h
 exact .inl ⟨s', h1, h2⟩
theorem d6_first (N : Nat) : d6 N ⟨[⟨1, 1, [⟨1, ByteArray.mk #[97]⟩], [1]⟩], [0, 0], []⟩ 0 = some ([⟨1, ByteArray.mk #[97]⟩], 1, 0) := by kernel_rfl

abbrev T8 : Type := (List S61) × (List Int) × (List S73) × (List S68) × (List Int) × (List S73) × Int × Int
def Good (n : Nat) (t : T8) : Prop := ∃ P G tl W e, t = (P, 0 :: tl, W, G.map sv, -1 :: tl, W, e, e) ∧ Inv n P tl W ∧ Like P G
theorem nf : (!false) = true := rfl

theorem d3_true {N : Nat} (hN : bigN N) (a0 : Int) (a1 : List (List Int)) (a2 : List ByteArray) (a3 : List (List Int)) (h1 : a1.length ≤ 140737488355328) (h2 : a2.length ≤ 140737488355328) (h3 : a3.length ≤ 140737488355328) (h4 : ∀ v ∈ a3, v.length * 8 ≤ reach) : d3 N a0 a1 a2 a3 = some true := by
 have hN' : 9223372036854775808 ≤ N := hN
 unfold d3
 rw [show d4 N 1 = some (some ⟨P0 1, [0, 0], []⟩, 0) from d4_ok hN (n := 1) (by decide) (by decide), Option.bind_some, oc_some]
 dsimp only
 rw [if_neg (by decide), show d5 N ⟨P0 1, [0, 0], []⟩ 0 (ByteArray.mk #[97]) = _ from d5_first, Option.bind_some, Option.bind_some]
 dsimp only
 rw [if_neg (by decide), d6_first, Option.bind_some]
 dsimp only
 rw [if_neg (by decide), if_neg (by decide), Option.bind_some, if_neg (by decide)]
 by_cases ha : 1 ≤ a0 ∧ a0 ≤ 5
 case neg =>
  rw [d4_bad N ha, Option.bind_some, oc_none]
  by_cases h0 : a0 < 1
  ·rw [if_pos h0, Option.bind_some, if_pos rfl, if_pos (by decide)]; rfl
  ·rw [if_neg h0, Option.bind_some, if_pos (by simp; omega), if_pos (by decide)]; rfl
 obtain ⟨n, rfl⟩ : ∃ n : Nat, a0 = (n : Int) := ⟨a0.toNat, by omega⟩
 have hn1 : 1 ≤ n := by omega
 have hn5 : n ≤ 5 := by omega
 rw [d4_ok hN hn1 hn5, Option.bind_some, oc_some]
 dsimp only
 rw [if_neg (show ¬ (n : Int) < 1 by omega), Option.bind_some, if_neg (show ¬ decide ((n : Int) > 5) = true by simp; omega), if_neg (by decide), Option.bind_some, if_neg (by decide), d7_ok hN hn1 hn5, Option.bind_some, oc_some]
 refine bindO_eq (P := fun r => r = .go ()) (loop_idx (σ := (List S61) × (List Int) × (List S73) × (List S68) × (List Int) × (List S73)) (τ := (List S61) × (List Int) × (List S73) × (List S68) × (List Int) × (List S73) × Int) (ρ := Out Unit Bool) a1.length (fun s v => (s.1, s.2.1, s.2.2.1, s.2.2.2.1, s.2.2.2.2.1, s.2.2.2.2.2, v)) _
  (fun _ s => ∃ P G tl W, s = (P, 0 :: tl, W, G.map sv, -1 :: tl, W) ∧ Inv n P tl W ∧ Like P G) _ ?_ ?_ (P0 n, [0, 0], [], (G0 n).map sv, [-1, 0], []) ⟨P0 n, G0 n, [0], [], rfl, inv0 hn1 hn5, like0⟩ (n := N) (by omega)) (fun x hx => by cases hx) (fun b _ => rfl)
 ·rintro k _ hk ⟨P, G, tl, W, rfl, inv, like⟩
  refine or_left ?_
  obtain ⟨op, hop⟩ := get_of hk
  obtain ⟨x1, hx1⟩ := d8_tot N op (i := 1) (by decide)
  obtain ⟨x2, hx2⟩ := d8_tot N op (i := 2) (by decide)
  obtain ⟨x0, hx0⟩ := d8_tot N op (i := 0) (by decide)
  dsimp only
  rw [if_pos (by omega), idx_nat hop, Option.bind_some, hx1, Option.bind_some, hx2, Option.bind_some, hx0, Option.bind_some]
  refine bind_ex (P := Good n) ?_ ?_
  ·by_cases c1 : x0 = 1
   ·rw [if_pos (by simp [c1])]
    obtain ⟨pay, hpay⟩ := d9_tot N a2 x2 h2
    obtain ⟨P', G', e, r1, r2, r3, r4⟩ := append_ok hN inv like x1 pay
    rw [hpay, Option.bind_some, r1, Option.bind_some, r2, Option.bind_some]
    exact ⟨_, rfl, P', G', tl, W, e, rfl, r3, r4⟩
   rw [if_neg (by simp [c1])]
   by_cases c2 : x0 = 2
   ·rw [if_pos (by simp [c2])]
    obtain ⟨W', e, r1, r2, r3⟩ := d11_ok (N := N) inv x1 x2
    rw [r1, Option.bind_some]
    have hv : ((chkI ((n : Int) - 1)).bind fun v1002 => (d12 N x1 0 v1002).bind fun r1003 => if (!r1003) = true then (some true) else (chkI ((n : Int) - 1)).bind fun v1005 => (d12 N x2 0 v1005).bind fun r1006 => if (!r1006) = true then (some true) else some (x1 == x2)) =
      some (decide (¬ (0 ≤ x1 ∧ x1 < (n : Int)) ∨ ¬ (0 ≤ x2 ∧ x2 < (n : Int)) ∨ x1 = x2)) := by
     rw [valid_ref N hn1 hn5 x1]
     by_cases v1 : 0 ≤ x1 ∧ x1 < (n : Int)
     ·rw [decide_eq_true v1, if_neg nt, valid_ref N hn1 hn5 x2]
      by_cases v2 : 0 ≤ x2 ∧ x2 < (n : Int)
      ·rw [decide_eq_true v2, if_neg nt]
       by_cases v3 : x1 = x2 <;> simp [v1, v2, v3]
      ·rw [decide_eq_false v2, if_pos nf]; simp [v1, v2]
     ·rw [decide_eq_false v1, if_pos nf]; simp [v1]
    rw [hv, Option.bind_some]
    rcases r3 with ⟨hc, rfl, rfl⟩ | ⟨i, j, s, rfl, rfl, hi, hj, hij, hs, hcase⟩
    ·rw [if_pos (decide_eq_true hc)]
     exact ⟨_, rfl, P, G, tl, W', 1, rfl, inv, like⟩
    rw [if_neg (by simp; omega)]
    obtain ⟨g, hg, hr⟩ := like.get i s hs
    rw [d13_ok N hg (inv.srv i s hs) hr, Option.bind_some]
    rcases hcase with ⟨hl, rfl, rfl⟩ | ⟨hl, hw, rfl, rfl⟩ | ⟨hl, hw, rfl, x, hx, hxl, hl60, rfl⟩
    ·rw [hl, if_pos nf]
     exact ⟨_, rfl, P, G, tl, W', 15, rfl, inv, like⟩
    ·rw [hl, if_neg nt, if_pos (by omega)]
     exact ⟨_, rfl, P, G, tl, W', 18, rfl, inv, like⟩
    ·have hm := isL_match (inv.srv i s hs) hl
     obtain rfl := hr.lead inv.n1 hm
     rw [hl, if_neg nt, if_neg (by omega), d14_ok hN hg hx hxl hl60, Option.bind_some, appL_of (by simp only [List.length_cons, List.length_nil]; unfold reach; omega), Option.bind_some]
     exact ⟨_, rfl, P, G, tl, _, 0, rfl, r2, like⟩
   rw [if_neg (by simp [c2])]
   have hv : (if (x0 == 3) = true then (some true) else some (x0 == 4)) = some (decide (x0 = 3 ∨ x0 = 4)) := by
    by_cases c3 : x0 = 3
    ·rw [if_pos (by simp [c3])]; simp [c3]
    ·rw [if_neg (by simp [c3])]; by_cases c4 : x0 = 4 <;> simp [c3, c4]
   rw [hv, Option.bind_some]
   by_cases c34 : x0 = 3 ∨ x0 = 4
   ·rw [if_pos (decide_eq_true c34), Option.bind_some]
    have hwl := inv.wl
    have htest : (if x1 ≥ 0 then (some (decide (x1 < (W.length : Int)))) else some false) = some (decide (0 ≤ x1 ∧ x1 < (W.length : Int))) := by
     by_cases hx : x1 ≥ 0
     ·rw [if_pos hx]; congr 1; exact decide_eq_decide.2 ⟨fun h => ⟨hx, h⟩, fun h => h.2⟩
     ·rw [if_neg hx]; congr 1; exact (decide_eq_false (fun h => hx h.1)).symm
    have hcat : ∀ k : Nat, k < W.length → ∀ {β : Type} (K : List S73 → Option β), ((natI (k : Int) W.length).bind fun n1044 => letv (W.take n1044) fun l1045 => (chkI ((n1044 : Int) + 1)).bind fun v1046 => (natI v1046 W.length).bind fun n1047 => letv (W.drop n1047) fun l1048 => (d17 N [l1045, l1048]).bind K) = K (without W k) := fun k hk β K => by
     rw [natI_of (by omega), Option.bind_some, letv_eq, chkI_of (by omega) (by omega), Option.bind_some, show ((k : Int) + 1) = ((k + 1 : Nat) : Int) by omega, natI_of (by omega), Option.bind_some, letv_eq, d17_ok hN _ _ (by rw [List.length_take]; omega) (by rw [List.length_drop]; omega), Option.bind_some]
     rfl
    by_cases hin : 0 ≤ x1 ∧ x1 < (W.length : Int)
    ·obtain ⟨q, rfl⟩ : ∃ q : Nat, x1 = (q : Int) := ⟨x1.toNat, by omega⟩
     have hq : q < W.length := by omega
     obtain ⟨m, hm⟩ := get_of hq
     by_cases c3 : x0 = 3
     ·obtain ⟨P', G', W', r1, r2, r3, r4⟩ := deliver_ok hN inv like hm
      rw [if_pos (by simp [c3]), r1, Option.bind_some, Option.bind_some]
      dsimp only
      rw [htest, Option.bind_some, if_pos (decide_eq_true hin), idx_nat hm, Option.bind_some, hcat q hq, if_pos rfl, r2, Option.bind_some]
      exact ⟨_, rfl, P', G', tl, W', 0, rfl, r3, r4⟩
     ·rcases d16_ok (N := N) inv (q : Int) with ⟨g1, _⟩ | ⟨k', g1, g2, g3, g4⟩
      ·exact absurd hin g1
      obtain rfl : q = k' := by omega
      rw [if_neg (by simp [c3]), g3, Option.bind_some, Option.bind_some]
      dsimp only
      rw [htest, Option.bind_some, if_pos (decide_eq_true hin), idx_nat hm, Option.bind_some, hcat q hq, if_neg (by decide)]
      exact ⟨_, rfl, P, G, tl, _, 0, rfl, g4, like⟩
    ·have h15 : d15 N ⟨P, 0 :: tl, W⟩ x1 = some (⟨P, 0 :: tl, W⟩, 4) := by
      unfold d15
      dsimp only
      rw [range_test, Option.bind_some, decide_eq_false hin, if_pos nf]
     have h16 : d16 N ⟨P, 0 :: tl, W⟩ x1 = some (⟨P, 0 :: tl, W⟩, 4) := by
      rcases d16_ok (N := N) inv x1 with ⟨_, g⟩ | ⟨k', g1, g2, _⟩
      ·exact g
      ·exact absurd ⟨by omega, by omega⟩ hin
     by_cases c3 : x0 = 3
     ·rw [if_pos (by simp [c3]), h15, Option.bind_some, Option.bind_some]
      dsimp only
      rw [htest, Option.bind_some, if_neg (by simp; omega)]
      exact ⟨_, rfl, P, G, tl, W, 4, rfl, inv, like⟩
     ·rw [if_neg (by simp [c3]), h16, Option.bind_some, Option.bind_some]
      dsimp only
      rw [htest, Option.bind_some, if_neg (by simp; omega)]
      exact ⟨_, rfl, P, G, tl, W, 4, rfl, inv, like⟩
   rw [if_neg (by simpa using c34)]
   by_cases c5 : x0 = 5
   ·rw [if_pos (by simp [c5])]
    obtain ⟨vs, hvs, hvm⟩ := d20_tot N a3 x2 h3
    have hvl : vs.length * 8 ≤ reach := by
     rcases hvm with h | rfl
     ·exact h4 vs h
     ·simp
    obtain ⟨P', G', tl', e, r1, r2, r3, r4⟩ := elect_ok hN inv like x1 vs hvl
    rw [hvs, Option.bind_some, r1, Option.bind_some, Option.bind_some, r2, Option.bind_some]
    exact ⟨_, rfl, P', G', tl', W, e, rfl, r3, r4⟩
   ·rw [if_neg (by simp [c5])]
    exact ⟨_, rfl, P, G, tl, W, 0, rfl, inv, like⟩
  ·rintro _ ⟨P', G', tl', W', e, rfl, inv', like'⟩
   dsimp only
   rw [if_neg (by simp), d22_ok hN inv' like', Option.bind_some, Option.bind_some]
   dsimp only
   rw [if_neg nt, chkI_of (by omega) (by omega), Option.bind_some]
   exact ⟨_, rfl, (P', 0 :: tl', W', G'.map sv, -1 :: tl', W'), rfl, P', G', tl', W', rfl, inv', like'⟩
 ·rintro _ ⟨P, G, tl, W, rfl, inv, like⟩
  dsimp only
  rw [if_neg (by omega)]
  exact ⟨_, rfl, rfl⟩
end Go.Proofs.Ytifcmomjjkbboab
end
section
namespace Go.Proofs.Ytifcmomjjkbboab
open Go.Ab Go.Rp
open Go.Ab.Enc (eC eV)

theorem replication_fun (a : Int) (b : List (List Int)) (c : List ByteArray) (d : List (List Int)) (h1 : b.length * 24 ≤ reach) (h2 : c.length * 16 ≤ reach) (h3 : d.length * 24 ≤ reach) (h4 : ∀ r ∈ d, r.length * 8 ≤ reach) : Fun Try.prog 3 [eV a, eV b, eV c, eV d] (fun r _ => r = .d (.lit (.bool true))) := by
 have h := p3 9223372036854775808 a b c d true (d3_true (Nat.le_refl _) a b c d (by unfold reach at h1; omega) (by unfold reach at h2; omega) (by unfold reach at h3; omega) h4)
 have e0 : (eV a : V) = .d (.lit (.int .i64 a)) := rfl
 have e1 : (eV b : V) = .d (.sl (b.map (cL (cI .i64)))) := rfl
 have e2 : (eV c : V) = .d (.sl (c.map cS)) := rfl
 have e3 : (eV d : V) = .d (.sl (d.map (cL (cI .i64)))) := rfl
 rw [e0, e1, e2, e3]
 exact h.2.mono fun _ _ h => h.1
end Go.Proofs.Ytifcmomjjkbboab
end
