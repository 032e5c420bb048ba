/- The store of versions as functional programs: order of keys, the search. The store of versions: what it is to a plain list of versions; the functions that read. The store of versions: what is visible; records; keys. The store of versions: a version is added; the horizon is raised. The store of versions: the reference raises its horizon; the two stores still agree. MVCCMatchesReference as a functional program is true. The law's arguments as the functional program takes them. -/
import Derived.Test.YtifcmomjjkbboacMv8
import Derived.Sort.KeysCollected
import Derived.Test.YtifcmomjjkbboacMv9
section
namespace Go.Proofs.Ytifcmomjjkbboac
open Go.Ab Go.Rp Go.Sort

theorem iter_post {τ ρ : Type} (step : τ → Option (τ ⊕ ρ)) (μ : τ → Nat) (Inv : τ → Prop) (Post : ρ → Prop)
  (h : ∀ s, Inv s → (∃ s', step s = some (.inl s') ∧ Inv s' ∧ μ s' < μ s) ∨ ∃ r, step s = some (.inr r) ∧ Post r) :
  ∀ (n : Nat) (s : τ), Inv s → μ s < n → ∃ r, iterN step n s = some r ∧ Post r := by
 intro n
 induction n with
 | zero => intro s _ h; omega
 | succ n ih =>
  intro s hi hm
  rcases h s hi with ⟨s', h1, h2, h3⟩ | ⟨r, h1, h2⟩
  ·obtain ⟨r, h4, h5⟩ := ih s' h2 (by omega)
   exact ⟨r, by rw [iterN, h1]; exact h4, h5⟩
  ·exact ⟨r, by rw [iterN, h1], h2⟩
theorem loop_idx {σ τ ρ : Type} (len : Nat) (mkS : σ → Int → τ) (step : τ → Option (τ ⊕ ρ)) (Inv : Nat → σ → Prop) (Post : ρ → Prop)
  (hs : ∀ k s, k < len → Inv k s → (∃ s', step (mkS s k) = some (.inl (mkS s' ((k : Int) + 1))) ∧ Inv (k + 1) s') ∨ ∃ r, step (mkS s k) = some (.inr r) ∧ Post r)
  (he : ∀ s, Inv len s → ∃ r, step (mkS s len) = some (.inr r) ∧ Post r) (s0 : σ) (h0 : Inv 0 s0) {n : Nat} (hn : len < n) : ∃ r, iterN step n (mkS s0 0) = some r ∧ Post r := by
 have key : ∀ (m k : Nat) (s : σ), k ≤ len → len - k < m → Inv k s → ∃ r, iterN step m (mkS s k) = some r ∧ Post r := by
  intro m
  induction m with
  | zero => intro k s _ h; omega
  | succ m ih =>
   intro k s hk hm hi
   rw [iterN_succ]
   by_cases hlt : k < len
   ·rcases hs k s hlt hi with ⟨s', h1, h2⟩ | ⟨r, h1, h2⟩
    ·rw [h1]
     exact ih (k + 1) s' (by omega) (by omega) h2
    ·rw [h1]; exact ⟨r, rfl, h2⟩
   ·obtain rfl : k = len := by omega
    obtain ⟨r, h1, h2⟩ := he s hi
    rw [h1]
    exact ⟨r, rfl, h2⟩
 exact key n 0 s0 (Nat.zero_le _) (by omega) h0
theorem get_of {α : Type} {l : List α} {k : Nat} (h : k < l.length) : ∃ a, l[k]? = some a := ⟨l[k], List.getElem?_eq_getElem h⟩
theorem bind_ex {α β : Type} {d : Option α} {k : α → Option β} {P : α → Prop} {Q : β → Prop} (h : ∃ s, d = some s ∧ P s) (h2 : ∀ s, P s → ∃ r, k s = some r ∧ Q r) : ∃ r, d.bind k = some r ∧ Q r := by
 obtain ⟨s, rfl, hp⟩ := h
 exact h2 s hp
theorem bind_eq {α β : Type} {d : Option α} {k : α → Option β} {P : α → Prop} {r : β} (h : ∃ s, d = some s ∧ P s) (h2 : ∀ s, P s → k s = some r) : d.bind k = some r := by
 obtain ⟨s, rfl, hp⟩ := h
 exact h2 s hp
theorem bindO_eq {β ρ : Type} {d : Option (Out β ρ)} {k : β → Option ρ} {P : Out β ρ → Prop} {r : ρ} (h : ∃ s, d = some s ∧ P s) (h1 : ∀ x, P (.ret x) → x = r) (h2 : ∀ b, P (.go b) → k b = some r) : bindO d k = some r := by
 obtain ⟨s, rfl, hp⟩ := h
 cases s with
 | go b => exact h2 b hp
 | ret x => show some x = some r; rw [h1 x hp]

/-! ### the order of keys -/
theorem cmpL : ∀ (x y : List UInt8), (Lib.compareBytes x y < 0 ↔ x < y) ∧ (Lib.compareBytes x y = 0 ↔ x = y)
 | [], [] => by simp [Lib.compareBytes]
 | [], _ :: _ => by simp [Lib.compareBytes]
 | _ :: _, [] => by simp [Lib.compareBytes]
 | a :: x, b :: y => by
  obtain ⟨h1, h2⟩ := cmpL x y
  unfold Lib.compareBytes
  rw [List.cons_lt_cons_iff]
  by_cases hab : a < b
  ·rw [if_pos hab]
   refine ⟨by simp [hab], ⟨fun h => (by cases h), fun h => ?_⟩⟩
   injection h with h3 h4
   subst h3
   exact absurd hab (UInt8.lt_irrefl a)
  ·rw [if_neg hab]
   by_cases hba : b < a
   ·rw [if_pos hba]
    have hne : a ≠ b := fun e => UInt8.lt_irrefl a (by rw [e] at hba ⊢; exact hba)
    refine ⟨⟨fun h => (by omega), fun h => ?_⟩, ⟨fun h => (by cases h), fun h => ?_⟩⟩
    ·rcases h with h | ⟨h, _⟩
     ·exact absurd h hab
     ·exact absurd h hne
    ·injection h with h3 h4
     exact absurd h3 hne
   ·rw [if_neg hba]
    have he : a = b := by
     apply UInt8.toNat_inj.1
     have a1 : ¬ a.toNat < b.toNat := fun h => hab (UInt8.lt_iff_toNat_lt.2 h)
     have a2 : ¬ b.toNat < a.toNat := fun h => hba (UInt8.lt_iff_toNat_lt.2 h)
     omega
    subst he
    refine ⟨⟨fun h => .inr ⟨rfl, h1.1 h⟩, fun h => h1.2 ?_⟩, ⟨fun h => (by rw [h2.1 h]), fun h => h2.2 ?_⟩⟩
    ·rcases h with h | ⟨_, h⟩
     ·exact absurd h hab
     ·exact h
    ·injection h
abbrev bs (s : ByteArray) : List UInt8 := s.data.toList
theorem bs_inj {a b : ByteArray} (h : bs a = bs b) : a = b := by
 cases a; cases b
 simp only [bs] at h
 congr 1
 exact Array.toList_inj.1 h
def klt (a b : ByteArray) : Prop := bs a < bs b
theorem klt_irrefl (a : ByteArray) : ¬ klt a a := List.lt_irrefl _
theorem klt_trans {a b c : ByteArray} (h : klt a b) (k : klt b c) : klt a c := List.lt_trans h k
theorem klt_ne {a b : ByteArray} (h : klt a b) : a ≠ b := fun e => klt_irrefl b (e ▸ h)
theorem klt_tri {a b : ByteArray} (h : ¬ klt a b) : a = b ∨ klt b a := by
 have h1 : bs b ≤ bs a := List.not_lt.1 h
 by_cases h2 : bs a ≤ bs b
 ·exact .inl (bs_inj (List.le_antisymm h2 h1))
 ·exact .inr (List.not_le.1 h2)
theorem d34_ok (N : Nat) (e : S72) (k : ByteArray) : ∃ c, d34 N e k = some c ∧ (c < 0 ↔ klt e.key k) ∧ (c = 0 ↔ e.key = k) :=
 ⟨_, rfl, (cmpL _ _).1, (cmpL _ _).2.trans ⟨bs_inj, fun h => by rw [h]⟩⟩

/-! ### the search -/
def Srt (es : List S72) : Prop := es.Pairwise fun x y => klt x.key y.key
theorem Srt.get {es : List S72} (h : Srt es) {i j : Nat} {x y : S72} (hij : i < j) (hx : es[i]? = some x) (hy : es[j]? = some y) : klt x.key y.key := by
 obtain ⟨h1, rfl⟩ := List.getElem?_eq_some_iff.1 hx
 obtain ⟨h2, rfl⟩ := List.getElem?_eq_some_iff.1 hy
 exact List.pairwise_iff_getElem.1 h i j h1 h2 hij
theorem mid_ok {i j : Nat} (h : i < j) (hj : j ≤ 1000) : chkI ((i : Int) + (j : Int)) = some ((i + j : Nat) : Int) ∧ shrI (IntKind.u64.wrap ((i + j : Nat) : Int)) 1 = (((i + j) / 2 : Nat) : Int) := by
 refine ⟨by rw [chkI_of (by omega) (by omega)]; congr 1, ?_⟩
 have : IntKind.u64.wrap ((i + j : Nat) : Int) = ((i + j : Nat) : Int) := by
  simp only [IntKind.wrap, IntKind.signed, IntKind.bits]
  simp
  omega
 rw [this]
 unfold shrI
 rw [Int.fdiv_eq_ediv_of_nonneg _ (by decide)]
 simp
theorem d33_ok {N : Nat} (hN : bigN N) {es : List S72} (hs : Srt es) (hl : es.length ≤ 1000) (k : ByteArray) (p2 : S72 → ByteArray → Option Int) (hp : ∀ e, ∃ c, p2 e k = some c ∧ (c < 0 ↔ klt e.key k) ∧ (c = 0 ↔ e.key = k)) :
  ∃ i : Nat, i ≤ es.length ∧ (∀ x e, x < i → es[x]? = some e → klt e.key k) ∧ (∀ x e, i ≤ x → es[x]? = some e → ¬ klt e.key k) ∧
   d33 N es k p2 = some ((i : Int), match es[i]? with | some e => decide (e.key = k) | none => false) := by
 have hN : 9223372036854775808 ≤ N := hN
 unfold d33
 have loop := iter_post (fun ((v11, v12) : (Int × Int)) =>
   if v11 < v12 then (
    (chkI (v11 + v12)).bind fun v37 =>
    letv (IntKind.u64.wrap (v37)) fun v38 =>
    letv (shrI v38 1) fun v39 =>
    (chkI (v39)).bind fun v40 =>
    (idx es v40).bind fun x41 =>
    (p2 x41 k).bind fun r43 =>
    if r43 < 0 then (
     (chkI (v40 + 1)).bind fun v45 =>
     some (Sum.inl (v45, v12))
    ) else
    some (Sum.inl (v11, v40))
   ) else
   some (Sum.inr v11)) (fun s => (s.2 - s.1).toNat)
   (fun s => ∃ i j : Nat, s = ((i : Int), (j : Int)) ∧ i ≤ j ∧ j ≤ es.length ∧ (∀ x e, x < i → es[x]? = some e → klt e.key k) ∧ (∀ x e, j ≤ x → es[x]? = some e → ¬ klt e.key k))
   (fun r => ∃ i : Nat, r = (i : Int) ∧ i ≤ es.length ∧ (∀ x e, x < i → es[x]? = some e → klt e.key k) ∧ (∀ x e, i ≤ x → es[x]? = some e → ¬ klt e.key k)) (by
  rintro s ⟨i, j, rfl, h1, h2, h3, h4⟩
  by_cases hij : i < j
  ·obtain ⟨m1, m2⟩ := mid_ok hij (by omega)
   obtain ⟨e, he⟩ := get_of (l := es) (k := (i + j) / 2) (by omega)
   obtain ⟨c, hc, hc1, hc2⟩ := hp e
   refine .inl ?_
   dsimp only
   rw [if_pos (by omega), m1, Option.bind_some, letv_eq, letv_eq, m2, chkI_of (by omega) (by omega), Option.bind_some, idx_nat he, Option.bind_some, hc, Option.bind_some]
   by_cases hcl : c < 0
   ·rw [if_pos hcl, chkI_of (by omega) (by omega), Option.bind_some]
    refine ⟨_, rfl, ⟨(i + j) / 2 + 1, j, rfl, by omega, h2, fun x e' hx hx2 => ?_, h4⟩, by omega⟩
    by_cases hxe : x = (i + j) / 2
    ·rw [hxe, he] at hx2
     injection hx2 with hx2
     rw [← hx2]; exact hc1.1 hcl
    ·exact klt_trans (hs.get (by omega) hx2 he) (hc1.1 hcl)
   ·rw [if_neg hcl]
    refine ⟨_, rfl, ⟨i, (i + j) / 2, rfl, by omega, by omega, h3, fun x e' hx hx2 hk => ?_⟩, by omega⟩
    by_cases hxe : x = (i + j) / 2
    ·rw [hxe, he] at hx2
     injection hx2 with hx2
     rw [← hx2] at hk
     exact hcl (hc1.2 hk)
    ·exact hcl (hc1.2 (klt_trans (hs.get (by omega) he hx2) hk))
  ·obtain rfl : i = j := by omega
   exact .inr ⟨_, if_neg (by omega), i, rfl, h2, h3, h4⟩) N (0, (es.length : Int)) ⟨0, es.length, rfl, Nat.zero_le _, Nat.le_refl _, fun x e hx => by omega, fun x e hx hx2 => by rw [List.getElem?_eq_none hx] at hx2; cases hx2⟩ (by simp; omega)
 obtain ⟨r, h1, i, rfl, h2, h3, h4⟩ := loop
 refine ⟨i, h2, h3, h4, ?_⟩
 rw [show iterN _ N _ = _ from h1, Option.bind_some]
 by_cases hi : i < es.length
 ·obtain ⟨e, he⟩ := get_of hi
  obtain ⟨c, hc, hc1, hc2⟩ := hp e
  rw [if_pos (by omega), idx_nat he, Option.bind_some, hc, Option.bind_some, Option.bind_some, he]
  have : (c == 0) = decide (e.key = k) := by
   rw [Bool.eq_iff_iff, decide_eq_true_eq, ← hc2]; simp
  rw [this]
 ·rw [if_neg (by omega), Option.bind_some, List.getElem?_eq_none (by omega)]

/-- what the search finds -/
def Found (es : List S72) (k : ByteArray) (A : List S72) (e : S72) (B : List S72) : Prop := es = A ++ e :: B ∧ e.key = k ∧ (∀ a ∈ A, klt a.key k) ∧ ∀ b ∈ B, klt k b.key
def Miss (es : List S72) (k : ByteArray) (A B : List S72) : Prop := es = A ++ B ∧ (∀ a ∈ A, klt a.key k) ∧ ∀ b ∈ B, klt k b.key
theorem d25_ok {N : Nat} (hN : bigN N) {es : List S72} (hs : Srt es) (hl : es.length ≤ 1000) (k : ByteArray) :
  (∃ A e B, Found es k A e B ∧ ∀ sp, d25 N ⟨es, sp⟩ k = some ((A.length : Int), true)) ∨ ∃ A B, Miss es k A B ∧ ∀ sp, d25 N ⟨es, sp⟩ k = some ((A.length : Int), false) := by
 obtain ⟨i, h1, h2, h3, h4⟩ := d33_ok hN hs hl k (fun b0 b1 => d34 N b0 b1) (fun e => d34_ok N e k)
 have hA : ∀ a ∈ es.take i, klt a.key k := fun a ha => by
  obtain ⟨x, hx, rfl⟩ := List.mem_take_iff_getElem.1 ha
  exact h2 x _ (by omega) (List.getElem?_eq_getElem (by omega))
 have hlen : (es.take i).length = i := by rw [List.length_take]; omega
 have hd : ∀ sp b, d33 N es k (fun b0 b1 => d34 N b0 b1) = some ((i : Int), b) → d25 N ⟨es, sp⟩ k = some (((es.take i).length : Int), b) := fun sp b h => by
  unfold d25
  rw [h, Option.bind_some, hlen]
 have htail : ∀ y b, i < y → es[y]? = some b → ∀ e, es[i]? = some e → klt e.key b.key := fun y b hy hb e he => hs.get hy he hb
 by_cases hi : i < es.length
 ·obtain ⟨e, he⟩ := get_of hi
  have hsp : es = es.take i ++ e :: es.drop (i + 1) := by
   obtain ⟨h5, h6⟩ := List.getElem?_eq_some_iff.1 he
   rw [← h6, ← List.drop_eq_getElem_cons hi, List.take_append_drop]
  have hB : ∀ b ∈ es.drop (i + 1), klt e.key b.key := fun b hb => by
   obtain ⟨y, hy, rfl⟩ := List.mem_drop_iff_getElem.1 hb
   exact htail (i + 1 + y) _ (by omega) (List.getElem?_eq_getElem (by omega)) e he
  rw [he] at h4
  by_cases hk : e.key = k
  ·refine .inl ⟨es.take i, e, es.drop (i + 1), ⟨hsp, hk, hA, fun b hb => hk ▸ hB b hb⟩, fun sp => hd sp _ ?_⟩
   rw [h4]; simp [hk]
  ·have hke : klt k e.key := (klt_tri (h3 i e (Nat.le_refl _) he)).resolve_left hk
   refine .inr ⟨es.take i, es.drop i, ⟨(List.take_append_drop i es).symm, hA, fun b hb => ?_⟩, fun sp => hd sp _ ?_⟩
   ·rw [List.drop_eq_getElem_cons hi] at hb
    rcases List.mem_cons.1 hb with rfl | hb
    ·obtain ⟨h5, h6⟩ := List.getElem?_eq_some_iff.1 he
     rw [h6]; exact hke
    ·exact klt_trans hke (hB b hb)
   ·rw [h4]; simp [hk]
 ·refine .inr ⟨es.take i, es.drop i, ⟨(List.take_append_drop i es).symm, hA, fun b hb => ?_⟩, fun sp => hd sp _ ?_⟩
  ·rw [List.drop_eq_nil_of_le (by omega)] at hb; cases hb
  ·rw [h4, List.getElem?_eq_none (by omega)]
end Go.Proofs.Ytifcmomjjkbboac
end
section
namespace Go.Proofs.Ytifcmomjjkbboac
open Go.Ab Go.Rp Go.Sort

/-! ### versions of a key -/
def tl (v : S43) : S67 := ⟨v.Timestamp, v.Tombstone, v.Row⟩
def ofK (k : ByteArray) (m : List S43) : List S67 := (m.filter fun v => decide (v.Key = k)).map tl
def vers (cs : List S72) (k : ByteArray) : List S67 := match cs.find? fun c => decide (c.key = k) with | some c => c.versions | none => []
def tot (cs : List S72) : Nat := (cs.map fun c => c.versions.length).sum
def Asc (vs : List S67) : Prop := vs.Pairwise fun x y => x.timestamp < y.timestamp
def lastTs (vs : List S67) : Int := match vs.getLast? with | some v => v.timestamp | none => 0
def vis (vs : List S67) (t : Int) : Option S67 := vs.reverse.find? fun v => decide (v.timestamp ≤ t)

structure Inv (s : S63) (m : S36) : Prop where
 hor : s.horizon = m.Horizon
 h0 : 0 ≤ s.horizon ∧ s.horizon ≤ 1099511627776
 srt : Srt s.chains
 ne : ∀ c ∈ s.chains, c.versions ≠ []
 asc : ∀ c ∈ s.chains, Asc c.versions
 rng : ∀ v ∈ m.Versions, 1 ≤ v.Timestamp ∧ v.Timestamp ≤ 1099511627776 ∧ v.Row.length ≤ 6
 rel : ∀ k, vers s.chains k = ofK k m.Versions
 len : m.Versions.length ≤ 400

theorem ofK_succ (k : ByteArray) {m : List S43} {i : Nat} {x : S43} (h : m[i]? = some x) : ofK k (m.take (i + 1)) = ofK k (m.take i) ++ if x.Key = k then [tl x] else [] := by
 unfold ofK
 rw [List.take_add_one, h, List.filter_append, List.map_append]
 congr 1
 by_cases hk : x.Key = k <;> simp [hk]
theorem ofK_cons (k : ByteArray) (x : S43) (m : List S43) : ofK k (x :: m) = (if x.Key = k then [tl x] else []) ++ ofK k m := by
 unfold ofK
 by_cases hk : x.Key = k <;> simp [hk]
theorem ofK_append (k : ByteArray) (a b : List S43) : ofK k (a ++ b) = ofK k a ++ ofK k b := by simp [ofK]
theorem ofK_take_sub (k : ByteArray) (m : List S43) (i : Nat) : List.Sublist (ofK k (m.take i)) (ofK k m) := by
 unfold ofK
 exact ((List.take_sublist i m).filter _).map _
theorem ofK_mem {k : ByteArray} {m : List S43} {v : S67} (h : v ∈ ofK k m) : ∃ x ∈ m, x.Key = k ∧ tl x = v := by
 unfold ofK at h
 obtain ⟨x, hx, rfl⟩ := List.mem_map.1 h
 obtain ⟨h1, h2⟩ := List.mem_filter.1 hx
 exact ⟨x, h1, of_decide_eq_true h2, rfl⟩
theorem find_append_none {α : Type} {p : α → Bool} {A B : List α} (h : ∀ a ∈ A, p a = false) : (A ++ B).find? p = B.find? p := by
 rw [List.find?_append, List.find?_eq_none.2 (fun a ha => by rw [h a ha]; simp)]; rfl
theorem vers_found {es : List S72} {k : ByteArray} {A : List S72} {e : S72} {B : List S72} (h : Found es k A e B) : vers es k = e.versions := by
 obtain ⟨rfl, h2, h3, _⟩ := h
 unfold vers
 rw [find_append_none (fun a ha => decide_eq_false (klt_ne (h3 a ha))), List.find?_cons_of_pos (by simpa using h2)]
theorem vers_miss {es : List S72} {k : ByteArray} {A B : List S72} (h : Miss es k A B) : vers es k = [] := by
 obtain ⟨rfl, h3, h4⟩ := h
 unfold vers
 rw [find_append_none (fun a ha => decide_eq_false (klt_ne (h3 a ha))), List.find?_eq_none.2 (fun a ha => by simpa using (klt_ne (h4 a ha)).symm)]
theorem vers_asc {s : S63} {m : S36} (i : Inv s m) (k : ByteArray) : Asc (ofK k m.Versions) := by
 rw [← i.rel k]
 unfold vers
 split
 ·rename_i c hc
  exact i.asc c (List.mem_of_find?_eq_some hc)
 ·exact List.Pairwise.nil
theorem vers_mem {cs : List S72} (hs : Srt cs) {c : S72} (hc : c ∈ cs) : vers cs c.key = c.versions := by
 obtain ⟨A, B, rfl⟩ := List.append_of_mem hc
 have h := List.pairwise_append.1 hs
 refine vers_found (A := A) (B := B) ⟨rfl, rfl, fun a ha => h.2.2 a ha c (.head _), fun b hb => (List.pairwise_cons.1 h.2.1).1 b hb⟩

/-! ### how many versions -/
theorem length_split (k : ByteArray) : ∀ m : List S43, m.length = (ofK k m).length + (m.filter fun v => !decide (v.Key = k)).length
 | [] => rfl
 | x :: m => by
  have := length_split k m
  rw [ofK_cons]
  by_cases hk : x.Key = k
  ·simp [hk]; omega
  ·simp [hk]; omega
theorem ofK_other {k k' : ByteArray} (m : List S43) (h : k' ≠ k) : ofK k' (m.filter fun v => !decide (v.Key = k)) = ofK k' m := by
 unfold ofK
 rw [List.filter_filter]
 congr 1
 refine List.filter_congr fun x _ => ?_
 by_cases hx : x.Key = k'
 ·simp [hx, h]
 ·simp [hx]
theorem ofK_self (k : ByteArray) (m : List S43) : ofK k (m.filter fun v => !decide (v.Key = k)) = [] := by
 unfold ofK
 rw [List.filter_filter, List.filter_eq_nil_iff.2 (fun x _ => by by_cases hx : x.Key = k <;> simp [hx])]
 rfl
theorem tot_eq : ∀ (cs : List S72) (m : List S43), Srt cs → (∀ k, vers cs k = ofK k m) → m.length = tot cs
 | [], m, _, h => by
  cases m with
  | nil => rfl
  | cons x m =>
   have := h x.Key
   rw [ofK_cons, if_pos rfl] at this
   cases this
 | c :: cs, m, hs, h => by
  obtain ⟨h1, h2⟩ := List.pairwise_cons.1 hs
  have hk : ofK c.key m = c.versions := by rw [← h c.key, vers_mem hs (.head _)]
  have ih := tot_eq cs (m.filter fun v => !decide (v.Key = c.key)) h2 (fun k => by
   by_cases hkc : k = c.key
   ·subst hkc
    rw [ofK_self]
    unfold vers
    rw [List.find?_eq_none.2 (fun a ha => by simpa using (klt_ne (h1 a ha)).symm)]
   ·rw [ofK_other m hkc, ← h k]
    unfold vers
    rw [List.find?_cons_of_neg (by simpa using fun e => hkc e.symm)])
  rw [length_split c.key m, hk, ih]
  simp [tot]
theorem Inv.tot {s : S63} {m : S36} (i : Inv s m) : m.Versions.length = tot s.chains := tot_eq _ _ i.srt i.rel
theorem tot_take (cs : List S72) {k : Nat} {x : S72} (h : cs[k]? = some x) : tot (cs.take (k + 1)) = tot (cs.take k) + x.versions.length := by
 unfold tot
 rw [List.take_add_one, h, List.map_append, List.sum_append]
 simp
theorem tot_take_le (cs : List S72) (k : Nat) : tot (cs.take k) ≤ tot cs := by
 have : tot cs = tot (cs.take k) + tot (cs.drop k) := by
  unfold tot
  rw [← List.sum_append, ← List.map_append, List.take_append_drop]
 omega
theorem length_le_tot : ∀ {cs : List S72}, (∀ c ∈ cs, c.versions ≠ []) → cs.length ≤ tot cs
 | [], _ => Nat.zero_le _
 | c :: cs, h => by
  have h1 := length_le_tot (cs := cs) (fun c hc => h c (.tail _ hc))
  have h2 : 0 < c.versions.length := List.length_pos_iff.2 (h c (.head _))
  simp only [tot, List.map_cons, List.sum_cons, List.length_cons] at h1 ⊢
  omega
theorem Inv.few {s : S63} {m : S36} (i : Inv s m) : s.chains.length ≤ 400 := by
 have h1 := length_le_tot i.ne
 have h2 := i.tot
 have h3 := i.len
 omega
theorem len_le_tot {cs : List S72} {c : S72} (h : c ∈ cs) : c.versions.length ≤ tot cs := by
 obtain ⟨A, B, rfl⟩ := List.append_of_mem h
 simp only [tot, List.map_append, List.map_cons, List.sum_append, List.sum_cons]
 omega
theorem Inv.short {s : S63} {m : S36} (i : Inv s m) {c : S72} (h : c ∈ s.chains) : c.versions.length ≤ 400 := by
 have h1 := len_le_tot h
 have h2 := i.tot
 have h3 := i.len
 omega
theorem d21_ok {N : Nat} (hN : bigN N) {s : S63} {m : S36} (i : Inv s m) : d21 N s = some (m.Versions.length : Int) := by
 have hN : 9223372036854775808 ≤ N := hN
 have hf := i.few
 have ht := i.tot
 have hl := i.len
 unfold d21
 refine bind_eq (P := fun v => v = (tot s.chains : Int)) (loop_idx (σ := Int) (τ := Int × Int) s.chains.length (fun s v => (s, v)) _ (fun k v => v = (tot (s.chains.take k) : Int)) _ ?_ ?_ 0 (by simp [tot]) (by omega)) ?_
 ·rintro k v hk rfl
  obtain ⟨x, hx⟩ := get_of hk
  have h1 := tot_take s.chains hx
  have h2 := tot_take_le s.chains (k + 1)
  refine .inl ⟨_, ?_, rfl⟩
  dsimp only
  rw [if_pos (by omega), idx_nat hx, Option.bind_some, chkI_of (by omega) (by omega), Option.bind_some, chkI_of (by omega) (by omega), Option.bind_some, h1]
  push_cast
  rfl
 ·rintro v rfl
  refine ⟨_, ?_, rfl⟩
  dsimp only
  rw [if_neg (by omega), List.take_length]
 ·rintro v rfl
  rw [ht]

/-! ### the newest version -/
theorem lastTs_append (vs : List S67) (v : S67) : lastTs (vs ++ [v]) = v.timestamp := by simp [lastTs]
theorem asc_last {vs : List S67} {v : S67} (h : Asc (vs ++ [v])) (h0 : 0 ≤ v.timestamp) : lastTs vs ≤ v.timestamp := by
 unfold lastTs
 split
 ·rename_i u hu
  have := List.mem_of_getLast? hu
  have h1 := (List.pairwise_append.1 h).2.2 u this v (.head _)
  omega
 ·exact h0
theorem d22_ok {N : Nat} (hN : bigN N) {s : S63} {m : S36} (i : Inv s m) (k : ByteArray) : d22 N m k = some (lastTs (ofK k m.Versions)) := by
 have hN : 9223372036854775808 ≤ N := hN
 have hl := i.len
 have ha := vers_asc i k
 unfold d22
 refine bind_eq (P := fun v => v = lastTs (ofK k m.Versions)) (loop_idx (σ := Int) (τ := Int × Int) m.Versions.length (fun s v => (s, v)) _ (fun j v => v = lastTs (ofK k (m.Versions.take j))) _ ?_ ?_ 0 (by simp [ofK, lastTs]) (by omega)) ?_
 ·rintro j v hj rfl
  obtain ⟨x, hx⟩ := get_of hj
  have hr := i.rng x (List.mem_of_getElem? hx)
  have hs := ofK_succ k hx
  have hsub := ofK_take_sub k m.Versions (j + 1)
  refine .inl ⟨lastTs (ofK k (m.Versions.take (j + 1))), ?_, rfl⟩
  dsimp only
  rw [if_pos (by omega), idx_nat hx, Option.bind_some]
  by_cases hk : x.Key = k
  ·rw [if_pos hk] at hs
   rw [hs] at hsub ⊢
   have h1 := asc_last (ha.sublist hsub) (by have := hr.1; show 0 ≤ x.Timestamp; omega)
   rw [if_pos (by simpa using hk), letv_eq, chkI_of (by omega) (by omega), Option.bind_some, lastTs_append]
   have h1 : lastTs (ofK k (m.Versions.take j)) ≤ x.Timestamp := h1
   have : maxI (lastTs (ofK k (m.Versions.take j))) x.Timestamp = x.Timestamp := by unfold maxI; split <;> omega
   rw [this]; rfl
  ·rw [if_neg hk, List.append_nil] at hs
   rw [if_neg (by simpa using hk), chkI_of (by omega) (by omega), Option.bind_some, hs]
 ·rintro v rfl
  refine ⟨_, ?_, rfl⟩
  dsimp only
  rw [if_neg (by omega), List.take_length]
 ·rintro v rfl
  rfl
theorem getLast_idx {vs : List S67} (h : vs ≠ []) : ∃ v, vs[vs.length - 1]? = some v ∧ v.timestamp = lastTs vs := by
 have hp : 0 < vs.length := List.length_pos_iff.2 h
 refine ⟨vs[vs.length - 1], List.getElem?_eq_getElem (by omega), ?_⟩
 unfold lastTs
 rw [List.getLast?_eq_getElem?, List.getElem?_eq_getElem (by omega)]
theorem last_ok {c : S72} (hne : c.versions ≠ []) (hl : c.versions.length ≤ 400) : ∃ v, (∀ {β : Type} (f : S67 → Option β), ((chkI ((c.versions.length : Int) - 1)).bind fun v5 => (idx c.versions v5).bind f) = f v) ∧ v.timestamp = lastTs c.versions := by
 obtain ⟨v, hv, ht⟩ := getLast_idx hne
 have hp : 0 < c.versions.length := List.length_pos_iff.2 hne
 refine ⟨v, fun f => ?_, ht⟩
 rw [chkI_of (by omega) (by omega), Option.bind_some, show (c.versions.length : Int) - 1 = ((c.versions.length - 1 : Nat) : Int) by omega, idx_nat hv, Option.bind_some]
theorem Found.mem {es : List S72} {k : ByteArray} {A : List S72} {e : S72} {B : List S72} (h : Found es k A e B) : e ∈ es := by rw [h.1]; simp
theorem Found.get {es : List S72} {k : ByteArray} {A : List S72} {e : S72} {B : List S72} (h : Found es k A e B) : es[A.length]? = some e := by rw [h.1]; simp
theorem d7_ok {N : Nat} (hN : bigN N) {s : S63} {m : S36} (i : Inv s m) (k : ByteArray) : d7 N s k = some (lastTs (ofK k m.Versions)) := by
 have hf := i.few
 unfold d7
 obtain ⟨cs, h⟩ := s
 rcases d25_ok hN i.srt (by have := i.few; simp only at this ⊢; omega) k with ⟨A, e, B, h1, h2⟩ | ⟨A, B, h1, h2⟩
 ·have hv := vers_found h1
  rw [← i.rel k]
  show _ = some (lastTs (vers cs k))
  rw [hv, h2, Option.bind_some]
  have hm : e ∈ cs := h1.mem
  obtain ⟨v, hv1, hv2⟩ := last_ok (i.ne e hm) (i.short hm)
  simp only [Bool.not_true, Bool.false_eq_true, if_false]
  rw [idx_nat h1.get, Option.bind_some, hv1, hv2]
 ·have hv := vers_miss h1
  rw [← i.rel k]
  show _ = some (lastTs (vers cs k))
  rw [hv, h2, Option.bind_some]
  rfl
end Go.Proofs.Ytifcmomjjkbboac
end
section
namespace Go.Proofs.Ytifcmomjjkbboac
open Go.Ab Go.Rp Go.Sort

theorem vis_append (vs : List S67) (v : S67) (t : Int) : vis (vs ++ [v]) t = if v.timestamp ≤ t then some v else vis vs t := by
 unfold vis
 rw [List.reverse_append, List.reverse_cons, List.reverse_nil, List.nil_append, List.cons_append, List.nil_append, List.find?_cons]
 by_cases h : v.timestamp ≤ t <;> simp [h]
theorem vis_mem {vs : List S67} {t : Int} {v : S67} (h : vis vs t = some v) : v ∈ vs := by
 have := List.mem_of_find?_eq_some h
 simpa using this
theorem rangeL_find {ρ : Type} (p : S67 → Bool) (g : S67 → ρ) (f : S67 → Unit → Option (Out Unit ρ)) (h : ∀ x, f x () = if p x = true then some (.ret (g x)) else some (.go ())) :
  ∀ l, rangeL f l () = some (match l.find? p with | some v => .ret (g v) | none => .go ())
 | [] => rfl
 | x :: l => by
  unfold rangeL
  rw [h x, List.find?_cons]
  by_cases hp : p x = true
  ·simp [hp]
  ·simp only [hp, Bool.false_eq_true, if_false]
   exact rangeL_find p g f h l
theorem d28_ok (N : Nat) (c : S72) (t : Int) : d28 N c t = some (match vis c.versions t with | some v => (v, !v.tombstone) | none => (⟨0, false, []⟩, false)) := by
 unfold d28 vis
 rw [rangeL_find (fun v => decide (v.timestamp ≤ t)) (fun v => (v, !v.tombstone)) _ (fun x => by
  by_cases h : x.timestamp ≤ t <;> simp [h])]
 cases c.versions.reverse.find? fun v => decide (v.timestamp ≤ t) <;> rfl

def cur (vs : List S67) (t : Int) : Int × Bool × List S53 := match vis vs t with | some v => (v.timestamp, v.tombstone, v.row) | none => (0, true, [])
theorem cur_append (vs : List S67) (v : S67) (t : Int) : cur (vs ++ [v]) t = if v.timestamp ≤ t then (v.timestamp, v.tombstone, v.row) else cur vs t := by
 unfold cur
 rw [vis_append]
 by_cases h : v.timestamp ≤ t <;> simp [h]
theorem d16_ok {N : Nat} (hN : bigN N) {s : S63} {m : S36} (i : Inv s m) (k : ByteArray) (t : Int) : d16 N m k t = some (m, (cur (ofK k m.Versions) t).2.2, !(cur (ofK k m.Versions) t).2.1) := by
 have hN : 9223372036854775808 ≤ N := hN
 have hl := i.len
 have ha := vers_asc i k
 unfold d16
 refine bind_eq (P := fun r => r.2 = cur (ofK k m.Versions) t) (loop_idx (σ := ByteArray × Int × Bool × List S53) (τ := ByteArray × Int × Bool × List S53 × Int) m.Versions.length (fun s v => (s.1, s.2.1, s.2.2.1, s.2.2.2, v)) _ (fun j v => v.2 = cur (ofK k (m.Versions.take j)) t) _ ?_ ?_ (ByteArray.mk #[], 0, true, []) (by simp [ofK, cur, vis]) (by omega)) ?_
 ·rintro j ⟨kk, v12, v13, l14⟩ hj hv
  have hv : (v12, v13, l14) = cur (ofK k (m.Versions.take j)) t := hv
  obtain ⟨x, hx⟩ := get_of hj
  have hr := i.rng x (List.mem_of_getElem? hx)
  have hs := ofK_succ k hx
  have hsub := ofK_take_sub k m.Versions (j + 1)
  dsimp only
  rw [if_pos (by omega), idx_nat hx]
  simp only [Option.bind_some]
  rw [chkI_of (by omega) (by omega)]
  by_cases hk : x.Key = k
  ·rw [if_pos hk] at hs
   rw [hs] at hsub
   have h12 : v12 = (cur (ofK k (m.Versions.take j)) t).1 := by rw [← hv]
   have hle : v12 ≤ x.Timestamp := by
    rw [h12]
    unfold cur
    split
    ·rename_i u hu
     have := (List.pairwise_append.1 (ha.sublist hsub)).2.2 u (vis_mem hu) (tl x) (.head _)
     have h3 : (tl x).timestamp = x.Timestamp := rfl
     show u.timestamp ≤ x.Timestamp
     omega
    ·have := hr.1
     show (0 : Int) ≤ x.Timestamp
     omega
   by_cases ht : x.Timestamp ≤ t
   ·refine .inl ⟨(x.Key, x.Timestamp, x.Tombstone, x.Row), ?_, ?_⟩
    ·simp [hk, ht, hle]
    ·rw [hs, cur_append, if_pos (show (tl x).timestamp ≤ t from ht)]
     rfl
   ·refine .inl ⟨(kk, v12, v13, l14), ?_, ?_⟩
    ·simp [hk, ht]
    ·rw [hs, cur_append, if_neg (show ¬ (tl x).timestamp ≤ t from ht)]
     exact hv
  ·rw [if_neg hk, List.append_nil] at hs
   refine .inl ⟨(kk, v12, v13, l14), ?_, ?_⟩
   ·simp [hk]
   ·rw [hs]; exact hv
 ·rintro ⟨kk, v12, v13, l14⟩ hv
  refine ⟨(kk, v12, v13, l14), ?_, ?_⟩
  ·dsimp only
   rw [if_neg (by omega)]
  ·rw [List.take_length] at hv; exact hv
 ·rintro ⟨kk, v12, v13, l14⟩ hv
  have hv : (v12, v13, l14) = cur (ofK k m.Versions) t := hv
  rw [← hv]

/-! ### Get -/
theorem row_ok {s : S63} {m : S36} (i : Inv s m) {k : ByteArray} {v : S67} (h : v ∈ ofK k m.Versions) : v.row.length ≤ 6 := by
 obtain ⟨x, h1, _, rfl⟩ := ofK_mem h
 exact (i.rng x h1).2.2
theorem d24_small (N : Nat) {r : List S53} (h : r.length ≤ 6) : d24 N r = some r := if_pos (by unfold reach; omega)
def getR (t h : Int) (vs : List S67) : List S53 × Int := if t < h then ([], 21) else if (cur vs t).2.1 = true then ([], 4) else ((cur vs t).2.2, 0)
theorem d15_ok {N : Nat} (hN : bigN N) {s : S63} {m : S36} (i : Inv s m) (k : ByteArray) (t : Int) : d15 N s k t = some (getR t m.Horizon (ofK k m.Versions)) := by
 have hf := i.few
 have hh := i.hor
 unfold d15 getR
 rw [hh]
 by_cases hth : t < m.Horizon
 ·rw [if_pos hth, if_pos hth]
 ·rw [if_neg hth, if_neg hth]
  obtain ⟨cs, h⟩ := s
  rcases d25_ok hN i.srt (by simp only at hf ⊢; omega) k with ⟨A, e, B, h1, h2⟩ | ⟨A, B, h1, h2⟩
  ·have hv := vers_found h1
   have hr : vers cs k = ofK k m.Versions := i.rel k
   rw [h2, Option.bind_some]
   simp only [Bool.not_true, Bool.false_eq_true, if_false]
   rw [idx_nat h1.get, Option.bind_some, d28_ok, Option.bind_some, ← hr, hv]
   unfold cur
   cases hvis : vis e.versions t with
   | none => simp
   | some v =>
    have hm : v ∈ ofK k m.Versions := by rw [← hr, hv]; exact vis_mem hvis
    cases htb : v.tombstone with
    | true => simp [htb]
    | false => simp [htb, d24_small N (row_ok i hm)]
  ·have hv := vers_miss h1
   have hr : vers cs k = ofK k m.Versions := i.rel k
   rw [h2, Option.bind_some, ← hr, hv]
   simp [cur, vis]

/-! ### records -/
def rec1 (t : Int) (c : S72) : List S79 := if (cur c.versions t).2.1 = true then [] else [⟨c.key, (cur c.versions t).2.2⟩]
def recs (cs : List S72) (t : Int) : List S79 := cs.flatMap (rec1 t)
theorem rec1_len (t : Int) (c : S72) : (rec1 t c).length ≤ 1 := by unfold rec1; split <;> simp
theorem recs_len : ∀ (cs : List S72) (t : Int), (recs cs t).length ≤ cs.length
 | [], _ => Nat.zero_le _
 | c :: cs, t => by
  have := recs_len cs t
  have := rec1_len t c
  simp only [recs, List.flatMap_cons, List.length_append, List.length_cons] at *
  omega
theorem recs_succ {cs : List S72} {j : Nat} {c : S72} (h : cs[j]? = some c) (t : Int) : recs (cs.take (j + 1)) t = recs (cs.take j) t ++ rec1 t c := by
 unfold recs
 rw [List.take_add_one, h, List.flatMap_append]
 simp
theorem vis_rec1 (t : Int) (c : S72) : ((match vis c.versions t with | some v => (v, !v.tombstone) | none => (⟨0, false, []⟩, false)) : S67 × Bool).2 = !(cur c.versions t).2.1 := by
 unfold cur
 cases vis c.versions t <;> rfl
theorem d18_ok {N : Nat} (hN : bigN N) {s : S63} {m : S36} (i : Inv s m) (t : Int) : d18 N s t = some (if t < m.Horizon then ([], 21) else (recs s.chains t, 0)) := by
 have hN : 9223372036854775808 ≤ N := hN
 have hf := i.few
 unfold d18
 rw [i.hor]
 by_cases hth : t < m.Horizon
 ·rw [if_pos hth, if_pos hth]
 ·rw [if_neg hth, if_neg hth]
  refine bind_eq (P := fun r => r = recs s.chains t) (loop_idx (σ := List S79) (τ := List S79 × Int) s.chains.length (fun s v => (s, v)) _ (fun j l => l = recs (s.chains.take j) t) _ ?_ ?_ [] (by simp [recs]) (by omega)) ?_
  ·rintro j l hj rfl
   obtain ⟨c, hc⟩ := get_of hj
   have hs := recs_succ hc t
   have hle := recs_len (s.chains.take j) t
   rw [List.length_take] at hle
   have hm := List.mem_of_getElem? hc
   have hr : vers s.chains c.key = c.versions := vers_mem i.srt hm
   refine .inl ⟨_, ?_, rfl⟩
   dsimp only
   rw [if_pos (by omega), idx_nat hc, Option.bind_some, d28_ok, Option.bind_some, vis_rec1, hs, chkI_of (by omega) (by omega)]
   unfold rec1
   cases hcur : (cur c.versions t).2.1 with
   | true => simp
   | false =>
    have hvis : ∃ v, vis c.versions t = some v := by
     unfold cur at hcur
     cases hv : vis c.versions t with
     | none => rw [hv] at hcur; cases hcur
     | some v => exact ⟨v, rfl⟩
    obtain ⟨v, hv⟩ := hvis
    have hmv : v ∈ ofK c.key m.Versions := by rw [← i.rel c.key, hr]; exact vis_mem hv
    have hcr : (cur c.versions t).2.2 = v.row := by unfold cur; rw [hv]
    rw [hcr]
    simp only [hv, Bool.not_false, if_true, d24_small N (row_ok i hmv), Option.bind_some, letv_eq]
    rw [show ∀ (a b : List S79), (a.length + b.length) * 40 ≤ reach → appL 40 a b = some (a ++ b) from fun a b h => if_pos h]
    ·simp
    ·simp only [List.length_singleton]
     unfold reach
     omega
  ·rintro l rfl
   refine ⟨_, ?_, rfl⟩
   dsimp only
   rw [if_neg (by omega), List.take_length]
  ·rintro l rfl
   rfl

/-! ### keys -/
theorem mem_vers {s : S63} {m : S36} (i : Inv s m) (k : ByteArray) : (∃ x ∈ m.Versions, x.Key = k) ↔ k ∈ s.chains.map (·.key) := by
 constructor
 ·rintro ⟨x, hx, rfl⟩
  have h1 : tl x ∈ vers s.chains x.Key := by
   rw [i.rel]
   unfold ofK
   exact List.mem_map.2 ⟨x, List.mem_filter.2 ⟨hx, by simp⟩, rfl⟩
  unfold vers at h1
  split at h1
  ·rename_i c hc
   have := List.find?_some hc
   exact List.mem_map.2 ⟨c, List.mem_of_find?_eq_some hc, by simpa using this⟩
  ·cases h1
 ·intro h
  obtain ⟨c, hc, rfl⟩ := List.mem_map.1 h
  obtain ⟨v, hv⟩ := List.exists_mem_of_ne_nil _ (i.ne c hc)
  have : v ∈ ofK c.key m.Versions := by rw [← i.rel c.key, vers_mem i.srt hc]; exact hv
  obtain ⟨x, h1, h2, _⟩ := ofK_mem this
  exact ⟨x, h1, h2⟩
theorem sortS_keys {s : S63} (hs : Srt s.chains) (hf : s.chains.length ≤ 400) {l : List ByteArray} (hn : l.Nodup) (hm : ∀ k, k ∈ l ↔ k ∈ s.chains.map (·.key)) : sortS l = some (s.chains.map (·.key)) := by
 have hk : (s.chains.map (·.key)).Nodup := by
  rw [List.nodup_iff_pairwise_ne, List.pairwise_map]
  exact hs.imp fun h => klt_ne h
 have hp : l.Perm (s.chains.map (·.key)) := (List.perm_ext_iff_of_nodup hn hk).2 hm
 have hlen := hp.length_eq
 rw [List.length_map] at hlen
 unfold sortS
 rw [if_pos (by omega)]
 have h1 : (l.map bsOf).Perm ((s.chains.map (·.key)).map bsOf) := hp.map _
 have hsr : ((s.chains.map (·.key)).map bsOf).Pairwise (fun a b => leB a b = true) := by
  rw [List.pairwise_map, List.pairwise_map]
  exact hs.imp fun {a b} hab => by
   simp only [leB, decide_eq_true_eq]
   exact List.le_of_lt hab
 have h2 : (l.map bsOf).mergeSort leB = (s.chains.map (·.key)).map bsOf := by rw [mergeSort_of_perm h1, List.mergeSort_of_pairwise hsr]
 show some (((l.map bsOf).mergeSort leB).map ofBs) = _
 rw [h2, List.map_map]
 congr 1
 conv => rhs; rw [← List.map_id (s.chains.map (·.key))]
 exact List.map_congr_left fun k _ => ofBs_bsOf k
theorem d29_ok {N : Nat} (hN : bigN N) {s : S63} {m : S36} (i : Inv s m) : d29 N m = some (m, s.chains.map (·.key)) := by
 have hN : 9223372036854775808 ≤ N := hN
 have hl := i.len
 unfold d29
 refine bind_eq (P := fun l => l.Nodup ∧ ∀ k, k ∈ l ↔ ∃ x ∈ m.Versions, x.Key = k) (loop_idx (σ := List (ByteArray × Bool) × List ByteArray) (τ := List (ByteArray × Bool) × List ByteArray × Int) m.Versions.length (fun s v => (s.1, s.2, v)) _
  (fun j s => s.2.Nodup ∧ s.2.length ≤ j ∧ (∀ k, k ∈ s.2 ↔ ∃ x ∈ m.Versions.take j, x.Key = k) ∧ ∀ k, (mget s.1 k).getD false = true ↔ k ∈ s.2) _ ?_ ?_ ([], []) ⟨List.nodup_nil, Nat.le_refl _, by simp, by simp [mget_nil]⟩ (by omega)) ?_
 ·rintro j ⟨mp, l⟩ hj ⟨h1, h2, h3, h4⟩
  simp only at h1 h2 h3 h4
  obtain ⟨x, hx⟩ := get_of hj
  have hmem : ∀ k, (∃ y ∈ m.Versions.take (j + 1), y.Key = k) ↔ (∃ y ∈ m.Versions.take j, y.Key = k) ∨ x.Key = k := fun k => by
   rw [List.take_add_one, hx]
   simp [or_and_right, exists_or]
  dsimp only
  rw [if_pos (by omega), idx_nat hx, Option.bind_some, letv_eq]
  by_cases hin : x.Key ∈ l
  ·refine .inl ⟨(mput mp x.Key true, l), ?_, h1, Nat.le_succ_of_le h2, fun k => ?_, fun k => ?_⟩
   ·rw [(h4 _).2 hin]
    simp only [Bool.not_true, Bool.false_eq_true, if_false]
    rw [chkI_of (by omega) (by omega)]
    rfl
   ·rw [hmem, ← h3 k]
    constructor
    ·exact .inl
    ·rintro (h | rfl)
     ·exact h
     ·exact hin
   ·simp only [mget_put]
    by_cases hk : x.Key = k
    ·subst hk; simp [hin]
    ·rw [if_neg hk]; exact h4 k
  ·refine .inl ⟨(mput mp x.Key true, l ++ [x.Key]), ?_, ?_, ?_, fun k => ?_, fun k => ?_⟩
   ·have hb : (mget mp x.Key).getD false = false := by
     cases h : (mget mp x.Key).getD false with
     | false => rfl
     | true => exact absurd ((h4 _).1 h) hin
    rw [hb]
    simp only [Bool.not_false, if_true]
    rw [show appL 16 l [x.Key] = some (l ++ [x.Key]) from if_pos (by simp only [List.length_singleton]; unfold reach; omega), Option.bind_some, chkI_of (by omega) (by omega)]
    rfl
   ·exact List.nodup_append.2 ⟨h1, by simp, fun a ha b hb e => hin (by rw [List.mem_singleton] at hb; rw [← hb, ← e]; exact ha)⟩
   ·simp only [List.length_append, List.length_singleton]; omega
   ·rw [hmem, ← h3 k]
    simp [eq_comm]
   ·simp only [mget_put]
    by_cases hk : x.Key = k
    ·subst hk; simp
    ·rw [if_neg hk, h4 k]
     have : ¬ k = x.Key := fun e => hk e.symm
     simp [this]
 ·rintro ⟨mp, l⟩ ⟨h1, h2, h3, h4⟩
  refine ⟨l, ?_, h1, ?_⟩
  ·dsimp only
   rw [if_neg (by omega)]
  ·intro k
   have := h3 k
   rwa [List.take_length] at this
 ·rintro l ⟨h1, h2⟩
  rw [show d37 N l = sortS l from rfl, sortS_keys i.srt i.few h1 (fun k => (h2 k).trans (mem_vers i k))]
  rfl

theorem d19_ok {N : Nat} (hN : bigN N) {s : S63} {m : S36} (i : Inv s m) (t : Int) : d19 N m t = some (m, recs s.chains t) := by
 have hf := i.few
 have hN' : 9223372036854775808 ≤ N := hN
 unfold d19
 rw [d29_ok hN i, Option.bind_some]
 refine bind_eq (P := fun r => r = (recs s.chains t, m.Versions, m.Horizon)) (loop_idx (σ := List S43 × Int × List S79) (τ := List S43 × Int × List S79 × Int) (s.chains.map (·.key)).length (fun s v => (s.1, s.2.1, s.2.2, v)) _ (fun j q => q = (m.Versions, m.Horizon, recs (s.chains.take j) t)) _ ?_ ?_ (m.Versions, m.Horizon, []) (by simp [recs]) (by rw [List.length_map]; omega)) ?_
 ·rintro j q hj rfl
  rw [List.length_map] at hj
  obtain ⟨c, hc⟩ := get_of hj
  have hs := recs_succ hc t
  have hle := recs_len (s.chains.take j) t
  rw [List.length_take] at hle
  have hm := List.mem_of_getElem? hc
  have hr : vers s.chains c.key = c.versions := vers_mem i.srt hm
  have hck : (s.chains.map (·.key))[j]? = some c.key := by rw [List.getElem?_map, hc]; rfl
  refine .inl ⟨(m.Versions, m.Horizon, recs (s.chains.take (j + 1)) t), ?_, rfl⟩
  dsimp only
  rw [if_pos (by rw [List.length_map]; omega), idx_nat hck, Option.bind_some, d16_ok hN i, Option.bind_some, hs, ← i.rel c.key, hr, chkI_of (by omega) (by omega)]
  unfold rec1
  cases hcur : (cur c.versions t).2.1 with
  | true => simp
  | false =>
   simp only [Bool.not_false, if_true, Bool.false_eq_true, if_false]
   rw [show ∀ (a b : List S79), (a.length + b.length) * 40 ≤ reach → appL 40 a b = some (a ++ b) from fun a b h => if_pos h]
   ·simp
   ·simp only [List.length_singleton]
    unfold reach
    omega
 ·rintro q rfl
  refine ⟨(recs s.chains t, m.Versions, m.Horizon), ?_, rfl⟩
  dsimp only
  rw [if_neg (by omega), List.length_map, List.take_length]
 ·rintro q rfl
  rfl

/-! ### comparisons -/
theorem beq_refl (x : S53) : beqS53 x x = true := by simp [beqS53]
theorem d17_refl {N : Nat} (hN : bigN N) (l : List S53) (hl : l.length ≤ 9223372036854775806) : d17 N l l = some true := by
 have hN : 9223372036854775808 ≤ N := hN
 unfold d17
 rw [if_neg (by simp)]
 refine bindO_eq (P := fun r => r = .go ()) (loop_idx (σ := Unit) (τ := Int) l.length (fun _ v => v) _ (fun _ _ => True) _ ?_ ?_ () trivial (n := N) (by omega)) ?_ ?_
 ·rintro j _ hj _
  obtain ⟨x, hx⟩ := get_of hj
  refine .inl ⟨(), ?_, trivial⟩
  try dsimp only
  rw [if_pos (by omega), idx_nat hx, Option.bind_some, Option.bind_some, beq_refl, if_neg (by simp), chkI_of (by omega) (by omega), Option.bind_some]
 ·rintro _ _
  refine ⟨_, ?_, rfl⟩
  try dsimp only
  rw [if_neg (by omega)]
 ·intro x hx; cases hx
 ·intro b _; rfl
theorem d20_refl {N : Nat} (hN : bigN N) (l : List S79) (hl : l.length ≤ 400) (hr : ∀ x ∈ l, x.Row.length ≤ 6) : d20 N l l = some true := by
 have hN' : 9223372036854775808 ≤ N := hN
 unfold d20
 refine bind_eq (P := fun r => r = true) ⟨true, ?_, rfl⟩ (fun r h => by rw [h])
 unfold d30
 rw [if_neg (by simp)]
 refine bindO_eq (P := fun r => r = .go ()) (loop_idx (σ := Unit) (τ := Int) l.length (fun _ v => v) _ (fun _ _ => True) _ ?_ ?_ () trivial (n := N) (by omega)) ?_ ?_
 ·rintro j _ hj _
  obtain ⟨x, hx⟩ := get_of hj
  have h1 := hr x (List.mem_of_getElem? hx)
  have h31 : d31 N x x = some true := by
   unfold d31
   rw [if_pos (by simp), d17_refl hN x.Row (by omega)]
   rfl
  refine .inl ⟨(), ?_, trivial⟩
  try dsimp only
  rw [if_pos (by omega), idx_nat hx, Option.bind_some, Option.bind_some, h31, Option.bind_some, if_neg (by simp), chkI_of (by omega) (by omega), Option.bind_some]
 ·rintro _ _
  refine ⟨_, ?_, rfl⟩
  try dsimp only
  rw [if_neg (by omega)]
 ·intro x hx; cases hx
 ·intro b _; rfl
theorem recs_row {s : S63} {m : S36} (i : Inv s m) (t : Int) : ∀ x ∈ recs s.chains t, x.Row.length ≤ 6 := by
 intro x hx
 unfold recs at hx
 obtain ⟨c, hc, hx⟩ := List.mem_flatMap.1 hx
 unfold rec1 at hx
 split at hx
 ·cases hx
 ·rw [List.mem_singleton] at hx
  subst hx
  show (cur c.versions t).2.2.length ≤ 6
  unfold cur
  split
  ·rename_i v hv
   exact row_ok i (k := c.key) (by rw [← i.rel c.key, vers_mem i.srt hc]; exact vis_mem hv)
  ·simp
end Go.Proofs.Ytifcmomjjkbboac
end
section
namespace Go.Proofs.Ytifcmomjjkbboac
open Go.Ab Go.Rp Go.Sort

/-! ### a version is added -/
theorem vers_skip {A B : List S72} {y : S72} {k : ByteArray} (h : y.key ≠ k) : vers (A ++ y :: B) k = vers (A ++ B) k := by
 unfold vers
 rw [List.find?_append, List.find?_append, List.find?_cons_of_neg (by simpa using h)]
theorem asc_all {vs : List S67} (h : Asc vs) : ∀ u ∈ vs, u.timestamp ≤ lastTs vs := by
 intro u hu
 have hne : vs ≠ [] := fun e => by rw [e] at hu; cases hu
 obtain ⟨l, z, rfl⟩ : ∃ l z, vs = l ++ [z] := ⟨vs.dropLast, vs.getLast hne, (List.dropLast_concat_getLast hne).symm⟩
 rw [lastTs_append]
 rcases List.mem_append.1 hu with hu | hu
 ·have := (List.pairwise_append.1 h).2.2 u hu z (.head _)
  omega
 ·rw [List.mem_singleton] at hu
  rw [hu]
  exact Int.le_refl _
theorem asc_snoc {vs : List S67} {v : S67} (h : Asc vs) (hl : lastTs vs < v.timestamp) : Asc (vs ++ [v]) := by
 refine List.pairwise_append.2 ⟨h, List.pairwise_singleton _ _, fun a ha b hb => ?_⟩
 rw [List.mem_singleton] at hb
 subst hb
 have := asc_all h a ha
 omega
theorem srt_mid {A B : List S72} {y : S72} (h : Srt (A ++ B)) (hA : ∀ a ∈ A, klt a.key y.key) (hB : ∀ b ∈ B, klt y.key b.key) : Srt (A ++ y :: B) := by
 have h := List.pairwise_append.1 h
 refine List.pairwise_append.2 ⟨h.1, List.pairwise_cons.2 ⟨hB, h.2.1⟩, fun a ha b hb => ?_⟩
 rcases List.mem_cons.1 hb with rfl | hb
 ·exact hA a ha
 ·exact h.2.2 a ha b hb
theorem srt_out {A B : List S72} {y : S72} (h : Srt (A ++ y :: B)) : Srt (A ++ B) := by
 have h := List.pairwise_append.1 h
 exact List.pairwise_append.2 ⟨h.1, (List.pairwise_cons.1 h.2.1).2, fun a ha b hb => h.2.2 a ha b (.tail _ hb)⟩
theorem Inv.added {s : S63} {m : S36} (i : Inv s m) {x : S43} {A B : List S72} {old : List S67} (hold : old = ofK x.Key m.Versions) (hsrt : Srt (A ++ B)) (hA : ∀ a ∈ A, klt a.key x.Key) (hB : ∀ b ∈ B, klt x.Key b.key)
  (hmem : ∀ c ∈ A ++ B, c ∈ s.chains) (hv : ∀ k, k ≠ x.Key → vers (A ++ B) k = vers s.chains k) (hts : 1 ≤ x.Timestamp ∧ x.Timestamp ≤ 1099511627776) (hrow : x.Row.length ≤ 6) (hlast : lastTs old < x.Timestamp) (hlen : m.Versions.length < 400) :
  Inv ⟨A ++ ⟨x.Key, old ++ [tl x]⟩ :: B, s.horizon⟩ ⟨m.Versions ++ [x], m.Horizon⟩ := by
 have hall : ∀ c ∈ A ++ (⟨x.Key, old ++ [tl x]⟩ : S72) :: B, c ∈ s.chains ∨ c = ⟨x.Key, old ++ [tl x]⟩ := fun c hc => by
  rcases List.mem_append.1 hc with h | h
  ·exact .inl (hmem c (List.mem_append_left _ h))
  ·rcases List.mem_cons.1 h with h | h
   ·exact .inr h
   ·exact .inl (hmem c (List.mem_append_right _ h))
 refine ⟨i.hor, i.h0, srt_mid hsrt hA hB, fun c hc => ?_, fun c hc => ?_, fun v hv => ?_, fun k => ?_, by simp only [List.length_append, List.length_singleton]; omega⟩
 ·rcases hall c hc with h | rfl
  ·exact i.ne c h
  ·simp
 ·rcases hall c hc with h | rfl
  ·exact i.asc c h
  ·exact asc_snoc (by rw [hold]; exact vers_asc i x.Key) hlast
 ·rcases List.mem_append.1 hv with h | h
  ·exact i.rng v h
  ·rw [List.mem_singleton] at h
   subst h
   exact ⟨hts.1, hts.2, hrow⟩
 ·rw [ofK_append, ofK_cons]
  show vers (A ++ (⟨x.Key, old ++ [tl x]⟩ : S72) :: B) k = _
  by_cases hk : x.Key = k
  ·subst hk
   rw [vers_found (A := A) (B := B) (e := ⟨x.Key, old ++ [tl x]⟩) ⟨rfl, rfl, hA, hB⟩, hold, if_pos rfl]
   rfl
  ·rw [vers_skip (y := ⟨x.Key, old ++ [tl x]⟩) hk, hv k (fun e => hk e.symm), i.rel k, if_neg hk]
   simp [ofK]

theorem d26_ok (N : Nat) (a b c : Int) : d26 N a b c = some (decide (b ≤ a) && decide (a ≤ c)) := by
 unfold d26
 by_cases h : a ≥ b
 ·rw [if_pos h]; simp [h]
 ·rw [if_neg h]; simp [h]
theorem setMid {A B : List S72} {e x : S72} : setI (A ++ e :: B) (A.length : Int) x = A ++ x :: B := by
 unfold setI
 simp
theorem insMid {A B : List S72} {x : S72} (h : (A ++ B).length ≤ 400) : insL 40 (A ++ B) (A.length : Int) [x] = some (A ++ x :: B) := by
 unfold insL
 rw [if_pos ⟨by omega, by simp; omega, by unfold reach; omega⟩]
 simp
theorem appV (l : List S67) (v : S67) (h : l.length ≤ 400) : appL 40 l [v] = some (l ++ [v]) := if_pos (by simp only [List.length_singleton]; unfold reach; omega)

theorem add_ok {N : Nat} (hN : bigN N) {s : S63} {m : S36} (i : Inv s m) (x : S43) : ∃ s' m' e, d23 N s x.Key (tl x) = some (s', e) ∧ d11 N m x = some (m', e) ∧ Inv s' m' := by
 have hN' : 9223372036854775808 ≤ N := hN
 have hf := i.few
 have hh := i.hor
 have e1 : (if (x.Key.size : Int) > 24 then some true else some (decide ((x.Row.length : Int) > 6))) = some (decide ((x.Key.size : Int) > 24) || decide ((x.Row.length : Int) > 6)) := by
  by_cases h : (x.Key.size : Int) > 24 <;> simp [h]
 have e2 : (if x.Timestamp < 1 then some true else some (decide (x.Timestamp > 1099511627776))) = some (!(decide (1 ≤ x.Timestamp) && decide (x.Timestamp ≤ 1099511627776))) := by
  by_cases h : x.Timestamp < 1
  ·rw [if_pos h]; simp; omega
  ·rw [if_neg h]
   congr 1
   rw [Bool.eq_iff_iff]
   simp
   omega
 unfold d23 d11
 show ∃ s' m' e, Option.bind (if (x.Key.size : Int) > 24 then some true else some (decide ((x.Row.length : Int) > 6))) _ = _ ∧ _
 rw [e1, Option.bind_some, Option.bind_some]
 by_cases c1 : (decide ((x.Key.size : Int) > 24) || decide ((x.Row.length : Int) > 6)) = true
 ·rw [if_pos c1, if_pos c1]
  exact ⟨_, _, _, rfl, rfl, i⟩
 rw [if_neg c1, if_neg c1]
 have hrow : x.Row.length ≤ 6 := by
  simp at c1
  omega
 show ∃ s' m' e, Option.bind (if x.Timestamp < 1 then some true else some (decide (x.Timestamp > 1099511627776))) _ = _ ∧ _
 rw [e2, Option.bind_some, d26_ok, Option.bind_some]
 by_cases c2 : (!(decide (1 ≤ x.Timestamp) && decide (x.Timestamp ≤ 1099511627776))) = true
 ·rw [if_pos c2, if_pos c2]
  exact ⟨_, _, _, rfl, rfl, i⟩
 rw [if_neg c2, if_neg c2]
 have hts : 1 ≤ x.Timestamp ∧ x.Timestamp ≤ 1099511627776 := by
  simp at c2
  omega
 show ∃ s' m' e, (if x.Timestamp ≤ s.horizon then _ else _) = _ ∧ _
 rw [hh]
 by_cases c3 : x.Timestamp ≤ m.Horizon
 ·rw [if_pos c3, if_pos c3]
  exact ⟨_, _, _, rfl, rfl, i⟩
 rw [if_neg c3, if_neg c3, d22_ok hN i, Option.bind_some]
 -- the two stores agree from here on
 have fin : ∀ (A B : List S72) (old : List S67) (R : Option (S63 × Int)), old = ofK x.Key m.Versions → Srt (A ++ B) → (∀ a ∈ A, klt a.key x.Key) → (∀ b ∈ B, klt x.Key b.key) → (∀ c ∈ A ++ B, c ∈ s.chains) → (∀ k, k ≠ x.Key → vers (A ++ B) k = vers s.chains k) →
   R = (if lastTs old ≥ x.Timestamp then some (s, 6) else if m.Versions.length = 400 then some (s, 18) else some (⟨A ++ ⟨x.Key, old ++ [tl x]⟩ :: B, s.horizon⟩, 0)) →
   ∃ s' m' e, R = some (s', e) ∧ (if lastTs (ofK x.Key m.Versions) ≥ x.Timestamp then some (m, 6) else if (m.Versions.length : Int) ≥ 400 then some (m, 18) else (appL 56 m.Versions [x]).bind fun l11 => some ((S36.mk (m.Versions ++ [x]) m.Horizon), (0 : Int))) = some (m', e) ∧ Inv s' m' := by
  intro A B old R hold hsrt hA hB hmem hv hR
  rw [hR, ← hold]
  by_cases c4 : lastTs old ≥ x.Timestamp
  ·rw [if_pos c4, if_pos c4]
   exact ⟨_, _, _, rfl, rfl, i⟩
  rw [if_neg c4, if_neg c4]
  have hl := i.len
  by_cases c5 : m.Versions.length = 400
  ·rw [if_pos c5, if_pos (by omega)]
   exact ⟨_, _, _, rfl, rfl, i⟩
  rw [if_neg c5, if_neg (by omega), show appL 56 m.Versions [x] = some (m.Versions ++ [x]) from if_pos (by simp only [List.length_singleton]; unfold reach; omega)]
  exact ⟨_, _, _, rfl, rfl, i.added hold hsrt hA hB hmem hv hts hrow (by omega) (by omega)⟩
 have e28 : ((m.Versions.length : Int) == 400) = decide (m.Versions.length = 400) := by
  rw [Bool.eq_iff_iff]; simp; omega
 rcases d25_ok hN i.srt (by omega) x.Key with ⟨A, e, B, h1, h2⟩ | ⟨A, B, h1, h2⟩
 ·have hv := vers_found h1
  have hm : e ∈ s.chains := h1.mem
  obtain ⟨z, hz1, hz2⟩ := last_ok (i.ne e hm) (i.short hm)
  have hold : e.versions = ofK x.Key m.Versions := by rw [← i.rel, hv]
  refine fin A B e.versions _ hold (srt_out (y := e) (by rw [← h1.1]; exact i.srt)) h1.2.2.1 h1.2.2.2 (fun c hc => ?_) (fun k hk => ?_) ?_
  ·rw [h1.1]
   rcases List.mem_append.1 hc with h | h
   ·exact List.mem_append_left _ h
   ·exact List.mem_append_right _ (.tail _ h)
  ·rw [h1.1, vers_skip (by rw [h1.2.1]; exact fun e => hk e.symm)]
  ·have h2' : d25 N s x.Key = some ((A.length : Int), true) := h2 s.horizon
   rw [h2', Option.bind_some]
   simp only [if_true]
   rw [idx_nat h1.get, Option.bind_some, hz1, Option.bind_some, hz2]
   simp only [decide_eq_true_eq]
   show (if lastTs e.versions ≥ x.Timestamp then some (s, 6) else _) = _
   by_cases c4 : lastTs e.versions ≥ x.Timestamp
   ·rw [if_pos c4, if_pos c4]
   rw [if_neg c4, if_neg c4, d21_ok hN i, Option.bind_some, e28]
   by_cases c5 : m.Versions.length = 400
   ·rw [if_pos (by simpa using c5), if_pos c5]
   rw [if_neg (by simpa using c5), if_neg c5]
   simp only [Bool.not_true, Bool.false_eq_true, if_false, Option.bind_some]
   rw [idx_nat h1.get, Option.bind_some, appV _ _ (i.short hm), Option.bind_some, letv_eq]
   conv => lhs; rw [show s.chains = A ++ e :: B from h1.1]
   rw [setMid, h1.2.1, hh]
 ·have hv := vers_miss h1
  have hold : ([] : List S67) = ofK x.Key m.Versions := by rw [← i.rel, hv]
  refine fin A B [] _ hold (by rw [← h1.1]; exact i.srt) h1.2.1 h1.2.2 (fun c hc => by rw [h1.1]; exact hc) (fun k hk => by rw [h1.1]) ?_
  have h2' : d25 N s x.Key = some ((A.length : Int), false) := h2 s.horizon
  rw [h2', Option.bind_some]
  simp only [Bool.false_eq_true, if_false, Option.bind_some]
  rw [if_neg (show ¬ lastTs [] ≥ x.Timestamp by simp only [lastTs, List.getLast?_nil]; omega), d21_ok hN i, Option.bind_some, e28]
  by_cases c5 : m.Versions.length = 400
  ·rw [if_pos (by simpa using c5), if_pos c5]
  rw [if_neg (by simpa using c5), if_neg c5]
  simp only [Bool.not_false, if_true, letv_eq]
  have hd32 : d32 N s.chains (A.length : Int) [⟨x.Key, []⟩] = some (A ++ ⟨x.Key, []⟩ :: B) := by
   show insL 40 s.chains _ _ = _
   rw [h1.1]
   exact insMid (by rw [← h1.1]; exact hf)
  rw [hd32]
  simp only [Option.bind_some]
  rw [idx_nat (show (A ++ (⟨x.Key, []⟩ : S72) :: B)[A.length]? = some ⟨x.Key, []⟩ by simp), Option.bind_some, appV _ _ (by simp), Option.bind_some, setMid, hh]

/-! ### the horizon is raised -/
def keep (t : Int) (vs : List S67) : List S67 := vs.filter fun v => !(decide (v.timestamp ≤ t) && v.tombstone) && !vs.any fun w => decide (v.timestamp < w.timestamp) && decide (w.timestamp ≤ t)
theorem keep_split {t : Int} {P H : List S67} {z : S67} (ha : Asc (P ++ z :: H)) (hP : P ≠ [] → z.timestamp ≤ t) (hH : ∀ h ∈ H, t < h.timestamp) : keep t (P ++ z :: H) = (if (decide (z.timestamp ≤ t) && z.tombstone) = true then [] else [z]) ++ H := by
 have h := List.pairwise_append.1 ha
 have hz := List.pairwise_cons.1 h.2.1
 unfold keep
 rw [List.filter_append, List.filter_cons]
 have f1 : P.filter (fun v => !(decide (v.timestamp ≤ t) && v.tombstone) && !(P ++ z :: H).any fun w => decide (v.timestamp < w.timestamp) && decide (w.timestamp ≤ t)) = [] := by
  rw [List.filter_eq_nil_iff]
  intro p hp
  have hne : P ≠ [] := fun e => by rw [e] at hp; cases hp
  have h1 := hP hne
  have h2 := h.2.2 p hp z (.head _)
  have : (P ++ z :: H).any (fun w => decide (p.timestamp < w.timestamp) && decide (w.timestamp ≤ t)) = true := List.any_eq_true.2 ⟨z, by simp, by simp [h1, h2]⟩
  simp only [this]
  simp
 have f2 : (P ++ z :: H).any (fun w => decide (z.timestamp < w.timestamp) && decide (w.timestamp ≤ t)) = false := by
  rw [List.any_eq_false]
  intro w hw
  rcases List.mem_append.1 hw with hw | hw
  ·have := h.2.2 w hw z (.head _)
   simp; omega
  ·rcases List.mem_cons.1 hw with rfl | hw
   ·simp
   ·have := hH w hw
    simp; omega
 have f3 : H.filter (fun v => !(decide (v.timestamp ≤ t) && v.tombstone) && !(P ++ z :: H).any fun w => decide (v.timestamp < w.timestamp) && decide (w.timestamp ≤ t)) = H := by
  rw [List.filter_eq_self]
  intro v hv
  have h1 := hH v hv
  have h2 : (P ++ z :: H).any (fun w => decide (v.timestamp < w.timestamp) && decide (w.timestamp ≤ t)) = false := by
   rw [List.any_eq_false]
   intro w _
   simp; omega
  rw [h2]
  have : ¬ v.timestamp ≤ t := by omega
  simp [this]
 rw [f1, f2, f3, List.nil_append]
 cases (decide (z.timestamp ≤ t) && z.tombstone) <;> simp
def vacC (t : Int) (c : S72) : Option S72 := if keep t c.versions = [] then none else some ⟨c.key, keep t c.versions⟩
theorem filterMap_succ {cs : List S72} {j : Nat} {c : S72} (h : cs[j]? = some c) (t : Int) : (cs.take (j + 1)).filterMap (vacC t) = (cs.take j).filterMap (vacC t) ++ (vacC t c).toList := by
 rw [List.take_add_one, h, List.filterMap_append]
 congr 1
theorem asc_get {vs : List S67} (h : Asc vs) {i j : Nat} {x y : S67} (hij : i < j) (hx : vs[i]? = some x) (hy : vs[j]? = some y) : x.timestamp < y.timestamp := by
 obtain ⟨h1, rfl⟩ := List.getElem?_eq_some_iff.1 hx
 obtain ⟨h2, rfl⟩ := List.getElem?_eq_some_iff.1 hy
 exact List.pairwise_iff_getElem.1 h i j h1 h2 hij

def okT (t : Int) : Prop := 0 ≤ t ∧ t ≤ 1099511627776
instance (t : Int) : Decidable (okT t) := inferInstanceAs (Decidable (_ ∧ _))
def vacS (s : S63) (t : Int) : S63 := ⟨s.chains.filterMap (vacC t), t⟩
theorem d13_ok {N : Nat} (hN : bigN N) {s : S63} {m : S36} (i : Inv s m) (t : Int) : d13 N s t = some (if okT t then (if t ≤ s.horizon then s else vacS s t, 0) else (s, 1)) := by
 have hN' : 9223372036854775808 ≤ N := hN
 have hf := i.few
 unfold d13
 have e1 : (if t < 0 then some true else some (decide (t > 1099511627776))) = some (!decide (okT t)) := by
  by_cases h : t < 0
  ·rw [if_pos h, decide_eq_false (fun q : okT t => by have := q.1; omega)]; rfl
  ·rw [if_neg h]
   by_cases h2 : t > 1099511627776
   ·rw [decide_eq_true h2, decide_eq_false (fun q : okT t => by have := q.2; omega)]; rfl
   ·rw [decide_eq_false h2, decide_eq_true (show okT t from ⟨by omega, by omega⟩)]; rfl
 rw [e1, Option.bind_some]
 by_cases c1 : ¬ okT t
 ·rw [if_pos (by simpa using c1), if_neg c1]
 have c1 : okT t := Decidable.not_not.1 c1
 rw [if_neg (by simpa using c1), if_pos c1]
 by_cases c2 : t ≤ s.horizon
 ·rw [if_pos c2, if_pos c2]
 rw [if_neg c2, if_neg c2]
 refine bind_eq (P := fun r => r = s.chains.filterMap (vacC t)) (loop_idx (σ := List S72) (τ := List S72 × Int) s.chains.length (fun s v => (s, v)) _ (fun j l => l = (s.chains.take j).filterMap (vacC t)) _ ?_ ?_ [] (by simp) (by omega)) ?_
 ·rintro j l hj rfl
  obtain ⟨c, hc⟩ := get_of hj
  have hs := filterMap_succ hc t
  have hm := List.mem_of_getElem? hc
  have hsh := i.short hm
  have hne := i.ne c hm
  have hasc := i.asc c hm
  have hpos : 0 < c.versions.length := List.length_pos_iff.2 hne
  have hle : ((s.chains.take j).filterMap (vacC t)).length ≤ j := Nat.le_trans (List.length_filterMap_le _ _) (by rw [List.length_take]; omega)
  refine .inl ⟨_, ?_, rfl⟩
  dsimp only
  rw [if_pos (by omega), idx_nat hc, Option.bind_some]
  refine bind_eq (P := fun r => ∃ f : Nat, r = (f : Int) ∧ f < c.versions.length ∧ (∀ z, c.versions[f]? = some z → f ≠ 0 → z.timestamp ≤ t) ∧ ∀ y, c.versions[f + 1]? = some y → t < y.timestamp) (iter_post _ (fun (v : Int) => ((c.versions.length : Int) - v).toNat) (fun v => ∃ f : Nat, v = (f : Int) ∧ f < c.versions.length ∧ ∀ z, c.versions[f]? = some z → f ≠ 0 → z.timestamp ≤ t) _ ?_ N 0 ⟨0, rfl, hpos, fun _ _ h => absurd rfl h⟩ (by omega)) ?_
  ·rintro v ⟨f, rfl, hf1, hf2⟩
   try dsimp only
   rw [chkI_of (by omega) (by omega), Option.bind_some]
   by_cases hlt : (f : Int) + 1 < (c.versions.length : Int)
   ·obtain ⟨y, hy⟩ := get_of (l := c.versions) (k := f + 1) (by omega)
    rw [if_pos hlt, show (f : Int) + 1 = ((f + 1 : Nat) : Int) by omega]
    rw [show (some ((f + 1 : Nat) : Int)).bind (fun v288 => (idx c.versions v288).bind fun x289 => some (decide (x289.timestamp ≤ t))) = some (decide (y.timestamp ≤ t)) by rw [Option.bind_some, idx_nat hy]; rfl]
    rw [Option.bind_some]
    by_cases hyt : y.timestamp ≤ t
    ·rw [if_pos (by simpa using hyt), Option.bind_some]
     refine .inl ⟨_, rfl, ⟨f + 1, rfl, by omega, fun z hz _ => ?_⟩, by omega⟩
     rw [hy] at hz; injection hz with hz
     rw [← hz]; exact hyt
    ·rw [if_neg (by simpa using hyt)]
     refine .inr ⟨_, rfl, f, rfl, hf1, hf2, fun z hz => ?_⟩
     rw [hy] at hz; injection hz with hz
     rw [← hz]; omega
   ·rw [if_neg hlt, Option.bind_some, if_neg (by simp)]
    refine .inr ⟨_, rfl, f, rfl, hf1, hf2, fun z hz => ?_⟩
    rw [List.getElem?_eq_none (by omega)] at hz; cases hz
  ·rintro v ⟨f, rfl, hf1, hf2, hf3⟩
   obtain ⟨z, hz⟩ := get_of hf1
   have hsp : c.versions = c.versions.take f ++ z :: c.versions.drop (f + 1) := by
    obtain ⟨h5, h6⟩ := List.getElem?_eq_some_iff.1 hz
    rw [← h6, ← List.drop_eq_getElem_cons hf1, List.take_append_drop]
   have hk : keep t c.versions = (if (decide (z.timestamp ≤ t) && z.tombstone) = true then [] else [z]) ++ c.versions.drop (f + 1) := by
    conv => lhs; rw [hsp]
    refine keep_split (by rw [← hsp]; exact hasc) (fun hne => hf2 z hz (fun e => hne (by rw [e]; rfl))) (fun h hh => ?_)
    obtain ⟨y, hy, rfl⟩ := List.mem_drop_iff_getElem.1 hh
    obtain ⟨y0, hy0⟩ := get_of (l := c.versions) (k := f + 1) (by omega)
    have h1 := hf3 y0 hy0
    by_cases hy1 : y = 0
    ·subst hy1
     obtain ⟨h5, h6⟩ := List.getElem?_eq_some_iff.1 hy0
     simp only [Nat.add_zero]
     rw [h6]; exact h1
    ·have := asc_get hasc (i := f + 1) (j := f + 1 + y) (by omega) hy0 (List.getElem?_eq_getElem (by omega))
     omega
   rw [idx_nat hz, Option.bind_some]
   have e2 : (if z.timestamp ≤ t then some z.tombstone else some false) = some (decide (z.timestamp ≤ t) && z.tombstone) := by
    by_cases h : z.timestamp ≤ t <;> simp [h]
   rw [e2, Option.bind_some]
   have fin : ∀ n : Nat, n ≤ c.versions.length → keep t c.versions = c.versions.drop n →
     (if (n : Int) < (c.versions.length : Int) then (natI (n : Int) c.versions.length).bind fun n306 => letv (c.versions.drop n306) fun l307 => (d27 N l307).bind fun r308 => letv ([(S72.mk c.key r308)] : List S72) fun l309 => (appL 40 ((s.chains.take j).filterMap (vacC t)) l309).bind fun l310 => (chkI ((j : Int) + 1)).bind fun v311 => some (Sum.inl ((((s.chains.take j).filterMap (vacC t)) ++ l309), v311))
      else (chkI ((j : Int) + 1)).bind fun v312 => some (Sum.inl (((s.chains.take j).filterMap (vacC t)), v312))) = (some (Sum.inl ((s.chains.take (j + 1)).filterMap (vacC t), (j : Int) + 1)) : Option ((List S72 × Int) ⊕ List S72)) := by
    intro n hn hkn
    rw [hs]
    by_cases hnl : (n : Int) < (c.versions.length : Int)
    ·rw [if_pos hnl, show natI (n : Int) c.versions.length = some n from (if_pos ⟨by omega, by omega⟩).trans (by simp), Option.bind_some, letv_eq, show d27 N (c.versions.drop n) = some (c.versions.drop n) from if_pos (by rw [List.length_drop]; unfold reach; omega), Option.bind_some, letv_eq,
      show ∀ (a b : List S72), (a.length + b.length) * 40 ≤ reach → appL 40 a b = some (a ++ b) from fun a b h => if_pos h, Option.bind_some, chkI_of (by omega) (by omega), Option.bind_some]
     ·have hnn : keep t c.versions ≠ [] := by
       rw [hkn]
       intro e
       have := congrArg List.length e
       rw [List.length_drop] at this
       simp at this
       omega
      unfold vacC
      rw [if_neg hnn, hkn]
      rfl
     ·simp only [List.length_singleton]
      unfold reach
      omega
    ·rw [if_neg hnl, chkI_of (by omega) (by omega), Option.bind_some]
     have hnn : keep t c.versions = [] := by rw [hkn]; exact List.drop_eq_nil_of_le (by omega)
     unfold vacC
     rw [if_pos hnn]
     simp
   by_cases hb : (decide (z.timestamp ≤ t) && z.tombstone) = true
   ·rw [if_pos hb, chkI_of (by omega) (by omega)]
    have := fin (f + 1) (by omega) (by rw [hk, if_pos hb]; rfl)
    rw [show (((f + 1 : Nat) : Nat) : Int) = (f : Int) + 1 by omega] at this
    exact this
   ·rw [if_neg hb]
    refine fin f (by omega) ?_
    rw [hk, if_neg hb]
    obtain ⟨h5, h6⟩ := List.getElem?_eq_some_iff.1 hz
    rw [List.drop_eq_getElem_cons hf1, h6]
    rfl
 ·rintro l rfl
  refine ⟨_, ?_, rfl⟩
  dsimp only
  rw [if_neg (by omega), List.take_length]
 ·rintro l rfl
  rfl
end Go.Proofs.Ytifcmomjjkbboac
end
section
namespace Go.Proofs.Ytifcmomjjkbboac
open Go.Ab Go.Rp Go.Sort

def keepM (t : Int) (m : List S43) (v : S43) : Bool := !(decide (v.Timestamp ≤ t) && v.Tombstone) && !m.any fun w => decide (w.Key = v.Key) && (decide (v.Timestamp < w.Timestamp) && decide (w.Timestamp ≤ t))
def vacM (m : S36) (t : Int) : S36 := ⟨m.Versions.filter (keepM t m.Versions), t⟩

theorem any_succ {α : Type} (p : α → Bool) {m : List α} {j : Nat} {x : α} (h : m[j]? = some x) : (m.take (j + 1)).any p = ((m.take j).any p || p x) := by
 rw [List.take_add_one, h, List.any_append]
 simp
theorem filter_succ {α : Type} (p : α → Bool) {m : List α} {j : Nat} {x : α} (h : m[j]? = some x) : (m.take (j + 1)).filter p = (m.take j).filter p ++ if p x = true then [x] else [] := by
 rw [List.take_add_one, h, List.filter_append]
 congr 1
 by_cases hp : p x = true <;> simp [hp]
theorem d14_ok {N : Nat} (hN : bigN N) {s : S63} {m : S36} (i : Inv s m) (t : Int) : d14 N m t = some (if t ≤ m.Horizon then m else vacM m t) := by
 have hN : 9223372036854775808 ≤ N := hN
 have hl := i.len
 unfold d14
 by_cases c1 : t ≤ m.Horizon
 ·rw [if_pos c1, if_pos c1]
 rw [if_neg c1, if_neg c1]
 refine bind_eq (P := fun r => r = m.Versions.filter (keepM t m.Versions)) (loop_idx (σ := List S43) (τ := List S43 × Int) m.Versions.length (fun s v => (s, v)) _ (fun j l => l = (m.Versions.take j).filter (keepM t m.Versions)) _ ?_ ?_ [] (by simp) (by omega)) ?_
 ·rintro j l hj rfl
  obtain ⟨x, hx⟩ := get_of hj
  have hs := filter_succ (keepM t m.Versions) hx
  have hle : ((m.Versions.take j).filter (keepM t m.Versions)).length ≤ j := Nat.le_trans (List.length_filter_le _ _) (by rw [List.length_take]; omega)
  refine .inl ⟨_, ?_, rfl⟩
  dsimp only
  rw [if_pos (by omega), idx_nat hx, Option.bind_some]
  have e1 : (if x.Timestamp ≤ t then some x.Tombstone else some false) = some (decide (x.Timestamp ≤ t) && x.Tombstone) := by
   by_cases h : x.Timestamp ≤ t <;> simp [h]
  rw [e1, Option.bind_some]
  refine bind_eq (P := fun r => r = ((decide (x.Timestamp ≤ t) && x.Tombstone) || m.Versions.any fun w => decide (w.Key = x.Key) && (decide (x.Timestamp < w.Timestamp) && decide (w.Timestamp ≤ t)))) (loop_idx (σ := Bool) (τ := Bool × Int) m.Versions.length (fun s v => (s, v)) _
   (fun q b => b = ((decide (x.Timestamp ≤ t) && x.Tombstone) || (m.Versions.take q).any fun w => decide (w.Key = x.Key) && (decide (x.Timestamp < w.Timestamp) && decide (w.Timestamp ≤ t)))) _ ?_ ?_ (decide (x.Timestamp ≤ t) && x.Tombstone) (by simp) (by omega)) ?_
  ·rintro q b hq hb
   obtain ⟨w, hw⟩ := get_of hq
   have hs2 := any_succ (fun w : S43 => decide (w.Key = x.Key) && (decide (x.Timestamp < w.Timestamp) && decide (w.Timestamp ≤ t))) hw
   refine .inl ⟨b || (decide (w.Key = x.Key) && (decide (x.Timestamp < w.Timestamp) && decide (w.Timestamp ≤ t))), ?_, by rw [hs2, hb, Bool.or_assoc]⟩
   dsimp only
   rw [if_pos (by omega), idx_nat hw, Option.bind_some]
   have e2 : (if b = true then some true else if decide (w.Key = x.Key) = true then if w.Timestamp > x.Timestamp then some (decide (w.Timestamp ≤ t)) else some false else some false) = some (b || (decide (w.Key = x.Key) && (decide (x.Timestamp < w.Timestamp) && decide (w.Timestamp ≤ t)))) := by
    cases b with
    | true => simp
    | false =>
     by_cases h1 : w.Key = x.Key
     ·by_cases h2 : x.Timestamp < w.Timestamp
      ·simp [h1, h2]
      ·simp [h1, h2]
     ·simp [h1]
   rw [e2, Option.bind_some, chkI_of (by omega) (by omega), Option.bind_some]
  ·rintro b hb
   refine ⟨b, ?_, ?_⟩
   ·dsimp only
    rw [if_neg (by omega)]
   ·rw [List.take_length] at hb; exact hb
  ·rintro b hb
   have hkm : (!b) = keepM t m.Versions x := by rw [hb]; unfold keepM; rw [Bool.not_or]
   rw [hkm, hs]
   by_cases hk : keepM t m.Versions x = true
   ·rw [if_pos hk, if_pos hk, show appL 56 ((m.Versions.take j).filter (keepM t m.Versions)) [x] = some (((m.Versions.take j).filter (keepM t m.Versions)) ++ [x]) from if_pos (by simp only [List.length_singleton]; unfold reach; omega), Option.bind_some, chkI_of (by omega) (by omega), Option.bind_some]
   ·rw [if_neg hk, if_neg hk, chkI_of (by omega) (by omega), Option.bind_some, List.append_nil]
 ·rintro l rfl
  refine ⟨_, ?_, rfl⟩
  dsimp only
  rw [if_neg (by omega), List.take_length]
 ·rintro l rfl
  rfl

theorem any_ofK (k : ByteArray) (q : S67 → Bool) (m : List S43) : (ofK k m).any q = m.any fun w => decide (w.Key = k) && q (tl w) := by
 unfold ofK
 rw [List.any_map, List.any_filter]
 rfl
theorem ofK_keep (t : Int) (m : List S43) (k : ByteArray) : ofK k (m.filter (keepM t m)) = keep t (ofK k m) := by
 unfold keep
 conv => lhs; unfold ofK
 conv => rhs; arg 2; unfold ofK
 rw [List.filter_map, List.filter_filter, List.filter_filter]
 congr 1
 refine List.filter_congr fun x _ => ?_
 by_cases hk : x.Key = k
 ·subst hk
  simp only [Function.comp, decide_true, Bool.true_and, Bool.and_true]
  rw [any_ofK]
  rfl
 ·simp [hk]
theorem vers_keep (t : Int) : ∀ (cs : List S72), Srt cs → ∀ k, vers (cs.filterMap (vacC t)) k = keep t (vers cs k)
 | [], _, k => rfl
 | c :: cs, hs, k => by
  obtain ⟨h1, h2⟩ := List.pairwise_cons.1 hs
  have ih := vers_keep t cs h2 k
  rw [List.filterMap_cons]
  by_cases hk : c.key = k
  ·have hnone : vers cs k = [] := by
    unfold vers
    rw [List.find?_eq_none.2 (fun a ha => by simpa [← hk] using (klt_ne (h1 a ha)).symm)]
   have hc : vers (c :: cs) k = c.versions := by
    unfold vers
    rw [List.find?_cons_of_pos (by simpa using hk)]
   rw [hc]
   unfold vacC
   by_cases he : keep t c.versions = []
   ·rw [if_pos he, he]
    show vers (cs.filterMap (vacC t)) k = []
    rw [ih, hnone]
    rfl
   ·rw [if_neg he]
    show vers ((⟨c.key, keep t c.versions⟩ : S72) :: cs.filterMap (vacC t)) k = _
    conv => lhs; unfold vers
    rw [List.find?_cons_of_pos (by simpa using hk)]
  ·have hc : vers (c :: cs) k = vers cs k := by
    unfold vers
    rw [List.find?_cons_of_neg (by simpa using hk)]
   rw [hc, ← ih]
   unfold vacC
   by_cases he : keep t c.versions = []
   ·rw [if_pos he]
   ·rw [if_neg he]
    show vers ((⟨c.key, keep t c.versions⟩ : S72) :: cs.filterMap (vacC t)) k = _
    conv => lhs; unfold vers
    rw [List.find?_cons_of_neg (by simpa using hk)]
    rfl
theorem Inv.vac {s : S63} {m : S36} (i : Inv s m) {t : Int} (ht : okT t) : Inv (vacS s t) (vacM m t) := by
 refine ⟨rfl, ht, ?_, fun c hc => ?_, fun c hc => ?_, fun v hv => i.rng v (List.mem_filter.1 hv).1, fun k => ?_, Nat.le_trans (List.length_filter_le _ _) i.len⟩
 ·show List.Pairwise _ (s.chains.filterMap (vacC t))
  rw [List.pairwise_filterMap]
  refine i.srt.imp fun {a b} hab x hx y hy => ?_
  unfold vacC at hx hy
  split at hx
  ·cases hx
  ·split at hy
   ·cases hy
   ·injection hx with hx; injection hy with hy
    rw [← hx, ← hy]
    exact hab
 ·obtain ⟨a, _, ha⟩ := List.mem_filterMap.1 hc
  unfold vacC at ha
  split at ha
  ·cases ha
  ·rename_i hne
   injection ha with ha
   rw [← ha]
   exact hne
 ·obtain ⟨a, ham, ha⟩ := List.mem_filterMap.1 hc
  unfold vacC at ha
  split at ha
  ·cases ha
  ·injection ha with ha
   rw [← ha]
   exact (i.asc a ham).sublist List.filter_sublist
 ·show vers (s.chains.filterMap (vacC t)) k = ofK k (m.Versions.filter (keepM t m.Versions))
  rw [vers_keep t _ i.srt, i.rel, ofK_keep]
end Go.Proofs.Ytifcmomjjkbboac
end
section
namespace Go.Proofs.Ytifcmomjjkbboac
open Go.Ab Go.Rp Go.Sort

theorem d9_tot (N : Nat) (l : List Int) {i : Int} (h0 : 0 ≤ i) : ∃ r, d9 N l i = some r := by
 unfold d9
 by_cases h : i < (l.length : Int)
 ·obtain ⟨a, ha⟩ := get_of (l := l) (k := i.toNat) (by omega)
  rw [if_pos h, idx_toNat h0 ha]; exact ⟨a, rfl⟩
 ·rw [if_neg h]; exact ⟨0, rfl⟩
theorem u64_wrap (n : Int) : 0 ≤ IntKind.u64.wrap n := by
 simp only [IntKind.wrap, IntKind.signed, IntKind.bits]
 simp
 omega
theorem u64_len {n : Nat} (h : n ≤ 140737488355328) : IntKind.u64.wrap (n : Int) = (n : Int) := by
 simp only [IntKind.wrap, IntKind.signed, IntKind.bits]
 simp
 omega
theorem rem_lt {x : Int} {n : Nat} (hx : 0 ≤ x) (hn : n ≠ 0) : ∃ k : Nat, remI x (n : Int) = some (k : Int) ∧ k < n := by
 refine ⟨(x.toNat % n), ?_, Nat.mod_lt _ (by omega)⟩
 unfold remI
 rw [if_neg (by omega)]
 have : x = (x.toNat : Int) := (Int.toNat_of_nonneg hx).symm
 conv => lhs; rw [this]
 rfl
theorem d8_tot (N : Nat) (l : List ByteArray) (i : Int) (hl : l.length ≤ 140737488355328) : ∃ r, d8 N l i = some r := by
 unfold d8
 by_cases h : l.length = 0
 ·exact ⟨_, by rw [if_pos (by simp [h])]⟩
 ·obtain ⟨k, h1, h2⟩ := rem_lt (u64_wrap i) h
  obtain ⟨a, ha⟩ := get_of h2
  refine ⟨a, ?_⟩
  rw [if_neg (by simpa using h), letv_eq, letv_eq, u64_len hl, h1, Option.bind_some, chkI_of (by omega) (by omega), Option.bind_some, idx_nat ha]
  rfl
theorem d10_tot (N : Nat) (l : List (List S53)) (i : Int) (hl : l.length ≤ 140737488355328) : ∃ r, d10 N l i = some r ∧ (r ∈ l ∨ r = []) := by
 unfold d10
 by_cases h : l.length = 0
 ·exact ⟨_, by rw [if_pos (by simp [h])], .inr rfl⟩
 ·obtain ⟨k, h1, h2⟩ := rem_lt (u64_wrap i) h
  obtain ⟨a, ha⟩ := get_of h2
  refine ⟨a, ?_, .inl (List.mem_of_getElem? ha)⟩
  rw [if_neg (by simpa using h), letv_eq, letv_eq, u64_len hl, h1, Option.bind_some, chkI_of (by omega) (by omega), Option.bind_some, idx_nat ha]
  rfl

theorem inv0 : Inv ⟨[], 0⟩ ⟨[], 0⟩ :=
 ⟨rfl, ⟨Int.le_refl _, by decide⟩, List.Pairwise.nil, (fun c hc => by cases hc), (fun c hc => by cases hc), (fun v hv => by cases hv), (fun k => rfl), Nat.zero_le _⟩
theorem put_ok {N : Nat} (hN : bigN N) {s : S63} {m : S36} (i : Inv s m) (k : ByteArray) (t : Int) (r : List S53) (hr : r.length * 32 ≤ reach) :
  ∃ s' m' e, d5 N s k t r = some (s', e) ∧ d11 N m ⟨k, t, false, r⟩ = some (m', e) ∧ Inv s' m' := by
 obtain ⟨s', m', e, h1, h2, h3⟩ := add_ok hN i ⟨k, t, false, r⟩
 refine ⟨s', m', e, ?_, h2, h3⟩
 unfold d5
 rw [show d24 N r = some r from if_pos hr, Option.bind_some]
 rw [show d23 N s k ⟨t, false, r⟩ = some (s', e) from h1]
 rfl
theorem del_ok {N : Nat} (hN : bigN N) {s : S63} {m : S36} (i : Inv s m) (k : ByteArray) (t : Int) :
  ∃ s' m' e, d12 N s k t = some (s', e) ∧ d11 N m ⟨k, t, true, []⟩ = some (m', e) ∧ Inv s' m' := by
 obtain ⟨s', m', e, h1, h2, h3⟩ := add_ok hN i ⟨k, t, true, []⟩
 refine ⟨s', m', e, ?_, h2, h3⟩
 unfold d12
 rw [show d23 N s k ⟨t, true, []⟩ = some (s', e) from h1]
 rfl
theorem oc_some {α β : Type} (x : α) (n : Option β) (f : α → Option β) : ocase (some x) n f = f x := rfl
def smp : List S53 := [⟨1, 5, ByteArray.mk #[]⟩]
def ka : ByteArray := ByteArray.mk #[97]
def xa : S43 := ⟨ka, 3, false, smp⟩
theorem d11_new {N : Nat} (hN : bigN N) : d11 N ⟨[], 0⟩ xa = some (⟨[xa], 0⟩, 0) := by
 unfold d11
 rw [if_neg (show ¬ (xa.Key.size : Int) > 24 by decide), Option.bind_some, if_neg (by decide), d26_ok, Option.bind_some, if_neg (by decide), if_neg (by decide), d22_ok hN inv0, Option.bind_some, if_neg (by decide), if_neg (by decide)]
 rfl
theorem d11_old {N : Nat} (hN : bigN N) {s : S63} (i : Inv s ⟨[xa], 0⟩) : d11 N ⟨[xa], 0⟩ xa = some (⟨[xa], 0⟩, 6) := by
 unfold d11
 rw [if_neg (show ¬ (xa.Key.size : Int) > 24 by decide), Option.bind_some, if_neg (by decide), d26_ok, Option.bind_some, if_neg (by decide), if_neg (by decide), d22_ok hN i, Option.bind_some]
 have : lastTs (ofK xa.Key [xa]) = 3 := by
  rw [ofK_cons, if_pos rfl]
  rfl
 rw [this, if_pos (by decide)]
theorem d3_true {N : Nat} (hN : bigN N) (a0 : List (List Int)) (a1 : List ByteArray) (a2 : List (List S53)) (h0 : a0.length ≤ 140737488355328) (h1 : a1.length ≤ 140737488355328) (h2 : a2.length ≤ 140737488355328) (h3 : ∀ r ∈ a2, r.length * 32 ≤ reach) : d3 N a0 a1 a2 = some true := by
 have hN' : 9223372036854775808 ≤ N := hN
 have hd4 : d4 N = some (some ⟨[], 0⟩) := rfl
 have hd6 : d6 N = some smp := rfl
 obtain ⟨s1, m1, e1, p1, p2, p3⟩ := put_ok hN inv0 ka 3 smp (by decide)
 have q1 : d11 N ⟨[], 0⟩ xa = some (m1, e1) := p2
 rw [d11_new hN] at q1
 injection q1 with q1
 injection q1 with q1 q1'
 subst q1; subst q1'
 obtain ⟨s2, m2, e2, r1, r2, r3⟩ := put_ok hN p3 ka 3 smp (by decide)
 have q2 : d11 N ⟨[xa], 0⟩ xa = some (m2, e2) := r2
 rw [d11_old hN p3] at q2
 injection q2 with q2
 injection q2 with q2 q2'
 subst q2; subst q2'
 unfold d3
 rw [hd4, Option.bind_some, hd6, oc_some]
 simp only [Option.bind_some]
 rw [show d5 N ⟨[], 0⟩ (ByteArray.mk #[97]) 3 smp = some (s1, 0) from p1]
 simp only [Option.bind_some]
 rw [if_neg (by decide), show d5 N s1 (ByteArray.mk #[97]) 3 smp = some (s2, 6) from r1]
 simp only [Option.bind_some]
 rw [if_neg (by decide), d7_ok hN r3, Option.bind_some, Option.bind_some, if_neg (by
  have : lastTs (ofK (ByteArray.mk #[97]) [xa]) = 3 := by
   rw [ofK_cons, if_pos (show xa.Key = ByteArray.mk #[97] from rfl)]
   rfl
  rw [this]
  decide)]

 rw [oc_some]
 refine bindO_eq (P := fun r => r = .go ()) (loop_idx (σ := (List S72) × Int × (List S43) × Int) (τ := (List S72) × Int × (List S43) × Int × Int) (ρ := Out Unit Bool) a0.length (fun s v => (s.1, s.2.1, s.2.2.1, s.2.2.2, v)) _ (fun _ q => Inv ⟨q.1, q.2.1⟩ ⟨q.2.2.1, q.2.2.2⟩) _ ?_ ?_ ([], 0, [], 0) inv0 (by omega)) ?_ ?_
 ·rintro j ⟨cs, h, vs, h'⟩ hj i
  have i : Inv ⟨cs, h⟩ ⟨vs, h'⟩ := i
  obtain ⟨op, hop⟩ := get_of hj
  obtain ⟨k1, hk1⟩ := d9_tot N op (i := 1) (by decide)
  obtain ⟨key, hkey⟩ := d8_tot N a1 k1 h1
  obtain ⟨t, ht⟩ := d9_tot N op (i := 2) (by decide)
  obtain ⟨k3, hk3⟩ := d9_tot N op (i := 3) (by decide)
  obtain ⟨row, hrow, hrm⟩ := d10_tot N a2 k3 h2
  obtain ⟨w, hw⟩ := d9_tot N op (i := 0) (by decide)
  have hrl : row.length * 32 ≤ reach := by
   rcases hrm with h | rfl
   ·exact h3 row h
   ·simp
  refine .inl ?_
  dsimp only
  rw [if_pos (by omega), idx_nat hop, Option.bind_some, hk1, Option.bind_some, hkey, Option.bind_some, ht, Option.bind_some, hk3, Option.bind_some, hrow, Option.bind_some, hw, Option.bind_some]
  -- one operation
  have body : ∀ (D : Option (Out ((List S72) × Int × (List S43) × Int × Int × Int) (((List S72) × Int × (List S43) × Int × Int) ⊕ (Out Unit Bool)))) (k : ((List S72) × Int × (List S43) × Int × Int × Int) → Option (((List S72) × Int × (List S43) × Int × Int) ⊕ (Out Unit Bool))),
    (∃ q : (List S72) × Int × (List S43) × Int × Int × Int, D = some (.go q) ∧ q.2.2.2.2.1 = q.2.2.2.2.2 ∧ Inv ⟨q.1, q.2.1⟩ ⟨q.2.2.1, q.2.2.2.1⟩) →
    (∀ q : (List S72) × Int × (List S43) × Int × Int × Int, q.2.2.2.2.1 = q.2.2.2.2.2 → Inv ⟨q.1, q.2.1⟩ ⟨q.2.2.1, q.2.2.2.1⟩ → k q = some (.inl (q.1, q.2.1, q.2.2.1, q.2.2.2.1, (j : Int) + 1))) →
    ∃ s' : (List S72) × Int × (List S43) × Int, bindO D k = some (.inl (s'.1, s'.2.1, s'.2.2.1, s'.2.2.2, (j : Int) + 1)) ∧ Inv ⟨s'.1, s'.2.1⟩ ⟨s'.2.2.1, s'.2.2.2⟩ := by
   rintro D k ⟨q, hD, hq1, hq2⟩ hk
   refine ⟨(q.1, q.2.1, q.2.2.1, q.2.2.2.1), ?_, hq2⟩
   rw [hD]
   exact hk q hq1 hq2
  refine body _ _ ?_ ?_
  ·by_cases w1 : (w == 1) = true
   ·obtain ⟨s', m', e, b1, b2, b3⟩ := put_ok hN i key t row hrl
    rw [if_pos w1, b1, Option.bind_some, b2, Option.bind_some]
    exact ⟨_, rfl, rfl, b3⟩
   rw [if_neg w1]
   by_cases w2 : (w == 2) = true
   ·obtain ⟨s', m', e, b1, b2, b3⟩ := del_ok hN i key t
    rw [if_pos w2, b1, Option.bind_some, b2, Option.bind_some]
    exact ⟨_, rfl, rfl, b3⟩
   rw [if_neg w2]
   by_cases w3 : (w == 3) = true
   ·rw [if_pos w3, d13_ok hN i t, Option.bind_some]
    have e3 : (if t ≥ 0 then some (decide (t ≤ 1099511627776)) else some false) = some (decide (okT t)) := by
     by_cases h : t ≥ 0
     ·rw [if_pos h]
      by_cases h2 : t ≤ 1099511627776
      ·rw [decide_eq_true h2, decide_eq_true (show okT t from ⟨h, h2⟩)]
      ·rw [decide_eq_false h2, decide_eq_false (fun q : okT t => h2 q.2)]
     ·rw [if_neg h, decide_eq_false (fun q : okT t => h q.1)]
    rw [e3, Option.bind_some]
    by_cases hok : okT t
    ·rw [if_pos (decide_eq_true hok), if_pos hok, d14_ok hN i t, Option.bind_some]
     have hh : h = h' := i.hor
     by_cases hle : t ≤ h
     ·rw [if_pos hle, if_pos (show t ≤ (S36.mk vs h').Horizon by show t ≤ h'; omega)]
      exact ⟨_, rfl, rfl, i⟩
     ·rw [if_neg hle, if_neg (show ¬ t ≤ (S36.mk vs h').Horizon by show ¬ t ≤ h'; omega)]
      exact ⟨_, rfl, rfl, i.vac hok⟩
    ·rw [if_neg (by simpa using hok), if_neg hok]
     exact ⟨_, rfl, rfl, i⟩
   rw [if_neg w3]
   by_cases w4 : (w == 4) = true
   ·rw [if_pos w4, d15_ok hN i, Option.bind_some, d16_ok hN i, Option.bind_some]
    have e4 : (if t < (S36.mk vs h').Horizon then some ((21 : Int), ([] : List S53)) else if (!(!(cur (ofK key vs) t).2.1)) = true then some (4, []) else some (0, (cur (ofK key vs) t).2.2)) = some ((getR t h' (ofK key vs)).2, (getR t h' (ofK key vs)).1) := by
     unfold getR
     show (if t < h' then _ else _) = _
     by_cases c1 : t < h'
     ·rw [if_pos c1, if_pos c1]
     ·rw [if_neg c1, if_neg c1, Bool.not_not]
      by_cases c2 : (cur (ofK key vs) t).2.1 = true
      ·rw [if_pos c2, if_pos c2]
      ·rw [if_neg c2, if_neg c2]
    refine Exists.imp (fun q hq => hq) ?_
    show ∃ q, Option.bind (if t < (S36.mk vs h').Horizon then some ((21 : Int), ([] : List S53)) else if (!(!(cur (ofK key vs) t).2.1)) = true then some (4, []) else some (0, (cur (ofK key vs) t).2.2)) _ = _ ∧ _
    rw [e4, Option.bind_some]
    have hlen : (getR t h' (ofK key vs)).1.length ≤ 6 := by
     unfold getR
     split
     ·simp
     ·split
      ·simp
      ·show (cur (ofK key vs) t).2.2.length ≤ 6
       unfold cur
       split
       ·rename_i v hv
        exact row_ok i (k := key) (vis_mem hv)
       ·simp
    dsimp only
    rw [d17_refl hN _ (by omega), Option.bind_some, if_neg (by simp)]
    exact ⟨_, rfl, rfl, i⟩
   rw [if_neg w4]
   by_cases w5 : (w == 5) = true
   ·rw [if_pos w5, d18_ok hN i, Option.bind_some, d19_ok hN i, Option.bind_some]
    have e5 : (if t < (S36.mk vs h').Horizon then some ((21 : Int), ([] : List S79)) else some (0, recs cs t)) = some (if t < h' then ((21 : Int), ([] : List S79)) else (0, recs cs t)) := by
     show (if t < h' then _ else _) = _
     by_cases c1 : t < h'
     ·rw [if_pos c1, if_pos c1]
     ·rw [if_neg c1, if_neg c1]
    show ∃ q, Option.bind (if t < (S36.mk vs h').Horizon then some ((21 : Int), ([] : List S79)) else some (0, recs cs t)) _ = _ ∧ _
    rw [e5, Option.bind_some]
    show ∃ q, Option.bind (d20 N (if t < h' then (([] : List S79), (21 : Int)) else (recs cs t, 0)).1 (if t < h' then ((21 : Int), ([] : List S79)) else (0, recs cs t)).2) _ = _ ∧ _
    have hf := i.few
    have hrr := recs_row i t
    have hrl2 := recs_len cs t
    by_cases c1 : t < h'
    ·simp only [if_pos c1]
     rw [d20_refl hN [] (by simp) (fun x hx => by cases hx), Option.bind_some, if_neg (by simp)]
     exact ⟨_, rfl, by simp, i⟩
    ·simp only [if_neg c1]
     rw [d20_refl hN (recs cs t) (by simp only at hf; omega) hrr, Option.bind_some, if_neg (by simp)]
     exact ⟨_, rfl, by simp, i⟩
   rw [if_neg w5]
   exact ⟨_, rfl, rfl, i⟩
  ·rintro ⟨c1, c2, c3, c4, g1, g2⟩ hg i2
   have hg : g1 = g2 := hg
   subst hg
   have i2 : Inv ⟨c1, c2⟩ ⟨c3, c4⟩ := i2
   dsimp only
   rw [if_neg (by simp), d21_ok hN i2, Option.bind_some, if_neg (by simp), d7_ok hN i2, Option.bind_some, d22_ok hN i2, Option.bind_some, Option.bind_some, if_neg (by simp), chkI_of (by omega) (by omega), Option.bind_some]
 ·rintro ⟨cs, h, vs, h'⟩ i
  refine ⟨_, ?_, rfl⟩
  dsimp only
  rw [if_neg (by omega)]
 ·intro x hx; cases hx
 ·intro b _; rfl
end Go.Proofs.Ytifcmomjjkbboac
end
section
namespace Go.Proofs.Ytifcmomjjkbboac
open Go.Ab Go.Rp
open Go.Ab.Enc (eC eV)

abbrev RValue := Rp.St (Int × Int × ByteArray × Unit)
def toValue (t : RValue) : S53 := ⟨t.val.1, t.val.2.1, t.val.2.2.1⟩
theorem eC_rvalue (t : RValue) : (eC t : List D) = cS53 (toValue t) := rfl
theorem eC_row (l : List RValue) : (eC l : List D) = cL cS53 (l.map toValue) := by
 show [D.sl (l.map eC)] = [D.sl ((l.map toValue).map cS53)]
 rw [List.map_map]
 rfl

theorem mvcc_fun (a : List (List Int)) (b : List ByteArray) (c : List (List RValue)) (h0 : a.length * 24 ≤ reach) (h1 : b.length * 16 ≤ reach) (h2 : c.length * 24 ≤ reach) (h3 : ∀ r ∈ c, r.length * 32 ≤ reach) : Fun Try.prog 3 [eV a, eV b, eV c] (fun r _ => r = .d (.lit (.bool true))) := by
 have h := p3 9223372036854775808 a b (c.map (List.map toValue)) true (d3_true (Nat.le_refl _) a b _ (by unfold reach at h0; omega) (by unfold reach at h1; omega) (by rw [List.length_map]; unfold reach at h2; omega) (fun r hr => by
  obtain ⟨q, hq, rfl⟩ := List.mem_map.1 hr
  rw [List.length_map]
  exact h3 q hq))
 have e0 : (eV a : V) = .d (.sl (a.map (cL (cI .i64)))) := rfl
 have e1 : (eV b : V) = .d (.sl (b.map cS)) := rfl
 have e2 : (eV c : V) = .d (.sl ((c.map (List.map toValue)).map (cL cS53))) := by
  show V.d (.sl (c.map eC)) = _
  rw [List.map_map]
  congr 2
  exact List.map_congr_left fun l _ => eC_row l
 rw [e0, e1, e2]
 exact h.2.mono fun _ _ h => h.1
end Go.Proofs.Ytifcmomjjkbboac
end
