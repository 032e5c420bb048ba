/- Workspaces as functional programs: order of keys, the search, a workspace against a map. A workspace's entries against a map. Workspaces as functional programs: New, and the map that the law builds of the entries. SavepointMatchesReference as a functional program is true. The law's arguments as the functional program takes them. -/
import Derived.Test.YtdiekinmoklonacSv4
import Derived.Test.YtdiekinmoklonacA2
section
namespace Go.Proofs.Ytdiekinmoklonac
open Go.Ab Go.Rp Go.Sort

theorem iter_post {τ ρ : Type} (step : τ → Option (τ ⊕ ρ)) (μ : τ → Nat) (Inv : τ → Prop) (Post : ρ → Prop)
  (h : ∀ s, Inv s → (∃ s', step s = some (.inl s') ∧ Inv s' ∧ μ s' < μ s) ∨ ∃ r, step s = some (.inr r) ∧ Post r) :
  ∀ (n : Nat) (s : τ), Inv s → μ s < n → ∃ r, iterN step n s = some r ∧ Post r := by
 intro n
 induction n with
 | zero => intro s _ h; omega
 | succ n ih =>
  intro s hi hm
  rcases h s hi with ⟨s', h1, h2, h3⟩ | ⟨r, h1, h2⟩
  ·obtain ⟨r, h4, h5⟩ := ih s' h2 (by omega)
   exact ⟨r, by rw [iterN, h1]; exact h4, h5⟩
  ·exact ⟨r, by rw [iterN, h1], h2⟩
theorem loop_idx {σ τ ρ : Type} (len : Nat) (mkS : σ → Int → τ) (step : τ → Option (τ ⊕ ρ)) (Inv : Nat → σ → Prop) (Post : ρ → Prop)
  (hs : ∀ k s, k < len → Inv k s → (∃ s', step (mkS s k) = some (.inl (mkS s' ((k : Int) + 1))) ∧ Inv (k + 1) s') ∨ ∃ r, step (mkS s k) = some (.inr r) ∧ Post r)
  (he : ∀ s, Inv len s → ∃ r, step (mkS s len) = some (.inr r) ∧ Post r) (s0 : σ) (h0 : Inv 0 s0) {n : Nat} (hn : len < n) : ∃ r, iterN step n (mkS s0 0) = some r ∧ Post r := by
 have key : ∀ (m k : Nat) (s : σ), k ≤ len → len - k < m → Inv k s → ∃ r, iterN step m (mkS s k) = some r ∧ Post r := by
  intro m
  induction m with
  | zero => intro k s _ h; omega
  | succ m ih =>
   intro k s hk hm hi
   rw [iterN_succ]
   by_cases hlt : k < len
   ·rcases hs k s hlt hi with ⟨s', h1, h2⟩ | ⟨r, h1, h2⟩
    ·rw [h1]
     exact ih (k + 1) s' (by omega) (by omega) h2
    ·rw [h1]; exact ⟨r, rfl, h2⟩
   ·obtain rfl : k = len := by omega
    obtain ⟨r, h1, h2⟩ := he s hi
    rw [h1]
    exact ⟨r, rfl, h2⟩
 exact key n 0 s0 (Nat.zero_le _) (by omega) h0
theorem get_of {α : Type} {l : List α} {k : Nat} (h : k < l.length) : ∃ a, l[k]? = some a := ⟨l[k], List.getElem?_eq_getElem h⟩
theorem bind_ex {α β : Type} {d : Option α} {k : α → Option β} {P : α → Prop} {Q : β → Prop} (h : ∃ s, d = some s ∧ P s) (h2 : ∀ s, P s → ∃ r, k s = some r ∧ Q r) : ∃ r, d.bind k = some r ∧ Q r := by
 obtain ⟨s, rfl, hp⟩ := h
 exact h2 s hp
theorem bind_eq {α β : Type} {d : Option α} {k : α → Option β} {P : α → Prop} {r : β} (h : ∃ s, d = some s ∧ P s) (h2 : ∀ s, P s → k s = some r) : d.bind k = some r := by
 obtain ⟨s, rfl, hp⟩ := h
 exact h2 s hp
theorem bindO_eq {β ρ : Type} {d : Option (Out β ρ)} {k : β → Option ρ} {P : Out β ρ → Prop} {r : ρ} (h : ∃ s, d = some s ∧ P s) (h1 : ∀ x, P (.ret x) → x = r) (h2 : ∀ b, P (.go b) → k b = some r) : bindO d k = some r := by
 obtain ⟨s, rfl, hp⟩ := h
 cases s with
 | go b => exact h2 b hp
 | ret x => show some x = some r; rw [h1 x hp]

/-! ### the order of keys -/
theorem cmpL : ∀ (x y : List UInt8), (Lib.compareBytes x y < 0 ↔ x < y) ∧ (Lib.compareBytes x y = 0 ↔ x = y)
 | [], [] => by simp [Lib.compareBytes]
 | [], _ :: _ => by simp [Lib.compareBytes]
 | _ :: _, [] => by simp [Lib.compareBytes]
 | a :: x, b :: y => by
  obtain ⟨h1, h2⟩ := cmpL x y
  unfold Lib.compareBytes
  rw [List.cons_lt_cons_iff]
  by_cases hab : a < b
  ·rw [if_pos hab]
   refine ⟨by simp [hab], ⟨fun h => (by cases h), fun h => ?_⟩⟩
   injection h with h3 h4
   subst h3
   exact absurd hab (UInt8.lt_irrefl a)
  ·rw [if_neg hab]
   by_cases hba : b < a
   ·rw [if_pos hba]
    have hne : a ≠ b := fun e => UInt8.lt_irrefl a (by rw [e] at hba ⊢; exact hba)
    refine ⟨⟨fun h => (by omega), fun h => ?_⟩, ⟨fun h => (by cases h), fun h => ?_⟩⟩
    ·rcases h with h | ⟨h, _⟩
     ·exact absurd h hab
     ·exact absurd h hne
    ·injection h with h3 h4
     exact absurd h3 hne
   ·rw [if_neg hba]
    have he : a = b := by
     apply UInt8.toNat_inj.1
     have a1 : ¬ a.toNat < b.toNat := fun h => hab (UInt8.lt_iff_toNat_lt.2 h)
     have a2 : ¬ b.toNat < a.toNat := fun h => hba (UInt8.lt_iff_toNat_lt.2 h)
     omega
    subst he
    refine ⟨⟨fun h => .inr ⟨rfl, h1.1 h⟩, fun h => h1.2 ?_⟩, ⟨fun h => (by rw [h2.1 h]), fun h => h2.2 ?_⟩⟩
    ·rcases h with h | ⟨_, h⟩
     ·exact absurd h hab
     ·exact h
    ·injection h
abbrev bs (s : ByteArray) : List UInt8 := s.data.toList
theorem bs_inj {a b : ByteArray} (h : bs a = bs b) : a = b := by
 cases a; cases b
 simp only [bs] at h
 congr 1
 exact Array.toList_inj.1 h
def klt (a b : ByteArray) : Prop := bs a < bs b
theorem klt_irrefl (a : ByteArray) : ¬ klt a a := List.lt_irrefl _
theorem klt_trans {a b c : ByteArray} (h : klt a b) (k : klt b c) : klt a c := List.lt_trans h k
theorem klt_ne {a b : ByteArray} (h : klt a b) : a ≠ b := fun e => klt_irrefl b (e ▸ h)
theorem klt_tri {a b : ByteArray} (h : ¬ klt a b) : a = b ∨ klt b a := by
 have h1 : bs b ≤ bs a := List.not_lt.1 h
 by_cases h2 : bs a ≤ bs b
 ·exact .inl (bs_inj (List.le_antisymm h2 h1))
 ·exact .inr (List.not_le.1 h2)
theorem bytesLess_klt {a b : ByteArray} : Op.bytesLess a.toList b.toList = true ↔ klt a b := by
 rw [ByteArray.toList_eq, ByteArray.toList_eq, bytesLess_eq, decide_eq_true_eq]; rfl
theorem d26_ok (N : Nat) (e : S30) (k : ByteArray) : ∃ c, d26 N e k = some c ∧ (c < 0 ↔ klt e.Key k) ∧ (c = 0 ↔ e.Key = k) :=
 ⟨_, rfl, (cmpL _ _).1, (cmpL _ _).2.trans ⟨bs_inj, fun h => by rw [h]⟩⟩

/-! ### the search -/
def Srt (es : List S30) : Prop := es.Pairwise fun x y => klt x.Key y.Key
theorem Srt.get {es : List S30} (h : Srt es) {i j : Nat} {x y : S30} (hij : i < j) (hx : es[i]? = some x) (hy : es[j]? = some y) : klt x.Key y.Key := by
 obtain ⟨h1, rfl⟩ := List.getElem?_eq_some_iff.1 hx
 obtain ⟨h2, rfl⟩ := List.getElem?_eq_some_iff.1 hy
 exact List.pairwise_iff_getElem.1 h i j h1 h2 hij
theorem mid_ok {i j : Nat} (h : i < j) (hj : j ≤ 1000) : chkI ((i : Int) + (j : Int)) = some ((i + j : Nat) : Int) ∧ shrI (IntKind.u64.wrap ((i + j : Nat) : Int)) 1 = (((i + j) / 2 : Nat) : Int) := by
 refine ⟨by rw [chkI_of (by omega) (by omega)]; congr 1, ?_⟩
 have : IntKind.u64.wrap ((i + j : Nat) : Int) = ((i + j : Nat) : Int) := by
  simp only [IntKind.wrap, IntKind.signed, IntKind.bits]
  simp
  omega
 rw [this]
 unfold shrI
 rw [Int.fdiv_eq_ediv_of_nonneg _ (by decide)]
 simp
theorem d25_ok {N : Nat} (hN : bigN N) {es : List S30} (hs : Srt es) (hl : es.length ≤ 1000) (k : ByteArray) (p2 : S30 → ByteArray → Option Int) (hp : ∀ e, ∃ c, p2 e k = some c ∧ (c < 0 ↔ klt e.Key k) ∧ (c = 0 ↔ e.Key = k)) :
  ∃ i : Nat, i ≤ es.length ∧ (∀ x e, x < i → es[x]? = some e → klt e.Key k) ∧ (∀ x e, i ≤ x → es[x]? = some e → ¬ klt e.Key k) ∧
   d25 N es k p2 = some ((i : Int), match es[i]? with | some e => decide (e.Key = k) | none => false) := by
 have hN : 9223372036854775808 ≤ N := hN
 unfold d25
 have loop := iter_post (fun ((v11, v12) : (Int × Int)) =>
   if v11 < v12 then (
    (chkI (v11 + v12)).bind fun v37 =>
    letv (IntKind.u64.wrap (v37)) fun v38 =>
    letv (shrI v38 1) fun v39 =>
    (chkI (v39)).bind fun v40 =>
    (idx es v40).bind fun x41 =>
    (p2 x41 k).bind fun r43 =>
    if r43 < 0 then (
     (chkI (v40 + 1)).bind fun v45 =>
     some (Sum.inl (v45, v12))
    ) else
    some (Sum.inl (v11, v40))
   ) else
   some (Sum.inr v11)) (fun s => (s.2 - s.1).toNat)
   (fun s => ∃ i j : Nat, s = ((i : Int), (j : Int)) ∧ i ≤ j ∧ j ≤ es.length ∧ (∀ x e, x < i → es[x]? = some e → klt e.Key k) ∧ (∀ x e, j ≤ x → es[x]? = some e → ¬ klt e.Key k))
   (fun r => ∃ i : Nat, r = (i : Int) ∧ i ≤ es.length ∧ (∀ x e, x < i → es[x]? = some e → klt e.Key k) ∧ (∀ x e, i ≤ x → es[x]? = some e → ¬ klt e.Key k)) (by
  rintro s ⟨i, j, rfl, h1, h2, h3, h4⟩
  by_cases hij : i < j
  ·obtain ⟨m1, m2⟩ := mid_ok hij (by omega)
   obtain ⟨e, he⟩ := get_of (l := es) (k := (i + j) / 2) (by omega)
   obtain ⟨c, hc, hc1, hc2⟩ := hp e
   refine .inl ?_
   dsimp only
   rw [if_pos (by omega), m1, Option.bind_some, letv_eq, letv_eq, m2, chkI_of (by omega) (by omega), Option.bind_some, idx_nat he, Option.bind_some, hc, Option.bind_some]
   by_cases hcl : c < 0
   ·rw [if_pos hcl, chkI_of (by omega) (by omega), Option.bind_some]
    refine ⟨_, rfl, ⟨(i + j) / 2 + 1, j, rfl, by omega, h2, fun x e' hx hx2 => ?_, h4⟩, by omega⟩
    by_cases hxe : x = (i + j) / 2
    ·rw [hxe, he] at hx2
     injection hx2 with hx2
     rw [← hx2]; exact hc1.1 hcl
    ·exact klt_trans (hs.get (by omega) hx2 he) (hc1.1 hcl)
   ·rw [if_neg hcl]
    refine ⟨_, rfl, ⟨i, (i + j) / 2, rfl, by omega, by omega, h3, fun x e' hx hx2 hk => ?_⟩, by omega⟩
    by_cases hxe : x = (i + j) / 2
    ·rw [hxe, he] at hx2
     injection hx2 with hx2
     rw [← hx2] at hk
     exact hcl (hc1.2 hk)
    ·exact hcl (hc1.2 (klt_trans (hs.get (by omega) he hx2) hk))
  ·obtain rfl : i = j := by omega
   exact .inr ⟨_, if_neg (by omega), i, rfl, h2, h3, h4⟩) N (0, (es.length : Int)) ⟨0, es.length, rfl, Nat.zero_le _, Nat.le_refl _, fun x e hx => by omega, fun x e hx hx2 => by rw [List.getElem?_eq_none hx] at hx2; cases hx2⟩ (by simp; omega)
 obtain ⟨r, h1, i, rfl, h2, h3, h4⟩ := loop
 refine ⟨i, h2, h3, h4, ?_⟩
 rw [show iterN _ N _ = _ from h1, Option.bind_some]
 by_cases hi : i < es.length
 ·obtain ⟨e, he⟩ := get_of hi
  obtain ⟨c, hc, hc1, hc2⟩ := hp e
  rw [if_pos (by omega), idx_nat he, Option.bind_some, hc, Option.bind_some, Option.bind_some, he]
  have : (c == 0) = decide (e.Key = k) := by
   rw [Bool.eq_iff_iff, decide_eq_true_eq, ← hc2]; simp
  rw [this]
 ·rw [if_neg (by omega), Option.bind_some, List.getElem?_eq_none (by omega)]

/-- what the search finds -/
def Found (es : List S30) (k : ByteArray) (A : List S30) (e : S30) (B : List S30) : Prop := es = A ++ e :: B ∧ e.Key = k ∧ (∀ a ∈ A, klt a.Key k) ∧ ∀ b ∈ B, klt k b.Key
def Miss (es : List S30) (k : ByteArray) (A B : List S30) : Prop := es = A ++ B ∧ (∀ a ∈ A, klt a.Key k) ∧ ∀ b ∈ B, klt k b.Key
theorem d14_ok {N : Nat} (hN : bigN N) {es : List S30} (hs : Srt es) (hl : es.length ≤ 1000) (k : ByteArray) :
  (∃ A e B, Found es k A e B ∧ ∀ sp, d14 N ⟨es, sp⟩ k = some ((A.length : Int), true)) ∨ ∃ A B, Miss es k A B ∧ ∀ sp, d14 N ⟨es, sp⟩ k = some ((A.length : Int), false) := by
 obtain ⟨i, h1, h2, h3, h4⟩ := d25_ok hN hs hl k (fun b0 b1 => d26 N b0 b1) (fun e => d26_ok N e k)
 have hA : ∀ a ∈ es.take i, klt a.Key k := fun a ha => by
  obtain ⟨x, hx, rfl⟩ := List.mem_take_iff_getElem.1 ha
  exact h2 x _ (by omega) (List.getElem?_eq_getElem (by omega))
 have hlen : (es.take i).length = i := by rw [List.length_take]; omega
 have hd : ∀ sp b, d25 N es k (fun b0 b1 => d26 N b0 b1) = some ((i : Int), b) → d14 N ⟨es, sp⟩ k = some (((es.take i).length : Int), b) := fun sp b h => by
  unfold d14
  rw [h, Option.bind_some, hlen]
 have htail : ∀ y b, i < y → es[y]? = some b → ∀ e, es[i]? = some e → klt e.Key b.Key := fun y b hy hb e he => hs.get hy he hb
 by_cases hi : i < es.length
 ·obtain ⟨e, he⟩ := get_of hi
  have hsp : es = es.take i ++ e :: es.drop (i + 1) := by
   obtain ⟨h5, h6⟩ := List.getElem?_eq_some_iff.1 he
   rw [← h6, ← List.drop_eq_getElem_cons hi, List.take_append_drop]
  have hB : ∀ b ∈ es.drop (i + 1), klt e.Key b.Key := fun b hb => by
   obtain ⟨y, hy, rfl⟩ := List.mem_drop_iff_getElem.1 hb
   exact htail (i + 1 + y) _ (by omega) (List.getElem?_eq_getElem (by omega)) e he
  rw [he] at h4
  by_cases hk : e.Key = k
  ·refine .inl ⟨es.take i, e, es.drop (i + 1), ⟨hsp, hk, hA, fun b hb => hk ▸ hB b hb⟩, fun sp => hd sp _ ?_⟩
   rw [h4]; simp [hk]
  ·have hke : klt k e.Key := (klt_tri (h3 i e (Nat.le_refl _) he)).resolve_left hk
   refine .inr ⟨es.take i, es.drop i, ⟨(List.take_append_drop i es).symm, hA, fun b hb => ?_⟩, fun sp => hd sp _ ?_⟩
   ·rw [List.drop_eq_getElem_cons hi] at hb
    rcases List.mem_cons.1 hb with rfl | hb
    ·obtain ⟨h5, h6⟩ := List.getElem?_eq_some_iff.1 he
     rw [h6]; exact hke
    ·exact klt_trans hke (hB b hb)
   ·rw [h4]; simp [hk]
 ·refine .inr ⟨es.take i, es.drop i, ⟨(List.take_append_drop i es).symm, hA, fun b hb => ?_⟩, fun sp => hd sp _ ?_⟩
  ·rw [List.drop_eq_nil_of_le (by omega)] at hb; cases hb
  ·rw [h4, List.getElem?_eq_none (by omega)]
theorem d22_ok {N : Nat} (hN : bigN N) {es : List S30} (hs : Srt es) (hl : es.length ≤ 1000) (sp : List (List S30)) (k : ByteArray) :
  (∃ A e B, Found es k A e B ∧ d22 N ⟨es, sp⟩ k = some (e.Value, 0)) ∨ ∃ A B, Miss es k A B ∧ d22 N ⟨es, sp⟩ k = some (0, 4) := by
 unfold d22
 rcases d14_ok hN hs hl k with ⟨A, e, B, hf, h⟩ | ⟨A, B, hf, h⟩
 ·refine .inl ⟨A, e, B, hf, ?_⟩
  rw [h, Option.bind_some, if_neg (by simp)]
  have : es[A.length]? = some e := by rw [hf.1]; simp
  rw [idx_nat this]; rfl
 ·refine .inr ⟨A, B, hf, ?_⟩
  rw [h, Option.bind_some, if_pos (by simp)]
end Go.Proofs.Ytdiekinmoklonac
end
section
namespace Go.Proofs.Ytdiekinmoklonac
open Go.Ab Go.Rp Go.Sort

def ent (p : ByteArray × Int) : S30 := ⟨p.1, p.2⟩
/-- the entries are the map's, in order -/
def Rel (es : List S30) (m : List (ByteArray × Int)) : Prop := Srt es ∧ (m.map ent).Perm es
theorem Srt.nodup {es : List S30} (h : Srt es) : (es.map (·.Key)).Nodup := List.pairwise_map.2 (h.imp fun h => klt_ne h)
theorem Rel.nodup {es : List S30} {m : List (ByteArray × Int)} (h : Rel es m) : (m.map (·.1)).Nodup := by
 have h1 : (m.map (·.1)) = (m.map ent).map (·.Key) := by rw [List.map_map]; rfl
 rw [h1]
 exact ((h.2.map (·.Key)).nodup_iff).2 h.1.nodup
theorem Rel.len {es : List S30} {m : List (ByteArray × Int)} (h : Rel es m) : m.length = es.length := by
 have := h.2.length_eq
 rwa [List.length_map] at this
theorem mget_mem : ∀ {m : List (ByteArray × Int)} {k : ByteArray} {v : Int}, (m.map (·.1)).Nodup → (k, v) ∈ m → mget m k = some v
 | [], _, _, _, h => by cases h
 | (a, x) :: m, k, v, hn, h => by
  rw [List.map_cons, List.nodup_cons] at hn
  rw [mget_cons]
  rcases List.mem_cons.1 h with h | h
  ·injection h with h1 h2
   rw [if_pos h1.symm, h2]
  ·have : a ≠ k := fun e => hn.1 (e ▸ List.mem_map.2 ⟨(k, v), h, rfl⟩)
   rw [if_neg this]
   exact mget_mem hn.2 h
theorem mget_none : ∀ {m : List (ByteArray × Int)} {k : ByteArray}, (∀ p ∈ m, p.1 ≠ k) → mget m k = none
 | [], _, _ => rfl
 | (a, x) :: m, k, h => by
  rw [mget_cons, if_neg (h _ (.head _))]
  exact mget_none fun p hp => h p (.tail _ hp)
theorem Rel.mem {es : List S30} {m : List (ByteArray × Int)} (h : Rel es m) {e : S30} (he : e ∈ es) : (e.Key, e.Value) ∈ m := by
 obtain ⟨p, hp, h2⟩ := List.mem_map.1 (h.2.mem_iff.2 he)
 rw [← h2]; exact hp
theorem Rel.mem' {es : List S30} {m : List (ByteArray × Int)} (h : Rel es m) {p : ByteArray × Int} (hp : p ∈ m) : ent p ∈ es := h.2.mem_iff.1 (List.mem_map.2 ⟨p, hp, rfl⟩)
theorem Found.mem {es A B : List S30} {k : ByteArray} {e : S30} (h : Found es k A e B) : e ∈ es := by rw [h.1]; simp
theorem Found.other {es A B : List S30} {k : ByteArray} {e : S30} (h : Found es k A e B) : (∀ a ∈ A, a.Key ≠ k) ∧ ∀ b ∈ B, b.Key ≠ k := ⟨fun a ha => klt_ne (h.2.2.1 a ha), fun b hb => (klt_ne (h.2.2.2 b hb)).symm⟩
theorem Miss.other {es A B : List S30} {k : ByteArray} (h : Miss es k A B) : ∀ e ∈ es, e.Key ≠ k := fun e he => by
 rw [h.1] at he
 rcases List.mem_append.1 he with he | he
 ·exact klt_ne (h.2.1 e he)
 ·exact (klt_ne (h.2.2 e he)).symm
theorem Rel.found {es A B : List S30} {m : List (ByteArray × Int)} {k : ByteArray} {e : S30} (h : Rel es m) (hf : Found es k A e B) : mget m k = some e.Value :=
 mget_mem h.nodup (by have := h.mem hf.mem; rwa [hf.2.1] at this)
theorem Rel.miss {es A B : List S30} {m : List (ByteArray × Int)} {k : ByteArray} (h : Rel es m) (hf : Miss es k A B) : mget m k = none :=
 mget_none fun _p hp => hf.other _ (h.mem' hp)

theorem srt_mid {A B : List S30} {k : ByteArray} {v : Int} (hA : Srt A) (hB : Srt B) (h1 : ∀ a ∈ A, klt a.Key k) (h2 : ∀ b ∈ B, klt k b.Key) : Srt (A ++ ⟨k, v⟩ :: B) := by
 refine List.pairwise_append.2 ⟨hA, List.pairwise_cons.2 ⟨h2, hB⟩, fun a ha b hb => ?_⟩
 rcases List.mem_cons.1 hb with rfl | hb
 ·exact h1 a ha
 ·exact klt_trans (h1 a ha) (h2 b hb)
theorem srt_out {A B : List S30} {k : ByteArray} (hA : Srt A) (hB : Srt B) (h1 : ∀ a ∈ A, klt a.Key k) (h2 : ∀ b ∈ B, klt k b.Key) : Srt (A ++ B) :=
 List.pairwise_append.2 ⟨hA, hB, fun a ha b hb => klt_trans (h1 a ha) (h2 b hb)⟩
theorem Found.srt {es A B : List S30} {k : ByteArray} {e : S30} (h : Found es k A e B) (hs : Srt es) : Srt A ∧ Srt B := by
 rw [h.1] at hs
 have := List.pairwise_append.1 hs
 exact ⟨this.1, (List.pairwise_cons.1 this.2.1).2⟩
theorem Miss.srt {es A B : List S30} {k : ByteArray} (h : Miss es k A B) (hs : Srt es) : Srt A ∧ Srt B := by
 rw [h.1] at hs
 have := List.pairwise_append.1 hs
 exact ⟨this.1, this.2.1⟩
theorem map_id_of {α : Type} {f : α → α} : ∀ {l : List α}, (∀ x ∈ l, f x = x) → l.map f = l
 | [], _ => rfl
 | x :: l, h => by rw [List.map_cons, h x (.head _), map_id_of fun y hy => h y (.tail _ hy)]
theorem Rel.put_found {es A B : List S30} {m : List (ByteArray × Int)} {k : ByteArray} {e : S30} (h : Rel es m) (hf : Found es k A e B) (v : Int) : Rel (A ++ ⟨k, v⟩ :: B) (mput m k v) := by
 obtain ⟨hA, hB⟩ := hf.srt h.1
 refine ⟨srt_mid hA hB hf.2.2.1 hf.2.2.2, ?_⟩
 unfold mput
 rw [h.found hf, if_pos (show (some e.Value).isSome = true from rfl)]
 let f : S30 → S30 := fun x => if x.Key = k then ⟨k, v⟩ else x
 have h1 : (m.map fun p => if p.1 = k then (k, v) else p).map ent = (m.map ent).map f := by
  rw [List.map_map, List.map_map]
  refine List.map_congr_left fun p _ => ?_
  simp only [Function.comp, f, ent]
  by_cases hk : p.1 = k <;> simp [hk]
 have h2 : es.map f = A ++ ⟨k, v⟩ :: B := by
  rw [hf.1, List.map_append, List.map_cons, map_id_of (fun x hx => if_neg (hf.other.1 x hx)), map_id_of (fun x hx => if_neg (hf.other.2 x hx))]
  simp only [f]
  rw [if_pos hf.2.1]
 rw [h1, ← h2]
 exact h.2.map f
theorem Rel.put_miss {es A B : List S30} {m : List (ByteArray × Int)} {k : ByteArray} (h : Rel es m) (hf : Miss es k A B) (v : Int) : Rel (A ++ ⟨k, v⟩ :: B) (mput m k v) := by
 obtain ⟨hA, hB⟩ := hf.srt h.1
 refine ⟨srt_mid hA hB hf.2.1 hf.2.2, ?_⟩
 unfold mput
 rw [h.miss hf, if_neg (by simp), List.map_append]
 refine (List.perm_append_comm.trans ?_).trans List.perm_middle.symm
 exact List.Perm.cons _ (h.2.trans (by rw [hf.1]))
theorem filter_all {α : Type} {p : α → Bool} : ∀ {l : List α}, (∀ x ∈ l, p x = true) → l.filter p = l
 | [], _ => rfl
 | x :: l, h => by rw [List.filter_cons_of_pos (h x (.head _)), filter_all fun y hy => h y (.tail _ hy)]
theorem Rel.del {es A B : List S30} {m : List (ByteArray × Int)} {k : ByteArray} {e : S30} (h : Rel es m) (hf : Found es k A e B) : Rel (A ++ B) (Go.Ab.mdel m k) := by
 obtain ⟨hA, hB⟩ := hf.srt h.1
 refine ⟨srt_out hA hB hf.2.2.1 hf.2.2.2, ?_⟩
 unfold Go.Ab.mdel
 let q : S30 → Bool := fun x => !decide (x.Key = k)
 have h1 : (m.filter fun p => !decide (p.1 = k)).map ent = (m.map ent).filter q := by rw [List.filter_map]; rfl
 have h2 : es.filter q = A ++ B := by
  rw [hf.1, List.filter_append, List.filter_cons_of_neg (by simp [q, hf.2.1]), filter_all (fun x hx => by simp [q, hf.other.1 x hx]), filter_all (fun x hx => by simp [q, hf.other.2 x hx])]
 rw [h1, ← h2]
 exact h.2.filter q
theorem rel_nil : Rel [] [] := ⟨List.Pairwise.nil, .refl _⟩

/-- the keys of the map, sorted -/
theorem skeys_ok {es : List S30} {m : List (ByteArray × Int)} (h : Rel es m) : skeys m = es.map (·.Key) := by
 unfold skeys
 have h1 : (m.map fun p => p.1.data.toList).Perm (es.map fun e => bs e.Key) := by
  have := h.2.map fun e => bs e.Key
  rwa [List.map_map] at this
 have tr : ∀ a b c : List UInt8, leB a b = true → leB b c = true → leB a c = true := fun a b c h1 h2 => by simp only [leB, decide_eq_true_eq] at *; exact List.le_trans h1 h2
 have to : ∀ a b : List UInt8, (leB a b || leB b a) = true := fun a b => by simp only [leB, Bool.or_eq_true, decide_eq_true_eq]; exact List.le_total a b
 have hs : (es.map fun e => bs e.Key).Pairwise (fun a b => leB a b = true) := List.pairwise_map.2 (h.1.imp fun {a b} hab => by
  simp only [leB, decide_eq_true_eq]
  exact List.le_of_lt hab)
 rw [mergeSort_of_perm h1, List.mergeSort_of_pairwise hs, List.map_map]
 exact List.map_congr_left fun e _ => rfl

/-! ### the operations -/
theorem setM_mid {A B : List S30} {e x : S30} : setI (A ++ e :: B) (A.length : Int) x = A ++ x :: B := by
 unfold setI
 simp
theorem idxM_mid {A B : List S30} {e : S30} : idx (A ++ e :: B) (A.length : Int) = some e := idx_nat (by simp)
theorem insM_mid {A B : List S30} {x : S30} (h : (A ++ B).length ≤ 1000) : insL 24 (A ++ B) (A.length : Int) [x] = some (A ++ x :: B) := by
 unfold insL
 rw [if_pos ⟨by omega, by simp; omega, by unfold reach; omega⟩]
 simp
theorem delM_mid {A B : List S30} {e : S30} : delL (A ++ e :: B) (A.length : Int) ((A.length : Int) + 1) = some (A ++ B) := by
 unfold delL
 rw [if_pos ⟨by omega, by omega, by simp; omega⟩]
 have : (((A.length : Int) + 1).toNat) = A.length + 1 := by omega
 rw [this]
 simp

theorem d8_big {N : Nat} {es : List S30} {sp : List (List S30)} {k : ByteArray} {v : Int} (h : (k.size : Int) > 24) : d8 N ⟨es, sp⟩ k v = some (⟨es, sp⟩, 2) := by
 unfold d8
 rw [if_pos h]
theorem d8_ok {N : Nat} (hN : bigN N) {es : List S30} (hs : Srt es) (hl : es.length ≤ 40) (sp : List (List S30)) {k : ByteArray} (v : Int) (h : ¬ (k.size : Int) > 24) :
  (∃ A e B, Found es k A e B ∧ d8 N ⟨es, sp⟩ k v = some (⟨A ++ ⟨k, v⟩ :: B, sp⟩, 0)) ∨
  (∃ A B, Miss es k A B ∧ ((es.length = 40 ∧ d8 N ⟨es, sp⟩ k v = some (⟨es, sp⟩, 18)) ∨ (es.length < 40 ∧ d8 N ⟨es, sp⟩ k v = some (⟨A ++ ⟨k, v⟩ :: B, sp⟩, 0)))) := by
 unfold d8
 rw [if_neg h]
 rcases d14_ok hN hs (by omega) k with ⟨A, e, B, hf, hd⟩ | ⟨A, B, hf, hd⟩
 ·refine .inl ⟨A, e, B, hf, ?_⟩
  rw [hd, Option.bind_some, if_neg (by simp), Option.bind_some, if_neg (by simp), if_pos rfl]
  dsimp only
  rw [hf.1, idxM_mid, Option.bind_some, letv_eq, hf.2.1, setM_mid]
 ·refine .inr ⟨A, B, hf, ?_⟩
  rw [hd, Option.bind_some, if_pos (by simp), Option.bind_some]
  dsimp only
  by_cases hc : es.length = 40
  ·exact .inl ⟨hc, by rw [if_pos (by simp [hc])]⟩
  ·refine .inr ⟨by omega, ?_⟩
   rw [if_neg (by simp; omega), if_neg (by simp)]
   unfold d16
   rw [hf.1, insM_mid (by rw [← hf.1]; omega)]
   rfl
theorem d5_ok {N : Nat} (hN : bigN N) {es : List S30} (hs : Srt es) (hl : es.length ≤ 40) (sp : List (List S30)) (k : ByteArray) :
  (∃ A e B, Found es k A e B ∧ d5 N ⟨es, sp⟩ k = some (⟨A ++ B, sp⟩, 0)) ∨ ∃ A B, Miss es k A B ∧ d5 N ⟨es, sp⟩ k = some (⟨es, sp⟩, 4) := by
 unfold d5
 rcases d14_ok hN hs (by omega) k with ⟨A, e, B, hf, hd⟩ | ⟨A, B, hf, hd⟩
 ·refine .inl ⟨A, e, B, hf, ?_⟩
  have : A.length ≤ 40 := by
   have := congrArg List.length hf.1
   simp at this
   omega
  rw [hd, Option.bind_some, if_neg (by simp)]
  dsimp only
  rw [chkI_of (by omega) (by omega), Option.bind_some]
  unfold d15
  rw [hf.1, delM_mid]
  rfl
 ·refine .inr ⟨A, B, hf, ?_⟩
  rw [hd, Option.bind_some, if_pos (by simp)]

/-! ### the comparison -/
theorem d23_same {N : Nat} (hN : bigN N) (es : List S30) (hl : es.length ≤ 1000) : d23 N es es = some true := by
 have hN : 9223372036854775808 ≤ N := hN
 unfold d23
 rw [if_neg (by simp)]
 refine bindO_eq (P := fun o => o = .go ()) (loop_idx (σ := Unit) (τ := Int) es.length (fun _ j => j) _ (fun _ _ => True) _ ?_ ?_ () trivial (n := N) (by omega)) ?_ ?_
 ·intro k s hk _
  obtain ⟨x, hx⟩ := get_of hk
  try dsimp only
  rw [if_pos (by omega), idx_nat hx, Option.bind_some, Option.bind_some, if_neg (by simp [beqS30]), chkI_of (by omega) (by omega)]
  exact .inl ⟨(), rfl, trivial⟩
 ·intro s _
  try dsimp only
  rw [if_neg (by omega)]
  exact ⟨_, rfl, rfl⟩
 ·intro x h; cases h
 ·intro b _; rfl
theorem take_get {α : Type} {xs : List α} {k : Nat} {x : α} (h : xs[k]? = some x) : xs.take (k + 1) = xs.take k ++ [x] := by
 rw [List.take_add_one, h]; rfl
theorem d13_ok {N : Nat} (hN : bigN N) {es : List S30} {m : List (ByteArray × Int)} (h : Rel es m) (hl : es.length ≤ 40) (hk : ∀ e ∈ es, e.Key.size ≤ 24) (sp : List (List S30)) (k : ByteArray) : d13 N ⟨es, sp⟩ m k = some true := by
 have hN' : 9223372036854775808 ≤ N := hN
 unfold d13
 have hkeys : keysL m = some (es.map (·.Key)) := by
  unfold keysL
  rw [if_pos, skeys_ok h]
  refine ⟨by rw [h.len]; omega, fun p hp => ?_⟩
  have := hk _ (h.mem' hp)
  have h2 : p.1.size ≤ 24 := this
  unfold maxLen
  omega
 rw [hkeys, Option.bind_some]
 have hrun : ∃ r, iterN (σ := ((List S30) × Int)) (ρ := List S30) (fun ((l7, v8) : ((List S30) × Int)) =>
   if v8 < ((es.map (·.Key)).length : Int) then (
    (idx (es.map (·.Key)) v8).bind fun x25 =>
    letv ((mget m x25).getD 0) fun v27 =>
    (appL 24 l7 [(S30.mk x25 v27)]).bind fun l28 =>
    (chkI (v8 + 1)).bind fun v29 =>
    some (.inl ((l7 ++ [(S30.mk x25 v27)]), v29))
   ) else
   some (.inr l7)
  ) N (([] : List S30), 0) = some r ∧ r = es := by
  refine loop_idx (σ := List S30) (τ := List S30 × Int) es.length (fun s j => (s, j)) _ (fun k s => s = es.take k) _ ?_ ?_ [] (by simp) (n := N) (by omega)
  ·rintro j s hj rfl
   obtain ⟨x, hx⟩ := get_of hj
   dsimp only
   have hx2 : (es.map (·.Key))[j]? = some x.Key := by rw [List.getElem?_map, hx]; rfl
   have hm : mget m x.Key = some x.Value := mget_mem h.nodup (h.mem (List.mem_of_getElem? hx))
   rw [if_pos (by rw [List.length_map]; omega), idx_nat hx2, Option.bind_some, letv_eq, hm, appL_of (by rw [List.length_take]; unfold reach; simp; omega), Option.bind_some, chkI_of (by omega) (by omega), Option.bind_some]
   exact .inl ⟨_, rfl, by rw [take_get hx]; rfl⟩
  ·rintro s rfl
   dsimp only
   rw [if_neg (by rw [List.length_map]; omega)]
   exact ⟨_, rfl, by rw [List.take_length]⟩
 refine bind_eq hrun ?_
 rintro l rfl
 have hall : d24 N ⟨l, sp⟩ = some l := by
  unfold d24 d17
  dsimp only
  rw [if_pos (by unfold reach; omega)]
  rfl
 rcases d22_ok hN h.1 (by omega) sp k with ⟨A, e, B, hf, hd⟩ | ⟨A, B, hf, hd⟩
 ·rw [hd, Option.bind_some, letv_eq, letv_eq, h.found hf]
  rw [if_pos (by simp), if_pos (by simp), if_pos (by simp), hall, Option.bind_some, d23_same hN l (by omega)]
  rfl
 ·rw [hd, Option.bind_some, letv_eq, letv_eq, h.miss hf]
  rw [if_pos (by simp), if_pos (by simp), if_neg (by simp), if_pos (by simp), hall, Option.bind_some, d23_same hN l (by omega)]
  rfl
end Go.Proofs.Ytdiekinmoklonac
end
section
namespace Go.Proofs.Ytdiekinmoklonac
open Go.Ab Go.Rp Go.Sort

def bad6 (a0 : List S30) : Nat → Bool
 | 0 => false
 | i + 1 => match a0[i]?, a0[i + 1]? with
  | some p, some e => !Op.bytesLess p.Key.toList e.Key.toList
  | _, _ => false
def errAt (a0 : List S30) (i : Nat) : Int := if bad6 a0 i = true then 6 else match a0[i]? with
 | none => 0
 | some e => if (e.Key.size : Int) > 24 then 2 else if i = 40 then 18 else 0
def Good (a0 : List S30) (i : Nat) : Prop := ∀ j, j < i → errAt a0 j = 0
theorem good_key {a0 : List S30} {j : Nat} {e : S30} (h : errAt a0 j = 0) (he : a0[j]? = some e) : bad6 a0 j = false ∧ ¬ (e.Key.size : Int) > 24 ∧ j ≠ 40 := by
 unfold errAt at h
 rw [he] at h
 cases hb : bad6 a0 j with
 | true => rw [hb, if_pos rfl] at h; cases h
 | false =>
  rw [hb, if_neg (by simp)] at h
  dsimp only at h
  refine ⟨rfl, fun h2 => ?_, fun h2 => ?_⟩
  ·rw [if_pos h2] at h; cases h
  ·by_cases h3 : (e.Key.size : Int) > 24
   ·rw [if_pos h3] at h; cases h
   ·rw [if_neg h3, if_pos h2] at h; cases h
theorem Good.le40 {a0 : List S30} {i : Nat} (h : Good a0 i) (hi : i ≤ a0.length) : i ≤ 40 := by
 by_cases h1 : i ≤ 40
 ·exact h1
 ·obtain ⟨e, he⟩ := get_of (l := a0) (k := 40) (by omega)
  exact absurd rfl (good_key (h 40 (by omega)) he).2.2
theorem Good.key {a0 : List S30} {i : Nat} (h : Good a0 i) : ∀ e ∈ a0.take i, e.Key.size ≤ 24 := fun e he => by
 obtain ⟨j, hj, rfl⟩ := List.mem_take_iff_getElem.1 he
 have := (good_key (h j (by omega)) (List.getElem?_eq_getElem (by omega))).2.1
 omega
theorem Good.adj {a0 : List S30} {j : Nat} {p e : S30} (h : bad6 a0 (j + 1) = false) (hp : a0[j]? = some p) (he : a0[j + 1]? = some e) : klt p.Key e.Key := by
 simp only [bad6] at h
 rw [hp, he] at h
 exact bytesLess_klt.1 (by simpa using h)
theorem below_next {a0 : List S30} {i : Nat} {x : S30} (hs : Srt (a0.take i)) (hx : a0[i]? = some x) (hb : bad6 a0 i = false) : ∀ e ∈ a0.take i, klt e.Key x.Key := fun e he => by
 obtain ⟨j, hj, rfl⟩ := List.mem_take_iff_getElem.1 he
 cases i with
 | zero => omega
 | succ i =>
  have hl : i + 1 < a0.length := (List.getElem?_eq_some_iff.1 hx).1
  have h1 := Good.adj hb (List.getElem?_eq_getElem (by omega)) hx
  by_cases hji : j = i
  ·subst hji; exact h1
  ·have h2 : (a0.take (i + 1))[j]? = some a0[j] := by rw [List.getElem?_take_of_lt (by omega), List.getElem?_eq_getElem]
   have h3 : (a0.take (i + 1))[i]? = some a0[i] := by rw [List.getElem?_take_of_lt (by omega), List.getElem?_eq_getElem]
   exact klt_trans (hs.get (by omega) h2 h3) h1
theorem Good.srt {a0 : List S30} : ∀ {i : Nat}, Good a0 i → i ≤ a0.length → Srt (a0.take i)
 | 0, _, _ => by rw [List.take_zero]; exact List.Pairwise.nil
 | i + 1, h, hi => by
  have ih : Srt (a0.take i) := Good.srt (fun j hj => h j (by omega)) (by omega)
  obtain ⟨x, hx⟩ := get_of (l := a0) (k := i) (by omega)
  rw [take_get hx]
  refine List.pairwise_append.2 ⟨ih, List.pairwise_singleton _ _, fun a ha b hb => ?_⟩
  rw [List.mem_singleton.1 hb]
  exact below_next ih hx (good_key (h i (by omega)) hx).1 a ha
theorem Good.next {a0 : List S30} {i : Nat} (h : Good a0 i) (he : errAt a0 i = 0) : Good a0 (i + 1) := fun j hj => by
 by_cases hji : j = i
 ·rw [hji]; exact he
 ·exact h j (by omega)
theorem miss_next {a0 : List S30} {i : Nat} {x : S30} (hs : Srt (a0.take i)) (hx : a0[i]? = some x) (hb : bad6 a0 i = false) : Miss (a0.take i) x.Key (a0.take i) [] :=
 ⟨by simp, below_next hs hx hb, fun b hb => by cases hb⟩
theorem test6 (a0 : List S30) {i : Nat} {x : S30} (hl : a0.length ≤ 140737488355328) (hx : a0[i]? = some x) {β : Type} (k : Bool → Option β) :
  (Option.bind (α := Bool) (
     if (i : Int) > 0 then (
      (chkI ((i : Int) - 1)).bind fun v65 =>
      (idx a0 v65).bind fun x66 =>
      some (!Op.bytesLess x66.Key.toList x.Key.toList)
     ) else
     some false
    ) k) = k (bad6 a0 i) := by
 have hi := (List.getElem?_eq_some_iff.1 hx).1
 cases i with
 | zero => rw [if_neg (by simp)]; rfl
 | succ i =>
  obtain ⟨p, hp⟩ := get_of (l := a0) (k := i) (by omega)
  have e1 : (((i + 1 : Nat) : Int) - 1) = (i : Int) := by omega
  rw [if_pos (by omega), e1, chkI_of (by omega) (by omega), Option.bind_some, idx_nat hp, Option.bind_some, Option.bind_some]
  simp only [bad6]
  rw [hp, hx]

theorem d4_ok {N : Nat} (hN : bigN N) (a0 : List S30) (hl : a0.length ≤ 140737488355328) :
  (Good a0 a0.length ∧ d4 N a0 = some (some ⟨a0, []⟩, 0)) ∨ ∃ i, i < a0.length ∧ Good a0 i ∧ errAt a0 i ≠ 0 ∧ d4 N a0 = some (none, errAt a0 i) := by
 have hN' : 9223372036854775808 ≤ N := hN
 have hrun := loop_idx (σ := List S30 × List (List S30)) (τ := List S30 × List (List S30) × Int) a0.length (fun s j => (s.1, s.2, j)) (fun ((l16, l17, v18) : ((List S30) × (List (List S30)) × Int)) =>
   if v18 < (a0.length : Int) then (
    (idx a0 v18).bind fun x57 =>
    Option.bind (α := Bool) (
     if v18 > 0 then (
      (chkI (v18 - 1)).bind fun v65 =>
      (idx a0 v65).bind fun x66 =>
      some (!Op.bytesLess x66.Key.toList x57.Key.toList)
     ) else
     some false
    ) fun (v63 : Bool) =>
    if v63 = true then (
     some (Sum.inr (Out.ret ((none : Option S47), (6 : Int))))
    ) else
    (d8 N (S47.mk l16 l17) x57.Key x57.Value).bind fun r69 =>
    if (r69.2 != 0) then (
     some (Sum.inr (Out.ret (none, r69.2)))
    ) else
    (chkI (v18 + 1)).bind fun v71 =>
    some (Sum.inl (r69.1.entries, r69.1.savepoints, v71))
   ) else
   some (Sum.inr (Out.go (l16, l17)))) (fun k s => s = (a0.take k, []) ∧ Good a0 k)
   (fun o => (o = .go (a0, []) ∧ Good a0 a0.length) ∨ ∃ i, i < a0.length ∧ Good a0 i ∧ errAt a0 i ≠ 0 ∧ o = .ret (none, errAt a0 i)) (by
  rintro i s hi ⟨rfl, hg⟩
  obtain ⟨x, hx⟩ := get_of hi
  have hs := hg.srt (Nat.le_of_lt hi)
  have h40 := hg.le40 (Nat.le_of_lt hi)
  dsimp only
  rw [if_pos (by omega), idx_nat hx, Option.bind_some, test6 a0 hl hx]
  have hE : errAt a0 i = if bad6 a0 i = true then 6 else if (x.Key.size : Int) > 24 then 2 else if i = 40 then 18 else 0 := by unfold errAt; rw [hx]
  cases hb : bad6 a0 i with
  | true =>
   rw [hb, if_pos rfl] at hE
   rw [if_pos rfl]
   exact .inr ⟨_, rfl, .inr ⟨i, hi, hg, by rw [hE]; decide, by rw [hE]⟩⟩
  | false =>
   rw [hb, if_neg (by simp)] at hE
   rw [if_neg (by simp)]
   by_cases h24 : (x.Key.size : Int) > 24
   ·rw [if_pos h24] at hE
    rw [d8_big h24, Option.bind_some, if_pos (by simp)]
    exact .inr ⟨_, rfl, .inr ⟨i, hi, hg, by rw [hE]; decide, by rw [hE]⟩⟩
   ·rw [if_neg h24] at hE
    have hm := miss_next hs hx hb
    have hlen : (a0.take i).length = i := by rw [List.length_take]; omega
    rcases d8_ok hN hs (by omega) [] x.Value h24 with ⟨A, e, B, hf, _⟩ | ⟨A, B, hf, hd⟩
    ·exact absurd hf.2.1 (hm.other _ hf.mem)
    ·rcases hd with ⟨hc, hd⟩ | ⟨hc, hd⟩
     ·rw [if_pos (by omega)] at hE
      rw [hd, Option.bind_some, if_pos (by simp)]
      exact .inr ⟨_, rfl, .inr ⟨i, hi, hg, by rw [hE]; decide, by rw [hE]⟩⟩
     ·rw [if_neg (by omega)] at hE
      have hB : B = [] := by
       cases B with
       | nil => rfl
       | cons b B =>
        exfalso
        have h1 : b ∈ a0.take i := by rw [hf.1]; simp
        exact klt_irrefl _ (klt_trans (hm.2.1 b h1) (hf.2.2 b (.head _)))
      subst hB
      have hA : A = a0.take i := by have := hf.1; rw [List.append_nil] at this; exact this.symm
      subst hA
      rw [hd, Option.bind_some, if_neg (by simp), chkI_of (by omega) (by omega), Option.bind_some]
      exact .inl ⟨(a0.take (i + 1), []), by rw [take_get hx], rfl, hg.next hE⟩)
  (by
   rintro s ⟨rfl, hg⟩
   dsimp only
   rw [if_neg (by omega)]
   exact ⟨_, rfl, .inl ⟨by rw [List.take_length], hg⟩⟩) ([], []) ⟨by simp, fun j hj => by omega⟩ (n := N) (by omega)
 obtain ⟨o, h1, h2⟩ := hrun
 have hd : d4 N a0 = bindO (some o) fun ((l54, l55) : ((List S30) × (List (List S30)))) => some ((some (S47.mk l54 l55)), 0) := by
  rw [← h1]; rfl
 rcases h2 with ⟨rfl, hg⟩ | ⟨i, hi, hg, he, rfl⟩
 ·exact .inl ⟨hg, by rw [hd]; rfl⟩
 ·exact .inr ⟨i, hi, hg, he, by rw [hd]; rfl⟩

/-- the law's own map of the entries -/
def refStep (a0 : List S30) : ((List (ByteArray × Int)) × Int × Int) → Option (((List (ByteArray × Int)) × Int × Int) ⊕ ((List (ByteArray × Int)) × Int)) := fun ((m41, v42, v43) : ((List (ByteArray × Int)) × Int × Int)) =>
    Option.bind (α := Bool) (
     if v43 < (a0.length : Int) then (
      some (v42 == 0)
     ) else
     some false
    ) fun (v112 : Bool) =>
    if v112 = true then (
     Option.bind (α := Bool) (
      if v43 > 0 then (
       (chkI (v43 - 1)).bind fun v123 =>
       (idx a0 v123).bind fun x124 =>
       (idx a0 v43).bind fun x126 =>
       some (!Op.bytesLess x124.Key.toList x126.Key.toList)
      ) else
      some false
     ) fun (v121 : Bool) =>
     Option.bind (α := Int) (
      if v121 = true then (
       some 6
      ) else
      (idx a0 v43).bind fun x135 =>
      if (x135.Key.size : Int) > 24 then (
       some 2
      ) else
      if ((m41.length : Int) == 40) then (
       some 18
      ) else
      some v42
     ) fun (v133 : Int) =>
     (idx a0 v43).bind fun x139 =>
     (chkI (v43 + 1)).bind fun v141 =>
     some (.inl ((mput m41 x139.Key x139.Value), v133, v141))
    ) else
    some (.inr (m41, v42))
theorem test6' (a0 : List S30) {i : Nat} {x : S30} (hl : a0.length ≤ 140737488355328) (hx : a0[i]? = some x) {β : Type} (k : Bool → Option β) :
  (Option.bind (α := Bool) (
      if (i : Int) > 0 then (
       (chkI ((i : Int) - 1)).bind fun v123 =>
       (idx a0 v123).bind fun x124 =>
       (idx a0 (i : Int)).bind fun x126 =>
       some (!Op.bytesLess x124.Key.toList x126.Key.toList)
      ) else
      some false
     ) k) = k (bad6 a0 i) := by
 rw [← test6 a0 hl hx k, idx_nat hx]
 rfl
theorem ref_ok {N : Nat} (hN : bigN N) (a0 : List S30) (hl : a0.length ≤ 140737488355328) :
  ∃ r, iterN (refStep a0) N ([], 0, 0) = some r ∧ ((Good a0 a0.length ∧ r.2 = 0 ∧ Rel a0 r.1) ∨ ∃ i, i < a0.length ∧ Good a0 i ∧ errAt a0 i ≠ 0 ∧ r.2 = errAt a0 i) := by
 have hN' : 9223372036854775808 ≤ N := hN
 refine iter_post (refStep a0) (fun s => a0.length - s.2.2.toNat) (fun s => ∃ i : Nat, s.2.2 = i ∧ i ≤ a0.length ∧ ((s.2.1 = 0 ∧ Good a0 i ∧ Rel (a0.take i) s.1) ∨ ∃ j, j < a0.length ∧ Good a0 j ∧ errAt a0 j ≠ 0 ∧ s.2.1 = errAt a0 j)) _ ?_ N _ ⟨0, rfl, Nat.zero_le _, .inl ⟨rfl, fun j hj => by omega, by rw [List.take_zero]; exact rel_nil⟩⟩ (by simp; omega)
 rintro ⟨m, w, v⟩ ⟨i, hv, hi, h⟩
 dsimp only at hv h
 subst hv
 unfold refStep
 dsimp only
 rcases h with ⟨rfl, hg, hr⟩ | ⟨j, hj, hg, he, rfl⟩
 ·by_cases hlt : i < a0.length
  ·obtain ⟨x, hx⟩ := get_of hlt
   have hs := hg.srt hi
   have hlen : (a0.take i).length = i := by rw [List.length_take]; omega
   have hE : errAt a0 i = if bad6 a0 i = true then 6 else if (x.Key.size : Int) > 24 then 2 else if i = 40 then 18 else 0 := by unfold errAt; rw [hx]
   rw [if_pos (by omega), Option.bind_some, if_pos (show ((0 : Int) == 0) = true from rfl), test6' a0 hl hx]
   have hw : (Option.bind (α := Int) (
      if bad6 a0 i = true then (
       some 6
      ) else
      (idx a0 (i : Int)).bind fun x135 =>
      if (x135.Key.size : Int) > 24 then (
       some 2
      ) else
      if ((m.length : Int) == 40) then (
       some 18
      ) else
      some 0
     ) fun (v133 : Int) =>
     (idx a0 (i : Int)).bind fun x139 =>
     (chkI ((i : Int) + 1)).bind fun v141 =>
     some (Sum.inl ((mput m x139.Key x139.Value), v133, v141) : ((List (ByteArray × Int)) × Int × Int) ⊕ ((List (ByteArray × Int)) × Int))) = some (.inl (mput m x.Key x.Value, errAt a0 i, ((i + 1 : Nat) : Int))) := by
    have h2 : (if bad6 a0 i = true then (
       some 6
      ) else
      (idx a0 (i : Int)).bind fun x135 =>
      if (x135.Key.size : Int) > 24 then (
       some 2
      ) else
      if ((m.length : Int) == 40) then (
       some 18
      ) else
      some (0 : Int)) = some (errAt a0 i) := by
     rw [hE, idx_nat hx, Option.bind_some, hr.len, hlen]
     by_cases h6 : bad6 a0 i = true
     ·rw [if_pos h6, if_pos h6]
     ·rw [if_neg h6, if_neg h6]
      by_cases h24 : (x.Key.size : Int) > 24
      ·rw [if_pos h24, if_pos h24]
      ·rw [if_neg h24, if_neg h24]
       by_cases h40 : i = 40
       ·rw [if_pos (by simp [h40]), if_pos h40]
       ·rw [if_neg (by simp; omega), if_neg h40]
    rw [h2, Option.bind_some, idx_nat hx, Option.bind_some, chkI_of (by omega) (by omega)]
    rfl
   refine .inl ⟨_, hw, ⟨i + 1, rfl, by omega, ?_⟩, by dsimp only; omega⟩
   dsimp only
   by_cases h0 : errAt a0 i = 0
   ·refine .inl ⟨h0, hg.next h0, ?_⟩
    have hm := miss_next hs hx (good_key h0 hx).1
    have := hr.put_miss hm x.Value
    rw [take_get hx]
    exact this
   ·exact .inr ⟨i, hlt, hg, h0, rfl⟩
  ·obtain rfl : i = a0.length := by omega
   rw [if_neg (by omega), Option.bind_some, if_neg (by simp)]
   rw [List.take_length] at hr
   exact .inr ⟨_, rfl, .inl ⟨hg, rfl, hr⟩⟩
 ·refine .inr ⟨(m, errAt a0 j), ?_, .inr ⟨j, hj, hg, he, rfl⟩⟩
  have : (if (i : Int) < (a0.length : Int) then some (errAt a0 j == 0) else some false) = some false := by
   by_cases hlt : (i : Int) < (a0.length : Int)
   ·rw [if_pos hlt]; simp [he]
   ·rw [if_neg hlt]
  rw [this, Option.bind_some, if_neg (by simp)]
theorem first_bad {a0 : List S30} {i j : Nat} (h1 : Good a0 i) (h2 : errAt a0 i ≠ 0) (h3 : Good a0 j) (h4 : errAt a0 j ≠ 0) : i = j := by
 rcases Nat.lt_trichotomy i j with h | h | h
 ·exact absurd (h3 i h) h2
 ·exact h
 ·exact absurd (h1 j h) h4
end Go.Proofs.Ytdiekinmoklonac
end
section
namespace Go.Proofs.Ytdiekinmoklonac
open Go.Ab Go.Rp Go.Sort

theorem d7_tot (N : Nat) (l : List Int) {i : Int} (h0 : 0 ≤ i) : ∃ r, d7 N l i = some r := by
 unfold d7
 by_cases h : i < (l.length : Int)
 ·obtain ⟨a, ha⟩ := get_of (l := l) (k := i.toNat) (by omega)
  rw [if_pos h, idx_toNat h0 ha]; exact ⟨a, rfl⟩
 ·rw [if_neg h]; exact ⟨0, rfl⟩
theorem u64_wrap (n : Int) : 0 ≤ IntKind.u64.wrap n := by
 simp only [IntKind.wrap, IntKind.signed, IntKind.bits]
 simp
 omega
theorem u64_len {n : Nat} (h : n ≤ 140737488355328) : IntKind.u64.wrap (n : Int) = (n : Int) := by
 simp only [IntKind.wrap, IntKind.signed, IntKind.bits]
 simp
 omega
theorem rem_lt {x : Int} {n : Nat} (hx : 0 ≤ x) (hn : n ≠ 0) : ∃ k : Nat, remI x (n : Int) = some (k : Int) ∧ k < n := by
 refine ⟨(x.toNat % n), ?_, Nat.mod_lt _ (by omega)⟩
 unfold remI
 rw [if_neg (by omega)]
 have : x = (x.toNat : Int) := (Int.toNat_of_nonneg hx).symm
 conv => lhs; rw [this]
 rfl
theorem d6_tot (N : Nat) (l : List ByteArray) (i : Int) (hl : l.length ≤ 140737488355328) : ∃ r, d6 N l i = some r := by
 unfold d6
 by_cases h : l.length = 0
 ·exact ⟨_, by rw [if_pos (by simp [h])]⟩
 ·obtain ⟨k, h1, h2⟩ := rem_lt (u64_wrap i) h
  obtain ⟨a, ha⟩ := get_of h2
  refine ⟨a, ?_⟩
  rw [if_neg (by simpa using h), letv_eq, letv_eq, u64_len hl, h1, Option.bind_some, chkI_of (by omega) (by omega), Option.bind_some, idx_nat ha]
  rfl

/-- a workspace's entries and a map -/
def W (es : List S30) (m : List (ByteArray × Int)) : Prop := Rel es m ∧ es.length ≤ 40 ∧ ∀ e ∈ es, e.Key.size ≤ 24
def Ws (sps : List (List S30)) (ms : List (List (ByteArray × Int))) : Prop := sps.length = ms.length ∧ sps.length ≤ 20 ∧ ∀ (i : Nat) s t, sps[i]? = some s → ms[i]? = some t → W s t
theorem Ws.take {sps : List (List S30)} {ms : List (List (ByteArray × Int))} (h : Ws sps ms) (n : Nat) : Ws (sps.take n) (ms.take n) := by
 obtain ⟨h1, h2, h3⟩ := h
 refine ⟨by rw [List.length_take, List.length_take, h1], by rw [List.length_take]; omega, fun i s t hs ht => ?_⟩
 rw [List.getElem?_take] at hs ht
 split at hs
 ·rename_i hin
  rw [if_pos hin] at ht
  exact h3 i s t hs ht
 ·cases hs
theorem Ws.push {sps : List (List S30)} {ms : List (List (ByteArray × Int))} (h : Ws sps ms) (hl : sps.length < 20) {es : List S30} {m : List (ByteArray × Int)} (hw : W es m) : Ws (sps ++ [es]) (ms ++ [m]) := by
 obtain ⟨h1, h2, h3⟩ := h
 refine ⟨by simp [h1], by simp; omega, fun i s t hs ht => ?_⟩
 by_cases hi : i < sps.length
 ·rw [List.getElem?_append_left hi] at hs
  rw [List.getElem?_append_left (by omega)] at ht
  exact h3 i s t hs ht
 ·rw [List.getElem?_append_right (by omega)] at hs
  rw [List.getElem?_append_right (by omega), ← h1] at ht
  have hi0 : i - sps.length = 0 := by
   have := (List.getElem?_eq_some_iff.1 hs).1
   simp at this
   omega
  rw [hi0] at hs ht
  injection hs with hs
  injection ht with ht
  subst hs; subst ht
  exact hw
theorem W.put_found {es A B : List S30} {m : List (ByteArray × Int)} {k : ByteArray} {e : S30} (h : W es m) (hf : Found es k A e B) (hk : ¬ (k.size : Int) > 24) (v : Int) : W (A ++ ⟨k, v⟩ :: B) (mput m k v) := by
 refine ⟨h.1.put_found hf v, ?_, fun x hx => ?_⟩
 ·have h1 := h.2.1
  rw [hf.1] at h1
  simpa using h1
 ·rcases List.mem_append.1 hx with hx | hx
  ·exact h.2.2 x (by rw [hf.1]; simp [hx])
  ·rcases List.mem_cons.1 hx with rfl | hx
   ·show k.size ≤ 24
    omega
   ·exact h.2.2 x (by rw [hf.1]; simp [hx])
theorem W.put_miss {es A B : List S30} {m : List (ByteArray × Int)} {k : ByteArray} (h : W es m) (hf : Miss es k A B) (hl : es.length < 40) (hk : ¬ (k.size : Int) > 24) (v : Int) : W (A ++ ⟨k, v⟩ :: B) (mput m k v) := by
 refine ⟨h.1.put_miss hf v, ?_, fun x hx => ?_⟩
 ·rw [hf.1] at hl
  simp at hl ⊢
  omega
 ·rcases List.mem_append.1 hx with hx | hx
  ·exact h.2.2 x (by rw [hf.1]; simp [hx])
  ·rcases List.mem_cons.1 hx with rfl | hx
   ·show k.size ≤ 24
    omega
   ·exact h.2.2 x (by rw [hf.1]; simp [hx])
theorem W.del {es A B : List S30} {m : List (ByteArray × Int)} {k : ByteArray} {e : S30} (h : W es m) (hf : Found es k A e B) : W (A ++ B) (Go.Ab.mdel m k) := by
 refine ⟨h.1.del hf, ?_, fun x hx => h.2.2 x ?_⟩
 ·have h1 := h.2.1
  rw [hf.1] at h1
  simp at h1 ⊢
  omega
 ·rw [hf.1]
  rcases List.mem_append.1 hx with hx | hx <;> simp [hx]

theorem d9_ok (N : Nat) {es : List S30} (hl : es.length ≤ 40) {sps : List (List S30)} (h : sps.length ≤ 20) :
  (sps.length = 20 ∧ d9 N ⟨es, sps⟩ = some (⟨es, sps⟩, 0, 18)) ∨ (sps.length < 20 ∧ d9 N ⟨es, sps⟩ = some (⟨es, sps ++ [es]⟩, ((sps.length + 1 : Nat) : Int), 0)) := by
 unfold d9
 dsimp only
 by_cases hc : sps.length = 20
 ·exact .inl ⟨hc, by rw [if_pos (by simp [hc])]⟩
 ·refine .inr ⟨by omega, ?_⟩
  have h17 : d17 N es = some es := by unfold d17; rw [if_pos (by unfold reach; omega)]
  rw [if_neg (by simp; omega), h17, Option.bind_some, appL_of (by unfold reach; simp; omega), Option.bind_some, List.length_append]
  rfl
theorem out_test {n : Int} {l : Nat} : (if n < 1 then some true else some (decide (n > (l : Int)))) = some (decide (n < 1 ∨ n > (l : Int))) := by
 by_cases h : n < 1
 ·rw [if_pos h]; simp [h]
 ·rw [if_neg h]; simp [h]
theorem in_test {n : Int} {l : Nat} : (if n ≥ 1 then some (decide (n ≤ (l : Int))) else some false) = some (decide (¬ (n < 1 ∨ n > (l : Int)))) := by
 by_cases h : n ≥ 1
 ·rw [if_pos h]; congr 1; rw [decide_eq_decide]; omega
 ·rw [if_neg h]; congr 1; rw [eq_comm, decide_eq_false_iff_not]; omega
theorem d11_out (N : Nat) {es : List S30} {sps : List (List S30)} {n : Int} (h : n < 1 ∨ n > (sps.length : Int)) : d11 N ⟨es, sps⟩ n = some (⟨es, sps⟩, 4) := by
 unfold d11
 rw [out_test, Option.bind_some, if_pos (by simpa using h)]
theorem d12_out (N : Nat) {es : List S30} {sps : List (List S30)} {n : Int} (h : n < 1 ∨ n > (sps.length : Int)) : d12 N ⟨es, sps⟩ n = some (⟨es, sps⟩, 4) := by
 unfold d12
 rw [out_test, Option.bind_some, if_pos (by simpa using h)]
theorem d19_ok (N : Nat) {sps : List (List S30)} (h : sps.length ≤ 20) : d19 N sps = some sps := by
 unfold d19
 rw [if_pos (by unfold reach; omega)]
theorem d11_in (N : Nat) {es s : List S30} {sps : List (List S30)} {j : Nat} (hl : sps.length ≤ 20) (hs : sps[j]? = some s) (hsl : s.length ≤ 40) : d11 N ⟨es, sps⟩ ((j : Int) + 1) = some (⟨s, sps.take (j + 1)⟩, 0) := by
 have hj := (List.getElem?_eq_some_iff.1 hs).1
 unfold d11
 rw [out_test, Option.bind_some, if_neg (by simp; omega), show (j : Int) + 1 - 1 = (j : Int) by omega, chkI_of (by omega) (by omega), Option.bind_some, idx_nat hs, Option.bind_some]
 have h17 : d17 N s = some s := by unfold d17; rw [if_pos (by unfold reach; omega)]
 rw [h17, Option.bind_some, show (j : Int) + 1 = ((j + 1 : Nat) : Int) by omega, natI_nat (by dsimp only; omega), Option.bind_some, d19_ok N (by rw [List.length_take]; dsimp only; omega), Option.bind_some]
theorem d12_in (N : Nat) {es : List S30} {sps : List (List S30)} {j : Nat} (hl : sps.length ≤ 20) (hj : j < sps.length) : d12 N ⟨es, sps⟩ ((j : Int) + 1) = some (⟨es, sps.take j⟩, 0) := by
 unfold d12
 rw [out_test, Option.bind_some, if_neg (by simp; omega), show (j : Int) + 1 - 1 = (j : Int) by omega, chkI_of (by omega) (by omega), Option.bind_some, natI_nat (by dsimp only; omega), Option.bind_some, d19_ok N (by rw [List.length_take]; dsimp only; omega), Option.bind_some]

abbrev St5 : Type := (List S30) × (List (List S30)) × (List (ByteArray × Int)) × (List (List (ByteArray × Int))) × Int
theorem step_ok {N : Nat} (hN : bigN N) {es : List S30} {sps : List (List S30)} {m : List (ByteArray × Int)} {ms : List (List (ByteArray × Int))} (hw : W es m) (key : ByteArray) (g : Int) {k : Nat} (hk : k ≤ 140737488355328) :
  (Option.bind (α := Bool) (
     if (g != g) = true then (
      some true
     ) else
     (d13 N (S47.mk es sps) m key).bind fun r712 =>
     some (!r712)
    ) fun (v710 : Bool) =>
    if v710 = true then (
     some (.inr (.ret false))
    ) else
    (chkI ((k : Int) + 1)).bind fun v714 =>
    some (.inl (es, sps, m, ms, v714))) = some (Sum.inl (es, sps, m, ms, (k : Int) + 1) : St5 ⊕ Out Unit Bool) := by
 rw [if_neg (by simp), d13_ok hN hw.1 hw.2.1 hw.2.2 sps key, Option.bind_some, Option.bind_some, if_neg (by simp), chkI_of (by omega) (by omega)]
 rfl

theorem srt_one (e : S30) : Srt [e] := List.pairwise_singleton _ _

set_option maxRecDepth 10000 in
theorem d3_true {N : Nat} (hN : bigN N) (a0 : List S30) (a1 : List (List Int)) (a2 : List ByteArray) (h0 : a0.length ≤ 140737488355328) (h1 : a1.length ≤ 140737488355328) (h2 : a2.length ≤ 140737488355328) : d3 N a0 a1 a2 = some true := by
 have hN' : 9223372036854775808 ≤ N := hN
 unfold d3
 have hone : d4 N ([(S30.mk (ByteArray.mk #[97]) 5)] : List S30) = some (some ⟨[(S30.mk (ByteArray.mk #[97]) 5)], []⟩, 0) := by
  rcases d4_ok hN [(S30.mk (ByteArray.mk #[97]) 5)] (by simp) with ⟨_, h⟩ | ⟨i, hi, _, he, _⟩
  ·exact h
  ·have : i = 0 := by simpa using hi
   subst this
   exact absurd (by decide : errAt [(S30.mk (ByteArray.mk #[97]) 5)] 0 = 0) he
 rw [hone, Option.bind_some]
 dsimp only [ocase]
 have hb : d5 N ⟨[(S30.mk (ByteArray.mk #[97]) 5)], []⟩ (ByteArray.mk #[98]) = some (⟨[(S30.mk (ByteArray.mk #[97]) 5)], []⟩, 4) := by
  rcases d5_ok hN (srt_one (S30.mk (ByteArray.mk #[97]) 5)) (by simp) [] (ByteArray.mk #[98]) with ⟨A, e, B, hf, _⟩ | ⟨A, B, hf, h⟩
  ·have h1 := hf.mem
   have h2 := hf.2.1
   rw [List.mem_singleton] at h1
   rw [h1] at h2
   exact absurd h2 (show ¬ (ByteArray.mk #[97]) = ByteArray.mk #[98] by decide)
  ·exact h
 have ha : ∃ M, d5 N ⟨[(S30.mk (ByteArray.mk #[97]) 5)], []⟩ (ByteArray.mk #[97]) = some (M, 0) := by
  rcases d5_ok hN (srt_one (S30.mk (ByteArray.mk #[97]) 5)) (by simp) [] (ByteArray.mk #[97]) with ⟨A, e, B, hf, h⟩ | ⟨A, B, hf, _⟩
  ·exact ⟨_, h⟩
  ·exact absurd rfl (hf.other _ (.head _))
 obtain ⟨M, ha⟩ := ha
 rw [if_neg (show ¬ ((0 : Int) != 0) = true by decide), hb, Option.bind_some, if_neg (show ¬ ((4 : Int) != 4) = true by decide), ha, Option.bind_some, Option.bind_some, if_neg (show ¬ ((0 : Int) != 0) = true by decide)]
 obtain ⟨r, hr, hrp⟩ := ref_ok hN a0 h0
 rcases d4_ok hN a0 h0 with ⟨hg, hd⟩ | ⟨i, hi, hg, he, hd⟩
 ·rw [hd, Option.bind_some]
  dsimp only
  refine (congrArg (fun d => Option.bind d _) hr).trans ?_
  rw [Option.bind_some]
  have hr0 : r.2 = 0 ∧ Rel a0 r.1 := by
   rcases hrp with ⟨_, h⟩ | ⟨j, hj, _, hj2, _⟩
   ·exact h
   ·exact absurd (hg j hj) hj2
  obtain ⟨m0, w0⟩ := r
  obtain ⟨rfl, hrel⟩ := hr0
  dsimp only at hrel ⊢
  rw [if_neg (by decide), if_neg (by decide), Option.bind_some, if_neg (by decide)]
  have hW0 : W a0 m0 := ⟨hrel, hg.le40 (Nat.le_refl _), fun e he => hg.key e (by rw [List.take_length]; exact he)⟩
  refine bindO_eq (P := fun o => o = .go ()) (loop_idx (σ := (List S30) × (List (List S30)) × (List (ByteArray × Int)) × (List (List (ByteArray × Int)))) (τ := St5) a1.length (fun s j => (s.1, s.2.1, s.2.2.1, s.2.2.2, j)) _ (fun _ s => W s.1 s.2.2.1 ∧ Ws s.2.1 s.2.2.2) _ ?_ ?_ (a0, [], m0, []) ⟨hW0, rfl, by simp, fun i s t h => by simp at h⟩ (n := N) (by omega)) ?_ ?_
  ·rintro k ⟨es, sps, m, ms⟩ hk ⟨hw, hs⟩
   obtain ⟨op, hop⟩ := get_of hk
   refine .inl ?_
   dsimp only at hw hs ⊢
   obtain ⟨i1, hi1⟩ := d7_tot N op (i := 1) (by omega)
   obtain ⟨key, hkey⟩ := d6_tot N a2 i1 h2
   obtain ⟨n, hn⟩ := d7_tot N op (i := 2) (by omega)
   obtain ⟨kd, hkd⟩ := d7_tot N op (i := 0) (by omega)
   rw [if_pos (by omega), idx_nat hop, Option.bind_some, hi1, Option.bind_some, hkey, Option.bind_some, hn, Option.bind_some, letv_eq, letv_eq, hkd, Option.bind_some]
   have hk' : k ≤ 140737488355328 := by omega
   by_cases h1k : (kd == 1) = true
   ·rw [if_pos h1k]
    by_cases h24 : (key.size : Int) > 24
    ·rw [d8_big h24, Option.bind_some, if_pos h24, bindO_go]
     exact ⟨(es, sps, m, ms), step_ok hN hw key 2 hk', hw, hs⟩
    ·rcases d8_ok hN hw.1.1 hw.2.1 sps n h24 with ⟨A, e, B, hf, hd8⟩ | ⟨A, B, hf, ⟨hc, hd8⟩ | ⟨hc, hd8⟩⟩
     ·rw [hd8, Option.bind_some, if_neg h24, hw.1.found hf, if_neg (by simp), Option.bind_some, if_neg (by simp), bindO_go]
      exact ⟨(A ++ ⟨key, n⟩ :: B, sps, mput m key n, ms), step_ok hN (hw.put_found hf h24 n) key 0 hk', hw.put_found hf h24 n, hs⟩
     ·rw [hd8, Option.bind_some, if_neg h24, hw.1.miss hf, if_pos (by simp), Option.bind_some, if_pos (by rw [hw.1.len, hc]; rfl), bindO_go]
      exact ⟨(es, sps, m, ms), step_ok hN hw key 18 hk', hw, hs⟩
     ·rw [hd8, Option.bind_some, if_neg h24, hw.1.miss hf, if_pos (by simp), Option.bind_some, if_neg (by rw [hw.1.len]; simp; omega), bindO_go]
      exact ⟨(A ++ ⟨key, n⟩ :: B, sps, mput m key n, ms), step_ok hN (hw.put_miss hf hc h24 n) key 0 hk', hw.put_miss hf hc h24 n, hs⟩
   ·rw [if_neg h1k]
    by_cases h2k : (kd == 2) = true
    ·rw [if_pos h2k]
     rcases d5_ok hN hw.1.1 hw.2.1 sps key with ⟨A, e, B, hf, hd5⟩ | ⟨A, B, hf, hd5⟩
     ·rw [hd5, Option.bind_some, hw.1.found hf, if_pos (show (some e.Value).isSome = true from rfl), bindO_go]
      exact ⟨(A ++ B, sps, Go.Ab.mdel m key, ms), step_ok hN (hw.del hf) key 0 hk', hw.del hf, hs⟩
     ·rw [hd5, Option.bind_some, hw.1.miss hf, if_neg (by simp), bindO_go]
      exact ⟨(es, sps, m, ms), step_ok hN hw key 4 hk', hw, hs⟩
    ·rw [if_neg h2k]
     by_cases h3k : (kd == 3) = true
     ·rw [if_pos h3k]
      rcases d9_ok N hw.2.1 hs.2.1 with ⟨hc, hd9⟩ | ⟨hc, hd9⟩
      ·rw [hd9, Option.bind_some, if_neg (by have := hs.1; omega), bindO_go]
       exact ⟨(es, sps, m, ms), step_ok hN hw key 18 hk', hw, hs⟩
      ·have hl := hs.1
       rw [hd9, Option.bind_some, if_pos (by omega), appL_of (by unfold reach; simp; omega), Option.bind_some, if_neg (by simp [hl]), bindO_go]
       exact ⟨(es, sps ++ [es], m, ms ++ [m]), step_ok hN hw key 0 hk', hw, hs.push hc hw⟩
     ·rw [if_neg h3k]
      by_cases h45 : (kd == 4) = true ∨ (kd == 5) = true
      ·have h45' : (if (kd == 4) = true then some true else some (kd == 5)) = some true := by
        rcases h45 with h | h
        ·rw [if_pos h]
        ·by_cases h4 : (kd == 4) = true
         ·rw [if_pos h4]
         ·rw [if_neg h4, h]
       rw [h45', Option.bind_some, if_pos rfl, Option.bind_some]
       have hl := hs.1
       by_cases hout : n < 1 ∨ n > (sps.length : Int)
       ·by_cases h4 : (kd == 4) = true
        ·rw [if_pos h4, d11_out N hout, Option.bind_some, Option.bind_some]
         dsimp only
         rw [in_test, Option.bind_some, if_neg (by rw [← hl, decide_eq_true_eq]; exact not_not_intro hout), bindO_go]
         exact ⟨(es, sps, m, ms), step_ok hN hw key 4 hk', hw, hs⟩
        ·rw [if_neg h4, d12_out N hout, Option.bind_some, Option.bind_some]
         dsimp only
         rw [in_test, Option.bind_some, if_neg (by rw [← hl, decide_eq_true_eq]; exact not_not_intro hout), bindO_go]
         exact ⟨(es, sps, m, ms), step_ok hN hw key 4 hk', hw, hs⟩
       ·obtain ⟨j, rfl⟩ : ∃ j : Nat, n = (j : Int) + 1 := ⟨(n - 1).toNat, by omega⟩
        have hj : j < sps.length := by omega
        obtain ⟨s, hsj⟩ := get_of hj
        obtain ⟨t, htj⟩ := get_of (l := ms) (k := j) (by omega)
        have hst := hs.2.2 j s t hsj htj
        have hj20 : j < 20 := Nat.lt_of_lt_of_le hj hs.2.1
        by_cases h4 : (kd == 4) = true
        ·rw [if_pos h4, d11_in N hs.2.1 hsj hst.2.1, Option.bind_some, Option.bind_some]
         dsimp only
         rw [in_test, Option.bind_some, if_pos (by rw [← hl]; simpa using hout), if_pos rfl, show (j : Int) + 1 - 1 = (j : Int) by omega, chkI_of (by omega) (by omega), Option.bind_some, idx_nat htj, Option.bind_some, show (j : Int) + 1 = ((j + 1 : Nat) : Int) by omega, natI_nat (by omega), Option.bind_some, letv_eq, bindO_go]
         exact ⟨(s, sps.take (j + 1), t, ms.take (j + 1)), step_ok hN hst key 0 hk', hst, hs.take _⟩
        ·rw [if_neg h4, d12_in N hs.2.1 hj, Option.bind_some, Option.bind_some]
         dsimp only
         rw [in_test, Option.bind_some, if_pos (by rw [← hl]; simpa using hout), if_neg (by decide), show (j : Int) + 1 - 1 = (j : Int) by omega, chkI_of (by omega) (by omega), Option.bind_some, natI_nat (by omega), Option.bind_some, letv_eq, bindO_go]
         exact ⟨(es, sps.take j, m, ms.take j), step_ok hN hw key 0 hk', hw, hs.take _⟩
      ·have h45' : (if (kd == 4) = true then some true else some (kd == 5)) = some false := by
        rw [if_neg (fun h => h45 (.inl h))]
        congr 1
        rw [Bool.eq_false_iff]
        exact fun h => h45 (.inr h)
       rw [h45', Option.bind_some, if_neg (by decide), bindO_go]
       exact ⟨(es, sps, m, ms), step_ok hN hw key 0 hk', hw, hs⟩
  ·rintro ⟨es, sps, m, ms⟩ _
   dsimp only
   rw [if_neg (by omega)]
   exact ⟨_, rfl, rfl⟩
  ·intro x h; cases h
  ·intro b _; rfl
 ·rw [hd, Option.bind_some]
  dsimp only
  refine (congrArg (fun d => Option.bind d _) hr).trans ?_
  rw [Option.bind_some]
  have hr0 : r.2 = errAt a0 i := by
   rcases hrp with ⟨h, _⟩ | ⟨j, _, hj1, hj2, hj3⟩
   ·exact absurd (h i hi) he
   ·rw [hj3, first_bad hj1 hj2 hg he]
  obtain ⟨m0, w0⟩ := r
  dsimp only at hr0 ⊢
  subst hr0
  rw [if_pos (by simpa using he), if_pos (by simp)]
  rfl
end Go.Proofs.Ytdiekinmoklonac
end
section
namespace Go.Proofs.Ytdiekinmoklonac
open Go.Ab Go.Rp
open Go.Ab.Enc (eC eV)

abbrev REntry := Rp.St (ByteArray × Int × Unit)
def toEntry (t : REntry) : S30 := ⟨t.val.1, t.val.2.1⟩
theorem eC_rentry (t : REntry) : (eC t : List D) = cS30 (toEntry t) := rfl

theorem savepoint_fun (a : List REntry) (b : List (List Int)) (c : List ByteArray) (h0 : a.length * 24 ≤ reach) (h1 : b.length * 24 ≤ reach) (h2 : c.length * 16 ≤ reach) : Fun Try.prog 3 [eV a, eV b, eV c] (fun r _ => r = .d (.lit (.bool true))) := by
 have h := p3 9223372036854775808 (a.map toEntry) b c true (d3_true (Nat.le_refl _) _ b c (by rw [List.length_map]; unfold reach at h0; omega) (by unfold reach at h1; omega) (by unfold reach at h2; omega))
 have e0 : (eV a : V) = .d (.sl ((a.map toEntry).map cS30)) := by
  show V.d (.sl (a.map eC)) = _
  rw [List.map_map]
  rfl
 have e1 : (eV b : V) = .d (.sl (b.map (cL (cI .i64)))) := rfl
 have e2 : (eV c : V) = .d (.sl (c.map cS)) := rfl
 rw [e0, e1, e2]
 exact h.2.mono fun _ _ h => h.1
end Go.Proofs.Ytdiekinmoklonac
end
