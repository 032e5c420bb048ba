/- The lexers as functional programs: bytes, words, keywords. Numerals: what the library reads and writes. One token: numbers and parameters. One token: parameters and quoted strings. One token: words, punctuation, and all together. One token: all together. Both lexers; the law. -/
import Derived.Test.YtdiekinmoklonabDoorLx7
import Derived.Test.YtdiekinmoklonabDoorA2
section
namespace Go.Proofs.YtdiekinmoklonabDoor
open Go.Ab Go.Rp

theorem iter_post {τ ρ : Type} (step : τ → Option (τ ⊕ ρ)) (μ : τ → Nat) (Inv : τ → Prop) (Post : ρ → Prop)
  (h : ∀ s, Inv s → (∃ s', step s = some (.inl s') ∧ Inv s' ∧ μ s' < μ s) ∨ ∃ r, step s = some (.inr r) ∧ Post r) :
  ∀ (n : Nat) (s : τ), Inv s → μ s < n → ∃ r, iterN step n s = some r ∧ Post r := by
 intro n
 induction n with
 | zero => intro s _ h; omega
 | succ n ih =>
  intro s hi hm
  rcases h s hi with ⟨s', h1, h2, h3⟩ | ⟨r, h1, h2⟩
  ·obtain ⟨r, h4, h5⟩ := ih s' h2 (by omega)
   exact ⟨r, by rw [iterN, h1]; exact h4, h5⟩
  ·exact ⟨r, by rw [iterN, h1], h2⟩
theorem iter_pair {σ τ ρ κ : Type} (f : σ → Option (σ ⊕ ρ)) (g : τ → Option (τ ⊕ κ)) (μ : σ → Nat) (R : σ → τ → Prop) (Q : ρ → κ → Prop)
  (h : ∀ s t, R s t → (∃ s' t', f s = some (.inl s') ∧ g t = some (.inl t') ∧ R s' t' ∧ μ s' < μ s) ∨ ∃ a b, f s = some (.inr a) ∧ g t = some (.inr b) ∧ Q a b) :
  ∀ (n : Nat) (s : σ) (t : τ), R s t → μ s < n → ∃ a b, iterN f n s = some a ∧ iterN g n t = some b ∧ Q a b := by
 intro n
 induction n with
 | zero => intro s t _ h; omega
 | succ n ih =>
  intro s t hi hm
  rcases h s t hi with ⟨s', t', h1, h2, h3, h4⟩ | ⟨a, b, h1, h2, h3⟩
  ·obtain ⟨a, b, h5, h6, h7⟩ := ih s' t' h3 (by omega)
   exact ⟨a, b, by rw [iterN, h1]; exact h5, by rw [iterN, h2]; exact h6, h7⟩
  ·exact ⟨a, b, by rw [iterN, h1], by rw [iterN, h2], h3⟩
theorem get_of {α : Type} {l : List α} {k : Nat} (h : k < l.length) : ∃ a, l[k]? = some a := ⟨l[k], List.getElem?_eq_getElem h⟩
theorem mem_take_succ {α : Type} {xs : List α} {k : Nat} {x y : α} (h : xs[k]? = some x) : y ∈ xs.take (k + 1) ↔ y ∈ xs.take k ∨ y = x := by
 rw [List.take_add_one, h]; simp
theorem bind_ex {α β : Type} {d : Option α} {k : α → Option β} {P : α → Prop} {Q : β → Prop} (h : ∃ s, d = some s ∧ P s) (h2 : ∀ s, P s → ∃ r, k s = some r ∧ Q r) : ∃ r, d.bind k = some r ∧ Q r := by
 obtain ⟨s, rfl, hp⟩ := h
 exact h2 s hp
theorem bind_eq {α β : Type} {d : Option α} {k : α → Option β} {P : α → Prop} {r : β} (h : ∃ s, d = some s ∧ P s) (h2 : ∀ s, P s → k s = some r) : d.bind k = some r := by
 obtain ⟨s, rfl, hp⟩ := h
 exact h2 s hp
theorem bind_of {α β : Type} {d : Option α} {k : α → Option β} {a : α} {r : Option β} (h : d = some a) (h2 : k a = r) : d.bind k = r := by rw [h]; exact h2
theorem bindO_eq {β ρ : Type} {d : Option (Out β ρ)} {k : β → Option ρ} {P : Out β ρ → Prop} {r : ρ} (h : ∃ s, d = some s ∧ P s) (h1 : ∀ x, P (.ret x) → x = r) (h2 : ∀ b, P (.go b) → k b = some r) : bindO d k = some r := by
 obtain ⟨s, rfl, hp⟩ := h
 cases s with
 | go b => exact h2 b hp
 | ret x => show some x = some r; rw [h1 x hp]

/-! ### bytes -/
def byt (a : ByteArray) (k : Nat) : Int := ((a.data.toList[k]?.getD 0).toNat : Int)
theorem size_list (a : ByteArray) : a.data.toList.length = a.size := by rw [Array.length_toList]; rfl
theorem byt_bd (a : ByteArray) (k : Nat) : 0 ≤ byt a k ∧ byt a k < 256 := by
 unfold byt
 have := (a.data.toList[k]?.getD 0).toNat_lt
 omega
theorem idxB_at {a : ByteArray} {k : Nat} (h : k < a.size) : idxB a (k : Int) = some (byt a k) := by
 unfold idxB byt
 rw [if_pos (by omega)]
 have : a[(k : Int).toNat]? = some (a.data.toList[k]'(by rw [size_list]; exact h)) := by
  simp [getElem?_pos, h]
  rfl
 rw [this]
 have h2 : k < a.data.toList.length := by rw [size_list]; exact h
 rw [List.getElem?_eq_getElem h2]
 rfl
theorem idxB_at' {a : ByteArray} {k : Nat} {i : Int} (e : i = (k : Int)) (h : k < a.size) : idxB a i = some (byt a k) := by rw [e]; exact idxB_at h
theorem ba_ext {a b : ByteArray} (h : a.data.toList = b.data.toList) : a = b := by
 cases a; cases b
 congr 1
 exact Array.ext' h
theorem ba_iff {a b : ByteArray} : a = b ↔ a.data.toList = b.data.toList := ⟨fun h => by rw [h], ba_ext⟩
theorem ext_list (a : ByteArray) (n m : Nat) : (a.extract n m).data.toList = (a.data.toList.drop n).take (m - n) := by
 rw [ByteArray.data_extract, Array.toList_extract]
theorem ext_size {a : ByteArray} {n m : Nat} (h : m ≤ a.size) : (a.extract n m).size = m - n := by
 rw [← size_list, ext_list, List.length_take, List.length_drop, size_list]
 omega
theorem byt_ext {a : ByteArray} {n m j : Nat} (h : n + j < m) : byt (a.extract n m) j = byt a (n + j) := by
 unfold byt
 rw [ext_list, List.getElem?_take_of_lt (by omega), List.getElem?_drop]
theorem ext_ext {a : ByteArray} {n m i j : Nat} (h : n + j ≤ m) : (a.extract n m).extract i j = a.extract (n + i) (n + j) := by
 apply ba_ext
 simp only [ext_list, List.drop_take, List.drop_drop, List.take_take]
 congr 1
 omega
theorem ext_all (a : ByteArray) : a.extract 0 a.size = a := by
 apply ba_ext
 rw [ext_list, ← size_list]
 simp
theorem natI_at {i : Int} {k n : Nat} (e : i = (k : Int)) (h : k ≤ n) : natI i n = some k := by
 subst e
 unfold natI
 rw [if_pos (by omega)]
 simp
theorem chkI_at {i : Int} (h1 : -9223372036854775808 ≤ i) (h2 : i ≤ 9223372036854775807) : chkI i = some i := chkI_of h1 h2

/-! ### letters and digits -/
abbrev low (c : Int) : Prop := 97 ≤ c ∧ c ≤ 122
abbrev dig (c : Int) : Prop := 48 ≤ c ∧ c ≤ 57
abbrev inn (c : Int) : Prop := low c ∨ dig c
theorem d15_ok (N : Nat) (c : Int) : d15 N c = some (decide (inn c)) := by
 unfold d15
 (repeat' split) <;> simp only [Option.bind_some, Option.some.injEq] <;> rw [Bool.eq_iff_iff] <;> constructor <;> intro h <;> simp only [decide_eq_true_eq, reduceCtorEq, inn, low, dig] at h ⊢ <;> omega
theorem d16_ok (N : Nat) (c : Int) : d16 N c = some (decide (dig c)) := by
 unfold d16
 (repeat' split) <;> simp only [Option.bind_some, Option.some.injEq] <;> rw [Bool.eq_iff_iff] <;> constructor <;> intro h <;> simp only [decide_eq_true_eq, reduceCtorEq, dig] at h ⊢ <;> omega
theorem d22_ok (N : Nat) (c : Int) : d22 N c = some (decide (low c)) := by
 unfold d22
 (repeat' split) <;> simp only [Option.bind_some, Option.some.injEq] <;> rw [Bool.eq_iff_iff] <;> constructor <;> intro h <;> simp only [decide_eq_true_eq, reduceCtorEq, low] at h ⊢ <;> omega
theorem d24_ok (N : Nat) (c : Int) : d24 N c = some (decide (dig c)) := by
 unfold d24
 (repeat' split) <;> simp only [Option.bind_some, Option.some.injEq] <;> rw [Bool.eq_iff_iff] <;> constructor <;> intro h <;> simp only [decide_eq_true_eq, reduceCtorEq, dig] at h ⊢ <;> omega

/-! ### where a run of bytes ends -/
def IsEnd (p : Int → Prop) (a : ByteArray) (k e : Nat) : Prop := k ≤ e ∧ e ≤ a.size ∧ (∀ j, k ≤ j → j < e → p (byt a j)) ∧ (e < a.size → ¬ p (byt a e))
theorem IsEnd.uniq {p : Int → Prop} {a : ByteArray} {k e f : Nat} (h : IsEnd p a k e) (g : IsEnd p a k f) : e = f := by
 obtain ⟨h1, h2, h3, h4⟩ := h
 obtain ⟨g1, g2, g3, g4⟩ := g
 rcases Nat.lt_trichotomy e f with x | x | x
 ·exact absurd (g3 e h1 x) (h4 (by omega))
 ·exact x
 ·exact absurd (h3 f g1 x) (g4 (by omega))
theorem IsEnd.shift {p : Int → Prop} {a : ByteArray} {n k e : Nat} (hn : n ≤ a.size) (h : IsEnd p (a.extract n a.size) k e) : IsEnd p a (n + k) (n + e) := by
 obtain ⟨h1, h2, h3, h4⟩ := h
 rw [ext_size (Nat.le_refl _)] at h2 h4
 refine ⟨by omega, by omega, fun j hj hj2 => ?_, fun he => ?_⟩
 ·have := h3 (j - n) (by omega) (by omega)
  rw [byt_ext (by omega)] at this
  rwa [show n + (j - n) = j by omega] at this
 ·have := h4 (by omega)
  rwa [byt_ext (by omega)] at this
/-- a loop that looks for the end of a run -/
theorem run_end {N : Nat} (hN : bigN N) (p : Int → Prop) [DecidablePred p] (a : ByteArray) (ha : a.size ≤ 4000) (f : Int → Option (Int ⊕ Int))
  (hf : ∀ k : Nat, k < a.size → p (byt a k) → f k = some (.inl ((k : Int) + 1))) (hg : ∀ k : Nat, k < a.size → ¬ p (byt a k) → f k = some (.inr k)) (he : f a.size = some (.inr (a.size : Int)))
  (k : Nat) (hk : k ≤ a.size) : ∃ r, iterN f N (k : Int) = some r ∧ ∃ e : Nat, r = (e : Int) ∧ IsEnd p a k e := by
 have hN : 9223372036854775808 ≤ N := hN
 exact iter_post f (fun i => (a.size - i.toNat)) (fun i => ∃ j : Nat, i = j ∧ k ≤ j ∧ j ≤ a.size ∧ ∀ x, k ≤ x → x < j → p (byt a x)) (fun r => ∃ e : Nat, r = (e : Int) ∧ IsEnd p a k e) (by
  rintro i ⟨j, rfl, h1, h2, h3⟩
  by_cases hj : j < a.size
  ·by_cases hp : p (byt a j)
   ·refine .inl ⟨_, hf j hj hp, ⟨j + 1, by omega, by omega, by omega, fun x hx hx2 => ?_⟩, by omega⟩
    by_cases hxj : x = j
    ·rw [hxj]; exact hp
    ·exact h3 x hx (by omega)
   ·exact .inr ⟨_, hg j hj hp, j, rfl, h1, h2, h3, fun _ => hp⟩
  ·obtain rfl : j = a.size := by omega
   exact .inr ⟨_, he, a.size, rfl, h1, h2, h3, fun h => by omega⟩) N (k : Int) ⟨k, rfl, Nat.le_refl _, hk, fun x h1 h2 => by omega⟩ (by omega)
theorem d21_ok {N : Nat} (hN : bigN N) (a : ByteArray) (ha : a.size ≤ 4000) (k : Nat) (hk : k ≤ a.size) : ∃ r, d21 N a k = some r ∧ ∃ e : Nat, r = (e : Int) ∧ IsEnd inn a k e := by
 unfold d21
 refine bind_ex (run_end hN inn a ha _ ?_ ?_ ?_ k hk) fun r h => ⟨r, rfl, h⟩
 ·intro j hj hp
  rw [if_pos (by omega), idxB_at hj, Option.bind_some, d22_ok, Option.bind_some]
  by_cases hl : low (byt a j)
  ·rw [if_pos (by simpa using hl)]
   rw [Option.bind_some, if_pos rfl, chkI_at (by omega) (by omega), Option.bind_some]
  ·rw [if_neg (by simpa using hl), Option.bind_some, d24_ok]
   have : dig (byt a j) := hp.resolve_left hl
   rw [decide_eq_true this, Option.bind_some]
   rw [Option.bind_some, if_pos rfl, chkI_at (by omega) (by omega), Option.bind_some]
 ·intro j hj hp
  rw [if_pos (by omega), idxB_at hj, Option.bind_some, d22_ok, Option.bind_some]
  have hl : ¬ low (byt a j) := fun h => hp (.inl h)
  have hd : ¬ dig (byt a j) := fun h => hp (.inr h)
  rw [if_neg (by simpa using hl), Option.bind_some, d24_ok, decide_eq_false hd]
  simp only [Option.bind_some, Bool.false_eq_true, if_false]
 ·rw [if_neg (by omega)]
  simp only [Option.bind_some, Bool.false_eq_true, if_false]

/-! ### keywords -/
def kwL : List ByteArray := [(ByteArray.mk #[97, 103, 103, 114, 101, 103, 97, 116, 101]), (ByteArray.mk #[97, 110, 100]), (ByteArray.mk #[97, 115]), (ByteArray.mk #[98, 121]), (ByteArray.mk #[100, 101, 115, 99]), (ByteArray.mk #[101, 108, 115, 101]), (ByteArray.mk #[101, 120, 99, 101, 112, 116]), (ByteArray.mk #[102, 97, 108, 115, 101]), (ByteArray.mk #[103, 114, 111, 117, 112]), (ByteArray.mk #[105, 102]), (ByteArray.mk #[105, 115]), (ByteArray.mk #[106, 111, 105, 110]), (ByteArray.mk #[108, 101, 102, 116]), (ByteArray.mk #[108, 101, 110, 103, 116, 104]), (ByteArray.mk #[108, 105, 109, 105, 116]), (ByteArray.mk #[110, 111, 116]), (ByteArray.mk #[110, 117, 108, 108]), (ByteArray.mk #[111, 102, 102, 115, 101, 116]), (ByteArray.mk #[111, 110]), (ByteArray.mk #[111, 114]), (ByteArray.mk #[112, 114, 111, 106, 101, 99, 116]), (ByteArray.mk #[115, 99, 97, 110]), (ByteArray.mk #[115, 111, 114, 116]), (ByteArray.mk #[116, 104, 101, 110]), (ByteArray.mk #[116, 114, 117, 101]), (ByteArray.mk #[117, 110, 105, 111, 110]), (ByteArray.mk #[119, 104, 101, 114, 101])]
theorem d10_ok (N : Nat) : d10 N = some kwL := rfl
def inL (a : ByteArray) (l : List ByteArray) : Bool := l.any fun k => decide (a = k)
theorem inL_iff {a : ByteArray} {l : List ByteArray} : inL a l = true ↔ a ∈ l := by simp [inL]
theorem mem_nil0 (a : ByteArray) : (some false : Option Bool) = some (inL a []) := rfl
theorem ite_mem (a k : ByteArray) (l : List ByteArray) : (if decide (a = k) = true then some true else some (inL a l)) = some (inL a (k :: l)) := by
 by_cases h : a = k <;> simp [h, inL]
theorem d23_ok (N : Nat) (a : ByteArray) : d23 N a = some (inL a kwL) := by
 unfold d23 kwL
 rw [mem_nil0 a]
 simp only [ite_mem]
theorem d9_ok {N : Nat} (hN : bigN N) (xs : List ByteArray) (a : ByteArray) (hl : xs.length ≤ 4000) : d9 N xs a = some (inL a xs) := by
 have hN : 9223372036854775808 ≤ N := hN
 unfold d9 d14
 have : ∃ o : Out Unit Int, iterN (σ := Int) (ρ := (Out Unit Int)) (fun (v5 : Int) =>
   if v5 < (xs.length : Int) then (
    (idx xs v5).bind fun x18 =>
    if decide (a = x18) = true then (
     some (.inr (.ret v5))
    ) else
    (chkI (v5 + 1)).bind fun v21 =>
    some (.inl v21)
   ) else
   some (.inr (.go ()))
  ) N 0 = some o ∧ ((∃ k : Nat, o = .ret (k : Int) ∧ a ∈ xs) ∨ (o = .go () ∧ a ∉ xs)) := by
  refine iter_post _ (fun i : Int => xs.length - i.toNat) (fun i => ∃ k : Nat, i = k ∧ k ≤ xs.length ∧ a ∉ xs.take k) _ ?_ N 0 ⟨0, rfl, by omega, by simp⟩ (by omega)
  rintro i ⟨k, rfl, hk, hi⟩
  by_cases hlt : k < xs.length
  ·obtain ⟨x, hx⟩ := get_of hlt
   rw [if_pos (by omega), idx_nat hx, Option.bind_some]
   by_cases hf : a = x
   ·rw [if_pos (by simpa using hf)]
    exact .inr ⟨_, rfl, .inl ⟨k, rfl, hf ▸ List.mem_of_getElem? hx⟩⟩
   ·rw [if_neg (by simpa using hf), chkI_at (by omega) (by omega), Option.bind_some]
    refine .inl ⟨_, rfl, ⟨k + 1, by omega, by omega, fun hy => ?_⟩, by omega⟩
    rcases (mem_take_succ hx).1 hy with h | h
    ·exact hi h
    ·exact hf h
  ·rw [if_neg (by omega)]
   obtain rfl : k = xs.length := by omega
   exact .inr ⟨_, rfl, .inr ⟨rfl, by simpa using hi⟩⟩
 obtain ⟨o, h1, h2⟩ := this
 rw [h1]
 rcases h2 with ⟨k, rfl, h⟩ | ⟨rfl, h⟩
 ·simp [bindO, inL_iff.2 h]
 ·have : inL a xs = false := by rw [Bool.eq_false_iff]; exact fun g => h (inL_iff.1 g)
  simp [bindO, this]
theorem kw_ok {N : Nat} (hN : bigN N) (a : ByteArray) : d9 N kwL a = some (inL a kwL) := d9_ok hN kwL a (by decide)
end Go.Proofs.YtdiekinmoklonabDoor
end
section
namespace Go.Proofs.YtdiekinmoklonabDoor
open Go.Ab Go.Rp Go.Lib

theorem parse_digits : ∀ (l : List UInt8) (acc u : Nat), parseUint10 acc l = .ok u → ∀ c ∈ l, 48 ≤ c.toNat ∧ c.toNat ≤ 57
 | [], _, _, _ => fun c h => by cases h
 | c :: r, acc, u, h => by
  unfold parseUint10 at h
  split at h
  ·rename_i hc
   split at h
   ·cases h
   ·split at h
    ·cases h
    ·intro d hd
     rcases List.mem_cons.1 hd with rfl | hd
     ·exact hc
     ·exact parse_digits r _ u h d hd
  ·cases h
theorem parse_dec : ∀ (l : List UInt8) (acc u : Nat), 0 < acc → parseUint10 acc l = .ok u → decDigits u = decDigits acc ++ l
 | [], acc, u, _, h => by
  unfold parseUint10 at h
  injection h with h
  rw [h, List.append_nil]
 | c :: r, acc, u, ha, h => by
  unfold parseUint10 at h
  split at h
  ·rename_i hc
   split at h
   ·cases h
   ·split at h
    ·cases h
    ·rw [parse_dec r _ u (by omega) h]
     have e : decDigits (acc * 10 + (c.toNat - 48)) = decDigits acc ++ [c] := by
      rw [decDigits, dif_neg (by omega)]
      have e1 : (acc * 10 + (c.toNat - 48)) / 10 = acc := by omega
      have e2 : (acc * 10 + (c.toNat - 48)) % 10 = c.toNat - 48 := by omega
      rw [e1, e2, show 48 + (c.toNat - 48) = c.toNat by omega]
      simp
     rw [e]; simp
  ·cases h
theorem parse_len : ∀ (l : List UInt8) (u : Nat), l ≠ [] → parseUint10 0 l = .ok u → (decDigits u).length ≤ l.length
 | [], _, h, _ => absurd rfl h
 | c :: r, u, _, h => by
  unfold parseUint10 at h
  split at h
  ·rename_i hc
   split at h
   ·cases h
   ·split at h
    ·cases h
    ·by_cases h0 : c.toNat = 48
     ·rw [h0] at h
      simp only [Nat.zero_mul, Nat.sub_self, Nat.add_zero] at h
      by_cases hr : r = []
      ·subst hr
       unfold parseUint10 at h
       injection h with h
       subst h
       rw [decDigits_one (by decide)]
       simp
      ·have := parse_len r u hr h
       simp only [List.length_cons]; omega
     ·rw [parse_dec r _ u (by omega) h, decDigits_one (by omega)]
      simp
  ·cases h
theorem atoi_parts {c : UInt8} {r : List UInt8} {v : Int} (hc : 48 ≤ c.toNat) (h : atoiAll (c :: r) = .ok v) : ∃ u : Nat, v = u ∧ parseUint10 0 (c :: r) = .ok u := by
 rw [atoiAll_plain c r (by omega) (by omega)] at h
 unfold parseMag at h
 rw [if_neg (by simp)] at h
 cases hp : parseUint10 0 (c :: r) with
 | range => rw [hp] at h; cases h
 | ok u =>
  rw [hp] at h
  simp only [signless] at h
  split at h
  ·cases h
  ·injection h with h
   exact ⟨u, h.symm, rfl⟩
 | _ => rw [hp] at h; cases h
theorem num_bad {c : UInt8} {r : List UInt8} (hc : 48 ≤ c.toNat) {d : UInt8} (hd : d ∈ c :: r) (hn : ¬ (48 ≤ d.toNat ∧ d.toNat ≤ 57)) (v : Int) : atoiAll (c :: r) ≠ .ok v := fun h => by
 obtain ⟨u, _, hu⟩ := atoi_parts hc h
 exact hn (parse_digits _ _ _ hu d hd)
theorem num_text {c : UInt8} {r : List UInt8} {v : Int} (hc : 48 ≤ c.toNat ∧ c.toNat ≤ 57) (h : atoiAll (c :: r) = .ok v) : itoa v = c :: r ↔ (c :: r = [48] ∨ c ≠ 48) := by
 obtain ⟨u, rfl, hu⟩ := atoi_parts hc.1 h
 rw [itoa_nonneg]
 have hu0 := hu
 unfold parseUint10 at hu
 rw [if_pos hc] at hu
 split at hu
 ·cases hu
 ·split at hu
  ·cases hu
  ·by_cases h0 : c.toNat = 48
   ·have hc48 : c = 48 := UInt8.toNat_inj.1 h0
    rw [h0] at hu
    simp only [Nat.zero_mul, Nat.sub_self, Nat.add_zero] at hu
    subst hc48
    by_cases hr : r = []
    ·subst hr
     unfold parseUint10 at hu
     injection hu with hu
     subst hu
     simp [decDigits_one]
    ·have := parse_len r u hr hu
     constructor
     ·intro e
      rw [e] at this
      simp only [List.length_cons] at this
      omega
     ·rintro (e | e)
      ·simp [hr] at e
      ·exact absurd rfl e
   ·have e : decDigits u = c :: r := by
     rw [parse_dec r _ u (by omega) hu, decDigits_one (by omega)]
     rw [show 48 + (0 * 10 + (c.toNat - 48)) = c.toNat by omega]
     simp
    simp only [e, true_iff]
    exact .inr fun hh => h0 (by rw [hh]; rfl)
end Go.Proofs.YtdiekinmoklonabDoor
end
section
namespace Go.Proofs.YtdiekinmoklonabDoor
open Go.Ab Go.Rp Go.Lib

theorem natI_zero (n : Nat) : natI 0 n = some 0 := natI_at (i := 0) (k := 0) rfl (Nat.zero_le _)
theorem natI_zero' (n : Nat) : natI ((0 : Nat) : Int) n = some 0 := natI_zero n
abbrev zT : S29 := S29.mk 0 (ByteArray.mk #[]) 0 0
/-- what a token of the program is beside one of the reference -/
def Tok (a : ByteArray) (n : Nat) (r : S29 × Int × Bool) (q : S29 × Int) : Prop :=
 (r.2.2 = true ∧ ∃ k : Nat, r.2.1 = k ∧ 0 < k ∧ n + k ≤ a.size ∧ q = (r.1, ((n + k : Nat) : Int)) ∧
   (r.1.Kind = 1 → r.1.Text = a.extract n (n + k) ∧ IsEnd inn a n (n + k) ∧ low (byt a n) ∧ k ≤ 12 ∧ inL r.1.Text kwL = false) ∧ (r.1.Kind = 2 → r.1.Text = a.extract n (n + k) ∧ inL r.1.Text kwL = true)) ∨
 (r.2.2 = false ∧ q.2 = -1)

theorem list_ext (a : ByteArray) {n e : Nat} (h : n < e) (he : e ≤ a.size) : ∃ c r, (a.extract n e).data.toList = c :: r ∧ (c.toNat : Int) = byt a n ∧ ∀ d ∈ c :: r, ∃ j, n ≤ j ∧ j < e ∧ (d.toNat : Int) = byt a j := by
 have hl : (a.extract n e).data.toList.length = e - n := by rw [size_list, ext_size he]
 have hg : ∀ j, j < e - n → ∃ d, (a.extract n e).data.toList[j]? = some d ∧ (d.toNat : Int) = byt a (n + j) := fun j hj => by
  obtain ⟨d, hd⟩ := get_of (l := (a.extract n e).data.toList) (k := j) (by omega)
  refine ⟨d, hd, ?_⟩
  rw [← byt_ext (m := e) (by omega)]
  unfold byt
  rw [hd]
  rfl
 cases hx : (a.extract n e).data.toList with
 | nil => rw [hx] at hl; simp at hl; omega
 | cons c r =>
  rw [hx] at hg hl
  refine ⟨c, r, rfl, ?_, fun d hd => ?_⟩
  ·obtain ⟨d, h1, h2⟩ := hg 0 (by omega)
   injection h1 with h1
   rw [h1]; exact h2
  ·obtain ⟨j, hj⟩ := List.getElem?_of_mem hd
   have hj2 : j < e - n := by rw [← hl]; exact (List.getElem?_eq_some_iff.1 hj).1
   obtain ⟨d', h1, h2⟩ := hg j hj2
   rw [hj] at h1
   injection h1 with h1
   subst h1
   exact ⟨n + j, by omega, by omega, h2⟩

theorem d25_ok (N : Nat) {s : ByteArray} (h : s.size ≤ 4000) : (∃ v, atoiAll s.data.toList = .ok v ∧ d25 N s = some (v, false)) ∨ ((∀ v, atoiAll s.data.toList ≠ .ok v) ∧ ∃ v, d25 N s = some (v, true)) := by
 unfold d25
 rw [if_pos (by omega)]
 cases hx : atoiAll s.data.toList with
 | ok v => exact .inl ⟨v, rfl, rfl⟩
 | range => exact .inr ⟨(fun v h => by cases h), _, rfl⟩
 | _ => exact .inr ⟨(fun v h => by cases h), _, rfl⟩
theorem d28_ok (N : Nat) {l : List UInt8} {v : Int} (h : atoiAll l = .ok v) : d28 N v = some ⟨(itoa v).toArray⟩ := by
 unfold d28
 rw [if_pos (atoiAll_bounds h)]

/-- the reference at a digit -/
def numQ (a : ByteArray) (n e : Nat) (q : S29 × Int) : Prop :=
 (∃ v, atoiAll (a.extract n e).data.toList = .ok v ∧ v ≤ 1000000000000 ∧ (a.extract n e = ⟨#[48]⟩ ∨ byt a n ≠ 48) ∧ q = (S29.mk 3 (ByteArray.mk #[]) v 0, (e : Int))) ∨
 ((∀ v, atoiAll (a.extract n e).data.toList = .ok v → ¬ (v ≤ 1000000000000 ∧ (a.extract n e = ⟨#[48]⟩ ∨ byt a n ≠ 48))) ∧ q = (zT, -1))

theorem ba_arr (l : List UInt8) (s : ByteArray) : (⟨l.toArray⟩ : ByteArray) = s ↔ l = s.data.toList := by
 rw [ba_iff]

theorem d17_ok {N : Nat} (hN : bigN N) (a : ByteArray) (ha : a.size ≤ 4000) (n : Nat) (hn : n < a.size) (hd : dig (byt a n)) {e : Nat} (he : IsEnd inn a n e) {q : S29 × Int} (hq : numQ a n e q) :
  ∃ r, d17 N (a.extract n a.size) 0 = some r ∧ Tok a n r q := by
 have hs : (a.extract n a.size).size = a.size - n := ext_size (Nat.le_refl _)
 unfold d17
 refine bind_ex (run_end hN dig (a.extract n a.size) (by omega) _ ?_ ?_ ?_ 0 (by omega)) ?_
 ·intro j hj hp
  rw [if_pos (by omega), idxB_at hj, Option.bind_some, d16_ok, Option.bind_some, Option.bind_some, decide_eq_true hp, if_pos rfl, chkI_at (by omega) (by omega), Option.bind_some]
 ·intro j hj hp
  rw [if_pos (by omega), idxB_at hj, Option.bind_some, d16_ok, Option.bind_some, Option.bind_some, decide_eq_false hp, if_neg (by decide)]
 ·rw [if_neg (by omega), Option.bind_some, if_neg (by decide)]
 rintro r ⟨k, rfl, hk⟩
 have hk2 := hk.2.1
 have hend := hk.shift (Nat.le_of_lt hn)
 rw [Nat.add_zero] at hend
 have hk0 : 0 < k := by
  rcases Nat.eq_zero_or_pos k with h | h
  ·subst h
   have := hk.2.2.2 (by omega)
   rw [byt_ext (by omega)] at this
   exact absurd hd this
  ·exact h
 rw [natI_at rfl hk2, Option.bind_some, natI_zero, Option.bind_some]
 unfold letv
 rw [ext_ext (by omega), Nat.add_zero]
 dsimp only
 have hsz : (a.extract n (n + k)).size = k := by rw [ext_size (by omega)]; omega
 obtain ⟨c, l, hl, hc, hall⟩ := list_ext a (n := n) (e := n + k) (by omega) (by omega)
 -- the ends
 have hke : n + k ≤ e := by
  rcases Nat.lt_or_ge e (n + k) with h | h
  ·exact absurd (.inr (hend.2.2.1 e he.1 h)) (he.2.2.2 (by omega))
  ·exact h
 have hcd : 48 ≤ c.toNat ∧ c.toNat ≤ 57 := by omega
 by_cases hlast : n + k = e
 ·-- the numeral ends where the word ends
  subst hlast
  have hin : (k : Int) = ((a.extract n a.size).size : Int) ∨ (k < (a.extract n a.size).size ∧ ¬ inn (byt (a.extract n a.size) k)) := by
   by_cases h : k < (a.extract n a.size).size
   ·refine .inr ⟨h, ?_⟩
    rw [byt_ext (by omega)]
    exact he.2.2.2 (by omega)
   ·exact .inl (by omega)
  rcases d25_ok N (s := a.extract n (n + k)) (by omega) with ⟨v, hv, h25⟩ | ⟨hv, v, h25⟩
  ·rw [h25, Option.bind_some]
   have hcond : (itoa v = (a.extract n (n + k)).data.toList) ↔ (a.extract n (n + k) = ⟨#[48]⟩ ∨ byt a n ≠ 48) := by
    have := hv
    rw [hl] at this
    rw [hl, num_text hcd this, ba_iff, hl]
    have h48 : c ≠ 48 ↔ byt a n ≠ 48 := by
     rw [← hc]
     constructor
     ·intro h g
      exact h (UInt8.toNat_inj.1 (by show c.toNat = 48; omega))
     ·rintro h rfl
      exact h rfl
    rw [h48]
   by_cases hle : v ≤ 1000000000000
   ·simp only [Bool.not_false, if_true, hle, d28_ok N hv, Option.bind_some, natI_at (k := k) rfl hk2, natI_zero']
    by_cases hic : itoa v = (a.extract n (n + k)).data.toList
    ·have hie : (⟨(itoa v).toArray⟩ : ByteArray) = a.extract n (n + k) := (ba_arr _ _).2 hic
     have hq' : q = (S29.mk 3 (ByteArray.mk #[]) v 0, ((n + k : Nat) : Int)) := by
      rcases hq with ⟨w, h1, _, _, h4⟩ | ⟨h1, _⟩
      ·rw [hv] at h1; injection h1 with h1; rw [h1]; exact h4
      ·exact absurd ⟨hle, hcond.1 hic⟩ (h1 v hv)
     rw [if_pos (by simpa using hie)]
     refine bind_ex (P := fun b => b = true) ?_ ?_
     ·rcases hin with h | ⟨h, h2⟩
      ·rw [if_pos (by simpa using h)]; exact ⟨_, rfl, rfl⟩
      ·rw [if_neg (by simpa using by omega), idxB_at h, Option.bind_some, d15_ok, Option.bind_some, decide_eq_false h2]
       exact ⟨_, rfl, rfl⟩
     ·rintro b rfl
      exact ⟨_, rfl, .inl ⟨rfl, k, rfl, hk0, by omega, hq', fun h => absurd (show (3 : Int) = 1 from h) (by decide), fun h => absurd (show (3 : Int) = 2 from h) (by decide)⟩⟩
    ·have hie : ¬ (⟨(itoa v).toArray⟩ : ByteArray) = a.extract n (n + k) := fun h => hic ((ba_arr _ _).1 h)
     have hq' : q = (zT, -1) := by
      rcases hq with ⟨w, h1, h2, h3, h4⟩ | ⟨_, h1⟩
      ·exact absurd (hcond.2 h3) hic
      ·exact h1
     rw [if_neg (by simpa using hie)]
     exact ⟨_, rfl, .inr ⟨rfl, by rw [hq']⟩⟩
   ·have hq' : q = (zT, -1) := by
     rcases hq with ⟨w, h1, h2, h3, h4⟩ | ⟨_, h1⟩
     ·rw [hv] at h1; injection h1 with h1; omega
     ·exact h1
    simp only [Bool.not_false, if_true, hle, if_false]
    exact ⟨_, rfl, .inr ⟨rfl, by rw [hq']⟩⟩
  ·have hq' : q = (zT, -1) := by
    rcases hq with ⟨w, h1, h2, h3, h4⟩ | ⟨_, h1⟩
    ·exact absurd h1 (hv w)
    ·exact h1
   rw [h25, Option.bind_some]
   simp only [Bool.not_true, Bool.false_eq_true, if_false]
   exact ⟨_, rfl, .inr ⟨rfl, by rw [hq']⟩⟩
 ·-- a letter follows
  have hlt : n + k < e := by omega
  have hke2 := he.2.1
  have hkin : inn (byt (a.extract n a.size) k) := by
   rw [byt_ext (by omega)]
   exact he.2.2.1 (n + k) (by omega) hlt
  have hkd : ¬ dig (byt a (n + k)) := hend.2.2.2 (by omega)
  have hq' : q = (zT, -1) := by
   rcases hq with ⟨w, h1, h2, h3, h4⟩ | ⟨_, h1⟩
   ·obtain ⟨c2, l2, hl2, hc2, hall2⟩ := list_ext a (n := n) (e := e) (by omega) he.2.1
    rw [hl2] at h1
    have hdg : ∀ d ∈ c2 :: l2, 48 ≤ d.toNat ∧ d.toNat ≤ 57 := by
     obtain ⟨u, _, hu⟩ := atoi_parts (by omega : 48 ≤ c2.toNat) h1
     exact parse_digits _ _ _ hu
    exfalso
    have hlen : (a.extract n e).data.toList.length = e - n := by rw [size_list, ext_size he.2.1]
    obtain ⟨d, hd'⟩ := get_of (l := (a.extract n e).data.toList) (k := k) (by omega)
    have hdb : (d.toNat : Int) = byt a (n + k) := by
     rw [← byt_ext (m := e) (by omega)]
     unfold byt
     rw [hd']; rfl
    have hm := List.mem_of_getElem? hd'
    rw [hl2] at hm
    have := hdg d hm
    exact hkd (by omega)
   ·exact h1
  have hne : ¬ ((k : Int) == ((a.extract n a.size).size : Int)) = true := by simpa using by omega
  have hb : (idxB (a.extract n a.size) (k : Int)).bind (fun v63 => (d15 N v63).bind fun r64 => some !r64) = some false := by
   rw [idxB_at (by omega), Option.bind_some, d15_ok, Option.bind_some, decide_eq_true hkin]; rfl
  rcases d25_ok N (s := a.extract n (n + k)) (by omega) with ⟨v, hv, h25⟩ | ⟨hv, v, h25⟩
  ·rw [h25, Option.bind_some]
   refine bind_ex (P := fun b => b = false) ?_ ?_
   ·by_cases hle : v ≤ 1000000000000
    ·simp only [Bool.not_false, if_true, hle, d28_ok N hv, Option.bind_some, natI_at (k := k) rfl hk2, natI_zero']
     split
     ·first | exact ⟨_, hb, rfl⟩ | (rw [if_neg hne]; exact ⟨_, hb, rfl⟩)
     ·exact ⟨_, rfl, rfl⟩
    ·simp only [Bool.not_false, if_true, hle, if_false]
     exact ⟨_, rfl, rfl⟩
   ·rintro b rfl
    exact ⟨_, rfl, .inr ⟨rfl, by rw [hq']⟩⟩
  ·rw [h25, Option.bind_some]
   simp only [Bool.not_true, Bool.false_eq_true, if_false]
   exact ⟨_, rfl, .inr ⟨rfl, by rw [hq']⟩⟩
end Go.Proofs.YtdiekinmoklonabDoor
end
section
namespace Go.Proofs.YtdiekinmoklonabDoor
open Go.Ab Go.Rp Go.Lib

def argC (a : ByteArray) (n : Nat) : Prop := n + 2 < a.size ∧ dig (byt a (n + 1)) ∧ (byt a (n + 2) = 105 ∨ byt a (n + 2) = 98 ∨ byt a (n + 2) = 116) ∧ (n + 3 < a.size → ¬ inn (byt a (n + 3)))
def argT (a : ByteArray) (n : Nat) : S29 := S29.mk 6 (a.extract (n + 2) (n + 3)) (byt a (n + 1) - 48) 0
theorem argC_end {a : ByteArray} {n e : Nat} (h : IsEnd inn a (n + 1) e) : argC a n ↔ e = n + 3 ∧ dig (byt a (n + 1)) ∧ (byt a (n + 2) = 105 ∨ byt a (n + 2) = 98 ∨ byt a (n + 2) = 116) := by
 constructor
 ·rintro ⟨h1, h2, h3, h4⟩
  refine ⟨h.uniq ⟨by omega, by omega, fun j g1 g2 => ?_, fun g => h4 g⟩, h2, h3⟩
  rcases (by omega : j = n + 1 ∨ j = n + 2) with rfl | rfl
  ·exact .inr h2
  ·left; simp only [low]; omega
 ·rintro ⟨rfl, h2, h3⟩
  exact ⟨by have := h.2.1; omega, h2, h3, fun g => h.2.2.2 g⟩
theorem wrap8 {c : Int} (h : dig c) : IntKind.u8.wrap (c - 48) = c - 48 := by
 obtain ⟨h1, h2⟩ := h
 rcases (by omega : c = 48 ∨ c = 49 ∨ c = 50 ∨ c = 51 ∨ c = 52 ∨ c = 53 ∨ c = 54 ∨ c = 55 ∨ c = 56 ∨ c = 57) with rfl | rfl | rfl | rfl | rfl | rfl | rfl | rfl | rfl | rfl <;> rfl
theorem ibt_ok (N : Nat) {c : Int} (h : 0 ≤ c ∧ c < 256) : ∃ i, d29 N (ByteArray.mk #[105, 98, 116]) c = some i ∧ (i < 0 ↔ ¬ (c = 105 ∨ c = 98 ∨ c = 116)) := by
 refine ⟨_, rfl, ?_⟩
 obtain ⟨k, rfl⟩ : ∃ k : Nat, c = k := ⟨c.toNat, by omega⟩
 have hk : k < 256 := by omega
 have : ∀ k, k < 256 → ((indexByte [105, 98, 116] (k.toUInt8) < 0) ↔ ¬ (k = 105 ∨ k = 98 ∨ k = 116)) := by decide +kernel
 have := this k hk
 show (indexByte [105, 98, 116] ((k : Int).toNat.toUInt8) < 0) ↔ _
 rw [Int.toNat_natCast, this]
 omega
theorem d18_ok (N : Nat) (a : ByteArray) (_ha : a.size ≤ 4000) (n : Nat) (hn : n < a.size) : (argC a n → d18 N (a.extract n a.size) = some (argT a n, 3, true)) ∧ (¬ argC a n → ∃ x y, d18 N (a.extract n a.size) = some (x, y, false)) := by
 have hs : (a.extract n a.size).size = a.size - n := ext_size (Nat.le_refl _)
 have hb : ∀ j, n + j < a.size → byt (a.extract n a.size) j = byt a (n + j) := fun j h => byt_ext h
 unfold d18
 have key : ∃ b : Bool, (
  if ((a.extract n a.size).size : Int) < 3 then (
   some true
  ) else
  (idxB (a.extract n a.size) 1).bind fun v10 =>
  (d16 N v10).bind fun r11 =>
  if (!r11) = true then (
   some true
  ) else
  if ((a.extract n a.size).size : Int) > 3 then (
   (idxB (a.extract n a.size) 3).bind fun v14 =>
   (d15 N v14).bind fun r15 =>
   some r15
  ) else
  some false) = some b ∧ (b = false ↔ (n + 2 < a.size ∧ dig (byt a (n + 1)) ∧ (n + 3 < a.size → ¬ inn (byt a (n + 3))))) := by
  by_cases h1 : ((a.extract n a.size).size : Int) < 3
  ·rw [if_pos h1]
   exact ⟨true, rfl, by simp; omega⟩
  ·rw [if_neg h1, idxB_at' (i := 1) (k := 1) rfl (by omega), Option.bind_some, d16_ok, Option.bind_some, hb 1 (by omega)]
   by_cases h2 : dig (byt a (n + 1))
   ·rw [decide_eq_true h2, if_neg (by decide)]
    by_cases h3 : ((a.extract n a.size).size : Int) > 3
    ·rw [if_pos h3, idxB_at' (i := 3) (k := 3) rfl (by omega), Option.bind_some, d15_ok, Option.bind_some, hb 3 (by omega)]
     refine ⟨_, rfl, ?_⟩
     rw [decide_eq_false_iff_not]
     exact ⟨fun h => ⟨by omega, h2, fun _ => h⟩, fun h => h.2.2 (by omega)⟩
    ·rw [if_neg h3]
     exact ⟨false, rfl, fun _ => ⟨by omega, h2, fun h => by omega⟩, fun _ => rfl⟩
   ·rw [decide_eq_false h2, if_pos (show (!false) = true from rfl)]
    exact ⟨true, rfl, ⟨(fun h => by cases h), fun h => absurd h.2.1 h2⟩⟩
 obtain ⟨b, hbe, hb2⟩ := key
 have e1 : ∀ {β : Type} (x : Option Bool) (k : Bool → Option β), x = some b → x.bind k = k b := fun x k h => by rw [h]; rfl
 rw [e1 _ _ hbe]
 cases b with
 | true =>
  rw [if_pos rfl]
  refine ⟨fun h => ?_, fun _ => ⟨_, _, rfl⟩⟩
  have := hb2.2 ⟨h.1, h.2.1, h.2.2.2⟩
  cases this
 | false =>
  obtain ⟨h1, h2, h3⟩ := hb2.1 rfl
  rw [if_neg (by decide), idxB_at' (i := 2) (k := 2) rfl (by omega), Option.bind_some, hb 2 (by omega)]
  obtain ⟨i, hi, hi2⟩ := ibt_ok N (byt_bd a (n + 2))
  rw [hi, Option.bind_some]
  by_cases h4 : byt a (n + 2) = 105 ∨ byt a (n + 2) = 98 ∨ byt a (n + 2) = 116
  ·rw [if_neg (fun h => hi2.1 h h4), idxB_at' (i := 1) (k := 1) rfl (by omega), Option.bind_some, hb 1 (by omega)]
   unfold letv
   rw [wrap8 h2]
   dsimp only
   rw [chkI_at (by omega) (by omega), Option.bind_some, natI_at (i := 3) (k := 3) rfl (by omega), Option.bind_some, natI_at (i := 2) (k := 2) rfl (by omega), Option.bind_some, ext_ext (by omega)]
   exact ⟨fun _ => rfl, fun h => absurd ⟨h1, h2, h4, h3⟩ h⟩
  ·rw [if_pos (hi2.2 h4)]
   exact ⟨fun h => absurd h.2.2.1 h4, fun _ => ⟨_, _, rfl⟩⟩

/-! ### strings -/
theorem bstr_list (l : List Int) : (bstr l).data.toList = l.map fun n => UInt8.ofNat n.toNat := by unfold bstr; simp
theorem bstr_size (l : List Int) : (bstr l).size = l.length := by rw [← size_list, bstr_list, List.length_map]
theorem app_list (a b : ByteArray) : (a ++ b).data.toList = a.data.toList ++ b.data.toList := by
 rw [ByteArray.data_append, Array.toList_append]
theorem byt_u8 {a : ByteArray} {k : Nat} (h : k < a.size) : (a.extract k (k + 1)).data.toList = [UInt8.ofNat (byt a k).toNat] := by
 rw [ext_list]
 have h2 : k < a.data.toList.length := by rw [size_list]; exact h
 unfold byt
 rw [List.getElem?_eq_getElem h2, show k + 1 - k = 1 by omega]
 rw [List.drop_eq_getElem_cons h2]
 simp
theorem catB_at {a b : ByteArray} (h : a.size + b.size ≤ 100000) : catB a b = some (a ++ b) := by
 unfold catB
 rw [if_pos (by unfold Rp.reach; omega)]
theorem appL_at {α : Type} {xs ys : List α} {b : Nat} (h : (xs.length + ys.length) * b ≤ 100000000) : appL b xs ys = some (xs ++ ys) := by
 unfold appL
 rw [if_pos (by unfold Rp.reach; omega)]

def QOut (a : ByteArray) (n : Nat) : Out Unit (S29 × Int × Bool) → Out Unit (S29 × Int) → Prop := fun o p => (o = .go () ∧ p = .go ()) ∨ (∃ r q, o = .ret r ∧ p = .ret q ∧ Tok a n r q) ∨ ∃ r, o = .ret r ∧ r.2.2 = false ∧ p = .go ()

theorem bindO_go {β ρ : Type} (b : β) (k : β → Option ρ) : bindO (some (.go b)) k = k b := rfl
theorem bindO_ret {β ρ : Type} (r : ρ) (k : β → Option ρ) : bindO (some (.ret r)) k = some r := rfl
theorem quoted_ok {N : Nat} (hN : bigN N) (a : ByteArray) (ha : a.size ≤ 4000) (n : Nat) (hn : n < a.size) (_hq : byt a n = 39) : ∃ r q, d19 N (a.extract n a.size) = some r ∧ d26 N a n = some q ∧ Tok a n r q := by
 have hN : 9223372036854775808 ≤ N := hN
 have hs : (a.extract n a.size).size = a.size - n := ext_size (Nat.le_refl _)
 have hb : ∀ j, n + j < a.size → byt (a.extract n a.size) j = byt a (n + j) := fun j h => byt_ext h
 have fin : ∀ {o : Option (Out Unit (S29 × Int × Bool))} {p : Option (Out Unit (S29 × Int))}, (∃ x y, o = some x ∧ p = some y ∧ QOut a n x y) →
   ∃ r q, (bindO o fun (_ : Unit) => some ((S29.mk 0 (ByteArray.mk #[]) 0 0), 0, false)) = some r ∧ (bindO p fun (_ : Unit) => some ((S29.mk 0 (ByteArray.mk #[]) 0 0), (-1))) = some q ∧ Tok a n r q := by
  rintro o p ⟨x, y, rfl, rfl, h⟩
  rcases h with ⟨rfl, rfl⟩ | ⟨r, q, rfl, rfl, h⟩ | ⟨r, rfl, h, rfl⟩
  ·exact ⟨_, _, rfl, rfl, .inr ⟨rfl, rfl⟩⟩
  ·exact ⟨r, q, rfl, rfl, h⟩
  ·exact ⟨r, _, rfl, rfl, .inr ⟨h, rfl⟩⟩
 unfold d19 d26
 rw [chkI_at (by omega) (by omega), Option.bind_some]
 refine fin (iter_pair _ _ (fun s : ByteArray × Int => a.size - s.2.toNat) (fun s t => ∃ i : Nat, s.2 = i ∧ t.2 = ((n + i : Nat) : Int) ∧ 1 ≤ i ∧ n + i ≤ a.size ∧ s.1 = bstr t.1 ∧ t.1.length ≤ i) (QOut a n) ?_ N _ _ ⟨1, rfl, by simp, by omega, by omega, rfl, by simp⟩ (by dsimp only; omega))
 rintro ⟨s, _⟩ ⟨l, _⟩ ⟨i, rfl, rfl, h1, h2, rfl, hl⟩
 replace hl : l.length ≤ i := hl
 dsimp only
 by_cases hi : n + i < a.size
 ·rw [if_pos (by omega), if_pos (by omega), idxB_at (a := a.extract n a.size) (k := i) (by omega), Option.bind_some, idxB_at (a := a) (k := n + i) hi, Option.bind_some, hb i hi]
  by_cases hc : byt a (n + i) = 39
  ·rw [if_neg (by simpa using hc), if_pos (by simpa using hc)]
   rw [chkI_at (i := (i : Int) + 1) (by omega) (by omega), chkI_at (i := ((n + i : Nat) : Int) + 1) (by omega) (by omega)]
   repeat rw [Option.bind_some]
   by_cases hi2 : n + i + 1 < a.size
   ·rw [if_pos (by omega), if_neg (by omega), idxB_at' (a := a.extract n a.size) (k := i + 1) (by omega) (by omega), idxB_at' (a := a) (k := n + i + 1) (by omega) hi2]
    repeat rw [Option.bind_some]
    rw [hb (i + 1) (by omega), ← Nat.add_assoc]
    by_cases hc2 : byt a (n + i + 1) = 39
    ·rw [if_pos (by simpa using hc2), if_neg (by simpa using hc2), catB_at (by rw [bstr_size]; show l.length + 1 ≤ _; omega)]
     repeat rw [Option.bind_some]
     rw [bindO_go]
     rw [chkI_at (by omega) (by omega), Option.bind_some, idxB_at' (a := a) (k := n + i + 1) (by omega) hi2, Option.bind_some, hc2, appL_at (by simp; omega), Option.bind_some, chkI_at (by omega) (by omega), Option.bind_some]
     refine .inl ⟨_, _, rfl, rfl, ⟨i + 2, by show (i : Int) + 1 + 1 = _; omega, by show ((n + i : Nat) : Int) + 1 + 1 = _; omega, by omega, by omega, ?_, ?_⟩, ?_⟩
     ·apply ba_ext
      rw [app_list, bstr_list, bstr_list]
      simp
     ·simp; omega
     ·dsimp only; omega
    ·rw [if_neg (by simpa using hc2), if_pos (by simpa using hc2)]
     by_cases hlen : (l.length : Int) > 24
     ·rw [if_pos hlen]
      refine .inr ⟨_, _, rfl, rfl, .inr (.inr ⟨_, rfl, ?_, rfl⟩)⟩
      show decide (((bstr l).size : Int) ≤ 24) = false
      rw [bstr_size]; simp; omega
     ·rw [if_neg hlen]
      repeat rw [Option.bind_some]
      refine .inr ⟨_, _, rfl, rfl, .inr (.inl ⟨_, _, rfl, rfl, .inl ⟨?_, i + 1, by simp, by omega, by omega, ?_, ?_, ?_⟩⟩)⟩
      ·show decide (((bstr l).size : Int) ≤ 24) = true
       rw [bstr_size]; simp; omega
      ·show (_, _) = (_, _)
       congr 1
      ·intro h; exact absurd (show (4 : Int) = 1 from h) (by decide)
      ·intro h; exact absurd (show (4 : Int) = 2 from h) (by decide)
   ·rw [if_neg (by omega), if_pos (by omega)]
    repeat rw [Option.bind_some]
    rw [if_neg (by decide), if_pos rfl]
    by_cases hlen : (l.length : Int) > 24
    ·rw [if_pos hlen]
     refine .inr ⟨_, _, rfl, rfl, .inr (.inr ⟨_, rfl, ?_, rfl⟩)⟩
     show decide (((bstr l).size : Int) ≤ 24) = false
     rw [bstr_size]; simp; omega
    ·rw [if_neg hlen]
     repeat rw [Option.bind_some]
     refine .inr ⟨_, _, rfl, rfl, .inr (.inl ⟨_, _, rfl, rfl, .inl ⟨?_, i + 1, by simp, by omega, by omega, ?_, ?_, ?_⟩⟩)⟩
     ·show decide (((bstr l).size : Int) ≤ 24) = true
      rw [bstr_size]; simp; omega
     ·show (_, _) = (_, _)
      congr 1
     ·intro h; exact absurd (show (4 : Int) = 1 from h) (by decide)
     ·intro h; exact absurd (show (4 : Int) = 2 from h) (by decide)
  ·rw [if_pos (by simpa using hc), if_neg (by simpa using hc)]
   rw [chkI_at (i := (i : Int) + 1) (by omega) (by omega)]
   rw [bindO_go]
   unfold letv
   repeat rw [Option.bind_some]
   rw [natI_at (k := i + 1) (by omega) (by omega), Option.bind_some, natI_at (k := i) rfl (by omega), Option.bind_some]
   dsimp only
   rw [catB_at (by rw [bstr_size, ext_size (by omega)]; omega), Option.bind_some, chkI_at (by omega) (by omega), Option.bind_some]
   rw [idxB_at (a := a) (k := n + i) hi, Option.bind_some, appL_at (by simp; omega), Option.bind_some, chkI_at (by omega) (by omega), Option.bind_some]
   refine .inl ⟨_, _, rfl, rfl, ⟨i + 1, by simp, by simp; omega, by omega, by omega, ?_, ?_⟩, ?_⟩
   ·apply ba_ext
    rw [app_list, bstr_list, bstr_list, byt_u8 (by omega), hb i hi]
    simp
   ·simp; omega
   ·dsimp only; omega
 ·rw [if_neg (by omega), if_neg (by omega)]
  exact .inr ⟨_, _, rfl, rfl, .inl ⟨rfl, rfl⟩⟩
end Go.Proofs.YtdiekinmoklonabDoor
end
section
namespace Go.Proofs.YtdiekinmoklonabDoor
open Go.Ab Go.Rp Go.Lib

def pL : List ByteArray := [(ByteArray.mk #[124, 124]), (ByteArray.mk #[60, 61]), (ByteArray.mk #[40]), (ByteArray.mk #[41]), (ByteArray.mk #[44]), (ByteArray.mk #[124]), (ByteArray.mk #[43]), (ByteArray.mk #[45]), (ByteArray.mk #[42]), (ByteArray.mk #[61]), (ByteArray.mk #[60]), (ByteArray.mk #[36])]
def p1L : List ByteArray := [(ByteArray.mk #[40]), (ByteArray.mk #[41]), (ByteArray.mk #[44]), (ByteArray.mk #[124]), (ByteArray.mk #[43]), (ByteArray.mk #[45]), (ByteArray.mk #[42]), (ByteArray.mk #[61]), (ByteArray.mk #[60]), (ByteArray.mk #[36])]
/-- two bytes of punctuation -/
def twoC (a : ByteArray) (n : Nat) : Prop := n + 1 < a.size ∧ (a.extract n (n + 2) = ⟨#[124, 124]⟩ ∨ a.extract n (n + 2) = ⟨#[60, 61]⟩)
instance (a : ByteArray) (n : Nat) : Decidable (twoC a n) := by unfold twoC; exact inferInstance
theorem mem_one (a k : ByteArray) : (some (decide (a = k)) : Option Bool) = some (inL a [k]) := by simp [inL]
theorem pL_size : ∀ x ∈ pL, x.size = 1 ∨ x.size = 2 := by decide
theorem p1L_size : ∀ x ∈ p1L, x.size = 1 := by decide
theorem pL_split (x : ByteArray) : x ∈ pL ↔ x = ⟨#[124, 124]⟩ ∨ x = ⟨#[60, 61]⟩ ∨ x ∈ p1L := by simp [pL, p1L]

/-- the reference's punctuation -/
def punQ (a : ByteArray) (n : Nat) : S29 × Int :=
 if twoC a n then (S29.mk 5 (a.extract n (n + 2)) 0 0, ((n + 2 : Nat) : Int)) else if inL (a.extract n (n + 1)) p1L = true then (S29.mk 5 (a.extract n (n + 1)) 0 0, ((n + 1 : Nat) : Int)) else (zT, -1)

theorem d27_ok (N : Nat) (a : ByteArray) (ha : a.size ≤ 4000) (n : Nat) (hn : n < a.size) : d27 N a n = some (punQ a n) := by
 unfold d27
 have key : ∃ b : Bool, (b = true ↔ twoC a n) ∧ (
  (chkI ((n : Int) + 1)).bind fun v14 =>
  if v14 < (a.size : Int) then (
   (chkI ((n : Int) + 2)).bind fun v16 =>
   (natI v16 a.size).bind fun n17 =>
   (natI (n : Int) n17).bind fun n18 =>
   letv (a.extract n18 n17) fun v19 =>
   if decide (v19 = (ByteArray.mk #[124, 124])) = true then (
    some ((n18 : Int), true)
   ) else
   (chkI ((n18 : Int) + 2)).bind fun v21 =>
   (natI v21 a.size).bind fun n22 =>
   (natI (n18 : Int) n22).bind fun _ =>
   letv (a.extract n18 n22) fun v24 =>
   some ((n18 : Int), decide (v24 = (ByteArray.mk #[60, 61])))
  ) else
  some ((n : Int), false)) = some ((n : Int), b) := by
  rw [chkI_at (by omega) (by omega), Option.bind_some]
  by_cases h : n + 1 < a.size
  ·rw [if_pos (by omega), chkI_at (by omega) (by omega), Option.bind_some, natI_at (k := n + 2) (by omega) (by omega), Option.bind_some, natI_at (k := n) rfl (by omega), Option.bind_some]
   unfold letv
   dsimp only
   by_cases h1 : a.extract n (n + 2) = ⟨#[124, 124]⟩
   ·rw [if_pos (by simpa using h1)]
    exact ⟨true, by simp [twoC, h, h1], rfl⟩
   ·rw [if_neg (by simpa using h1), chkI_at (by omega) (by omega), Option.bind_some, natI_at (k := n + 2) (by omega) (by omega), Option.bind_some, natI_at (k := n) rfl (by omega), Option.bind_some]
    exact ⟨_, by simp [twoC, h, h1], rfl⟩
  ·rw [if_neg (by omega)]
   exact ⟨false, by simp [twoC, h], rfl⟩
 obtain ⟨b, hb, hbe⟩ := key
 rw [bind_of hbe rfl]
 have fin : ∀ k : Nat, n + k ≤ a.size → 1 ≤ k → k ≤ 2 → (
   (chkI ((n : Int) + (k : Int))).bind fun v28 =>
 (natI v28 a.size).bind fun n29 =>
 (natI (n : Int) n29).bind fun n30 =>
 letv (a.extract n30 n29) fun v31 =>
 Option.bind (α := Bool) (
  if decide (v31 = (ByteArray.mk #[124, 124])) = true then (
   some true
  ) else
  if decide (v31 = (ByteArray.mk #[60, 61])) = true then (
   some true
  ) else
  if decide (v31 = (ByteArray.mk #[40])) = true then (
   some true
  ) else
  if decide (v31 = (ByteArray.mk #[41])) = true then (
   some true
  ) else
  if decide (v31 = (ByteArray.mk #[44])) = true then (
   some true
  ) else
  if decide (v31 = (ByteArray.mk #[124])) = true then (
   some true
  ) else
  if decide (v31 = (ByteArray.mk #[43])) = true then (
   some true
  ) else
  if decide (v31 = (ByteArray.mk #[45])) = true then (
   some true
  ) else
  if decide (v31 = (ByteArray.mk #[42])) = true then (
   some true
  ) else
  if decide (v31 = (ByteArray.mk #[61])) = true then (
   some true
  ) else
  if decide (v31 = (ByteArray.mk #[60])) = true then (
   some true
  ) else
  some (decide (v31 = (ByteArray.mk #[36])))
 ) fun (v43 : Bool) =>
 if v43 = true then (
  (chkI ((n30 : Int) + (k : Int))).bind fun v56 =>
  (natI v56 a.size).bind fun n57 =>
  (natI (n30 : Int) n57).bind fun _ =>
  letv (a.extract n30 n57) fun v59 =>
  some ((S29.mk 5 v59 0 0), (n57 : Int))
 ) else
 some ((S29.mk 0 (ByteArray.mk #[]) 0 0), (-1))) = some (if inL (a.extract n (n + k)) pL = true then (S29.mk 5 (a.extract n (n + k)) 0 0, ((n + k : Nat) : Int)) else (zT, -1)) := by
  intro k h1 h2 h3
  rw [chkI_at (by omega) (by omega), Option.bind_some, natI_at (k := n + k) (by omega) (by omega), Option.bind_some, natI_at (k := n) rfl (by omega), Option.bind_some]
  unfold letv
  dsimp only
  rw [mem_one]
  simp only [ite_mem]
  rw [Option.bind_some]
  show (if inL (a.extract n (n + k)) pL = true then _ else _) = _
  by_cases hm : inL (a.extract n (n + k)) pL = true
  ·rw [if_pos hm, if_pos hm, chkI_at (by omega) (by omega), Option.bind_some, natI_at (k := n + k) (by omega) (by omega), Option.bind_some, natI_at (k := n) rfl (by omega), Option.bind_some]
  ·rw [if_neg hm, if_neg hm]
 unfold punQ
 by_cases ht : twoC a n
 ·rw [if_pos ht]
  rw [hb.2 ht]
  dsimp only
  rw [if_pos rfl, Option.bind_some]
  have := fin 2 (by have := ht.1; omega) (by decide) (by decide)
  refine (show _ = _ from this).trans ?_
  rw [if_pos]
  rw [inL_iff, pL_split]
  exact ht.2.imp (fun h => h) (fun h => .inl h)
 ·rw [if_neg ht]
  have hbf : b = false := by
   cases b with
   | true => exact absurd (hb.1 rfl) ht
   | false => rfl
  rw [hbf]
  dsimp only
  rw [if_neg (by decide), Option.bind_some]
  have := fin 1 (by omega) (by decide) (by decide)
  refine (show _ = _ from this).trans ?_
  have hsz : (a.extract n (n + 1)).size = 1 := by rw [ext_size (by omega)]; omega
  have e : inL (a.extract n (n + 1)) pL = inL (a.extract n (n + 1)) p1L := by
   rw [Bool.eq_iff_iff, inL_iff, inL_iff, pL_split]
   constructor
   ·rintro (h | h | h)
    ·rw [h] at hsz; exact absurd hsz (by decide)
    ·rw [h] at hsz; exact absurd hsz (by decide)
    ·exact h
   ·exact fun h => .inr (.inr h)
  rw [e]

/-! ### the program's punctuation -/
def pre (v x : ByteArray) : Prop := x.size ≤ v.size ∧ v.extract 0 x.size = x
theorem d20_ok (N : Nat) (v x : ByteArray) (_hv : v.size ≤ 4000) : ∃ b, d20 N v x = some b ∧ (b = true ↔ pre v x) := by
 unfold d20 d30
 by_cases h : (v.size : Int) ≥ (x.size : Int)
 ·rw [if_pos h, natI_at (k := x.size) rfl (by omega), Option.bind_some]
  refine ⟨_, rfl, ?_⟩
  rw [decide_eq_true_eq]
  exact ⟨fun h2 => ⟨by omega, h2⟩, fun h2 => h2.2⟩
 ·rw [if_neg h]
  exact ⟨false, rfl, by simp [pre]; omega⟩
def PunL (v : ByteArray) (o : Out Unit (S29 × Int × Bool)) : Prop := (o = .go () ∧ ∀ x ∈ pL, ¬ pre v x) ∨ ∃ k x, pL[k]? = some x ∧ pre v x ∧ (∀ y ∈ pL.take k, ¬ pre v y) ∧ o = .ret (S29.mk 5 x 0 0, (x.size : Int), true)
theorem pun_tok (a : ByteArray) (n : Nat) (hn : n < a.size) {o : Out Unit (S29 × Int × Bool)} (h : PunL (a.extract n a.size) o) :
  ∃ r, (bindO (some o) fun (_ : Unit) => some ((S29.mk 0 (ByteArray.mk #[]) 0 0), 0, false)) = some r ∧ Tok a n r (punQ a n) := by
 have hs : (a.extract n a.size).size = a.size - n := ext_size (Nat.le_refl _)
 have hpre : ∀ x, pre (a.extract n a.size) x ↔ n + x.size ≤ a.size ∧ a.extract n (n + x.size) = x := fun x => by
  unfold pre
  constructor
  ·rintro ⟨h1, h2⟩
   rw [ext_ext (by omega), Nat.add_zero] at h2
   exact ⟨by omega, h2⟩
  ·rintro ⟨h1, h2⟩
   rw [ext_ext (by omega), Nat.add_zero]
   exact ⟨by omega, h2⟩
 have h0 : pL[0]? = some ⟨#[124, 124]⟩ := rfl
 have h1' : pL[1]? = some ⟨#[60, 61]⟩ := rfl
 have two : twoC a n ↔ pre (a.extract n a.size) ⟨#[124, 124]⟩ ∨ pre (a.extract n a.size) ⟨#[60, 61]⟩ := by
  rw [hpre, hpre]
  show _ ↔ (n + 2 ≤ a.size ∧ a.extract n (n + 2) = _) ∨ (n + 2 ≤ a.size ∧ a.extract n (n + 2) = _)
  unfold twoC
  constructor
  ·rintro ⟨h1, h | h⟩
   ·exact .inl ⟨by omega, h⟩
   ·exact .inr ⟨by omega, h⟩
  ·rintro (⟨h1, h⟩ | ⟨h1, h⟩)
   ·exact ⟨by omega, .inl h⟩
   ·exact ⟨by omega, .inr h⟩
 have k5 : ∀ (x : ByteArray) (j : Int), ((S29.mk 5 x 0 0, j, true) : S29 × Int × Bool).1.Kind = 1 → False := fun x j h => absurd (show (5 : Int) = 1 from h) (by decide)
 have k5' : ∀ (x : ByteArray) (j : Int), ((S29.mk 5 x 0 0, j, true) : S29 × Int × Bool).1.Kind = 2 → False := fun x j h => absurd (show (5 : Int) = 2 from h) (by decide)
 rcases h with ⟨rfl, h⟩ | ⟨k, x, hx, hp, hy, rfl⟩
 ·refine ⟨_, rfl, .inr ⟨rfl, ?_⟩⟩
  unfold punQ
  rw [if_neg (fun g => (two.1 g).elim (h _ (List.mem_of_getElem? h0)) (h _ (List.mem_of_getElem? h1'))), if_neg (fun g => by
   have hm := inL_iff.1 g
   refine h _ ((pL_split _).2 (.inr (.inr hm))) ((hpre _).2 ?_)
   rw [p1L_size _ hm]
   exact ⟨by omega, rfl⟩)]
 ·have hxm : x ∈ pL := List.mem_of_getElem? hx
  obtain ⟨g1, g2⟩ := (hpre x).1 hp
  by_cases ht : twoC a n
  ·have hk : k < 2 := by
    rcases Nat.lt_or_ge k 2 with h | h
    ·exact h
    ·exfalso
     rcases two.1 ht with g | g
     ·exact hy _ (List.mem_take_iff_getElem.2 ⟨0, by simp [pL]; omega, rfl⟩) g
     ·exact hy _ (List.mem_take_iff_getElem.2 ⟨1, by simp [pL]; omega, rfl⟩) g
   have hx2 : x.size = 2 := by
    rcases (by omega : k = 0 ∨ k = 1) with rfl | rfl
    ·rw [h0] at hx; injection hx with hx; rw [← hx]; rfl
    ·rw [h1'] at hx; injection hx with hx; rw [← hx]; rfl
   rw [hx2] at g1 g2
   refine ⟨_, rfl, .inl ⟨rfl, 2, by simp [hx2], by decide, g1, ?_, fun h => (k5 _ _ h).elim, fun h => (k5' _ _ h).elim⟩⟩
   unfold punQ
   rw [if_pos ht, g2]
  ·have hx1 : x.size = 1 ∧ x ∈ p1L := by
    rcases (pL_split x).1 hxm with rfl | rfl | h
    ·exact absurd (two.2 (.inl hp)) ht
    ·exact absurd (two.2 (.inr hp)) ht
    ·exact ⟨p1L_size _ h, h⟩
   rw [hx1.1] at g1 g2
   refine ⟨_, rfl, .inl ⟨rfl, 1, by simp [hx1.1], by decide, g1, ?_, fun h => (k5 _ _ h).elim, fun h => (k5' _ _ h).elim⟩⟩
   unfold punQ
   rw [if_neg ht, if_pos (by rw [g2]; exact inL_iff.2 hx1.2), g2]
end Go.Proofs.YtdiekinmoklonabDoor
end
section
namespace Go.Proofs.YtdiekinmoklonabDoor
open Go.Ab Go.Rp Go.Lib

theorem letv_eq {α β : Type} (x : α) (k : α → β) : letv x k = k x := rfl
theorem p1L_low : ∀ x ∈ p1L, ¬ low (byt x 0) := by decide
theorem punQ_low {a : ByteArray} {n : Nat} (_hn : n < a.size) (h : low (byt a n)) : punQ a n = (zT, -1) := by
 have hb : ∀ k, byt (a.extract n (n + (k + 1))) 0 = byt a n := fun k => byt_ext (by omega)
 unfold punQ
 rw [if_neg, if_neg]
 ·intro g
  have := p1L_low _ (inL_iff.1 g)
  rw [hb 0] at this
  exact this h
 ·rintro ⟨_, g | g⟩
  ·have := hb 1
   rw [show n + (1 + 1) = n + 2 from rfl, g] at this
   rw [← this] at h
   exact absurd h (by decide)
  ·have := hb 1
   rw [show n + (1 + 1) = n + 2 from rfl, g] at this
   rw [← this] at h
   exact absurd h (by decide)

theorem argR (N : Nat) (x : ByteArray) (hx : x.size = 2) : ∃ b : Bool, (b = true ↔ dig (byt x 0) ∧ (byt x 1 = 105 ∨ byt x 1 = 98 ∨ byt x 1 = 116)) ∧ (if ((x.size : Int) == 2) then (
    (idxB x 0).bind fun v48 =>
    (d24 N v48).bind fun r49 =>
    if r49 = true then (
     (idxB x 1).bind fun v51 =>
     if (v51 == 105) then (
      some true
     ) else
     (idxB x 1).bind fun v53 =>
     if (v53 == 98) then (
      some true
     ) else
     (idxB x 1).bind fun v55 =>
     some (v55 == 116)
    ) else
    some false
   ) else
   some false) = some b := by
 have h0 : idxB x 0 = some (byt x 0) := idxB_at' (i := 0) (k := 0) rfl (by omega)
 have h1 : idxB x 1 = some (byt x 1) := idxB_at' (i := 1) (k := 1) rfl (by omega)
 have hs : ((x.size : Int) == 2) = true := by rw [hx]; rfl
 rw [if_pos hs, h0, h1, Option.bind_some, d24_ok, Option.bind_some]
 by_cases hd : dig (byt x 0)
 ·rw [decide_eq_true hd, if_pos rfl, Option.bind_some]
  by_cases g1 : byt x 1 = 105
  ·exact ⟨true, ⟨fun _ => ⟨hd, .inl g1⟩, fun _ => rfl⟩, if_pos (by rw [g1]; rfl)⟩
  ·have e1 : (byt x 1 == 105) = false := by simpa using g1
   by_cases g2 : byt x 1 = 98
   ·refine ⟨true, ⟨fun _ => ⟨hd, .inr (.inl g2)⟩, fun _ => rfl⟩, ?_⟩
    rw [if_neg (by rw [e1]; decide), Option.bind_some, if_pos (by rw [g2]; rfl)]
   ·have e2 : (byt x 1 == 98) = false := by simpa using g2
    refine ⟨(byt x 1 == 116), ⟨fun g => ⟨hd, .inr (.inr (by simpa using g))⟩, fun g => by simpa [g1, g2] using g.2⟩, ?_⟩
    rw [if_neg (by rw [e1]; decide), Option.bind_some, if_neg (by rw [e2]; decide), Option.bind_some]
 ·rw [decide_eq_false hd, if_neg (by decide)]
  exact ⟨false, ⟨fun h => (by cases h), fun h => absurd h.1 hd⟩, rfl⟩

theorem tok_ok {N : Nat} (hN : bigN N) (a : ByteArray) (ha : a.size ≤ 4000) (n : Nat) (hn : n < a.size) : ∃ r q, d11 N (a.extract n a.size) = some r ∧ d12 N a n = some q ∧ Tok a n r q := by
 have hN' : 9223372036854775808 ≤ N := hN
 have hs : (a.extract n a.size).size = a.size - n := ext_size (Nat.le_refl _)
 have hb : ∀ j, n + j < a.size → byt (a.extract n a.size) j = byt a (n + j) := fun j h => byt_ext h
 obtain ⟨_, h21, e, rfl, he⟩ := d21_ok hN a ha n (Nat.le_of_lt hn)
 have he2 := he.2.1
 have hve : (a.extract n e).size = e - n := ext_size he2
 -- the reference up to the word
 have h12 : ∀ q, ((Option.bind (α := Bool) (
  (d22 N (byt a n)).bind fun r10 =>
  if r10 = true then (
   (d23 N (a.extract n e)).bind fun r12 =>
   some r12
  ) else
  some false
 ) fun (v9 : Bool) =>
 if v9 = true then (
  some ((S29.mk 2 (a.extract n e) 0 0), (e : Int))
 ) else
 Option.bind (α := Bool) (
  (d22 N (byt a n)).bind fun r17 =>
  if r17 = true then (
   some (decide (((a.extract n e).size : Int) ≤ 12))
  ) else
  some false
 ) fun (v16 : Bool) =>
 if v16 = true then (
  some ((S29.mk 1 (a.extract n e) 0 0), (e : Int))
 ) else
 (d24 N (byt a n)).bind fun r20 =>
 if r20 = true then (
  (d25 N (a.extract n e)).bind fun r22 =>
  Option.bind (α := Bool) (
   if (!r22.2) = true then (
    if r22.1 ≤ 1000000000000 then (
     if decide ((a.extract n e) = (ByteArray.mk #[48])) = true then (
      some true
     ) else
     some (byt a n != 48)
    ) else
    some false
   ) else
   some false
  ) fun (v26 : Bool) =>
  if v26 = true then (
   some ((S29.mk 3 (ByteArray.mk #[]) r22.1 0), (e : Int))
  ) else
  some ((S29.mk 0 (ByteArray.mk #[]) 0 0), (-1))
 ) else
 if (byt a n == 63) then (
  (chkI ((n : Int) + 1)).bind fun v32 =>
  (d21 N a v32).bind fun r33 =>
  (natI r33 a.size).bind fun n34 =>
  (natI v32 n34).bind fun n35 =>
  letv (a.extract n35 n34) fun v36 =>
  Option.bind (α := Bool) (
   if ((v36.size : Int) == 2) then (
    (idxB v36 0).bind fun v48 =>
    (d24 N v48).bind fun r49 =>
    if r49 = true then (
     (idxB v36 1).bind fun v51 =>
     if (v51 == 105) then (
      some true
     ) else
     (idxB v36 1).bind fun v53 =>
     if (v53 == 98) then (
      some true
     ) else
     (idxB v36 1).bind fun v55 =>
     some (v55 == 116)
    ) else
    some false
   ) else
   some false
  ) fun (v46 : Bool) =>
  if v46 = true then (
   (idxB v36 0).bind fun v57 =>
   (chkI (v57)).bind fun v58 =>
   (chkI (v58 - 48)).bind fun v59 =>
   (natI 1 v36.size).bind fun _ =>
   letv (v36.extract 1 v36.size) fun v61 =>
   (chkI ((n : Int) + 3)).bind fun v62 =>
   some ((S29.mk 6 v61 v59 0), v62)
  ) else
  some ((S29.mk 0 (ByteArray.mk #[]) 0 0), (-1))
 ) else
 if (byt a n == 39) then (
  (d26 N a (n : Int)).bind fun r64 =>
  some (r64.1, r64.2)
 ) else
 (d27 N a (n : Int)).bind fun r65 =>
 some (r65.1, r65.2)) = some q) → d12 N a n = some q := by
  intro q h
  unfold d12
  rw [idxB_at hn, Option.bind_some, h21, Option.bind_some, natI_at (k := e) rfl he2, Option.bind_some, natI_at (k := n) rfl he.1, Option.bind_some]
  exact h
 unfold d11
 rw [idxB_at' (i := 0) (k := 0) rfl (by omega), Option.bind_some, hb 0 (by omega), Nat.add_zero]
 have h3 : (if byt a n ≥ 97 then (some (decide (byt a n ≤ 122)) : Option Bool) else some false) = some (decide (low (byt a n))) := by
  by_cases h : byt a n ≥ 97
  ·rw [if_pos h]
   congr 1
   rw [decide_eq_decide]
   exact ⟨fun g => ⟨h, g⟩, fun g => g.2⟩
  ·rw [if_neg h]
   congr 1
   symm
   rw [decide_eq_false_iff_not]
   exact fun g => h g.1
 rw [h3, Option.bind_some]
 rw [d22_ok, d24_ok] at h12
 by_cases hl : low (byt a n)
 ·-- a word
  have hnd : ¬ dig (byt a n) := fun g => by have := g.2; have := hl.1; omega
  rw [decide_eq_true hl] at h12 ⊢
  rw [if_pos rfl]
  have hq : d12 N a n = some (if inL (a.extract n e) kwL = true then (S29.mk 2 (a.extract n e) 0 0, (e : Int)) else if e - n ≤ 12 then (S29.mk 1 (a.extract n e) 0 0, (e : Int)) else (zT, -1)) := by
   refine h12 _ ?_
   rw [Option.bind_some, if_pos rfl, d23_ok, Option.bind_some, Option.bind_some]
   by_cases hk : inL (a.extract n e) kwL = true
   ·rw [if_pos hk, if_pos hk]
   ·rw [if_neg hk, if_neg hk, Option.bind_some, if_pos rfl, Option.bind_some]
    by_cases h12' : e - n ≤ 12
    ·rw [if_pos (by rw [hve]; simp; omega), if_pos h12']
    ·rw [if_neg (by rw [hve]; simp; omega), if_neg h12', decide_eq_false hnd, Option.bind_some, if_neg (by decide), if_neg (by simp; have := hl.1; omega), if_neg (by simp; have := hl.1; omega), d27_ok N a ha n hn, punQ_low hn hl]
     rfl
  rw [hq]
  have hen : n < e := by
   rcases Nat.lt_or_ge n e with h | h
   ·exact h
   ·have : e = n := by have := he.1; omega
    subst this
    exact absurd (.inl hl) (he.2.2.2 hn)
  refine bind_ex (Q := fun r => ∃ q, some (if inL (a.extract n e) kwL = true then (S29.mk 2 (a.extract n e) 0 0, (e : Int)) else if e - n ≤ 12 then (S29.mk 1 (a.extract n e) 0 0, (e : Int)) else (zT, -1)) = some q ∧ Tok a n r q)
   (run_end hN inn (a.extract n a.size) (by omega) _ ?_ ?_ ?_ 1 (by omega)) ?_ |> fun ⟨r, h1, q, h2, h3⟩ => ⟨r, q, h1, h2, h3⟩
  ·intro j hj hp
   rw [if_pos (by omega), idxB_at hj, Option.bind_some, d15_ok, Option.bind_some, Option.bind_some, decide_eq_true hp, if_pos rfl, chkI_at (by omega) (by omega), Option.bind_some]
  ·intro j hj hp
   rw [if_pos (by omega), idxB_at hj, Option.bind_some, d15_ok, Option.bind_some, Option.bind_some, decide_eq_false hp, if_neg (by decide)]
  ·rw [if_neg (by omega), Option.bind_some, if_neg (by decide)]
  rintro r ⟨k, rfl, hk⟩
  have hk2 := hk.2.1
  have hsh := hk.shift (Nat.le_of_lt hn)
  have hke : n + k = e := by
   refine IsEnd.uniq (p := inn) (a := a) (k := n) ⟨by omega, hsh.2.1, fun j g1 g2 => ?_, hsh.2.2.2⟩ he
   rcases Nat.lt_or_ge n j with g | g
   ·exact hsh.2.2.1 j g g2
   ·have : j = n := by omega
    rw [this]; exact .inl hl
  subst hke
  rw [d10_ok, Option.bind_some, natI_at (k := k) rfl hk2, Option.bind_some]
  unfold letv
  rw [ext_ext (by omega), Nat.add_zero]
  dsimp only
  rw [kw_ok hN, Option.bind_some]
  rw [Nat.add_sub_cancel_left] at *
  by_cases hkw : inL (a.extract n (n + k)) kwL = true
  ·simp only [hkw, if_true, Option.bind_some, natI_at (k := k) rfl hk2]
   refine ⟨_, rfl, _, rfl, .inl ⟨rfl, k, rfl, by omega, by omega, rfl, fun h => absurd (show (2 : Int) = 1 from h) (by decide), fun _ => ⟨rfl, hkw⟩⟩⟩
  ·rw [if_neg hkw]
   simp only [Option.bind_some, natI_at (k := k) rfl hk2]
   by_cases h12' : k ≤ 12
   ·refine ⟨_, rfl, _, rfl, .inl ⟨?_, k, rfl, by omega, by omega, ?_, fun _ => ⟨rfl, he, hl, h12', by simpa using hkw⟩, fun h => absurd (show (1 : Int) = 2 from h) (by decide)⟩⟩
    ·show decide ((k : Int) ≤ 12) = true
     simp; omega
    ·rw [if_neg hkw, if_pos h12']
   ·refine ⟨_, rfl, _, rfl, .inr ⟨?_, ?_⟩⟩
    ·show decide ((k : Int) ≤ 12) = false
     simp; omega
    ·rw [if_neg hkw, if_neg h12']
 ·rw [decide_eq_false hl] at h12 ⊢
  rw [if_neg (by decide), d16_ok, Option.bind_some]
  simp only [Option.bind_some, Bool.false_eq_true, if_false] at h12
  by_cases hd : dig (byt a n)
  ·-- a number
   rw [decide_eq_true hd] at h12 ⊢
   rw [if_pos rfl]
   have hen : n < e := by
    rcases Nat.lt_or_ge n e with h | h
    ·exact h
    ·have : e = n := by have := he.1; omega
     subst this
     exact absurd (.inr hd) (he.2.2.2 hn)
   have hq : ∃ q, d12 N a n = some q ∧ numQ a n e q := by
    rcases d25_ok N (s := a.extract n e) (by omega) with ⟨v, hv, h25⟩ | ⟨hv, v, h25⟩
    ·by_cases hle : v ≤ 1000000000000
     ·by_cases hz : a.extract n e = ⟨#[48]⟩ ∨ byt a n ≠ 48
      ·refine ⟨_, h12 (S29.mk 3 (ByteArray.mk #[]) v 0, (e : Int)) ?_, .inl ⟨v, hv, hle, hz, rfl⟩⟩
       rw [h25]
       simp only [Option.bind_some, if_true, Bool.not_false, hle]
       rcases hz with hz | hz
       ·simp [hz]
       ·by_cases h48 : a.extract n e = ⟨#[48]⟩
        ·simp [h48]
        ·simp [h48, hz]
      ·refine ⟨_, h12 (zT, -1) ?_, .inr ⟨fun w hw g => hz g.2, rfl⟩⟩
       rw [h25]
       simp only [Option.bind_some, if_true, Bool.not_false, hle]
       have z1 : ¬ a.extract n e = ⟨#[48]⟩ := fun h => hz (.inl h)
       have z2 : byt a n = 48 := Classical.byContradiction fun h => hz (.inr h)
       simp [z1, z2]
     ·refine ⟨_, h12 (zT, -1) ?_, .inr ⟨fun w hw g => ?_, rfl⟩⟩
      ·rw [h25]
       simp [hle]
      ·rw [hv] at hw; injection hw with hw; have := g.1; omega
    ·refine ⟨_, h12 (zT, -1) ?_, .inr ⟨fun w hw g => hv w hw, rfl⟩⟩
     rw [h25]
     simp
   obtain ⟨q, hq1, hq2⟩ := hq
   obtain ⟨r, h17, ht⟩ := d17_ok hN a ha n hn hd he hq2
   rw [h17, hq1]
   exact ⟨_, _, rfl, rfl, ht⟩
  ·rw [decide_eq_false hd] at h12 ⊢
   rw [if_neg (by decide)]
   simp only [Bool.false_eq_true, if_false] at h12
   by_cases h63 : byt a n = 63
   ·-- a parameter
    rw [if_pos (by simpa using h63)]
    rw [if_pos (by simpa using h63)] at h12
    obtain ⟨_, g21, f, rfl, hf⟩ := d21_ok hN a ha (n + 1) (by omega)
    have hf2 := hf.2.1
    have hfs : (a.extract (n + 1) f).size = f - (n + 1) := ext_size hf2
    have hend := argC_end hf
    obtain ⟨y1, y2⟩ := d18_ok N a ha n hn
    have hq : d12 N a n = some (open Classical in if argC a n then (argT a n, ((n + 3 : Nat) : Int)) else (zT, -1)) := by
     refine h12 _ ?_
     rw [chkI_at (by omega) (by omega), Option.bind_some, show ((n : Int) + 1) = ((n + 1 : Nat) : Int) by omega, g21, Option.bind_some, natI_at (k := f) rfl hf2, Option.bind_some, natI_at (k := n + 1) rfl hf.1, Option.bind_some]
     rw [letv_eq]
     by_cases h2 : f = n + 3
     ·subst h2
      have hx2 : (a.extract (n + 1) (n + 3)).size = 2 := by rw [hfs]; omega
      obtain ⟨b, hb1, hb2⟩ := argR N (a.extract (n + 1) (n + 3)) hx2
      have e0 : byt (a.extract (n + 1) (n + 3)) 0 = byt a (n + 1) := byt_ext (by omega)
      have e1 : byt (a.extract (n + 1) (n + 3)) 1 = byt a (n + 2) := byt_ext (by omega)
      rw [e0, e1] at hb1
      rw [hb2, Option.bind_some]
      by_cases hA : argC a n
      ·have hc := hend.1 hA
       have hd1 := hc.2.1
       have e2 : (a.extract (n + 1) (n + 3)).extract 1 2 = a.extract (n + 2) (n + 3) := by rw [ext_ext (by omega)]
       have e3 : ((n : Int) + 3) = ((n + 3 : Nat) : Int) := by omega
       rw [if_pos hA, if_pos (hb1.2 hc.2), idxB_at' (i := 0) (k := 0) rfl (by omega), Option.bind_some, e0, chkI_at (by have := hd1.1; omega) (by have := hd1.2; omega), Option.bind_some, chkI_at (by have := hd1.1; omega) (by have := hd1.2; omega), Option.bind_some,
        natI_at (i := 1) (k := 1) rfl (by omega), Option.bind_some, hx2, e2, letv_eq, e3, chkI_at (by omega) (by omega), Option.bind_some]
       rfl
      ·rw [if_neg hA, if_neg (fun h => hA (hend.2 ⟨rfl, hb1.1 h⟩))]
     ·have hA : ¬ argC a n := fun h => h2 (hend.1 h).1
      have h1 := hf.1
      have hx2 : ¬ (((a.extract (n + 1) f).size : Int) == 2) = true := by
       rw [hfs, beq_iff_eq]; omega
      rw [if_neg hx2, Option.bind_some, if_neg (by decide), if_neg hA]
    rw [hq]
    by_cases hA : argC a n
    ·rw [y1 hA, if_pos hA]
     have h2 := hA.1
     exact ⟨_, _, rfl, rfl, .inl ⟨rfl, 3, rfl, by decide, by omega, rfl, fun h => absurd (show (6 : Int) = 1 from h) (by decide), fun h => absurd (show (6 : Int) = 2 from h) (by decide)⟩⟩
    ·obtain ⟨x, y, h⟩ := y2 hA
     rw [h, if_neg hA]
     exact ⟨_, _, rfl, rfl, .inr ⟨rfl, rfl⟩⟩
   ·rw [if_neg (by simpa using h63)]
    rw [if_neg (by simpa using h63)] at h12
    by_cases h39 : byt a n = 39
    ·-- a string
     rw [if_pos (by simpa using h39)]
     rw [if_pos (by simpa using h39)] at h12
     obtain ⟨r, q, g1, g2, g3⟩ := quoted_ok hN a ha n hn h39
     rw [g1]
     refine ⟨_, _, rfl, h12 _ ?_, g3⟩
     rw [g2]; rfl
    ·rw [if_neg (by simpa using h39)]
     rw [if_neg (by simpa using h39)] at h12
     -- punctuation
     have hq : d12 N a n = some (punQ a n) := h12 _ (by rw [d27_ok N a ha n hn]; rfl)
     rw [hq]
     unfold letv
     have hloop := iter_post (fun (v73 : Int) =>
       if v73 < (pL.length : Int) then (
        (idx pL v73).bind fun x88 =>
        (d20 N (a.extract n a.size) x88).bind fun r90 =>
        if r90 = true then (
         some (.inr (Out.ret (β := Unit) ((S29.mk 5 x88 0 0), (x88.size : Int), true)))
        ) else
        (chkI (v73 + 1)).bind fun v92 =>
        some (.inl v92)
       ) else
       some (.inr (Out.go ()))) (fun i : Int => pL.length - i.toNat) (fun i => ∃ k : Nat, i = k ∧ k ≤ pL.length ∧ ∀ y ∈ pL.take k, ¬ pre (a.extract n a.size) y) (PunL (a.extract n a.size)) (by
      rintro i ⟨k, rfl, hk, hi⟩
      by_cases hlt : k < pL.length
      ·obtain ⟨x, hx⟩ := get_of hlt
       obtain ⟨b, g1, g2⟩ := d20_ok N (a.extract n a.size) x (by omega)
       rw [if_pos (by omega), idx_nat hx, Option.bind_some, g1, Option.bind_some]
       by_cases hb' : b = true
       ·rw [if_pos hb']
        exact .inr ⟨_, rfl, .inr ⟨k, x, hx, g2.1 hb', hi, rfl⟩⟩
       ·have hlen : pL.length = 12 := rfl
        rw [if_neg hb', chkI_at (by omega) (by omega), Option.bind_some]
        refine .inl ⟨_, rfl, ⟨k + 1, by omega, by omega, fun y hy => ?_⟩, by omega⟩
        rcases (mem_take_succ hx).1 hy with h | h
        ·exact hi y h
        ·rw [h]; exact fun g => hb' (g2.2 g)
      ·rw [if_neg (by omega)]
       obtain rfl : k = pL.length := by omega
       exact .inr ⟨_, rfl, .inl ⟨rfl, by simpa using hi⟩⟩) N 0 ⟨0, rfl, by omega, by simp⟩ (by show pL.length - 0 < N; have : pL.length = 12 := rfl; omega)
     obtain ⟨o, h1, h2⟩ := hloop
     obtain ⟨r, g1, g2⟩ := pun_tok a n hn h2
     refine ⟨r, _, ?_, rfl, g2⟩
     rw [← g1, ← h1]
     rfl
end Go.Proofs.YtdiekinmoklonabDoor
end
section
namespace Go.Proofs.YtdiekinmoklonabDoor
open Go.Ab Go.Rp Go.Lib

def GoodT (a : ByteArray) (t : S29) : Prop := (t.Kind = 1 → ∃ n k, n + k ≤ a.size ∧ t.Text = a.extract n (n + k) ∧ IsEnd inn a n (n + k) ∧ low (byt a n) ∧ k ≤ 12 ∧ inL t.Text kwL = false) ∧ (t.Kind = 2 → ∃ n k, n + k ≤ a.size ∧ t.Text = a.extract n (n + k) ∧ inL t.Text kwL = true)
def TkR (a : ByteArray) : (List S29 × Int) → (List S29 × Int) → Prop := fun s t => ∃ k : Nat, s.2 = k ∧ t = s ∧ k ≤ a.size ∧ s.1.length ≤ k ∧ ∀ x ∈ s.1, GoodT a x
def TkQ (a : ByteArray) : Out (List S29) (List S29 × Int × Int) → Out (List S29) (List S29 × Int × Int) → Prop := fun o p => p = o ∧ ((∃ l, o = .go l ∧ l.length ≤ 4000 ∧ ∀ x ∈ l, GoodT a x) ∨ ∃ i, o = .ret ([], i, 22))

theorem both_ok {N : Nat} (hN : bigN N) (a : ByteArray) : ∃ r, d5 N a = some r ∧ d6 N a = some r ∧ r.1.length ≤ 4000 ∧ ∀ x ∈ r.1, GoodT a x := by
 have hN' : 9223372036854775808 ≤ N := hN
 unfold d5 d6
 by_cases ha : (a.size : Int) > 4000
 ·rw [if_pos ha, if_pos ha]
  exact ⟨_, rfl, rfl, by simp, by simp⟩
 rw [if_neg ha, if_neg ha]
 have ha : a.size ≤ 4000 := by omega
 have fin : ∀ {o p : Option (Out (List S29) (List S29 × Int × Int))}, (∃ x y, o = some x ∧ p = some y ∧ TkQ a x y) →
   ∃ r, (bindO o fun (l53 : List S29) => some (l53, 0, 0)) = some r ∧ (bindO p fun (l53 : List S29) => some (l53, 0, 0)) = some r ∧ r.1.length ≤ 4000 ∧ ∀ x ∈ r.1, GoodT a x := by
  rintro o p ⟨x, y, rfl, rfl, rfl, h⟩
  rcases h with ⟨l, rfl, h1, h2⟩ | ⟨i, rfl⟩
  ·exact ⟨_, rfl, rfl, h1, h2⟩
  ·exact ⟨_, rfl, rfl, by simp, by simp⟩
 refine fin (iter_pair _ _ (fun s : List S29 × Int => a.size - s.2.toNat) (TkR a) (TkQ a) ?_ N _ _ ⟨0, rfl, rfl, by omega, by simp, by simp⟩ (by show a.size - 0 < N; omega))
 rintro ⟨l, _⟩ _ ⟨k, rfl, rfl, hk, hl, hg⟩
 replace hl : l.length ≤ k := hl
 replace hg : ∀ x ∈ l, GoodT a x := hg
 dsimp only
 by_cases hlt : k < a.size
 ·rw [if_pos (by omega), if_pos (by omega), idxB_at hlt]
  have hsp : ∃ b : Bool, ((some (byt a k)).bind fun v59 =>
     if (v59 == 32) = true then (
      (some true : Option Bool)
     ) else
     (some (byt a k)).bind fun v61 =>
     some (v61 == 10)) = some b := by
   rw [Option.bind_some]
   by_cases h : (byt a k == 32) = true
   ·exact ⟨_, if_pos h⟩
   ·rw [if_neg h]; exact ⟨_, rfl⟩
  obtain ⟨b, hb⟩ := hsp
  rw [hb, Option.bind_some, Option.bind_some]
  by_cases hbt : b = true
  ·rw [if_pos hbt, if_pos hbt, chkI_at (by omega) (by omega), Option.bind_some]
   exact .inl ⟨_, _, rfl, rfl, ⟨k + 1, by simp, rfl, by omega, by simp; omega, hg⟩, by dsimp only; omega⟩
  ·rw [if_neg hbt, if_neg hbt, natI_at (k := k) rfl (by omega), Option.bind_some, letv_eq]
   obtain ⟨r, q, h1, h2, ht⟩ := tok_ok hN a ha k hlt
   rw [h1, h2, Option.bind_some, Option.bind_some]
   rcases ht with ⟨hr, j, hj, hj0, hjs, rfl, ht1, ht2⟩ | ⟨hr, hq⟩
   ·rw [if_neg (by rw [hr]; decide), if_neg (by dsimp only; omega), appL_at (by simp; omega), Option.bind_some, hj, chkI_at (by omega) (by omega), Option.bind_some, Option.bind_some]
    refine .inl ⟨_, _, rfl, rfl, ⟨k + j, by dsimp only; omega, ?_, by omega, by simp; omega, ?_⟩, by dsimp only; omega⟩
    ·show (_, _) = (_, _)
     congr 1
    ·intro x hx
     rcases List.mem_append.1 hx with hx | hx
     ·exact hg x hx
     ·rw [List.mem_singleton] at hx
      subst hx
      exact ⟨fun h => by obtain ⟨g1, g2, g3, g4, g5⟩ := ht1 h; exact ⟨k, j, hjs, g1, g2, g3, g4, g5⟩, fun h => by obtain ⟨g1, g2⟩ := ht2 h; exact ⟨k, j, hjs, g1, g2⟩⟩
   ·rw [if_pos (by rw [hr]; rfl), if_pos (by rw [hq]; decide)]
    exact .inr ⟨_, _, rfl, rfl, rfl, .inr ⟨_, rfl⟩⟩
 ·rw [if_neg (by omega), if_neg (by omega)]
  exact .inr ⟨_, _, rfl, rfl, rfl, .inl ⟨_, rfl, by omega, hg⟩⟩

theorem d4_ok : d4 9223372036854775808 = some true := by
 obtain ⟨r, h1, h2, _⟩ := both_ok (N := 9223372036854775808) (Nat.le_refl _) (ByteArray.mk #[97, 32, 60, 32, 51])
 have h3 : (d6 9223372036854775808 (ByteArray.mk #[97, 32, 60, 32, 51])).map (fun r => (r.2.2, (r.1.length : Int))) = some (0, 3) := by kernel_rfl
 rw [h2] at h3
 simp only [Option.map_some, Option.some.injEq, Prod.mk.injEq] at h3
 unfold d4
 rw [h1, Option.bind_some, h3.1, h3.2]
 rfl

theorem d7_ok {N : Nat} (hN : bigN N) (l : List S29) (hl : l.length ≤ 4000) : d7 N l l = some true := by
 have hN' : 9223372036854775808 ≤ N := hN
 unfold d7
 rw [if_neg (by simp)]
 refine bindO_eq (P := fun o => o = .go ()) (iter_post _ (fun i : Int => l.length - i.toNat) (fun i => ∃ k : Nat, i = k ∧ k ≤ l.length) _ ?_ N 0 ⟨0, rfl, by omega⟩ (by show l.length - 0 < N; omega)) (fun x h => by cases h) (fun _ _ => rfl)
 rintro i ⟨k, rfl, hk⟩
 by_cases h : k < l.length
 ·obtain ⟨x, hx⟩ := get_of h
  rw [if_pos (by omega), idx_nat hx, Option.bind_some, Option.bind_some, (beqS29_iff x x).2 rfl, if_neg (by decide), chkI_at (by omega) (by omega), Option.bind_some]
  exact .inl ⟨_, rfl, ⟨k + 1, by omega, by omega⟩, by omega⟩
 ·rw [if_neg (by omega)]
  exact .inr ⟨_, rfl, rfl⟩

/-! ### names -/
def Wd (a : ByteArray) : Prop := 1 ≤ a.size ∧ a.size ≤ 12 ∧ low (byt a 0) ∧ ∀ j, j < a.size → inn (byt a j)
theorem d13_ok {N : Nat} (hN : bigN N) (a : ByteArray) : ∃ b, d13 N a = some b ∧ (b = true ↔ Wd a) := by
 have hN' : 9223372036854775808 ≤ N := hN
 unfold d13
 by_cases h1 : (a.size : Int) < 1
 ·rw [if_pos h1, Option.bind_some, if_pos rfl]
  exact ⟨false, rfl, fun h => (by cases h), fun h => by have := h.1; omega⟩
 by_cases h2 : (a.size : Int) > 12
 ·rw [if_neg h1, if_pos h2, Option.bind_some, if_pos rfl]
  exact ⟨false, rfl, fun h => (by cases h), fun h => by have := h.2.1; omega⟩
 rw [if_neg h1, if_neg h2, idxB_at' (i := 0) (k := 0) rfl (by omega)]
 have h3 : ((some (byt a 0)).bind fun v9 =>
  if v9 < 97 then (
   (some true : Option Bool)
  ) else
  (some (byt a 0)).bind fun v11 =>
  some (decide (v11 > 122))) = some (decide (¬ low (byt a 0))) := by
  rw [Option.bind_some]
  by_cases h : byt a 0 < 97
  ·rw [if_pos h]
   congr 1
   symm
   rw [decide_eq_true_iff]
   exact fun g => by have := g.1; omega
  ·rw [if_neg h, Option.bind_some]
   congr 1
   rw [decide_eq_decide]
   exact ⟨fun g k => by have := k.2; omega, fun g => by
    rcases Int.lt_or_le 122 (byt a 0) with k | k
    ·exact k
    ·exact absurd ⟨by omega, k⟩ g⟩
 rw [h3, Option.bind_some]
 by_cases hl : low (byt a 0)
 ·rw [if_neg (fun h => absurd hl (of_decide_eq_true h))]
  refine (fun {o : Option (Out Unit Bool)} (h : ∃ x, o = some x ∧ ((x = .go () ∧ ∀ j, j < a.size → inn (byt a j)) ∨ (x = .ret false ∧ ¬ ∀ j, j < a.size → inn (byt a j)))) => (show ∃ b, (bindO o fun (_ : Unit) => some true) = some b ∧ (b = true ↔ Wd a) from ?_)) (iter_post _ (fun i : Int => a.size - i.toNat) (fun i => ∃ k : Nat, i = k ∧ k ≤ a.size ∧ ∀ j, j < k → inn (byt a j)) _ ?_ N 0 ⟨0, rfl, by omega, fun j h => by omega⟩ (by show a.size - 0 < N; omega))
  ·obtain ⟨x, rfl, ⟨rfl, g⟩ | ⟨rfl, g⟩⟩ := h
   ·exact ⟨true, rfl, fun _ => ⟨by omega, by omega, hl, g⟩, fun _ => rfl⟩
   ·exact ⟨false, rfl, fun h => (by cases h), fun h => absurd h.2.2.2 g⟩
  ·rintro i ⟨k, rfl, hk, hi⟩
   by_cases h : k < a.size
   ·rw [if_pos (by omega), idxB_at h, Option.bind_some, d15_ok, Option.bind_some]
    by_cases hp : inn (byt a k)
    ·rw [decide_eq_true hp, if_neg (by decide), chkI_at (by omega) (by omega), Option.bind_some]
     refine .inl ⟨_, rfl, ⟨k + 1, by omega, by omega, fun j hj => ?_⟩, by omega⟩
     rcases (by omega : j < k ∨ j = k) with g | rfl
     ·exact hi j g
     ·exact hp
    ·rw [decide_eq_false hp, if_pos (show (!false) = true from rfl)]
     exact .inr ⟨_, rfl, .inr ⟨rfl, fun g => hp (g k h)⟩⟩
   ·rw [if_neg (by omega)]
    obtain rfl : k = a.size := by omega
    exact .inr ⟨_, rfl, .inl ⟨rfl, hi⟩⟩
 ·rw [if_pos (decide_eq_true hl)]
  exact ⟨false, rfl, fun h => (by cases h), fun h => absurd h.2.2.1 hl⟩
theorem d8_ok {N : Nat} (hN : bigN N) (a : ByteArray) : ∃ b, d8 N a = some b ∧ (b = true ↔ Wd a ∧ inL a kwL = false) := by
 unfold d8
 obtain ⟨b, h1, h2⟩ := d13_ok hN a
 rw [h1, Option.bind_some]
 by_cases hb : b = true
 ·rw [if_pos hb, d10_ok, Option.bind_some, kw_ok hN, Option.bind_some, Option.bind_some]
  refine ⟨_, rfl, ?_⟩
  rw [Bool.not_eq_true']
  exact ⟨fun h => ⟨h2.1 hb, h⟩, fun h => h.2⟩
 ·rw [if_neg hb, Option.bind_some]
  exact ⟨false, rfl, fun h => (by cases h), fun h => absurd (h2.2 h.1) hb⟩

theorem d12_word {N : Nat} (hN : bigN N) (a : ByteArray) (ha : a.size ≤ 4000) (h : Wd a) (hk : inL a kwL = false) : d12 N a ((0 : Nat) : Int) = some (S29.mk 1 a 0 0, (a.size : Int)) := by
 obtain ⟨h1, h2, hl, h4⟩ := h
 obtain ⟨_, h21, e, rfl, he⟩ := d21_ok hN a ha 0 (Nat.zero_le _)
 have hes : e = a.size := he.uniq ⟨Nat.zero_le _, Nat.le_refl _, fun j _ hj => h4 j hj, fun h => by omega⟩
 subst hes
 have hnd : ¬ dig (byt a 0) := fun g => by have := g.2; have := hl.1; omega
 unfold d12
 rw [idxB_at (by omega), Option.bind_some, h21, Option.bind_some, natI_at (k := a.size) rfl (Nat.le_refl _), Option.bind_some, natI_at (i := ((0 : Nat) : Int)) (k := 0) rfl (Nat.zero_le _), Option.bind_some, letv_eq, ext_all, d22_ok, Option.bind_some, decide_eq_true hl, if_pos rfl, d23_ok, Option.bind_some, hk, Option.bind_some, if_neg (by decide), Option.bind_some, if_pos rfl, Option.bind_some,
  if_pos (by rw [decide_eq_true_eq]; omega)]
theorem word_list {N : Nat} (hN : bigN N) (a : ByteArray) (h : Wd a) (hk : inL a kwL = false) : d6 N a = some ([S29.mk 1 a 0 0], 0, 0) := by
 have hN' : 9223372036854775808 ≤ N := hN
 have h1 := h.1
 have h2 := h.2.1
 have hl := h.2.2.1
 have hw := d12_word hN a (by omega) h hk
 unfold d6
 rw [if_neg (by omega)]
 obtain ⟨m, rfl⟩ : ∃ m, N = (m + 1) + 1 := ⟨N - 2, by omega⟩
 rw [iterN_succ]
 dsimp only
 rw [if_pos (by omega), idxB_at' (i := 0) (k := 0) rfl (by omega), Option.bind_some, if_neg (by rw [beq_iff_eq]; have := hl.1; omega), Option.bind_some, Option.bind_some, if_neg (by rw [beq_iff_eq]; have := hl.1; omega), show (0 : Int) = ((0 : Nat) : Int) from rfl, hw, Option.bind_some, if_neg (by dsimp only; omega), appL_at (by simp), Option.bind_some]
 dsimp only
 rw [iterN_succ]
 dsimp only
 rw [if_neg (by omega)]
 rfl

theorem law_ok (a : ByteArray) : d3 9223372036854775808 a = some true := by
 have hN : bigN 9223372036854775808 := Nat.le_refl _
 unfold d3
 rw [d4_ok, Option.bind_some, if_neg (by decide)]
 obtain ⟨⟨l, i, e⟩, h1, h2, hl, hg⟩ := both_ok hN a
 rw [h1, h2, Option.bind_some, Option.bind_some]
 dsimp only at hl hg ⊢
 rw [if_neg (by simp), if_neg (by simp), d7_ok hN l hl, Option.bind_some, Option.bind_some, if_neg (by decide)]
 obtain ⟨b, g1, g2⟩ := d8_ok hN a
 rw [g1]
 have hlist : b = true → l = [S29.mk 1 a 0 0] := fun hb => by
  obtain ⟨w1, w2⟩ := g2.1 hb
  have := word_list hN a w1 w2
  rw [h2] at this
  injection this with this
  injection this
 by_cases hlen : l.length = 1
 ·obtain ⟨t, rfl⟩ := List.length_eq_one_iff.1 hlen
  have h0 : idx [t] 0 = some t := rfl
  rw [if_pos (show (([t].length : Int) == 1) = true from rfl), h0, Option.bind_some, Option.bind_some]
  by_cases hsz : t.Text.size = a.size
  ·have hs : ((t.Text.size : Int) == (a.size : Int)) = true := by rw [beq_iff_eq]; omega
   rw [hs, Option.bind_some, if_pos rfl, Option.bind_some]
   have gt := hg t (by simp)
   have hb : b = (t.Kind == 1) := by
    rw [Bool.eq_iff_iff, beq_iff_eq]
    constructor
    ·intro h
     have := hlist h
     injection this with this
     rw [this]
    ·intro h
     obtain ⟨n, k, e1, e2, e3, e4, e5, e6⟩ := gt.1 h
     rw [e2, ext_size e1] at hsz
     have hn : n = 0 := by omega
     have hk : k = a.size := by omega
     subst hn; subst hk
     rw [Nat.zero_add, ext_all] at e2
     rw [e2] at e6
     rw [Nat.zero_add] at e3
     refine g2.2 ⟨⟨?_, e5, e4, fun j hj => e3.2.2.1 j (Nat.zero_le _) hj⟩, e6⟩
     rcases Nat.eq_zero_or_pos a.size with z | z
     ·exfalso
      have : byt a 0 = 0 := by
       unfold byt
       rw [List.getElem?_eq_none (by rw [size_list]; omega)]
       rfl
      rw [this] at e4
      exact absurd e4 (by decide)
     ·exact z
   rw [if_pos (by rw [hb]; simp)]
   by_cases hk2 : t.Kind = 2
   ·rw [if_neg (by simp [hk2]), d10_ok, Option.bind_some, kw_ok hN, Option.bind_some, Option.bind_some]
    obtain ⟨n, k, e1, e2, e3⟩ := gt.2 hk2
    rw [e2, ext_size e1] at hsz
    have hn : n = 0 := by omega
    have hk : k = a.size := by omega
    subst hn; subst hk
    rw [Nat.zero_add, ext_all] at e2
    rw [e2] at e3
    rw [e3]
   ·rw [if_pos (by simpa using hk2), Option.bind_some]
  ·have hs : ((t.Text.size : Int) == (a.size : Int)) = false := by rw [Bool.eq_false_iff, ne_eq, beq_iff_eq]; omega
   rw [hs, Option.bind_some, if_neg (by decide)]
   have hb : b = false := by
    rw [Bool.eq_false_iff]
    intro h
    have := hlist h
    injection this with this
    rw [this] at hsz
    exact hsz rfl
   rw [hb, if_pos (show (false == false) = true from rfl), Option.bind_some]
 ·rw [if_neg (by rw [beq_iff_eq]; omega), Option.bind_some, Option.bind_some, if_neg (by decide)]
  have hb : b = false := by
   rw [Bool.eq_false_iff]
   intro h
   rw [hlist h] at hlen
   exact hlen rfl
  rw [hb, if_pos (show (false == false) = true from rfl), Option.bind_some]
end Go.Proofs.YtdiekinmoklonabDoor
end
