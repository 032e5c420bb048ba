/- Expressions as functional programs: the small ones, what they yield. Expressions as functional programs: products, operators on values. Expressions as functional programs: sizes; loops over operands. Expressions as functional programs: names, loops over operands. Expressions as functional programs: the operators. Expressions as functional programs: both evaluators answer the same. Expressions as functional programs: the claim on all expressions. Expressions as functional programs: the law. The law's arguments as the functional program takes them. -/
import Derived.Test.YtacafkegbgmnoaaEv12
import Derived.Test.YtacafkegbgmnoaaA2
import Derived.Test.YtacafkegbgmnoaaRose
section
namespace Go.Proofs.Ytacafkegbgmnoaa
open Go.Ab Go.Rp

abbrev Vl := S24
abbrev Ex := S27
abbrev Co := S46
def em : ByteArray := ByteArray.mk #[]
def nul : Vl := ⟨0, 0, em⟩
def bl (b : Bool) : Vl := ⟨2, if b then 1 else 0, em⟩
def it (n : Int) : Vl := if n < -1000000000000 ∨ 1000000000000 < n then nul else ⟨1, n, em⟩
/-- valid values -/
inductive Val : Vl → Prop where
 | nul : Val nul
 | int (n : Int) (h1 : -1000000000000 ≤ n) (h2 : n ≤ 1000000000000) : Val ⟨1, n, em⟩
 | ff : Val ⟨2, 0, em⟩
 | tt : Val ⟨2, 1, em⟩
 | text (s : ByteArray) (h : s.size ≤ 24) : Val ⟨3, 0, s⟩
def Ok (k : Int) (v : Vl) : Prop := Val v ∧ (v.Kind = 0 ∨ v.Kind = k)
theorem val_bl (b : Bool) : Val (bl b) := by cases b <;> constructor
theorem val_it (n : Int) : Val (it n) := by
 unfold it
 split
 ·exact .nul
 ·exact .int _ (by omega) (by omega)

theorem em_of {s : ByteArray} (h : s = ByteArray.mk #[]) : s = em := h
theorem beq_iff (x y : Vl) : beqS24 x y = true ↔ x = y := beqS24_iff x y

theorem d15_eq (N : Nat) (b : Bool) : d15 N b = some (bl b) := by cases b <;> rfl
theorem d25_eq (N : Nat) (b : Bool) : d25 N b = some (bl b) := by cases b <;> rfl
theorem d56_eq (N : Nat) (n : Int) : d56 N n = some (it n) := by
 unfold d56 it
 by_cases h : n < -1000000000000
 ·simp [h]; rfl
 ·by_cases h2 : 1000000000000 < n
  ·simp [h, h2]; rfl
  ·simp [h, h2]; rfl
theorem d27_eq (N : Nat) (n : Int) : d27 N n = some (it n) := by
 unfold d27 it
 by_cases h2 : 1000000000000 < n
 ·simp [h2]; rfl
 ·by_cases h : n < -1000000000000
  ·simp [h, h2]; rfl
  ·simp [h, h2]; rfl
def lt (a b : Vl) : Bool := if a.Kind != b.Kind then decide (a.Kind < b.Kind) else if a.Int != b.Int then decide (a.Int < b.Int) else Op.bytesLess a.Text.toList b.Text.toList
theorem d55_eq (N : Nat) (a b : Vl) : d55 N a b = some (lt a b) := by
 unfold d55 lt
 split <;> simp
 split <;> simp
theorem d40_eq (N : Nat) (a b : Vl) : d40 N a b = some (lt a b) := by
 unfold d40 lt
 split <;> simp
 split <;> simp
theorem d14_eq (N : Nat) (a : Vl) : d14 N a = some (a.Kind == 2 && a.Int == 1) := by
 unfold d14
 cases h : a.Kind == 2 <;> simp
theorem d51_eq (N : Nat) (a : Vl) (n : Int) : d51 N a n = some (a.Kind == 2 && a.Int == n) := by
 unfold d51
 cases h : a.Kind == 2 <;> simp
theorem d26_eq (N : Nat) {a : Vl} (h : Val a) : d26 N a = some (if a.Kind = 2 then 2 * a.Int - 1 else 0) := by
 unfold d26
 cases h <;> rfl

theorem d23_eq {N : Nat} {xs : List ByteArray} (hN : xs.length < N) (hb : xs.length < 9223372036854775807) (y : ByteArray) : d23 N xs y = some (optI (xs.findIdx? fun x => decide (y = x))) :=
 indexFunc_eq N xs (fun x => some (decide (y = x))) (fun x => decide (y = x)) (fun _ _ => rfl) hN hb
theorem d21_eq {N : Nat} {xs : List Co} (hN : xs.length < N) (hb : xs.length < 9223372036854775807) {p : Co → Option Bool} {q : Co → Bool} (hp : ∀ x, p x = some (q x)) : d21 N xs p = some (optI (xs.findIdx? q)) :=
 indexFunc_eq N xs p q (fun x _ => hp x) hN hb
theorem d52_eq {N : Nat} {xs : List Vl} (hN : xs.length < N) (hb : xs.length < 9223372036854775807) {p : Vl → Option Bool} {q : Vl → Bool} (hp : ∀ x, p x = some (q x)) : d52 N xs p = some (optI (xs.findIdx? q)) :=
 indexFunc_eq N xs p q (fun x _ => hp x) hN hb
theorem d37_eq {N : Nat} {xs : List Vl} (hN : xs.length < N) (hb : xs.length < 9223372036854775807) {p : Vl → Option Bool} {q : Vl → Bool} (hp : ∀ x, p x = some (q x)) : d37 N xs p = some (xs.any q) := by
 unfold d37
 rw [d52_eq hN hb hp, Option.bind_some, optI_ge]
theorem d53_eq {N : Nat} {xs : List Vl} (hN : xs.length < N) (hb : xs.length < 9223372036854775807) (k : Int) : d53 N k xs = some (!xs.any fun x => x.Kind != k) := by
 unfold d53
 rw [d37_eq hN hb (p := fun b0 => d54 N b0 k) (q := fun x => x.Kind != k) (fun x => rfl), Option.bind_some]
theorem d58_eq {N : Nat} {xs : List Int} (hN : xs.length < N) (hb : xs.length < 9223372036854775807) {p : Int → Option Bool} {q : Int → Bool} (hp : ∀ x, p x = some (q x)) : d58 N xs p = some (optI (xs.findIdx? q)) :=
 indexFunc_eq N xs p q (fun x _ => hp x) hN hb
theorem d44_eq {N : Nat} {xs : List Int} (hN : xs.length < N) (hb : xs.length < 9223372036854775807) (k : Int) : d44 N k xs = some (!xs.any fun x => x != k && x != 0) := by
 unfold d44 d45
 rw [d58_eq hN hb (q := fun x => x != k && x != 0) (fun x => ?_), Option.bind_some, optI_ge, Option.bind_some]
 unfold d46
 cases x != k <;> simp
theorem d47_eq (N : Nat) (a b : Int) : d47 N a b = some (a == b || (a == 0 || b == 0)) := by
 unfold d47
 cases h : a == b <;> cases h2 : a == 0 <;> simp
theorem d48_eq (N : Nat) (a : Int) (b c : Bool) : d48 N a b c = some (if c then (a, b, 0) else (0, false, 7)) := by
 unfold d48
 cases c <;> rfl

/-! ### validity -/
theorem d10_val {N : Nat} {v : Vl} (h : d10 N v = some true) : Val v := by
 obtain ⟨k, n, s⟩ := v
 unfold d10 at h
 by_cases h1 : k = 1
 ·subst h1
  by_cases hb : beqS24 ⟨1, n, s⟩ (S24.mk 1 n (ByteArray.mk #[])) = true
  ·have := (beqS24_iff _ _).1 hb
   injection this with _ _ h3
   subst h3
   by_cases h4 : -1000000000000 ≤ n
   ·simp [hb, h4] at h
    exact .int n h4 h
   ·simp [hb, h4] at h
  ·simp [hb] at h
 ·by_cases h2 : k = 2
  ·subst h2
   by_cases hb : beqS24 ⟨2, n, s⟩ (S24.mk 2 n (ByteArray.mk #[])) = true
   ·have := (beqS24_iff _ _).1 hb
    injection this with _ _ h3
    subst h3
    by_cases h4 : n = 0
    ·subst h4; exact .ff
    ·simp [hb, h4] at h
     subst h; exact .tt
   ·simp [hb] at h
  ·by_cases h3 : k = 3
   ·subst h3
    by_cases hb : beqS24 ⟨3, n, s⟩ (S24.mk 3 0 s) = true
    ·have := (beqS24_iff _ _).1 hb
     injection this with _ h3 _
     subst h3
     simp [hb] at h
     exact .text s (by omega)
    ·simp [hb] at h
   ·simp [h1, h2, h3] at h
    have := (beqS24_iff _ _).1 h
    rw [this]; exact .nul
theorem d10_tot (N : Nat) (v : Vl) : ∃ b, d10 N v = some b := by
 unfold d10
 split
 ·by_cases hb : (beqS24 v (S24.mk v.Kind v.Int (ByteArray.mk #[]))) = true
  ·by_cases h4 : -1000000000000 ≤ v.Int <;> simp [hb, h4]
  ·simp [hb]
 ·split
  ·by_cases hb : (beqS24 v (S24.mk v.Kind v.Int (ByteArray.mk #[]))) = true
   ·by_cases h4 : v.Int = 0 <;> simp [hb, h4]
   ·simp [hb]
  ·split
   ·by_cases hb : (beqS24 v (S24.mk v.Kind 0 v.Text)) = true <;> simp [hb]
   ·exact ⟨_, rfl⟩
theorem d29_val {N : Nat} {v : Vl} (h : d29 N v = some true) : Val v := by
 obtain ⟨k, n, s⟩ := v
 unfold d29 at h
 by_cases h0 : k = 0
 ·subst h0
  simp at h
  have := (beqS24_iff _ _).1 h
  rw [this]; exact .nul
 ·by_cases h1 : k = 1
  ·subst h1
   by_cases h3 : s = ByteArray.mk #[]
   ·subst h3
    by_cases h4 : n ≥ -1000000000000
    ·simp [h4] at h
     exact .int n h4 h
    ·simp [h4] at h
   ·simp [h3] at h
  ·by_cases h2 : k = 2
   ·subst h2
    by_cases h3 : s = ByteArray.mk #[]
    ·subst h3
     by_cases h4 : n = 0
     ·subst h4; exact .ff
     ·simp [h4] at h
      subst h; exact .tt
    ·simp [h3] at h
   ·by_cases h3 : k = 3
    ·subst h3
     by_cases h4 : n = 0
     ·subst h4
      simp at h
      exact .text s (by omega)
     ·simp [h4] at h
    ·simp [h0, h1, h2, h3] at h
theorem d29_tot (N : Nat) (v : Vl) : ∃ b, d29 N v = some b := by
 unfold d29
 split
 ·exact ⟨_, rfl⟩
 ·split
  ·by_cases h3 : v.Text = ByteArray.mk #[]
   ·by_cases h4 : v.Int ≥ -1000000000000 <;> simp [h3, h4]
   ·simp [h3]
  ·split
   ·by_cases h3 : v.Text = ByteArray.mk #[]
    ·by_cases h4 : v.Int = 0 <;> simp [h3, h4]
    ·simp [h3]
   ·split
    ·by_cases h4 : v.Int = 0 <;> simp [h4]
    ·exact ⟨_, rfl⟩
end Go.Proofs.Ytacafkegbgmnoaa
end
section
namespace Go.Proofs.Ytacafkegbgmnoaa
open Go.Ab Go.Rp

theorem wrap64 (n : Int) : ∃ q : Int, n = IntKind.i64.wrap n + q * 18446744073709551616 ∧ -9223372036854775808 ≤ IntKind.i64.wrap n ∧ IntKind.i64.wrap n ≤ 9223372036854775807 := by
 refine ⟨(n + 9223372036854775808) / 18446744073709551616, ?_⟩
 simp only [IntKind.wrap, IntKind.signed, IntKind.bits]
 simp
 omega

theorem abs_int (N : Int) : (if N < 0 then -N else N) = (N.natAbs : Int) := by split <;> omega
theorem quo_nat {x : Nat} (hx : x ≠ 0) : quoI 1000000000000 (x : Int) = some ((1000000000000 / x : Nat) : Int) := by
 unfold quoI
 rw [if_neg (by omega)]
 have e : (1000000000000 : Int).tdiv (x : Int) = ((1000000000000 / x : Nat) : Int) := by
  rw [Int.tdiv_eq_ediv_of_nonneg (by decide)]
  rfl
 have h := Nat.div_le_self 1000000000000 x
 rw [e]
 generalize 1000000000000 / x = y at h ⊢
 exact chkI_of (by omega) (by omega)

theorem natAbs_bound {a : Int} (h1 : -1000000000000 ≤ a) (h2 : a ≤ 1000000000000) : a.natAbs ≤ 1000000000000 := by omega

/-- the product by the reference -/
theorem d41_eq (N : Nat) {a b : Int} (ha1 : -1000000000000 ≤ a) (ha2 : a ≤ 1000000000000) (hb1 : -1000000000000 ≤ b) (hb2 : b ≤ 1000000000000) :
  d41 N a b = some (it (a * b)) := by
 have hA := natAbs_bound ha1 ha2
 have hB := natAbs_bound hb1 hb2
 have habs : ∀ x : Int, -1000000000000 ≤ x → x ≤ 1000000000000 → (if x < 0 then ((chkI (-x)).bind fun v5 => some v5) else some x) = some (x.natAbs : Int) := fun x h1 h2 => by
  by_cases h : x < 0
  ·rw [if_pos h, chkI_of (by omega) (by omega), Option.bind_some, ← abs_int, if_pos h]
  ·rw [if_neg h, ← abs_int, if_neg h]
 have hmul : (a * b).natAbs = a.natAbs * b.natAbs := Int.natAbs_mul a b
 unfold d41
 rw [habs a ha1 ha2, Option.bind_some, habs b hb1 hb2, Option.bind_some]
 by_cases h0 : a.natAbs = 0
 ·have ha0 : a = 0 := by omega
  subst ha0
  simp
  rw [chkI_of (by decide) (by decide), Option.bind_some, d27_eq]
 ·have hne : ((a.natAbs : Int) != 0) = true := by simpa using h0
  rw [if_pos hne, quo_nat h0, Option.bind_some, Option.bind_some]
  have hlt : (1000000000000 / a.natAbs < b.natAbs) ↔ 1000000000000 < b.natAbs * a.natAbs := Nat.div_lt_iff_lt_mul (by omega)
  by_cases hc : 1000000000000 < b.natAbs * a.natAbs
  ·have h5 := hlt.2 hc
   rw [if_pos (decide_eq_true (show (b.natAbs : Int) > ((1000000000000 / a.natAbs : Nat) : Int) from Int.ofNat_lt.2 h5))]
   unfold it
   rw [if_pos]
   ·rfl
   ·have : 1000000000000 < (a * b).natAbs := by rw [hmul, Nat.mul_comm]; exact hc
    omega
  ·have h5 : ¬ (1000000000000 / a.natAbs < b.natAbs) := fun h => hc (hlt.1 h)
   rw [if_neg (by rw [decide_eq_false (show ¬ (b.natAbs : Int) > ((1000000000000 / a.natAbs : Nat) : Int) from fun h => h5 (Int.ofNat_lt.1 h))]; decide)]
   have : (a * b).natAbs ≤ 1000000000000 := by rw [hmul, Nat.mul_comm]; omega
   rw [chkI_of (by omega) (by omega), Option.bind_some, d27_eq]
   rfl

/-- the product by the program -/
theorem d57_mul (N : Nat) {a b : Int} (ha1 : -1000000000000 ≤ a) (ha2 : a ≤ 1000000000000) (hb1 : -1000000000000 ≤ b) (hb2 : b ≤ 1000000000000) :
  d57 N (ByteArray.mk #[42]) a b = some (it (a * b)) := by
 unfold d57
 simp only [show decide (ByteArray.mk #[42] = ByteArray.mk #[43]) = false from rfl, show decide (ByteArray.mk #[42] = ByteArray.mk #[45]) = false from rfl, Bool.false_eq_true, if_false]
 by_cases h0 : a = 0
 ·subst h0
  simp [d56_eq]
 ·by_cases h1 : b = 0
  ·subst h1
   simp [d56_eq, h0]
  ·have e : (if (a == 0) = true then some true else some (b == 0)) = some false := by simp [h0, h1]
   rw [e, Option.bind_some, if_neg (by decide), letv_eq]
   obtain ⟨q, hq, hw1, hw2⟩ := wrap64 (a * b)
   generalize hp : IntKind.i64.wrap (a * b) = p at hq hw1 hw2 ⊢
   have hdm := Int.mul_tdiv_add_tmod p b
   have hmod : (p.tmod b).natAbs < b.natAbs := by
    rw [Int.natAbs_tmod]
    exact Nat.mod_lt _ (by omega)
   have hB := natAbs_bound hb1 hb2
   have hpq : p.tdiv b ≤ 9223372036854775807 ∧ -9223372036854775808 ≤ p.tdiv b := by
    have h3 : (p.tdiv b).natAbs ≤ p.natAbs := by rw [Int.natAbs_tdiv]; exact Nat.div_le_self _ _
    by_cases hp0 : p = -9223372036854775808
    ·by_cases hb3 : b = -1
     ·subst hb3
      omega
     ·have h4 : (p.tdiv b).natAbs = p.natAbs / b.natAbs := Int.natAbs_tdiv p b
      by_cases hb4 : b = 1
      ·subst hb4
       rw [Int.tdiv_one]
       omega
      ·have h5 : p.natAbs / b.natAbs ≤ p.natAbs / 2 := Nat.div_le_div_left (by omega) (by decide)
       omega
    ·omega
   unfold quoI
   rw [if_neg h1, chkI_of hpq.2 hpq.1, Option.bind_some]
   by_cases hq0 : q = 0
   ·subst hq0
    have hp2 : p = a * b := by omega
    have e2 : p.tdiv b = a := by rw [hp2]; exact Int.mul_tdiv_cancel a h1
    rw [e2]
    simp [d56_eq, hp2]
   ·have hne : p.tdiv b ≠ a := fun e => by
     rw [e] at hdm
     have : b * a = a * b := Int.mul_comm b a
     omega
    rw [if_neg (by simpa using hne)]
    unfold it
    rw [if_pos]
    ·rfl
    ·omega
end Go.Proofs.Ytacafkegbgmnoaa
end
section
namespace Go.Proofs.Ytacafkegbgmnoaa
open Go.Ab Go.Rp

/-- a loop, by an invariant and a measure -/
theorem iter_post {τ ρ : Type} (step : τ → Option (τ ⊕ ρ)) (μ : τ → Nat) (Inv : τ → Prop) (Post : ρ → Prop)
  (h : ∀ s, Inv s → (∃ s', step s = some (.inl s') ∧ Inv s' ∧ μ s' < μ s) ∨ ∃ r, step s = some (.inr r) ∧ Post r) :
  ∀ (n : Nat) (s : τ), Inv s → μ s < n → ∃ r, iterN step n s = some r ∧ Post r := by
 intro n
 induction n with
 | zero => intro s _ h; omega
 | succ n ih =>
  intro s hi hm
  rcases h s hi with ⟨s', h1, h2, h3⟩ | ⟨r, h1, h2⟩
  ·obtain ⟨r, h4, h5⟩ := ih s' h2 (by omega)
   exact ⟨r, by rw [iterN, h1]; exact h4, h5⟩
  ·exact ⟨r, by rw [iterN, h1], h2⟩
theorem exF2 {α β : Type} {Q : α → β → Prop} : ∀ (l : List α), (∀ a ∈ l, ∃ b, Q a b) → ∃ m : List β, m.length = l.length ∧ ∀ (k : Nat) (a : α) (b : β), l[k]? = some a → m[k]? = some b → Q a b
 | [], _ => ⟨[], rfl, fun k a b h => by simp at h⟩
 | x :: l, h => by
  obtain ⟨b, hb⟩ := h x (.head _)
  obtain ⟨m, h1, h2⟩ := exF2 l fun a ha => h a (.tail _ ha)
  refine ⟨b :: m, by simp [h1], fun k a c ha hc => ?_⟩
  cases k with
  | zero => simp at ha hc; subst ha; subst hc; exact hb
  | succ k => exact h2 k a c (by simpa using ha) (by simpa using hc)

/-! ### sizes -/
mutual
def sz : Ex → Nat
 | ⟨_, _, _, _, l⟩ => 1 + szL l
def szL : List Ex → Nat
 | [] => 0
 | a :: l => sz a + szL l
end
theorem sz_def (e : Ex) : sz e = 1 + szL e.Args := by cases e; simp [sz]
theorem sz_pos (e : Ex) : 1 ≤ sz e := by rw [sz_def]; omega
theorem szL_cons (a : Ex) (l : List Ex) : szL (a :: l) = sz a + szL l := by simp [szL]
theorem szL_nil : szL [] = 0 := by simp [szL]
theorem szL_mem : ∀ {l : List Ex} {a : Ex}, a ∈ l → sz a ≤ szL l
 | x :: l, a, h => by
  rw [szL_cons]
  rcases List.mem_cons.1 h with rfl | h
  ·omega
  ·have := szL_mem h; omega
theorem szL_len : ∀ (l : List Ex), l.length ≤ szL l
 | [] => by simp
 | a :: l => by rw [szL_cons]; have := szL_len l; have := sz_pos a; simp; omega
theorem szL_take : ∀ (l : List Ex) (k : Nat) {a : Ex}, l[k]? = some a → szL (l.take (k + 1)) = szL (l.take k) + sz a
 | x :: l, 0, a, h => by simp at h; subst h; simp [szL_cons, szL_nil]
 | x :: l, k + 1, a, h => by
  have := szL_take l k (a := a) (by simpa using h)
  rw [List.take_succ_cons, List.take_succ_cons, szL_cons, szL_cons, this]
  omega
theorem szL_take_le : ∀ (l : List Ex) (k : Nat), szL (l.take k) ≤ szL l
 | [], k => by simp
 | x :: l, 0 => by simp [szL_nil]
 | x :: l, k + 1 => by rw [List.take_succ_cons, szL_cons, szL_cons]; have := szL_take_le l k; omega
theorem get_of {α : Type} {l : List α} {k : Nat} (h : k < l.length) : ∃ a, l[k]? = some a := ⟨l[k], List.getElem?_eq_getElem h⟩

/-- few nodes -/
theorem d6_tot : ∀ (m N : Nat) (e : Ex), 300 + m ≤ N → m ≤ 200 → ∃ r : Int, d6 N e m = some r ∧ (0 ≤ r → r.toNat + szL e.Args ≤ m) := by
 intro m
 induction m using Nat.strongRecOn with
 | _ m ih =>
 intro N e hN hm
 obtain ⟨N, rfl⟩ : ∃ M, N = M + 1 := ⟨N - 1, by omega⟩
 unfold d6
 have key := iter_post (τ := Int × Int) (ρ := Out Int Int) (fun ((v8, v9) : (Int × Int)) =>
    if v9 < (e.Args.length : Int) then (idx e.Args v9).bind fun x30 => (chkI (v8 - 1)).bind fun v32 => if v32 < 0 then some (.inr (.ret (-1))) else (d6 N x30 v32).bind fun r34 => if r34 < 0 then some (.inr (.ret (-1))) else (chkI (v9 + 1)).bind fun v36 => some (.inl (r34, v36))
    else some (.inr (.go v8)))
  (fun s => s.1.toNat) (fun s => ∃ k q : Nat, s = ((q : Int), (k : Int)) ∧ k ≤ e.Args.length ∧ q + szL (e.Args.take k) ≤ m)
  (fun r => r = .ret (-1) ∨ ∃ q : Nat, r = .go (q : Int) ∧ q + szL e.Args ≤ m) ?_ N ((m : Int), 0) ⟨0, m, rfl, Nat.zero_le _, by simp [szL_nil]⟩ (by simp; omega)
 ·obtain ⟨r, h1, h2⟩ := key
  rw [h1]
  rcases h2 with rfl | ⟨q, rfl, hq⟩
  ·exact ⟨-1, rfl, fun h => by omega⟩
  ·exact ⟨q, rfl, fun _ => by simpa using hq⟩
 ·rintro s ⟨k, q, rfl, hk, hq⟩
  simp only []
  have hkl : k ≤ szL (e.Args.take k) := by
   have := szL_len (e.Args.take k)
   rw [List.length_take] at this
   omega
  by_cases hlt : k < e.Args.length
  ·obtain ⟨x, hx⟩ := get_of hlt
   rw [if_pos (by omega), idx_nat hx, Option.bind_some, chkI_of (by omega) (by omega), Option.bind_some]
   by_cases hq0 : q = 0
   ·right
    rw [if_pos (by omega)]
    exact ⟨_, rfl, .inl rfl⟩
   ·obtain ⟨q, rfl⟩ : ∃ p, q = p + 1 := ⟨q - 1, by omega⟩
    have e1 : ((q + 1 : Nat) : Int) - 1 = (q : Int) := by omega
    rw [if_neg (by omega), e1]
    obtain ⟨r, hr, hr2⟩ := ih q (by omega) N x (by omega) (by omega)
    rw [hr, Option.bind_some]
    by_cases hneg : r < 0
    ·right
     rw [if_pos hneg]
     exact ⟨_, rfl, .inl rfl⟩
    ·left
     rw [if_neg hneg, chkI_of (by omega) (by omega), Option.bind_some]
     have h5 := hr2 (by omega)
     refine ⟨_, rfl, ⟨k + 1, r.toNat, by rw [Int.toNat_of_nonneg (by omega)]; rfl, by omega, ?_⟩, by simp; omega⟩
     rw [szL_take _ _ hx, sz_def]
     omega
  ·right
   rw [if_neg (by omega)]
   refine ⟨_, rfl, .inr ⟨q, rfl, ?_⟩⟩
   rw [List.take_of_length_le (by omega)] at hq
   exact hq

/-- numbers of nodes and depths -/
theorem d16_tot : ∀ (n : Nat) (e : Ex) (N : Nat), sz e ≤ n → n ≤ 200 → 400 + n ≤ N → ∃ a d : Int, d16 N e = some (a, d) ∧ 1 ≤ a ∧ a ≤ sz e ∧ 0 ≤ d ∧ d ≤ sz e := by
 intro n
 induction n with
 | zero => intro e N h; have := sz_pos e; omega
 | succ n ih =>
 intro e N h hn hN
 obtain ⟨N, rfl⟩ : ∃ M, N = M + 1 := ⟨N - 1, by omega⟩
 have hse := sz_def e
 have hlen := szL_len e.Args
 unfold d16
 have key := iter_post (τ := Int × Int × Int) (ρ := Int × Int) (fun ((v7, v8, v9) : (Int × Int × Int)) =>
    if v9 < (e.Args.length : Int) then (idx e.Args v9).bind fun x30 => (d16 N x30).bind fun r32 => (chkI (v7 + r32.1)).bind fun v33 => letv (maxI v8 r32.2) fun v34 => (chkI (v9 + 1)).bind fun v35 => some (.inl (v33, v34, v35))
    else some (.inr (v7, v8)))
  (fun s => e.Args.length - s.2.2.toNat) (fun s => ∃ k : Nat, s.2.2 = (k : Int) ∧ k ≤ e.Args.length ∧ 1 ≤ s.1 ∧ s.1 ≤ 1 + szL (e.Args.take k) ∧ 0 ≤ s.2.1 ∧ s.2.1 ≤ szL e.Args)
  (fun r => 1 ≤ r.1 ∧ r.1 ≤ 1 + szL e.Args ∧ 0 ≤ r.2 ∧ r.2 ≤ szL e.Args) ?_ N (1, 0, 0) ⟨0, rfl, Nat.zero_le _, by simp, by simp; omega, by simp, by simp⟩ (by simp; omega)
 ·obtain ⟨r, h1, h2⟩ := key
  rw [h1, Option.bind_some]
  simp only []
  rw [chkI_of (by omega) (by omega), Option.bind_some]
  exact ⟨_, _, rfl, by omega, by omega, by omega, by omega⟩
 ·intro s hs
  obtain ⟨v7, v8, v9⟩ := s
  obtain ⟨k, hk, hkl, h1, h2, h3, h4⟩ := hs
  simp only at hk h1 h2 h3 h4 ⊢
  subst hk
  have htl := szL_take_le e.Args k
  by_cases hlt : k < e.Args.length
  ·left
   obtain ⟨x, hx⟩ := get_of hlt
   have hxs := szL_mem (List.mem_of_getElem? hx)
   obtain ⟨a, d, g1, g2, g3, g4, g5⟩ := ih x N (by omega) (by omega) (by omega)
   rw [if_pos (by omega), idx_nat hx, Option.bind_some, g1, Option.bind_some, chkI_of (by omega) (by omega), Option.bind_some, letv_eq, chkI_of (by omega) (by omega), Option.bind_some]
   refine ⟨_, rfl, ⟨k + 1, by simp, by omega, by simp; omega, ?_, ?_, ?_⟩, by simp; omega⟩
   ·simp only []
    rw [szL_take _ _ hx]
    omega
   ·simp only [maxI]; split <;> omega
   ·simp only [maxI]; split <;> omega
  ·right
   rw [if_neg (by omega)]
   exact ⟨_, rfl, by simp only []; omega, by simp only []; omega, h3, h4⟩
end Go.Proofs.Ytacafkegbgmnoaa
end
section
namespace Go.Proofs.Ytacafkegbgmnoaa
open Go.Ab Go.Rp

theorem bytes_tri : ∀ (a b : List UInt8), Op.bytesLess a b = false → Op.bytesLess b a = false → a = b
 | [], [], _, _ => rfl
 | [], _ :: _, h, _ => by simp [Op.bytesLess] at h
 | _ :: _, [], _, h => by simp [Op.bytesLess] at h
 | a :: x, b :: y, h, h' => by
  simp only [Op.bytesLess, Bool.or_eq_false_iff, decide_eq_false_iff_not, Bool.and_eq_false_iff] at h h'
  have e : a = b := UInt8.le_antisymm (UInt8.not_lt.1 h'.1) (UInt8.not_lt.1 h.1)
  subst e
  have := bytes_tri x y (by simpa using h.2) (by simpa using h'.2)
  rw [this]
theorem bytes_irr : ∀ (a : List UInt8), Op.bytesLess a a = false
 | [] => rfl
 | a :: x => by simp [Op.bytesLess, bytes_irr x]
theorem lt_tri {a b : Vl} (h : lt a b = false) (h' : lt b a = false) : a = b := by
 obtain ⟨k, n, s⟩ := a
 obtain ⟨k', n', s'⟩ := b
 unfold lt at h h'
 simp only at h h'
 by_cases hk : k = k'
 ·subst hk
  by_cases hn : n = n'
  ·subst hn
   simp at h h'
   have := bytes_tri _ _ h h'
   have hb := toList_beqD s s'
   rw [this, beq_self_eq_true] at hb
   rw [of_decide_eq_true hb.symm]
  ·have hn' : ¬ n' = n := fun e => hn e.symm
   simp [hn, hn'] at h h'
   omega
 ·have hk' : ¬ k' = k := fun e => hk e.symm
  simp [hk, hk'] at h h'
  omega
theorem lt_irr (a : Vl) : lt a a = false := by
 unfold lt
 simp [bytes_irr]
theorem eq_lt (a b : Vl) : beqS24 a b = (!lt a b && !lt b a) := by
 by_cases h : a = b
 ·subst h
  rw [(beqS24_iff a a).2 rfl, lt_irr]
  rfl
 ·have h1 : beqS24 a b = false := by
   cases hb : beqS24 a b
   ·rfl
   ·exact absurd ((beqS24_iff a b).1 hb) h
  rw [h1]
  cases h2 : lt a b
  ·cases h3 : lt b a
   ·exact absurd (lt_tri h2 h3) h
   ·rfl
  ·rfl

/-! ### names -/
theorem d42_tot (N : Nat) (n : Int) : ∃ b, d42 N n = some b := by
 unfold d42
 by_cases h1 : n ≥ 97 <;> by_cases h2 : n ≤ 122 <;> by_cases h3 : n ≥ 48 <;> simp [h1, h2, h3]
theorem idxB_of {s : ByteArray} {k : Nat} (h : k < s.size) : ∃ v, idxB s (k : Int) = some v := by
 unfold idxB
 rw [if_pos (by omega)]
 simp [h]
theorem d30_tot (s : ByteArray) : ∃ b, ∀ N, 20 ≤ N → d30 N s = some b := by
 by_cases h1 : (s.size : Int) < 1
 ·exact ⟨false, fun N _ => by unfold d30; rw [if_pos h1]; rfl⟩
 by_cases h2 : (s.size : Int) > 12
 ·exact ⟨false, fun N _ => by unfold d30; rw [if_neg h1, if_pos h2]; rfl⟩
 obtain ⟨v, hv⟩ := idxB_of (s := s) (k := 0) (by omega)
 have hv : idxB s 0 = some v := hv
 have key : ∀ N, 20 ≤ N → iterN (σ := Int) (ρ := (Out Unit Bool)) (fun (v18 : Int) =>
   if v18 < (s.size : Int) then (
    (idxB s v18).bind fun v31 =>
    (d42 N v31).bind fun r32 =>
    if (!r32) = true then (
     some (.inr (.ret false))
    ) else
    (chkI (v18 + 1)).bind fun v34 =>
    some (.inl v34)
   ) else
   some (.inr (.go ()))
  ) N 0 = some (listFor (ρ := Out Unit Bool) (fun k _ s' => (fun k (_ : Unit) => if (d42 0 ((idxB s (k : Int)).getD 0)).getD false then (.inl () : Unit ⊕ Out Unit Bool) else .inr (.ret false)) k s') (fun _ => .go ()) (List.replicate s.size ()) 0 ()) := fun N hN => by
  refine iter_range s.size (fun (_ : Unit) (v : Int) => v) _ (fun k (_ : Unit) => if (d42 0 ((idxB s (k : Int)).getD 0)).getD false then (.inl () : Unit ⊕ Out Unit Bool) else .inr (.ret false)) (fun _ => .go ()) (fun k _ hk => ?_) (fun _ => ?_) (by omega) ()
  ·obtain ⟨v, hv⟩ := idxB_of hk
   obtain ⟨b, hb⟩ := d42_tot 0 v
   have hb' : d42 N v = some b := hb
   rw [if_pos (by omega), hv, Option.bind_some, hb', Option.bind_some, Option.getD_some, hb, Option.getD_some]
   cases b with
   | true => simp [chkI_of (show (-9223372036854775808 : Int) ≤ (k : Int) + 1 by omega) (show (k : Int) + 1 ≤ 9223372036854775807 by omega)]
   | false => rfl
  ·rw [if_neg (by omega)]
 have e : ∀ N, d30 N s = if v < 97 then some false else if v > 122 then some false else bindO (β := Unit) (ρ := Bool) (iterN (σ := Int) (ρ := (Out Unit Bool)) (fun (v18 : Int) =>
   if v18 < (s.size : Int) then (
    (idxB s v18).bind fun v31 =>
    (d42 N v31).bind fun r32 =>
    if (!r32) = true then (
     some (.inr (.ret false))
    ) else
    (chkI (v18 + 1)).bind fun v34 =>
    some (.inl v34)
   ) else
   some (.inr (.go ()))
  ) N 0) (fun (_ : Unit) => some true) := fun N => by
  unfold d30
  rw [if_neg h1, if_neg h2, hv, Option.bind_some]
  by_cases h3 : v < 97
  ·rw [if_pos h3, if_pos h3]; rfl
  ·rw [if_neg h3, if_neg h3, Option.bind_some, Option.bind_some]
   by_cases h4 : v > 122
   ·rw [if_pos h4, if_pos (decide_eq_true h4)]
   ·rw [if_neg h4, if_neg (by simpa using h4)]
 by_cases h3 : v < 97
 ·exact ⟨false, fun N _ => by rw [e, if_pos h3]⟩
 by_cases h4 : v > 122
 ·exact ⟨false, fun N _ => by rw [e, if_neg h3, if_pos h4]⟩
 cases hr : listFor (fun k _ s' => (fun k (_ : Unit) => if (d42 0 ((idxB s (k : Int)).getD 0)).getD false then (.inl () : Unit ⊕ Out Unit Bool) else .inr (.ret false)) k s') (fun _ => (.go () : Out Unit Bool)) (List.replicate s.size ()) 0 () with
 | go u => exact ⟨true, fun N hN => by rw [e, if_neg h3, if_neg h4, key N hN, hr]; rfl⟩
 | ret b => exact ⟨b, fun N hN => by rw [e, if_neg h3, if_neg h4, key N hN, hr]; rfl⟩

theorem d31_eq {cs : List Co} (hb : cs.length < 50) (nm : ByteArray) : ∀ N, 60 ≤ N → d31 N cs nm = some (match cs.findIdx? (fun c => decide (c.Name = nm)) with
  | none => (S46.mk (ByteArray.mk #[]) 0 false, false)
  | some i => (cs[i]?.getD (S46.mk (ByteArray.mk #[]) 0 false), true)) := fun N hN => by
 unfold d31
 rw [d21_eq (p := fun b0 => d43 N b0 nm) (q := fun c => decide (c.Name = nm)) (by omega) (by omega) (fun _ => rfl), Option.bind_some]
 cases h : cs.findIdx? (fun c => decide (c.Name = nm)) with
 | none => rfl
 | some i =>
  have hi : i < cs.length := by
   have := List.findIdx?_eq_some_iff_getElem.1 h
   exact this.1
  obtain ⟨c, hc⟩ := get_of hi
  have e : optI (some i) = (i : Int) := rfl
  rw [e, if_neg (by omega), idx_nat hc]
  simp [hc]

/-! ### the operators' names -/
theorem op_cases (s : ByteArray) : (([(ByteArray.mk #[43]), (ByteArray.mk #[45]), (ByteArray.mk #[42]), (ByteArray.mk #[61]), (ByteArray.mk #[60]), (ByteArray.mk #[60, 61]), (ByteArray.mk #[97, 110, 100]), (ByteArray.mk #[111, 114]), (ByteArray.mk #[110, 111, 116]), (ByteArray.mk #[124, 124]), (ByteArray.mk #[105, 115, 32, 110, 117, 108, 108]), (ByteArray.mk #[108, 101, 110, 103, 116, 104]), (ByteArray.mk #[105, 102])] : List ByteArray).findIdx? fun x => decide (s = x)) = none
  ∨ s = ByteArray.mk #[43] ∨ s = ByteArray.mk #[45] ∨ s = ByteArray.mk #[42] ∨ s = ByteArray.mk #[61] ∨ s = ByteArray.mk #[60] ∨ s = ByteArray.mk #[60, 61] ∨ s = ByteArray.mk #[97, 110, 100] ∨ s = ByteArray.mk #[111, 114] ∨ s = ByteArray.mk #[110, 111, 116] ∨ s = ByteArray.mk #[124, 124] ∨ s = ByteArray.mk #[105, 115, 32, 110, 117, 108, 108] ∨ s = ByteArray.mk #[108, 101, 110, 103, 116, 104] ∨ s = ByteArray.mk #[105, 102] := by
 by_cases h : (([(ByteArray.mk #[43]), (ByteArray.mk #[45]), (ByteArray.mk #[42]), (ByteArray.mk #[61]), (ByteArray.mk #[60]), (ByteArray.mk #[60, 61]), (ByteArray.mk #[97, 110, 100]), (ByteArray.mk #[111, 114]), (ByteArray.mk #[110, 111, 116]), (ByteArray.mk #[124, 124]), (ByteArray.mk #[105, 115, 32, 110, 117, 108, 108]), (ByteArray.mk #[108, 101, 110, 103, 116, 104]), (ByteArray.mk #[105, 102])] : List ByteArray).findIdx? fun x => decide (s = x)) = none
 ·exact .inl h
 ·right
  rw [List.findIdx?_eq_none_iff] at h
  refine Classical.byContradiction fun hn => h fun x hx => ?_
  simp only [not_or] at hn
  simp only [List.mem_cons, List.not_mem_nil, or_false] at hx
  rw [decide_eq_false_iff_not]
  rintro rfl
  obtain ⟨h1, h2, h3, h4, h5, h6, h7, h8, h9, h10, h11, h12, h13⟩ := hn
  rcases hx with e | e | e | e | e | e | e | e | e | e | e | e | e
  ·exact h1 e
  ·exact h2 e
  ·exact h3 e
  ·exact h4 e
  ·exact h5 e
  ·exact h6 e
  ·exact h7 e
  ·exact h8 e
  ·exact h9 e
  ·exact h10 e
  ·exact h11 e
  ·exact h12 e
  ·exact h13 e

/-! ### the loops over operands -/
theorem loop24 {N : Nat} {env : S41} {args : List Ex} {vs : List Vl} (h : args.map (d12 N env) = vs.map some) (hl : args.length < N) (hb : args.length < 100) :
  iterN (σ := ((List S24) × Int)) (ρ := List S24) (fun ((l6, v7) : ((List S24) × Int)) =>
    if v7 < (args.length : Int) then (
     (idx args v7).bind fun x24 =>
     (d12 N env x24).bind fun r26 =>
     (appL 32 l6 [r26]).bind fun _l27 =>
     (chkI (v7 + 1)).bind fun v28 =>
     some (.inl ((l6 ++ [r26]), v28))
    ) else
    some (.inr l6)
   ) N (([] : List S24), 0) = some vs := by
 have hlen : args.length = vs.length := by simpa using congrArg List.length h
 have key := iter_post (fun ((l6, v7) : ((List S24) × Int)) =>
    if v7 < (args.length : Int) then (
     (idx args v7).bind fun x24 =>
     (d12 N env x24).bind fun r26 =>
     (appL 32 l6 [r26]).bind fun l27 =>
     (chkI (v7 + 1)).bind fun v28 =>
     some (.inl ((l6 ++ [r26]), v28))
    ) else
    some (.inr l6)) (fun s => args.length - s.2.toNat) (fun s => ∃ k : Nat, s = (vs.take k, (k : Int)) ∧ k ≤ args.length) (fun r => r = vs) ?_ N (([] : List S24), 0) ⟨0, rfl, Nat.zero_le _⟩ (by simp; omega)
 ·obtain ⟨r, h1, h2⟩ := key
  rw [h1, h2]
 ·rintro s ⟨k, rfl, hk⟩
  simp only
  by_cases hlt : k < args.length
  ·left
   obtain ⟨x, hx⟩ := get_of hlt
   obtain ⟨v, hv⟩ := get_of (l := vs) (k := k) (by omega)
   have hxv : d12 N env x = some v := by
    have := congrArg (fun l => l[k]?) h
    simpa [hx, hv] using this
   have e : vs.take (k + 1) = vs.take k ++ [v] := by rw [List.take_add_one, hv]; rfl
   rw [if_pos (by omega), idx_nat hx, Option.bind_some, hxv, Option.bind_some, appL_of (by simp [Rp.reach]; omega), Option.bind_some, chkI_of (by omega) (by omega), Option.bind_some]
   exact ⟨_, rfl, ⟨k + 1, by rw [e]; rfl, by omega⟩, by simp; omega⟩
  ·right
   rw [if_neg (by omega)]
   exact ⟨_, rfl, List.take_of_length_le (by omega)⟩

abbrev Kd := Int × Bool × Int
def kres (ts : List Kd) : Out (List Int × Bool) Kd := match ts.find? (fun t => t.2.2 != 0) with
 | some t => .ret (0, false, t.2.2)
 | none => .go (ts.map (·.1), ts.any (·.2.1))
theorem find_split {α : Type} (p : α → Bool) : ∀ (l : List α) (k : Nat) {a : α}, l[k]? = some a → (l.take k).find? p = none → p a = true → l.find? p = some a
 | x :: l, 0, a, h, _, hp => by simp at h; subst h; simp [hp]
 | x :: l, k + 1, a, h, h2, hp => by
  rw [List.take_succ_cons, List.find?_cons] at h2
  rw [List.find?_cons]
  cases hx : p x with
  | true => rw [hx] at h2; cases h2
  | false =>
   rw [hx] at h2
   exact find_split p l k (by simpa using h) h2 hp
theorem loop32 {N : Nat} {cols vars : List Co} {args : List Ex} {ts : List Kd} (h : args.map (d17 N cols vars) = ts.map some) (hl : args.length < N) (hb : args.length < 100) :
  iterN (σ := ((List Int) × Bool × Int)) (ρ := (Out ((List Int) × Bool) (Int × Bool × Int))) (fun ((l22, v23, v24) : ((List Int) × Bool × Int)) =>
    if v24 < (args.length : Int) then (
     (idx args v24).bind fun x53 =>
     (d17 N cols vars x53).bind fun r55 =>
     if (r55.2.2 != 0) then (
      some (.inr (.ret (0, false, r55.2.2)))
     ) else
     Option.bind (α := Bool) (
      (appL 8 l22 [r55.1]).bind fun _l60 =>
      if v23 = true then (
       some true
      ) else
      some r55.2.1
     ) fun (v59 : Bool) =>
     (chkI (v24 + 1)).bind fun v62 =>
     some (.inl ((l22 ++ [r55.1]), v59, v62))
    ) else
    some (.inr (.go (l22, v23)))
   ) N (([] : List Int), false, 0) = some (kres ts) := by
 have hlen : args.length = ts.length := by simpa using congrArg List.length h
 have key := iter_post (fun ((l22, v23, v24) : ((List Int) × Bool × Int)) =>
    if v24 < (args.length : Int) then (
     (idx args v24).bind fun x53 =>
     (d17 N cols vars x53).bind fun r55 =>
     if (r55.2.2 != 0) then (
      some (.inr (.ret (0, false, r55.2.2)))
     ) else
     Option.bind (α := Bool) (
      (appL 8 l22 [r55.1]).bind fun l60 =>
      if v23 = true then (
       some true
      ) else
      some r55.2.1
     ) fun (v59 : Bool) =>
     (chkI (v24 + 1)).bind fun v62 =>
     some (.inl ((l22 ++ [r55.1]), v59, v62))
    ) else
    some (.inr (.go (l22, v23) : Out ((List Int) × Bool) (Int × Bool × Int)))) (fun s => args.length - s.2.2.toNat) (fun s => ∃ k : Nat, s = ((ts.take k).map (·.1), (ts.take k).any (·.2.1), (k : Int)) ∧ k ≤ args.length ∧ (ts.take k).find? (fun t => t.2.2 != 0) = none) (fun r => r = kres ts) ?_ N (([] : List Int), false, 0) ⟨0, rfl, Nat.zero_le _, rfl⟩ (by simp; omega)
 ·obtain ⟨r, h1, h2⟩ := key
  rw [h1, h2]
 ·rintro s ⟨k, rfl, hk, hf⟩
  simp only
  by_cases hlt : k < args.length
  ·obtain ⟨x, hx⟩ := get_of hlt
   obtain ⟨v, hv⟩ := get_of (l := ts) (k := k) (by omega)
   have hxv : d17 N cols vars x = some v := by
    have := congrArg (fun l => l[k]?) h
    simpa [hx, hv] using this
   have e : ts.take (k + 1) = ts.take k ++ [v] := by rw [List.take_add_one, hv]; rfl
   rw [if_pos (by omega), idx_nat hx, Option.bind_some, hxv, Option.bind_some]
   by_cases hz : (v.2.2 != 0) = true
   ·right
    rw [if_pos hz]
    refine ⟨_, rfl, ?_⟩
    unfold kres
    rw [find_split _ ts k hv hf hz]
   ·left
    rw [if_neg hz, appL_of (by simp [Rp.reach]; omega), Option.bind_some, chkI_of (by omega) (by omega)]
    have hz' : (v.2.2 != 0) = false := Bool.eq_false_iff.2 hz
    refine ⟨((ts.take k).map (·.1) ++ [v.1], (ts.take (k + 1)).any (·.2.1), (k : Int) + 1), ?_, ⟨k + 1, by rw [e]; simp, by omega, ?_⟩, by simp; omega⟩
    ·rw [e, List.any_append]
     cases (ts.take k).any (·.2.1) <;> simp
    ·rw [e, List.find?_append, hf]
     simpa using hz'
  ·right
   rw [if_neg (by omega)]
   rw [List.take_of_length_le (by omega)] at hf ⊢
   refine ⟨_, rfl, ?_⟩
   unfold kres
   rw [hf]
end Go.Proofs.Ytacafkegbgmnoaa
end
section
namespace Go.Proofs.Ytacafkegbgmnoaa
open Go.Ab Go.Rp

def tl32 (N : Nat) (nm : ByteArray) (l50 : List Int) (v51 : Bool) : Option Kd :=
  Option.bind (α := Bool) (
   if decide (nm = (ByteArray.mk #[43])) = true then (
    some true
   ) else
   if decide (nm = (ByteArray.mk #[45])) = true then (
    some true
   ) else
   some (decide (nm = (ByteArray.mk #[42])))
  ) fun (v65 : Bool) =>
  if v65 = true then (
   (d44 N 1 l50).bind fun r69 =>
   (d48 N 1 true r69).bind fun r70 =>
   some (r70.1, r70.2.1, r70.2.2)
  ) else
  if decide (nm = (ByteArray.mk #[124, 124])) = true then (
   (d44 N 3 l50).bind fun r72 =>
   (d48 N 3 true r72).bind fun r73 =>
   some (r73.1, r73.2.1, r73.2.2)
  ) else
  if decide (nm = (ByteArray.mk #[108, 101, 110, 103, 116, 104])) = true then (
   (d44 N 3 l50).bind fun r75 =>
   (d48 N 1 v51 r75).bind fun r76 =>
   some (r76.1, r76.2.1, r76.2.2)
  ) else
  Option.bind (α := Bool) (
   if decide (nm = (ByteArray.mk #[97, 110, 100])) = true then (
    some true
   ) else
   if decide (nm = (ByteArray.mk #[111, 114])) = true then (
    some true
   ) else
   some (decide (nm = (ByteArray.mk #[110, 111, 116])))
  ) fun (v79 : Bool) =>
  if v79 = true then (
   (d44 N 2 l50).bind fun r83 =>
   (d48 N 2 v51 r83).bind fun r84 =>
   some (r84.1, r84.2.1, r84.2.2)
  ) else
  if decide (nm = (ByteArray.mk #[105, 115, 32, 110, 117, 108, 108])) = true then (
   some (2, false, 0)
  ) else
  if decide (nm = (ByteArray.mk #[105, 102])) = true then (
   Option.bind (α := (Int × Bool × Int)) (
    (idx l50 1).bind fun x99 =>
    (idx l50 2).bind fun x100 =>
    letv (maxI x99 x100) fun v101 =>
    (idx l50 0).bind fun x102 =>
    (d47 N x102 2).bind fun r103 =>
    if r103 = true then (
     (d47 N x99 x100).bind fun r105 =>
     (d48 N v101 v51 r105).bind fun r106 =>
     some (r106.1, r106.2.1, r106.2.2)
    ) else
    (d48 N v101 v51 false).bind fun r107 =>
    some (r107.1, r107.2.1, r107.2.2)
   ) fun ((v96, v97, v98) : (Int × Bool × Int)) =>
   some (v96, v97, v98)
  ) else
  (idx l50 0).bind fun x108 =>
  (idx l50 1).bind fun x109 =>
  (d47 N x108 x109).bind fun r110 =>
  (d48 N 2 v51 r110).bind fun r111 =>
  some (r111.1, r111.2.1, r111.2.2)
def tl24 (N : Nat) (nm : ByteArray) (l22 : List Vl) : Option Vl :=
  if decide (nm = (ByteArray.mk #[105, 115, 32, 110, 117, 108, 108])) = true then (
   (idx l22 0).bind fun x40 =>
   (d15 N (x40.Kind == 0)).bind fun r41 =>
   some r41
  ) else
  if decide (nm = (ByteArray.mk #[105, 102])) = true then (
   (idx l22 0).bind fun x43 =>
   (d14 N x43).bind fun r44 =>
   if r44 = true then (
    (idx l22 1).bind fun x46 =>
    some x46
   ) else
   (idx l22 2).bind fun x47 =>
   some x47
  ) else
  if decide (nm = (ByteArray.mk #[97, 110, 100])) = true then (
   (idx l22 0).bind fun x49 =>
   (idx l22 1).bind fun x50 =>
   (d36 N x49 x50 0).bind fun r51 =>
   some r51
  ) else
  if decide (nm = (ByteArray.mk #[111, 114])) = true then (
   (idx l22 0).bind fun x53 =>
   (idx l22 1).bind fun x54 =>
   (d36 N x53 x54 1).bind fun r55 =>
   some r55
  ) else
  (d37 N l22 (fun b0 => d38 N b0 )).bind fun r56 =>
  if r56 = true then (
   some (S24.mk 0 0 (ByteArray.mk #[]))
  ) else
  (d39 N nm l22).bind fun r58 =>
  some r58

theorem val_k {v : Vl} (h : Val v) : 0 ≤ v.Kind ∧ v.Kind ≤ 3 := by cases h <;> simp [nul]
theorem val_k0 {v : Vl} (h : Val v) (hk : v.Kind = 0) : v = nul := by cases h <;> simp_all [nul]
theorem val_k1 {v : Vl} (h : Val v) (hk : v.Kind = 1) : ∃ n : Int, v = ⟨1, n, em⟩ ∧ -1000000000000 ≤ n ∧ n ≤ 1000000000000 := by
 cases h with
 | int n h1 h2 => exact ⟨n, rfl, h1, h2⟩
 | nul => cases hk
 | ff => cases hk
 | tt => cases hk
 | text => cases hk
theorem val_k2 {v : Vl} (h : Val v) (hk : v.Kind = 2) : ∃ b, v = bl b := by
 cases h with
 | int n h1 h2 => cases hk
 | nul => cases hk
 | ff => exact ⟨false, rfl⟩
 | tt => exact ⟨true, rfl⟩
 | text => cases hk
theorem val_k3 {v : Vl} (h : Val v) (hk : v.Kind = 3) : ∃ s : ByteArray, v = ⟨3, 0, s⟩ ∧ s.size ≤ 24 := by
 cases h with
 | int n h1 h2 => cases hk
 | nul => cases hk
 | ff => cases hk
 | tt => cases hk
 | text s h => exact ⟨s, rfl, h⟩
theorem nulK : nul.Kind = 0 := rfl
theorem ok_bl (b : Bool) : Ok 2 (bl b) := ⟨val_bl b, .inr rfl⟩
theorem ok_nul (k : Int) : Ok k nul := ⟨.nul, .inl rfl⟩
theorem ok_it (n : Int) : Ok 1 (it n) := ⟨val_it n, by unfold it; split; exact .inl rfl; exact .inr rfl⟩
theorem zero_nul : S24.mk 0 0 (ByteArray.mk #[]) = nul := rfl
theorem kd7 (a : Int) (b c : Bool) : (if c = true then (a, b, (0 : Int)) else (0, false, 7)).2.2 = 0 → c = true := by cases c <;> simp

/-- a binary operator -/
def Bin (nm : ByteArray) : Prop := ∀ (ka kb : Int) (nu : Bool), 0 ≤ ka → 0 ≤ kb → ∃ t : Kd, (∀ N, 50 ≤ N → tl32 N nm [ka, kb] nu = some t) ∧ (t.2.2 = 0 → 0 ≤ t.1 ∧ ∀ a b, Ok ka a → Ok kb b → ∃ v, (∀ N, 50 ≤ N → tl24 N nm [a, b] = some v ∧ d28 N nm a b = some v) ∧ Ok t.1 v)

theorem bin_arith (nm : ByteArray) (hn : nm = ByteArray.mk #[43] ∨ nm = ByteArray.mk #[45] ∨ nm = ByteArray.mk #[42]) : Bin nm := by
 intro ka kb nu ha hb
 refine ⟨if (!([ka, kb].any fun x => x != 1 && x != 0)) = true then (1, true, 0) else (0, false, 7), fun N hN => ?_, fun h => ?_⟩
 ·rcases hn with rfl | rfl | rfl <;> simp [tl32, d44_eq (N := N) (xs := [ka, kb]) (by simp; omega) (by simp), d48_eq]
 ·have hc := kd7 _ _ _ h
  rw [if_pos hc]
  refine ⟨by simp, fun a b oa ob => ?_⟩
  have hka : ka = 1 ∨ ka = 0 := by simp at hc; omega
  have hkb : kb = 1 ∨ kb = 0 := by simp at hc; omega
  have hA : a = nul ∨ ∃ n : Int, a = ⟨1, n, em⟩ ∧ -1000000000000 ≤ n ∧ n ≤ 1000000000000 := by
   rcases oa.2 with h | h
   ·exact .inl (val_k0 oa.1 h)
   ·rcases hka with rfl | rfl
    ·exact .inr (val_k1 oa.1 h)
    ·exact .inl (val_k0 oa.1 h)
  have hB : b = nul ∨ ∃ n : Int, b = ⟨1, n, em⟩ ∧ -1000000000000 ≤ n ∧ n ≤ 1000000000000 := by
   rcases ob.2 with h | h
   ·exact .inl (val_k0 ob.1 h)
   ·rcases hkb with rfl | rfl
    ·exact .inr (val_k1 ob.1 h)
    ·exact .inl (val_k0 ob.1 h)
  have h37 : ∀ N, 50 ≤ N → d37 N [a, b] (fun b0 => d38 N b0) = some ([a, b].any fun v => v.Kind == 0) := fun N hN => d37_eq (p := fun b0 => d38 N b0) (by simp; omega) (by simp) (fun _ => rfl)
  rcases hA with rfl | ⟨n, rfl, hn1, hn2⟩
  ·refine ⟨nul, fun N hN => ⟨?_, ?_⟩, ok_nul _⟩
   ·rcases hn with rfl | rfl | rfl <;> simp [tl24, h37 N hN, nulK, zero_nul]
   ·rcases hn with rfl | rfl | rfl <;> simp [d28, nulK, zero_nul]
  rcases hB with rfl | ⟨m, rfl, hm1, hm2⟩
  ·refine ⟨nul, fun N hN => ⟨?_, ?_⟩, ok_nul _⟩
   ·rcases hn with rfl | rfl | rfl <;> simp [tl24, h37 N hN, nulK, zero_nul]
   ·rcases hn with rfl | rfl | rfl <;> simp [d28, nulK, zero_nul]
  have h53 : ∀ N, 50 ≤ N → d53 N 1 [⟨1, n, em⟩, ⟨1, m, em⟩] = some true := fun N hN => by rw [d53_eq (by simp; omega) (by simp)]; rfl
  have i0 : idx [(⟨1, n, em⟩ : Vl), ⟨1, m, em⟩] 0 = some ⟨1, n, em⟩ := rfl
  have i1 : idx [(⟨1, n, em⟩ : Vl), ⟨1, m, em⟩] 1 = some ⟨1, m, em⟩ := rfl
  rcases hn with rfl | rfl | rfl
  ·refine ⟨it (n + m), fun N hN => ⟨?_, ?_⟩, ok_it _⟩
   ·simp [tl24, h37 N hN, d39, h53 N hN, i0, i1, d57, chkI_of (show -9223372036854775808 ≤ n + m by omega) (show n + m ≤ 9223372036854775807 by omega), d56_eq]
   ·simp [d28, chkI_of (show -9223372036854775808 ≤ n + m by omega) (show n + m ≤ 9223372036854775807 by omega), d27_eq]
  ·refine ⟨it (n - m), fun N hN => ⟨?_, ?_⟩, ok_it _⟩
   ·simp [tl24, h37 N hN, d39, h53 N hN, i0, i1, d57, chkI_of (show -9223372036854775808 ≤ n - m by omega) (show n - m ≤ 9223372036854775807 by omega), d56_eq]
   ·simp [d28, chkI_of (show -9223372036854775808 ≤ n - m by omega) (show n - m ≤ 9223372036854775807 by omega), d27_eq]
  ·refine ⟨it (n * m), fun N hN => ⟨?_, ?_⟩, ok_it _⟩
   ·simp [tl24, h37 N hN, d39, h53 N hN, i0, i1, d57_mul N hn1 hn2 hm1 hm2]
   ·simp [d28, d41_eq N hn1 hn2 hm1 hm2]

theorem bin_cmp (nm : ByteArray) (hn : nm = ByteArray.mk #[61] ∨ nm = ByteArray.mk #[60] ∨ nm = ByteArray.mk #[60, 61]) : Bin nm := by
 intro ka kb nu ha hb
 have i0 : idx [ka, kb] 0 = some ka := rfl
 have i1 : idx [ka, kb] 1 = some kb := rfl
 refine ⟨if (ka == kb || (ka == 0 || kb == 0)) = true then (2, nu, 0) else (0, false, 7), fun N hN => ?_, fun h => ?_⟩
 ·rcases hn with rfl | rfl | rfl <;> simp [tl32, i0, i1, d47_eq, d48_eq]
 ·have hc := kd7 _ _ _ h
  rw [if_pos hc]
  refine ⟨by simp, fun a b oa ob => ?_⟩
  have h37 : ∀ N, 50 ≤ N → d37 N [a, b] (fun b0 => d38 N b0) = some ([a, b].any fun v => v.Kind == 0) := fun N hN => d37_eq (p := fun b0 => d38 N b0) (by simp; omega) (by simp) (fun _ => rfl)
  have i0 : idx [a, b] 0 = some a := rfl
  have i1 : idx [a, b] 1 = some b := rfl
  by_cases hz : a.Kind = 0 ∨ b.Kind = 0
  ·refine ⟨nul, fun N hN => ⟨?_, ?_⟩, ok_nul _⟩
   ·rcases hn with rfl | rfl | rfl <;> rcases hz with hz | hz <;> simp [tl24, h37 N hN, hz, zero_nul]
   ·by_cases hz2 : a.Kind = 0
    ·rcases hn with rfl | rfl | rfl <;> simp [d28, hz2, zero_nul]
    ·have hz3 : b.Kind = 0 := by omega
     rcases hn with rfl | rfl | rfl <;> simp [d28, hz2, hz3, zero_nul]
  ·have hz1 : ¬ a.Kind = 0 := fun e => hz (.inl e)
   have hz2 : ¬ b.Kind = 0 := fun e => hz (.inr e)
   rcases hn with rfl | rfl | rfl
   ·refine ⟨bl (beqS24 a b), fun N hN => ⟨?_, ?_⟩, ok_bl _⟩
    ·simp [tl24, h37 N hN, hz1, hz2, d39, i0, i1, d15_eq]
    ·rw [eq_lt]
     cases h1 : lt a b <;> cases h2 : lt b a <;> simp [d28, hz1, hz2, d40_eq, d25_eq, h1, h2]
   ·refine ⟨bl (lt a b), fun N hN => ⟨?_, ?_⟩, ok_bl _⟩
    ·simp [tl24, h37 N hN, hz1, hz2, d39, i0, i1, d15_eq, d55_eq]
    ·simp [d28, hz1, hz2, d40_eq, d25_eq]
   ·refine ⟨bl (!lt b a), fun N hN => ⟨?_, ?_⟩, ok_bl _⟩
    ·simp [tl24, h37 N hN, hz1, hz2, d39, i0, i1, d15_eq, d55_eq]
    ·simp [d28, hz1, hz2, d40_eq, d25_eq]

theorem bin_cat : Bin (ByteArray.mk #[124, 124]) := by
 intro ka kb nu ha hb
 refine ⟨if (!([ka, kb].any fun x => x != 3 && x != 0)) = true then (3, true, 0) else (0, false, 7), fun N hN => ?_, fun h => ?_⟩
 ·simp [tl32, d44_eq (N := N) (xs := [ka, kb]) (by simp; omega) (by simp), d48_eq]
 ·have hc := kd7 _ _ _ h
  rw [if_pos hc]
  refine ⟨by simp, fun a b oa ob => ?_⟩
  have hka : ka = 3 ∨ ka = 0 := by simp at hc; omega
  have hkb : kb = 3 ∨ kb = 0 := by simp at hc; omega
  have hA : a = nul ∨ ∃ s : ByteArray, a = ⟨3, 0, s⟩ ∧ s.size ≤ 24 := by
   rcases oa.2 with h | h
   ·exact .inl (val_k0 oa.1 h)
   ·rcases hka with rfl | rfl
    ·exact .inr (val_k3 oa.1 h)
    ·exact .inl (val_k0 oa.1 h)
  have hB : b = nul ∨ ∃ s : ByteArray, b = ⟨3, 0, s⟩ ∧ s.size ≤ 24 := by
   rcases ob.2 with h | h
   ·exact .inl (val_k0 ob.1 h)
   ·rcases hkb with rfl | rfl
    ·exact .inr (val_k3 ob.1 h)
    ·exact .inl (val_k0 ob.1 h)
  have h37 : ∀ N, 50 ≤ N → d37 N [a, b] (fun b0 => d38 N b0) = some ([a, b].any fun v => v.Kind == 0) := fun N hN => d37_eq (p := fun b0 => d38 N b0) (by simp; omega) (by simp) (fun _ => rfl)
  rcases hA with rfl | ⟨s, rfl, hs⟩
  ·refine ⟨nul, fun N hN => ⟨?_, ?_⟩, ok_nul _⟩
   ·simp [tl24, h37 N hN, nulK, zero_nul]
   ·simp [d28, nulK, zero_nul]
  rcases hB with rfl | ⟨q, rfl, hq⟩
  ·refine ⟨nul, fun N hN => ⟨?_, ?_⟩, ok_nul _⟩
   ·simp [tl24, h37 N hN, nulK, zero_nul]
   ·simp [d28, nulK, zero_nul]
  have h53 : ∀ N, 50 ≤ N → d53 N 3 [⟨3, 0, s⟩, ⟨3, 0, q⟩] = some true := fun N hN => by rw [d53_eq (by simp; omega) (by simp)]; rfl
  have i0 : idx [(⟨3, 0, s⟩ : Vl), ⟨3, 0, q⟩] 0 = some ⟨3, 0, s⟩ := rfl
  have i1 : idx [(⟨3, 0, s⟩ : Vl), ⟨3, 0, q⟩] 1 = some ⟨3, 0, q⟩ := rfl
  have hck := chkI_of (show -9223372036854775808 ≤ (s.size : Int) + (q.size : Int) by omega) (show (s.size : Int) + (q.size : Int) ≤ 9223372036854775807 by omega)
  have hcat : catB s q = some (s ++ q) := if_pos (by unfold Rp.reach; omega)
  by_cases hsum : (s.size : Int) + (q.size : Int) ≤ 24
  ·refine ⟨⟨3, 0, s ++ q⟩, fun N hN => ⟨?_, ?_⟩, .text _ (by rw [ByteArray.size_append]; omega), .inr rfl⟩
   ·simp [tl24, h37 N hN, d39, h53 N hN, i0, i1, hck, hsum, hcat]
   ·simp [d28, hck, hcat, show ¬ (24 < (s.size : Int) + (q.size : Int)) by omega]
  ·refine ⟨nul, fun N hN => ⟨?_, ?_⟩, ok_nul _⟩
   ·simp [tl24, h37 N hN, d39, h53 N hN, i0, i1, hck, hsum, zero_nul]
   ·simp [d28, hck, show (24 < (s.size : Int) + (q.size : Int)) by omega, zero_nul]

theorem d26_nul (N : Nat) : d26 N nul = some 0 := rfl
theorem d26_bl (N : Nat) (b : Bool) : d26 N (bl b) = some (if b then 1 else -1) := by cases b <;> rfl
theorem d51_nul (N : Nat) (n : Int) : d51 N nul n = some false := rfl
theorem d51_bl (N : Nat) (b : Bool) (n : Int) : d51 N (bl b) n = some ((if b then 1 else 0) == n) := by rw [d51_eq]; cases b <;> rfl

theorem bin_log (nm : ByteArray) (hn : nm = ByteArray.mk #[97, 110, 100] ∨ nm = ByteArray.mk #[111, 114]) : Bin nm := by
 intro ka kb nu ha hb
 refine ⟨if (!([ka, kb].any fun x => x != 2 && x != 0)) = true then (2, nu, 0) else (0, false, 7), fun N hN => ?_, fun h => ?_⟩
 ·rcases hn with rfl | rfl <;> simp [tl32, d44_eq (N := N) (xs := [ka, kb]) (by simp; omega) (by simp), d48_eq]
 ·have hc := kd7 _ _ _ h
  rw [if_pos hc]
  refine ⟨by simp, fun a b oa ob => ?_⟩
  have hka : ka = 2 ∨ ka = 0 := by simp at hc; omega
  have hkb : kb = 2 ∨ kb = 0 := by simp at hc; omega
  have hA : a = nul ∨ ∃ s, a = bl s := by
   rcases oa.2 with h | h
   ·exact .inl (val_k0 oa.1 h)
   ·rcases hka with rfl | rfl
    ·exact .inr (val_k2 oa.1 h)
    ·exact .inl (val_k0 oa.1 h)
  have hB : b = nul ∨ ∃ s, b = bl s := by
   rcases ob.2 with h | h
   ·exact .inl (val_k0 ob.1 h)
   ·rcases hkb with rfl | rfl
    ·exact .inr (val_k2 ob.1 h)
    ·exact .inl (val_k0 ob.1 h)
  have i0 : idx [a, b] 0 = some a := rfl
  have i1 : idx [a, b] 1 = some b := rfl
  have e1 : chkI (1 - 0) = some 1 := by decide
  have e0 : chkI (1 - 1) = some 0 := by decide
  rcases hn with rfl | rfl
  ·have key : ∃ v, (∀ N, d36 N a b 0 = some v ∧ d28 N (ByteArray.mk #[97, 110, 100]) a b = some v) ∧ Ok 2 v := by
    rcases hA with rfl | ⟨p, rfl⟩ <;> rcases hB with rfl | ⟨q, rfl⟩
    ·exact ⟨nul, fun N => ⟨rfl, rfl⟩, ok_nul _⟩
    ·cases q
     ·exact ⟨bl false, fun N => ⟨rfl, rfl⟩, ok_bl _⟩
     ·exact ⟨nul, fun N => ⟨rfl, rfl⟩, ok_nul _⟩
    ·cases p
     ·exact ⟨bl false, fun N => ⟨rfl, rfl⟩, ok_bl _⟩
     ·exact ⟨nul, fun N => ⟨rfl, rfl⟩, ok_nul _⟩
    ·cases p <;> cases q
     ·exact ⟨bl false, fun N => ⟨rfl, rfl⟩, ok_bl _⟩
     ·exact ⟨bl false, fun N => ⟨rfl, rfl⟩, ok_bl _⟩
     ·exact ⟨bl false, fun N => ⟨rfl, rfl⟩, ok_bl _⟩
     ·exact ⟨bl true, fun N => ⟨rfl, rfl⟩, ok_bl _⟩
   obtain ⟨v, h1, h2⟩ := key
   exact ⟨v, fun N hN => ⟨by simp [tl24, i0, i1, (h1 N).1], (h1 N).2⟩, h2⟩
  ·have key : ∃ v, (∀ N, d36 N a b 1 = some v ∧ d28 N (ByteArray.mk #[111, 114]) a b = some v) ∧ Ok 2 v := by
    rcases hA with rfl | ⟨p, rfl⟩ <;> rcases hB with rfl | ⟨q, rfl⟩
    ·exact ⟨nul, fun N => ⟨rfl, rfl⟩, ok_nul _⟩
    ·cases q
     ·exact ⟨nul, fun N => ⟨rfl, rfl⟩, ok_nul _⟩
     ·exact ⟨bl true, fun N => ⟨rfl, rfl⟩, ok_bl _⟩
    ·cases p
     ·exact ⟨nul, fun N => ⟨rfl, rfl⟩, ok_nul _⟩
     ·exact ⟨bl true, fun N => ⟨rfl, rfl⟩, ok_bl _⟩
    ·cases p <;> cases q
     ·exact ⟨bl false, fun N => ⟨rfl, rfl⟩, ok_bl _⟩
     ·exact ⟨bl true, fun N => ⟨rfl, rfl⟩, ok_bl _⟩
     ·exact ⟨bl true, fun N => ⟨rfl, rfl⟩, ok_bl _⟩
     ·exact ⟨bl true, fun N => ⟨rfl, rfl⟩, ok_bl _⟩
   obtain ⟨v, h1, h2⟩ := key
   exact ⟨v, fun N hN => ⟨by simp [tl24, i0, i1, (h1 N).1], (h1 N).2⟩, h2⟩

/-! ### unary operators -/
def tl13 (N : Nat) (nm : ByteArray) (r12 : Vl) : Option Vl :=
  if decide (nm = (ByteArray.mk #[105, 115, 32, 110, 117, 108, 108])) = true then (
   (d25 N (r12.Kind == 0)).bind fun r14 =>
   some r14
  ) else
  if decide (nm = (ByteArray.mk #[110, 111, 116])) = true then (
   if (r12.Kind == 0) then (
    some r12
   ) else
   (d26 N r12).bind fun r17 =>
   (d25 N (decide (r17 < 0))).bind fun r18 =>
   some r18
  ) else
  (
   if (r12.Kind == 0) then (
    some r12
   ) else
   (d27 N (r12.Text.size : Int)).bind fun r21 =>
   some r21
  )
def Un (nm : ByteArray) : Prop := ∀ (ka : Int) (nu : Bool), 0 ≤ ka → ∃ t : Kd, (∀ N, 50 ≤ N → tl32 N nm [ka] nu = some t) ∧ (t.2.2 = 0 → 0 ≤ t.1 ∧ ∀ a, Ok ka a → ∃ v, (∀ N, 50 ≤ N → tl24 N nm [a] = some v ∧ tl13 N nm a = some v) ∧ Ok t.1 v)
theorem un_null : Un (ByteArray.mk #[105, 115, 32, 110, 117, 108, 108]) := by
 intro ka nu ha
 refine ⟨(2, false, 0), fun N hN => ?_, fun h => ⟨by simp, fun a oa => ⟨bl (a.Kind == 0), fun N hN => ⟨?_, ?_⟩, ok_bl _⟩⟩⟩
 ·simp [tl32]
 ·have i0 : idx [a] 0 = some a := rfl
  simp [tl24, i0, d15_eq]
 ·simp [tl13, d25_eq]
theorem un_not : Un (ByteArray.mk #[110, 111, 116]) := by
 intro ka nu ha
 refine ⟨if (!([ka].any fun x => x != 2 && x != 0)) = true then (2, nu, 0) else (0, false, 7), fun N hN => ?_, fun h => ?_⟩
 ·simp [tl32, d44_eq (N := N) (xs := [ka]) (by simp; omega) (by simp), d48_eq]
 ·have hc := kd7 _ _ _ h
  rw [if_pos hc]
  refine ⟨by simp, fun a oa => ?_⟩
  have hka : ka = 2 ∨ ka = 0 := by simp at hc; omega
  have hA : a = nul ∨ ∃ s, a = bl s := by
   rcases oa.2 with h | h
   ·exact .inl (val_k0 oa.1 h)
   ·rcases hka with rfl | rfl
    ·exact .inr (val_k2 oa.1 h)
    ·exact .inl (val_k0 oa.1 h)
  have h37 : ∀ N, 50 ≤ N → d37 N [a] (fun b0 => d38 N b0) = some ([a].any fun v => v.Kind == 0) := fun N hN => d37_eq (p := fun b0 => d38 N b0) (by simp; omega) (by simp) (fun _ => rfl)
  have i0 : idx [a] 0 = some a := rfl
  rcases hA with rfl | ⟨s, rfl⟩
  ·exact ⟨nul, fun N hN => ⟨by simp [tl24, h37 N hN, nulK, zero_nul], by simp [tl13, nulK]⟩, ok_nul _⟩
  ·have h53 : ∀ N, 50 ≤ N → d53 N 2 [bl s] = some true := fun N hN => by rw [d53_eq (by simp; omega) (by simp)]; rfl
   refine ⟨bl (!s), fun N hN => ⟨?_, ?_⟩, ok_bl _⟩
   ·cases s <;> simp [tl24, h37 N hN, d39, h53 N hN, i0, d15_eq] <;> simp [bl]
   ·cases s <;> rfl
theorem un_len : Un (ByteArray.mk #[108, 101, 110, 103, 116, 104]) := by
 intro ka nu ha
 refine ⟨if (!([ka].any fun x => x != 3 && x != 0)) = true then (1, nu, 0) else (0, false, 7), fun N hN => ?_, fun h => ?_⟩
 ·simp [tl32, d44_eq (N := N) (xs := [ka]) (by simp; omega) (by simp), d48_eq]
 ·have hc := kd7 _ _ _ h
  rw [if_pos hc]
  refine ⟨by simp, fun a oa => ?_⟩
  have hka : ka = 3 ∨ ka = 0 := by simp at hc; omega
  have hA : a = nul ∨ ∃ s : ByteArray, a = ⟨3, 0, s⟩ ∧ s.size ≤ 24 := by
   rcases oa.2 with h | h
   ·exact .inl (val_k0 oa.1 h)
   ·rcases hka with rfl | rfl
    ·exact .inr (val_k3 oa.1 h)
    ·exact .inl (val_k0 oa.1 h)
  have h37 : ∀ N, 50 ≤ N → d37 N [a] (fun b0 => d38 N b0) = some ([a].any fun v => v.Kind == 0) := fun N hN => d37_eq (p := fun b0 => d38 N b0) (by simp; omega) (by simp) (fun _ => rfl)
  have i0 : idx [a] 0 = some a := rfl
  rcases hA with rfl | ⟨s, rfl, hs⟩
  ·exact ⟨nul, fun N hN => ⟨by simp [tl24, h37 N hN, nulK, zero_nul], by simp [tl13, nulK]⟩, ok_nul _⟩
  ·have h53 : ∀ N, 50 ≤ N → d53 N 3 [⟨3, 0, s⟩] = some true := fun N hN => by rw [d53_eq (by simp; omega) (by simp)]; rfl
   refine ⟨it (s.size : Int), fun N hN => ⟨?_, ?_⟩, ok_it _⟩
   ·simp [tl24, h37 N hN, d39, h53 N hN, i0, d56_eq]
   ·simp [tl13, d27_eq]
end Go.Proofs.Ytacafkegbgmnoaa
end
section
namespace Go.Proofs.Ytacafkegbgmnoaa
open Go.Ab Go.Rp

structure Envy (cols vars : List Co) (row params vvals : List Vl) (vn : List ByteArray) (mC mV : List (ByteArray × Vl)) : Prop where
 hc : cols.length < 50
 hv : vars.length < 50
 hn : vn.length < 50
 col : ∀ nm i, cols.findIdx? (fun c => decide (c.Name = nm)) = some i → ∃ c v, cols[i]? = some c ∧ row[i]? = some v ∧ mget mC nm = some v ∧ Val v ∧ c.Kind = v.Kind
 var : ∀ nm i, vars.findIdx? (fun c => decide (c.Name = nm)) = some i → ∃ c v, vars[i]? = some c ∧ vn.findIdx? (fun x => decide (nm = x)) = some i ∧ vvals[i]? = some v ∧ mget mV nm = some v ∧ Val v ∧ c.Kind = v.Kind
 par : ∀ v ∈ params, Val v

section
variable {cols vars : List Co} {row params vvals : List Vl} {vn : List ByteArray} {mC mV : List (ByteArray × Vl)}
variable (cols vars row params vvals vn mC mV) in
def Cl (e : Ex) : Prop := ∃ t : Kd, (∀ N, 100 + 2 * sz e ≤ N → d17 N cols vars e = some t) ∧ (t.2.2 = 0 → 0 ≤ t.1 ∧ ∃ v, (∀ N, 100 + 2 * sz e ≤ N → d12 N (S41.mk cols row params vn vvals) e = some v) ∧ (∀ N, 100 + 2 * sz e ≤ N → d13 N (S44.mk mC mV params) e = some v) ∧ Ok t.1 v)

theorem up {e : Ex} {β : Type} {f : Nat → Option β} {t : β} (h : ∀ N, 101 ≤ N → f (N + 1) = some t) : ∀ N, 100 + 2 * sz e ≤ N → f N = some t := fun N hN => by
 have := sz_pos e
 obtain ⟨N, rfl⟩ : ∃ M, N = M + 1 := ⟨N - 1, by omega⟩
 exact h N (by omega)

/-- constants -/
theorem cl_lit (nm : ByteArray) (ix : Int) (vl : Vl) : Cl cols vars row params vvals vn mC mV ⟨1, nm, ix, vl, []⟩ := by
 obtain ⟨b, hb⟩ := d29_tot 0 vl
 have hb' : ∀ N, d29 N vl = some b := fun N => hb
 by_cases hall : b = true ∧ nm = ByteArray.mk #[] ∧ ix = 0
 ·obtain ⟨rfl, rfl, rfl⟩ := hall
  refine ⟨(vl.Kind, vl.Kind == 0, 0), up fun N hN => by simp [d17, hb'], fun _ => ?_⟩
  have hv := d29_val hb
  exact ⟨(val_k hv).1, vl, up fun N hN => by simp [d12], up fun N hN => by simp [d13], hv, .inr rfl⟩
 ·refine ⟨(0, false, 3), up fun N hN => ?_, fun h => by simp at h⟩
  cases b with
  | false => simp [d17, hb']
  | true =>
   by_cases h1 : nm = ByteArray.mk #[]
   ·have h2 : ¬ ix = 0 := fun e => hall ⟨rfl, h1, e⟩
    simp [d17, hb', h1, h2]
   ·simp [d17, hb', h1]

/-- parameters -/
theorem cl_par (E : Envy cols vars row params vvals vn mC mV) (nm : ByteArray) (ix : Int) (vl : Vl) : Cl cols vars row params vvals vn mC mV ⟨3, nm, ix, vl, []⟩ := by
 by_cases hall : ¬ ix < 0 ∧ ¬ ix ≥ 8 ∧ nm = ByteArray.mk #[] ∧ ¬ vl.Kind < 1 ∧ ¬ vl.Kind > 3 ∧ beqS24 vl (S24.mk vl.Kind 0 (ByteArray.mk #[])) = true
 ·obtain ⟨h1, h2, rfl, h3, h4, h5⟩ := hall
  refine ⟨(vl.Kind, true, 0), up fun N hN => by simp [d17, h1, h2, h3, h4, h5, -ge_iff_le, -Int.not_lt, -gt_iff_lt], fun _ => ⟨by omega, ?_⟩⟩
  obtain ⟨k, rfl⟩ : ∃ k : Nat, ix = k := ⟨ix.toNat, by omega⟩
  have hge : ((k : Int) ≥ 0) = True := eq_true (by omega)
  by_cases hlt : (k : Int) < (params.length : Int)
  ·obtain ⟨x, hx⟩ := get_of (l := params) (k := k) (by omega)
   by_cases hkk : x.Kind = vl.Kind
   ·exact ⟨x, up fun N hN => by simp [d12, hlt, idx_nat hx, hkk], up fun N hN => by simp [d13, hlt, idx_nat hx, hkk], E.par x (List.mem_of_getElem? hx), .inr hkk⟩
   ·exact ⟨nul, up fun N hN => by simp [d12, hlt, idx_nat hx, hkk, zero_nul], up fun N hN => by simp [d13, hlt, idx_nat hx, hkk, zero_nul], ok_nul _⟩
  ·exact ⟨nul, up fun N hN => by simp [d12, hlt, zero_nul], up fun N hN => by simp [d13, hlt, zero_nul], ok_nul _⟩
 ·refine ⟨(0, false, 3), up fun N hN => ?_, fun h => by simp at h⟩
  by_cases h1 : ix < 0
  ·simp [d17, h1]
  by_cases h2 : ix ≥ 8
  ·simp [d17, h1, h2, -ge_iff_le]
  by_cases h3 : nm = ByteArray.mk #[]
  ·by_cases h4 : vl.Kind < 1
   ·simp [d17, h1, h2, h3, h4, -ge_iff_le]
   by_cases h5 : vl.Kind > 3
   ·simp [d17, h1, h2, h3, h4, h5, -ge_iff_le, -gt_iff_lt]
   have h6 : beqS24 vl (S24.mk vl.Kind 0 (ByteArray.mk #[])) = false := Bool.eq_false_iff.2 fun h6 => hall ⟨h1, h2, h3, h4, h5, h6⟩
   simp [d17, h1, h2, h3, h4, h5, h6, -ge_iff_le, -gt_iff_lt]
  ·simp [d17, h1, h2, h3, -ge_iff_le]

/-- columns -/
theorem cl_col (E : Envy cols vars row params vvals vn mC mV) (nm : ByteArray) (ix : Int) (vl : Vl) : Cl cols vars row params vvals vn mC mV ⟨2, nm, ix, vl, []⟩ := by
 obtain ⟨b, hb⟩ := d30_tot nm
 by_cases hall : b = true ∧ ix = 0 ∧ beqS24 vl (S24.mk 0 0 (ByteArray.mk #[])) = true
 ·obtain ⟨rfl, rfl, h5⟩ := hall
  cases hf : cols.findIdx? (fun c => decide (c.Name = nm)) with
  | none => exact ⟨(0, false, 23), up fun N hN => by simp [d17, hb N (by omega), h5, d31_eq E.hc nm N (by omega), hf], fun h => by simp at h⟩
  | some i =>
   obtain ⟨c, v, h1, h2, h3, h4, h6⟩ := E.col nm i hf
   refine ⟨(c.Kind, c.Nullable, 0), up fun N hN => by simp [d17, hb N (by omega), h5, d31_eq E.hc nm N (by omega), hf, h1], fun _ => ⟨by rw [h6]; exact (val_k h4).1, v, up fun N hN => ?_, up fun N hN => by simp [d13, h3], h4, .inr h6.symm⟩⟩
   have hi : i < row.length := by
    have := List.getElem?_eq_some_iff.1 h2
    exact this.1
   have hge : ((i : Int) ≥ 0) = True := eq_true (by omega)
   have e21 : d21 N cols (fun b0 => d22 N b0 ⟨2, nm, 0, vl, []⟩) = some (optI (some i)) := by
    rw [d21_eq (p := fun b0 => d22 N b0 ⟨2, nm, 0, vl, []⟩) (q := fun c => decide (c.Name = nm)) (by have := E.hc; omega) (by have := E.hc; omega) (fun _ => rfl), hf]
   simp [d12, e21, optI, hi, idx_nat h2]
 ·refine ⟨(0, false, 3), up fun N hN => ?_, fun h => by simp at h⟩
  cases b with
  | false => simp [d17, hb N (by omega)]
  | true =>
   by_cases h1 : ix = 0
   ·have h6 : beqS24 vl (S24.mk 0 0 (ByteArray.mk #[])) = false := Bool.eq_false_iff.2 fun h6 => hall ⟨rfl, h1, h6⟩
    simp [d17, hb N (by omega), h1, h6]
   ·simp [d17, hb N (by omega), h1]

/-- variables -/
theorem cl_var (E : Envy cols vars row params vvals vn mC mV) (nm : ByteArray) (ix : Int) (vl : Vl) : Cl cols vars row params vvals vn mC mV ⟨4, nm, ix, vl, []⟩ := by
 obtain ⟨b, hb⟩ := d30_tot nm
 by_cases hall : b = true ∧ ix = 0 ∧ beqS24 vl (S24.mk 0 0 (ByteArray.mk #[])) = true
 ·obtain ⟨rfl, rfl, h5⟩ := hall
  cases hf : vars.findIdx? (fun c => decide (c.Name = nm)) with
  | none => exact ⟨(0, false, 23), up fun N hN => by simp [d17, hb N (by omega), h5, d31_eq E.hv nm N (by omega), hf], fun h => by simp at h⟩
  | some i =>
   obtain ⟨c, v, h1, h7, h2, h3, h4, h6⟩ := E.var nm i hf
   refine ⟨(c.Kind, c.Nullable, 0), up fun N hN => by simp [d17, hb N (by omega), h5, d31_eq E.hv nm N (by omega), hf, h1], fun _ => ⟨by rw [h6]; exact (val_k h4).1, v, up fun N hN => ?_, up fun N hN => by simp [d13, h3], h4, .inr h6.symm⟩⟩
   have hi : i < vvals.length := by
    have := List.getElem?_eq_some_iff.1 h2
    exact this.1
   have e23 : d23 N vn nm = some (optI (some i)) := by
    rw [d23_eq (by have := E.hn; omega) (by have := E.hn; omega), h7]
   simp [d12, e23, optI, hi, idx_nat h2]
 ·refine ⟨(0, false, 3), up fun N hN => ?_, fun h => by simp at h⟩
  cases b with
  | false => simp [d17, hb N (by omega)]
  | true =>
   by_cases h1 : ix = 0
   ·have h6 : beqS24 vl (S24.mk 0 0 (ByteArray.mk #[])) = false := Bool.eq_false_iff.2 fun h6 => hall ⟨rfl, h1, h6⟩
    simp [d17, hb N (by omega), h1, h6]
   ·simp [d17, hb N (by omega), h1]

/-! ### operators -/
abbrev ops : List ByteArray := [(ByteArray.mk #[43]), (ByteArray.mk #[45]), (ByteArray.mk #[42]), (ByteArray.mk #[61]), (ByteArray.mk #[60]), (ByteArray.mk #[60, 61]), (ByteArray.mk #[97, 110, 100]), (ByteArray.mk #[111, 114]), (ByteArray.mk #[110, 111, 116]), (ByteArray.mk #[124, 124]), (ByteArray.mk #[105, 115, 32, 110, 117, 108, 108]), (ByteArray.mk #[108, 101, 110, 103, 116, 104]), (ByteArray.mk #[105, 102])]
abbrev ars : List Int := [2, 2, 2, 2, 2, 2, 2, 2, 1, 2, 1, 1, 3]
theorem d35_eq (N : Nat) : d35 N = some (ops, ars) := rfl
theorem d23_ops {N : Nat} (hN : 100 ≤ N) (nm : ByteArray) : d23 N ops nm = some (optI (ops.findIdx? fun x => decide (nm = x))) := d23_eq (by simp; omega) (by simp) nm

theorem d17_op (N : Nat) (nm : ByteArray) (ix : Int) (vl : Vl) (args : List Ex) : d17 (N + 1) cols vars ⟨5, nm, ix, vl, args⟩ = d32 N cols vars ⟨5, nm, ix, vl, args⟩ := by
 rw [d17]
 simp only [show ((5 : Int) != 5) = false from rfl, show ((5 : Int) == 1) = false from rfl, show ((5 : Int) == 2) = false from rfl, show ((5 : Int) == 3) = false from rfl, show ((5 : Int) == 4) = false from rfl, show ((5 : Int) == 5) = true from rfl, Bool.false_eq_true, if_false, if_true, Option.bind_some]
 cases d32 N cols vars ⟨5, nm, ix, vl, args⟩ <;> rfl
theorem d12_op (N : Nat) (env : S41) (nm : ByteArray) (ix : Int) (vl : Vl) (args : List Ex) : d12 (N + 1) env ⟨5, nm, ix, vl, args⟩ = d24 N env ⟨5, nm, ix, vl, args⟩ := by
 rw [d12]
 simp only [show ((5 : Int) == 1) = false from rfl, show ((5 : Int) == 2) = false from rfl, show ((5 : Int) == 3) = false from rfl, show ((5 : Int) == 4) = false from rfl, show ((5 : Int) == 5) = true from rfl, Bool.false_eq_true, if_false, if_true]
 cases d24 N env ⟨5, nm, ix, vl, args⟩ <;> rfl

/-- no such operator, or not so many operands -/
theorem cl_noop (nm : ByteArray) (ix : Int) (vl : Vl) (args : List Ex) (h : ops.findIdx? (fun x => decide (nm = x)) = none ∨ ∃ (i : Nat) (a : Int), ops.findIdx? (fun x => decide (nm = x)) = some i ∧ ars[i]? = some a ∧ (a ≠ (args.length : Int) ∨ ix ≠ 0 ∨ beqS24 vl (S24.mk 0 0 (ByteArray.mk #[])) = false)) : Cl cols vars row params vvals vn mC mV ⟨5, nm, ix, vl, args⟩ := by
 refine ⟨(0, false, 3), up fun N hN => ?_, fun h => by simp at h⟩
 obtain ⟨N, rfl⟩ : ∃ M, N = M + 1 := ⟨N - 1, by omega⟩
 rw [d17_op, d32]
 rw [d35_eq, Option.bind_some]
 ·rw [d23_ops (by omega), Option.bind_some]
  rcases h with h | ⟨i, a, h1, h2, h3⟩
  ·rw [h]; rfl
  ·rw [h1]
   have e : optI (some i) = (i : Int) := rfl
   rw [e, if_neg (by omega), idx_nat h2, Option.bind_some]
   by_cases h4 : a = (args.length : Int)
   ·by_cases h5 : ix = 0
    ·have h6 : beqS24 vl (S24.mk 0 0 (ByteArray.mk #[])) = false := by
      rcases h3 with h3 | h3 | h3
      ·exact absurd h4 h3
      ·exact absurd h5 h3
      ·exact h3
     simp [h4, h5, h6]
    ·simp [h4, h5]
   ·simp [h4]

def kout (N : Nat) (nm : ByteArray) : Out (List Int × Bool) Kd → Option Kd
 | .ret r => some r
 | .go r => tl32 N nm r.1 r.2
/-- an operator's kind -/
theorem d32_run {N : Nat} {nm : ByteArray} {args : List Ex} {ts : List Kd} {i : Nat} (hN : 100 ≤ N) (h1 : ops.findIdx? (fun x => decide (nm = x)) = some i) (h2 : ars[i]? = some (args.length : Int))
  (h : args.map (d17 N cols vars) = ts.map some) (hb : args.length < 50) {vl : Vl} (hz : beqS24 vl (S24.mk 0 0 (ByteArray.mk #[])) = true) :
  d32 (N + 1) cols vars ⟨5, nm, 0, vl, args⟩ = kout N nm (kres ts) := by
 rw [d32, d35_eq, Option.bind_some, d23_ops hN, Option.bind_some, h1]
 have e : optI (some i) = (i : Int) := rfl
 rw [e, if_neg (by omega), idx_nat h2, Option.bind_some]
 rw [if_neg (by simp), if_neg (by simp), hz]
 rw [Option.bind_some, if_neg (by simp), loop32 h (by omega) (by omega)]
 cases kres ts <;> rfl
theorem d24_run {N : Nat} {env : S41} {nm : ByteArray} {args : List Ex} {vs : List Vl} {i : Nat} (hN : 100 ≤ N) (h1 : ops.findIdx? (fun x => decide (nm = x)) = some i) (h2 : ars[i]? = some (args.length : Int))
  (h : args.map (d12 N env) = vs.map some) (hb : args.length < 50) {vl : Vl} {ix : Int} :
  d24 (N + 1) env ⟨5, nm, ix, vl, args⟩ = tl24 N nm vs := by
 have hlen : args.length = vs.length := by simpa using congrArg List.length h
 rw [d24, loop24 h (by omega) (by omega), Option.bind_some, d35_eq, Option.bind_some, d23_ops hN, Option.bind_some, h1]
 have e : optI (some i) = (i : Int) := rfl
 rw [e, if_neg (by omega), idx_nat h2, Option.bind_some, hlen, Option.bind_some, if_neg (by simp)]
 rfl
end
end Go.Proofs.Ytacafkegbgmnoaa
end
section
namespace Go.Proofs.Ytacafkegbgmnoaa
open Go.Ab Go.Rp

section
variable {cols vars : List Co} {row params vvals : List Vl} {vn : List ByteArray} {mC mV : List (ByteArray × Vl)}

theorem sz3 (k : Int) (nm : ByteArray) (ix : Int) (vl : Vl) (x y z : Ex) : sz ⟨k, nm, ix, vl, [x, y, z]⟩ = 1 + (sz x + (sz y + (sz z + 0))) := by simp [sz, szL]
theorem sz2 (k : Int) (nm : ByteArray) (ix : Int) (vl : Vl) (x y : Ex) : sz ⟨k, nm, ix, vl, [x, y]⟩ = 1 + (sz x + (sz y + 0)) := by simp [sz, szL]
theorem sz1 (k : Int) (nm : ByteArray) (ix : Int) (vl : Vl) (x : Ex) : sz ⟨k, nm, ix, vl, [x]⟩ = 1 + (sz x + 0) := by simp [sz, szL]
theorem up2 {e : Ex} {β : Type} {f : Nat → Option β} {t : β} (h : ∀ N, 98 + 2 * sz e ≤ N → f (N + 2) = some t) : ∀ N, 100 + 2 * sz e ≤ N → f N = some t := fun N hN => by
 obtain ⟨N, rfl⟩ : ∃ M, N = M + 2 := ⟨N - 2, by omega⟩
 exact h N (by omega)

theorem cl_bin {nm : ByteArray} (B : Bin nm) {i : Nat} (h1 : ops.findIdx? (fun x => decide (nm = x)) = some i) (h2 : ars[i]? = some 2)
  (h13 : ∀ N sc x y vl, d13 (N + 1) sc ⟨5, nm, 0, vl, [x, y]⟩ = (d13 N sc x).bind fun a => (d13 N sc y).bind fun b => d28 N nm a b)
  {x y : Ex} (hx : Cl cols vars row params vvals vn mC mV x) (hy : Cl cols vars row params vvals vn mC mV y) {vl : Vl} (hz : beqS24 vl (S24.mk 0 0 (ByteArray.mk #[])) = true) :
  Cl cols vars row params vvals vn mC mV ⟨5, nm, 0, vl, [x, y]⟩ := by
 obtain ⟨tx, kx, ex⟩ := hx
 obtain ⟨ty, ky, ey⟩ := hy
 have hsx := sz_pos x
 have hsy := sz_pos y
 have e17 : ∀ N, 98 + 2 * sz ⟨5, nm, 0, vl, [x, y]⟩ ≤ N → d17 (N + 2) cols vars ⟨5, nm, 0, vl, [x, y]⟩ = kout N nm (kres [tx, ty]) := fun N hN => by
  rw [sz2] at hN
  rw [d17_op, d32_run (args := [x, y]) (ts := [tx, ty]) (by omega) h1 h2 (by simp [kx N (by omega), ky N (by omega)]) (by simp) hz]
 by_cases e1 : tx.2.2 = 0
 ·by_cases e2 : ty.2.2 = 0
  ·have hk : kres [tx, ty] = .go ([tx.1, ty.1], tx.2.1 || (ty.2.1 || false)) := by simp [kres, e1, e2]
   rw [hk] at e17
   obtain ⟨gx, vx, fx1, fx2, okx⟩ := ex e1
   obtain ⟨gy, vy, fy1, fy2, oky⟩ := ey e2
   obtain ⟨t, ht, hv⟩ := B tx.1 ty.1 (tx.2.1 || (ty.2.1 || false)) gx gy
   refine ⟨t, up2 fun N hN => ?_, fun h => ?_⟩
   ·rw [e17 N hN]; exact ht N (by omega)
   ·obtain ⟨gt, hv⟩ := hv h
    obtain ⟨v, hv, ok⟩ := hv vx vy okx oky
    refine ⟨gt, v, up2 fun N hN => ?_, up2 fun N hN => ?_, ok⟩
    ·rw [sz2] at hN
     rw [d12_op, d24_run (args := [x, y]) (vs := [vx, vy]) (by omega) h1 h2 (by simp [fx1 N (by omega), fy1 N (by omega)]) (by simp)]
     exact (hv N (by omega)).1
    ·rw [sz2] at hN
     rw [h13, fx2 (N + 1) (by omega), Option.bind_some, fy2 (N + 1) (by omega), Option.bind_some]
     exact (hv (N + 1) (by omega)).2
  ·have hk : kres [tx, ty] = .ret (0, false, ty.2.2) := by simp [kres, e1, e2]
   rw [hk] at e17
   exact ⟨_, up2 e17, fun h => absurd h e2⟩
 ·have hk : kres [tx, ty] = .ret (0, false, tx.2.2) := by simp [kres, e1]
  rw [hk] at e17
  exact ⟨_, up2 e17, fun h => absurd h e1⟩

theorem cl_un {nm : ByteArray} (B : Un nm) {i : Nat} (h1 : ops.findIdx? (fun x => decide (nm = x)) = some i) (h2 : ars[i]? = some 1)
  (h13 : ∀ N sc x vl, d13 (N + 1) sc ⟨5, nm, 0, vl, [x]⟩ = (d13 N sc x).bind fun a => tl13 N nm a)
  {x : Ex} (hx : Cl cols vars row params vvals vn mC mV x) {vl : Vl} (hz : beqS24 vl (S24.mk 0 0 (ByteArray.mk #[])) = true) :
  Cl cols vars row params vvals vn mC mV ⟨5, nm, 0, vl, [x]⟩ := by
 obtain ⟨tx, kx, ex⟩ := hx
 have hsx := sz_pos x
 have e17 : ∀ N, 98 + 2 * sz ⟨5, nm, 0, vl, [x]⟩ ≤ N → d17 (N + 2) cols vars ⟨5, nm, 0, vl, [x]⟩ = kout N nm (kres [tx]) := fun N hN => by
  rw [sz1] at hN
  rw [d17_op, d32_run (args := [x]) (ts := [tx]) (by omega) h1 h2 (by simp [kx N (by omega)]) (by simp) hz]
 by_cases e1 : tx.2.2 = 0
 ·have hk : kres [tx] = .go ([tx.1], tx.2.1 || false) := by simp [kres, e1]
  rw [hk] at e17
  obtain ⟨gx, vx, fx1, fx2, okx⟩ := ex e1
  obtain ⟨t, ht, hv⟩ := B tx.1 (tx.2.1 || false) gx
  refine ⟨t, up2 fun N hN => ?_, fun h => ?_⟩
  ·rw [e17 N hN]; exact ht N (by omega)
  ·obtain ⟨gt, hv⟩ := hv h
   obtain ⟨v, hv, ok⟩ := hv vx okx
   refine ⟨gt, v, up2 fun N hN => ?_, up2 fun N hN => ?_, ok⟩
   ·rw [sz1] at hN
    rw [d12_op, d24_run (args := [x]) (vs := [vx]) (by omega) h1 h2 (by simp [fx1 N (by omega)]) (by simp)]
    exact (hv N (by omega)).1
   ·rw [sz1] at hN
    rw [h13, fx2 (N + 1) (by omega), Option.bind_some]
    exact (hv (N + 1) (by omega)).2
 ·have hk : kres [tx] = .ret (0, false, tx.2.2) := by simp [kres, e1]
  rw [hk] at e17
  exact ⟨_, up2 e17, fun h => absurd h e1⟩

theorem tl32_if (N : Nat) (a b c : Int) (nu : Bool) : tl32 N (ByteArray.mk #[105, 102]) [a, b, c] nu = some (if ((a == 2 || (a == 0 || (2 : Int) == 0)) && (b == c || (b == 0 || c == 0))) = true then (maxI b c, nu, 0) else (0, false, 7)) := by
 have i0 : idx [a, b, c] 0 = some a := rfl
 have i1 : idx [a, b, c] 1 = some b := rfl
 have i2 : idx [a, b, c] 2 = some c := rfl
 simp only [tl32]
 simp [i0, i1, i2, d47_eq, d48_eq]
 by_cases h1 : a = 2
 ·simp [h1]
 ·by_cases h2 : a = 0
  ·simp [h2]
  ·simp [h1, h2]

theorem cl_if {x y z : Ex} (hx : Cl cols vars row params vvals vn mC mV x) (hy : Cl cols vars row params vvals vn mC mV y) (hw : Cl cols vars row params vvals vn mC mV z) {vl : Vl} (hz : beqS24 vl (S24.mk 0 0 (ByteArray.mk #[])) = true) :
  Cl cols vars row params vvals vn mC mV ⟨5, ByteArray.mk #[105, 102], 0, vl, [x, y, z]⟩ := by
 obtain ⟨tx, kx, ex⟩ := hx
 obtain ⟨ty, ky, ey⟩ := hy
 obtain ⟨tz, kz, ez⟩ := hw
 have hsx := sz_pos x
 have hsy := sz_pos y
 have hsz := sz_pos z
 have h1 : ops.findIdx? (fun x => decide (ByteArray.mk #[105, 102] = x)) = some 12 := by rfl
 have h2 : ars[12]? = some 3 := rfl
 have e17 : ∀ N, 98 + 2 * sz ⟨5, ByteArray.mk #[105, 102], 0, vl, [x, y, z]⟩ ≤ N → d17 (N + 2) cols vars ⟨5, ByteArray.mk #[105, 102], 0, vl, [x, y, z]⟩ = kout N (ByteArray.mk #[105, 102]) (kres [tx, ty, tz]) := fun N hN => by
  rw [sz3] at hN
  rw [d17_op, d32_run (args := [x, y, z]) (ts := [tx, ty, tz]) (by omega) h1 h2 (by simp [kx N (by omega), ky N (by omega), kz N (by omega)]) (by simp) hz]
 by_cases e1 : tx.2.2 = 0
 ·by_cases e2 : ty.2.2 = 0
  ·by_cases e3 : tz.2.2 = 0
   ·have hk : kres [tx, ty, tz] = .go ([tx.1, ty.1, tz.1], tx.2.1 || (ty.2.1 || (tz.2.1 || false))) := by simp [kres, e1, e2, e3]
    rw [hk] at e17
    obtain ⟨gx, vx, fx1, fx2, okx⟩ := ex e1
    obtain ⟨gy, vy, fy1, fy2, oky⟩ := ey e2
    obtain ⟨gz, vz, fz1, fz2, okz⟩ := ez e3
    refine ⟨_, up2 fun N hN => by rw [e17 N hN]; exact tl32_if _ _ _ _ _, fun h => ?_⟩
    have hc := kd7 _ _ _ h
    rw [if_pos hc]
    rw [Bool.and_eq_true] at hc
    have hka : tx.1 = 2 ∨ tx.1 = 0 := by simpa using hc.1
    have hbc : ty.1 = tz.1 ∨ ty.1 = 0 ∨ tz.1 = 0 := by simpa using hc.2
    have hgm : 0 ≤ maxI ty.1 tz.1 := by unfold maxI; split <;> omega
    have hX : vx = nul ∨ ∃ b, vx = bl b := by
     rcases okx.2 with h | h
     ·exact .inl (val_k0 okx.1 h)
     ·rcases hka with h5 | h5
      ·exact .inr (val_k2 okx.1 (by omega))
      ·exact .inl (val_k0 okx.1 (by omega))
    have oY : Ok (maxI ty.1 tz.1) vy := ⟨oky.1, by have := oky.2; unfold maxI; split <;> omega⟩
    have oZ : Ok (maxI ty.1 tz.1) vz := ⟨okz.1, by have := okz.2; unfold maxI; split <;> omega⟩
    have e24 : ∀ N, 98 + 2 * sz ⟨5, ByteArray.mk #[105, 102], 0, vl, [x, y, z]⟩ ≤ N → d12 (N + 2) (S41.mk cols row params vn vvals) ⟨5, ByteArray.mk #[105, 102], 0, vl, [x, y, z]⟩ = tl24 N (ByteArray.mk #[105, 102]) [vx, vy, vz] := fun N hN => by
     rw [sz3] at hN
     rw [d12_op, d24_run (args := [x, y, z]) (vs := [vx, vy, vz]) (by omega) h1 h2 (by simp [fx1 N (by omega), fy1 N (by omega), fz1 N (by omega)]) (by simp)]
    have j0 : idx [vx, vy, vz] 0 = some vx := rfl
    have j1 : idx [vx, vy, vz] 1 = some vy := rfl
    have j2 : idx [vx, vy, vz] 2 = some vz := rfl
    have i0 : idx [x, y, z] 0 = some x := rfl
    have i1 : idx [x, y, z] 1 = some y := rfl
    have i2 : idx [x, y, z] 2 = some z := rfl
    have d13i : ∀ N, 98 + 2 * sz ⟨5, ByteArray.mk #[105, 102], 0, vl, [x, y, z]⟩ ≤ N → d13 (N + 2) (S44.mk mC mV params) ⟨5, ByteArray.mk #[105, 102], 0, vl, [x, y, z]⟩ = (d26 (N + 1) vx).bind fun r => if r > 0 then some vy else some vz := fun N hN => by
     rw [sz3] at hN
     rw [d13]
     simp [i0, i1, i2, fx2 (N + 1) (by omega), fy2 (N + 1) (by omega), fz2 (N + 1) (by omega)]
    refine ⟨hgm, ?_⟩
    rcases hX with rfl | ⟨b, rfl⟩
    ·refine ⟨vz, up2 fun N hN => ?_, up2 fun N hN => ?_, oZ⟩
     ·rw [e24 N hN]
      simp [tl24, j0, j2, d14_eq, nulK]
     ·rw [d13i N hN, d26_nul]; rfl
    ·cases b
     ·refine ⟨vz, up2 fun N hN => ?_, up2 fun N hN => ?_, oZ⟩
      ·rw [e24 N hN]
       simp [tl24, j0, j2, show ∀ N, d14 N (bl false) = some false from fun _ => rfl]
      ·rw [d13i N hN, d26_bl]; rfl
     ·refine ⟨vy, up2 fun N hN => ?_, up2 fun N hN => ?_, oY⟩
      ·rw [e24 N hN]
       simp [tl24, j0, j1, show ∀ N, d14 N (bl true) = some true from fun _ => rfl]
      ·rw [d13i N hN, d26_bl]; rfl
   ·have hk : kres [tx, ty, tz] = .ret (0, false, tz.2.2) := by simp [kres, e1, e2, e3]
    rw [hk] at e17
    exact ⟨_, up2 e17, fun h => absurd h e3⟩
  ·have hk : kres [tx, ty, tz] = .ret (0, false, ty.2.2) := by simp [kres, e1, e2]
   rw [hk] at e17
   exact ⟨_, up2 e17, fun h => absurd h e2⟩
 ·have hk : kres [tx, ty, tz] = .ret (0, false, tx.2.2) := by simp [kres, e1]
  rw [hk] at e17
  exact ⟨_, up2 e17, fun h => absurd h e1⟩

theorem len1 {l : List Ex} (h : (1 : Int) = (l.length : Int)) : ∃ x, l = [x] := by
 match l, h with
 | [x], _ => exact ⟨x, rfl⟩
 | [], h => simp at h
 | _ :: _ :: _, h => simp at h; omega
theorem len2 {l : List Ex} (h : (2 : Int) = (l.length : Int)) : ∃ x y, l = [x, y] := by
 match l, h with
 | [x, y], _ => exact ⟨x, y, rfl⟩
 | [], h => simp at h
 | [_], h => simp at h
 | _ :: _ :: _ :: _, h => simp at h; omega
theorem len3 {l : List Ex} (h : (3 : Int) = (l.length : Int)) : ∃ x y z, l = [x, y, z] := by
 match l, h with
 | [x, y, z], _ => exact ⟨x, y, z, rfl⟩
 | [], h => simp at h
 | [_], h => simp at h
 | [_, _], h => simp at h
 | _ :: _ :: _ :: _ :: _, h => simp at h; omega

theorem cl_leaf (k : Int) (hk : k ≠ 5) (nm : ByteArray) (ix : Int) (vl : Vl) (args : List Ex) (h : (¬ k = 1 ∧ ¬ k = 2 ∧ ¬ k = 3 ∧ ¬ k = 4) ∨ args ≠ []) : Cl cols vars row params vvals vn mC mV ⟨k, nm, ix, vl, args⟩ := by
 refine ⟨(0, false, 3), up fun N hN => ?_, fun h => by simp at h⟩
 have hk' : (k != 5) = true := by simpa using hk
 have hk2 : (k == 5) = false := by simpa using hk
 rw [d17]
 simp only [hk', if_true, Option.bind_some]
 cases args with
 | cons x l => rw [if_pos (by simp)]
 | nil =>
  rcases h with ⟨h1, h2, h3, h4⟩ | h
  ·simp [h1, h2, h3, h4, hk]
  ·exact absurd rfl h

theorem cl_all (E : Envy cols vars row params vvals vn mC mV) : ∀ (n : Nat) (e : Ex), sz e ≤ n → Cl cols vars row params vvals vn mC mV e := by
 intro n
 induction n with
 | zero => intro e h; have := sz_pos e; omega
 | succ n ih =>
 intro e hn
 obtain ⟨k, nm, ix, vl, args⟩ := e
 have hmem : ∀ a ∈ args, Cl cols vars row params vvals vn mC mV a := fun a ha => ih a (by
  have := szL_mem ha
  rw [sz_def] at hn
  simp only at hn
  omega)
 clear hn ih
 by_cases hk : k = 5
 ·subst hk
  by_cases hz : ix = 0 ∧ beqS24 vl (S24.mk 0 0 (ByteArray.mk #[])) = true
  ·obtain ⟨rfl, hz⟩ := hz
   have arity : ∀ (i : Nat) (a : Int), ops.findIdx? (fun x => decide (nm = x)) = some i → ars[i]? = some a → (a = (args.length : Int) → Cl cols vars row params vvals vn mC mV ⟨5, nm, 0, vl, args⟩) → Cl cols vars row params vvals vn mC mV ⟨5, nm, 0, vl, args⟩ := fun i a h1 h2 h => by
    by_cases h3 : a = (args.length : Int)
    ·exact h h3
    ·exact cl_noop nm 0 vl args (.inr ⟨i, a, h1, h2, .inl h3⟩)
   rcases op_cases nm with h | rfl | rfl | rfl | rfl | rfl | rfl | rfl | rfl | rfl | rfl | rfl | rfl | rfl
   ·exact cl_noop nm 0 vl args (.inl h)
   ·refine arity 0 2 rfl rfl fun ha => ?_
    obtain ⟨x, y, rfl⟩ := len2 ha
    exact cl_bin (i := 0) (bin_arith _ (.inl rfl)) rfl rfl (fun N sc x y vl => by simp [d13, show idx [x, y] 0 = some x from rfl, show idx [x, y] 1 = some y from rfl]) (hmem _ (by simp)) (hmem _ (by simp)) hz
   ·refine arity 1 2 rfl rfl fun ha => ?_
    obtain ⟨x, y, rfl⟩ := len2 ha
    exact cl_bin (i := 1) (bin_arith _ (.inr (.inl rfl))) rfl rfl (fun N sc x y vl => by simp [d13, show idx [x, y] 0 = some x from rfl, show idx [x, y] 1 = some y from rfl]) (hmem _ (by simp)) (hmem _ (by simp)) hz
   ·refine arity 2 2 rfl rfl fun ha => ?_
    obtain ⟨x, y, rfl⟩ := len2 ha
    exact cl_bin (i := 2) (bin_arith _ (.inr (.inr rfl))) rfl rfl (fun N sc x y vl => by simp [d13, show idx [x, y] 0 = some x from rfl, show idx [x, y] 1 = some y from rfl]) (hmem _ (by simp)) (hmem _ (by simp)) hz
   ·refine arity 3 2 rfl rfl fun ha => ?_
    obtain ⟨x, y, rfl⟩ := len2 ha
    exact cl_bin (i := 3) (bin_cmp _ (.inl rfl)) rfl rfl (fun N sc x y vl => by simp [d13, show idx [x, y] 0 = some x from rfl, show idx [x, y] 1 = some y from rfl]) (hmem _ (by simp)) (hmem _ (by simp)) hz
   ·refine arity 4 2 rfl rfl fun ha => ?_
    obtain ⟨x, y, rfl⟩ := len2 ha
    exact cl_bin (i := 4) (bin_cmp _ (.inr (.inl rfl))) rfl rfl (fun N sc x y vl => by simp [d13, show idx [x, y] 0 = some x from rfl, show idx [x, y] 1 = some y from rfl]) (hmem _ (by simp)) (hmem _ (by simp)) hz
   ·refine arity 5 2 rfl rfl fun ha => ?_
    obtain ⟨x, y, rfl⟩ := len2 ha
    exact cl_bin (i := 5) (bin_cmp _ (.inr (.inr rfl))) rfl rfl (fun N sc x y vl => by simp [d13, show idx [x, y] 0 = some x from rfl, show idx [x, y] 1 = some y from rfl]) (hmem _ (by simp)) (hmem _ (by simp)) hz
   ·refine arity 6 2 rfl rfl fun ha => ?_
    obtain ⟨x, y, rfl⟩ := len2 ha
    exact cl_bin (i := 6) (bin_log _ (.inl rfl)) rfl rfl (fun N sc x y vl => by simp [d13, show idx [x, y] 0 = some x from rfl, show idx [x, y] 1 = some y from rfl]) (hmem _ (by simp)) (hmem _ (by simp)) hz
   ·refine arity 7 2 rfl rfl fun ha => ?_
    obtain ⟨x, y, rfl⟩ := len2 ha
    exact cl_bin (i := 7) (bin_log _ (.inr rfl)) rfl rfl (fun N sc x y vl => by simp [d13, show idx [x, y] 0 = some x from rfl, show idx [x, y] 1 = some y from rfl]) (hmem _ (by simp)) (hmem _ (by simp)) hz
   ·refine arity 8 1 rfl rfl fun ha => ?_
    obtain ⟨x, rfl⟩ := len1 ha
    exact cl_un (i := 8) un_not rfl rfl (fun N sc x vl => by simp [d13, tl13, show idx [x] 0 = some x from rfl]) (hmem _ (by simp)) hz
   ·refine arity 9 2 rfl rfl fun ha => ?_
    obtain ⟨x, y, rfl⟩ := len2 ha
    exact cl_bin (i := 9) bin_cat rfl rfl (fun N sc x y vl => by simp [d13, show idx [x, y] 0 = some x from rfl, show idx [x, y] 1 = some y from rfl]) (hmem _ (by simp)) (hmem _ (by simp)) hz
   ·refine arity 10 1 rfl rfl fun ha => ?_
    obtain ⟨x, rfl⟩ := len1 ha
    exact cl_un (i := 10) un_null rfl rfl (fun N sc x vl => by simp [d13, tl13, show idx [x] 0 = some x from rfl]) (hmem _ (by simp)) hz
   ·refine arity 11 1 rfl rfl fun ha => ?_
    obtain ⟨x, rfl⟩ := len1 ha
    exact cl_un (i := 11) un_len rfl rfl (fun N sc x vl => by simp [d13, tl13, show idx [x] 0 = some x from rfl]) (hmem _ (by simp)) hz
   ·refine arity 12 3 rfl rfl fun ha => ?_
    obtain ⟨x, y, z, rfl⟩ := len3 ha
    exact cl_if (hmem _ (by simp)) (hmem _ (by simp)) (hmem _ (by simp)) hz
  ·cases hf : ops.findIdx? (fun x => decide (nm = x)) with
   | none => exact cl_noop nm ix vl args (.inl hf)
   | some i =>
    have hi : i < 13 := by
     have := List.findIdx?_eq_some_iff_getElem.1 hf
     exact this.1
    obtain ⟨a, ha⟩ := get_of (l := ars) (k := i) (by simpa using hi)
    refine cl_noop nm ix vl args (.inr ⟨i, a, hf, ha, .inr ?_⟩)
    by_cases h : ix = 0
    ·exact .inr (Bool.eq_false_iff.2 fun h2 => hz ⟨h, h2⟩)
    ·exact .inl h
 ·by_cases ha : args = []
  ·subst ha
   by_cases h1 : k = 1
   ·subst h1; exact cl_lit nm ix vl
   by_cases h2 : k = 2
   ·subst h2; exact cl_col E nm ix vl
   by_cases h3 : k = 3
   ·subst h3; exact cl_par E nm ix vl
   by_cases h4 : k = 4
   ·subst h4; exact cl_var E nm ix vl
   exact cl_leaf k hk nm ix vl [] (.inl ⟨h1, h2, h3, h4⟩)
  ·exact cl_leaf k hk nm ix vl args (.inr ha)
end
end Go.Proofs.Ytacafkegbgmnoaa
end
section
namespace Go.Proofs.Ytacafkegbgmnoaa
open Go.Ab Go.Rp

theorem d5_eq {N : Nat} (hN : 1 ≤ N) : d5 N = some true := by
 obtain ⟨N, rfl⟩ : ∃ M, N = M + 1 := ⟨N - 1, by omega⟩
 unfold d5
 simp [d15_eq, d12, d14_eq, bl]

def nm2 (c : UInt8) (k : Nat) : ByteArray := ⟨#[c, UInt8.ofNat (48 + k)]⟩
theorem nm2_inj {c : UInt8} {j k : Nat} (hj : j < 10) (hk : k < 10) (h : nm2 c j = nm2 c k) : j = k := by
 unfold nm2 at h
 injection h with h
 have h2 : UInt8.ofNat (48 + j) = UInt8.ofNat (48 + k) := by simpa using h
 have h3 := congrArg UInt8.toNat h2
 simp at h3
 omega
theorem nm2_size (c : UInt8) (k : Nat) : (nm2 c k).size = 2 := rfl
theorem nm2_cat {k : Nat} (hk : k < 10) : catB (ByteArray.mk #[99]) (bstr [IntKind.u8.wrap (48 + (k : Int))]) = some (nm2 99 k) := by
 match k, hk with
 | 0, _ => rfl
 | 1, _ => rfl
 | 2, _ => rfl
 | 3, _ => rfl
 | 4, _ => rfl
 | 5, _ => rfl
 | 6, _ => rfl
 | 7, _ => rfl
 | 8, _ => rfl
 | 9, _ => rfl
theorem nm2_ren {k : Nat} (hk : k < 10) : catB (ByteArray.mk #[118]) ((nm2 99 k).extract 1 (nm2 99 k).size) = some (nm2 118 k) := by
 match k, hk with
 | 0, _ => rfl
 | 1, _ => rfl
 | 2, _ => rfl
 | 3, _ => rfl
 | 4, _ => rfl
 | 5, _ => rfl
 | 6, _ => rfl
 | 7, _ => rfl
 | 8, _ => rfl
 | 9, _ => rfl

/-- the three lists in one -/
theorem d9_eq {N : Nat} (hN : bigN N) (a b c : List Vl) (ha : a.length ≤ 10) (hb : b.length ≤ 10) (hc : c.length ≤ 20) : d9 N [a, b, c] = some (a ++ b ++ c) := by
 obtain ⟨N, rfl⟩ : ∃ M, N = M + 5 := ⟨N - 5, by omega⟩
 have i0 : idx [a, b, c] 0 = some a := rfl
 have i1 : idx [a, b, c] 1 = some b := rfl
 have i2 : idx [a, b, c] 2 = some c := rfl
 have c1 : chkI 1 = some 1 := by decide
 have c2 : chkI 2 = some 2 := by decide
 have c3 : chkI 3 = some 3 := by decide
 have l3 : ((([a, b, c] : List (List Vl)).length : Nat) : Int) = 3 := rfl
 unfold d9
 rw [l3]
 have k1 := chkI_of (n := (a.length : Int)) (by omega) (by omega)
 have k2 := chkI_of (n := (a.length : Int) + (b.length : Int)) (by omega) (by omega)
 have k3 := chkI_of (n := (a.length : Int) + (b.length : Int) + (c.length : Int)) (by omega) (by omega)
 simp only [Int.zero_add, show (1 : Int) + 1 = 2 from rfl, show (2 : Int) + 1 = 3 from rfl, iterN_succ, i0, i1, i2, c1, c2, c3, k1, k2, k3, Option.bind_some, show (0 : Int) < 3 from by decide, show (1 : Int) < 3 from by decide, show (2 : Int) < 3 from by decide, show ¬ (3 : Int) < 3 from by decide, if_true, if_false,
  show ¬ ((a.length : Int) < 0) from by omega, show ¬ ((a.length : Int) + (b.length : Int) < 0) from by omega, show ¬ ((a.length : Int) + (b.length : Int) + (c.length : Int) < 0) from by omega]
 have g : growL 32 ((a.length : Int) + (b.length : Int) + (c.length : Int)) = some () := if_pos (by unfold Rp.reach; omega)
 have p1 : appL 32 ([] : List Vl) a = some (a) := appL_of (by simp [Rp.reach]; omega)
 have p2 : appL 32 a b = some (a ++ b) := appL_of (by simp [Rp.reach]; omega)
 have p3 : appL 32 (a ++ b) c = some (a ++ b ++ c) := appL_of (by simp [Rp.reach]; omega)
 simp only [g, p1, p2, p3, Option.bind_some, List.nil_append, c2, c3, i1, i2, show (1 : Int) + 1 = 2 from rfl, show (2 : Int) + 1 = 3 from rfl, show (1 : Int) < 3 from by decide, show (2 : Int) < 3 from by decide, show ¬ (3 : Int) < 3 from by decide, if_true, if_false]

/-- the columns of a row -/
def Cs (c : UInt8) (xs : List Vl) (cs : List Co) : Prop := cs.length = xs.length ∧ ∀ (k : Nat) (x : Vl), xs[k]? = some x → cs[k]? = some ⟨nm2 c k, x.Kind, x.Kind == 0⟩
theorem d11_tot {N : Nat} (hN : bigN N) (xs : List Vl) (hx : xs.length ≤ 10) : ∃ cs, d11 N xs = some cs ∧ Cs 99 xs cs := by
 unfold d11
 have key := iter_post (fun ((l8, v9) : ((List S46) × Int)) =>
   if v9 < (xs.length : Int) then (
    (idx xs v9).bind fun x30 =>
    (chkI (48 + v9)).bind fun v32 =>
    letv (IntKind.u8.wrap (v32)) fun v33 =>
    (catB (ByteArray.mk #[99]) (bstr [v33])).bind fun v34 =>
    (appL 32 l8 [(S46.mk v34 x30.Kind (x30.Kind == 0))]).bind fun l35 =>
    (chkI (v9 + 1)).bind fun v36 =>
    some (.inl ((l8 ++ [(S46.mk v34 x30.Kind (x30.Kind == 0))]), v36))
   ) else
   some (.inr l8)) (fun s => xs.length - s.2.toNat) (fun s => ∃ k : Nat, s.2 = (k : Int) ∧ k ≤ xs.length ∧ s.1.length = k ∧ ∀ (j : Nat) (x : Vl), j < k → xs[j]? = some x → s.1[j]? = some ⟨nm2 99 j, x.Kind, x.Kind == 0⟩) (fun r => Cs 99 xs r) ?_ N (([] : List S46), 0) ⟨0, rfl, Nat.zero_le _, rfl, fun j x h => absurd h (by omega)⟩ (by simp; omega)
 ·obtain ⟨r, h1, h2⟩ := key
  rw [h1]
  exact ⟨r, rfl, h2⟩
 ·rintro ⟨l, v⟩ ⟨k, hv, hk, hl, hj⟩
  simp only at hv hl hj ⊢
  subst hv
  by_cases hlt : k < xs.length
  ·left
   obtain ⟨x, hx1⟩ := get_of hlt
   rw [if_pos (by omega), idx_nat hx1, Option.bind_some, chkI_of (by omega) (by omega), Option.bind_some, letv_eq, nm2_cat (by omega), Option.bind_some, appL_of (by simp [Rp.reach]; omega), Option.bind_some, chkI_of (by omega) (by omega), Option.bind_some]
   refine ⟨_, rfl, ⟨k + 1, by simp, by omega, by simp [hl], fun j y hj1 hy => ?_⟩, by simp; omega⟩
   simp only
   by_cases hjk : j < k
   ·rw [List.getElem?_append_left (by omega)]
    exact hj j y hjk hy
   ·have : j = k := by omega
    subst this
    rw [hx1] at hy
    injection hy with hy
    subst hy
    rw [List.getElem?_append_right (by omega), hl]
    simp
  ·right
   rw [if_neg (by omega)]
   refine ⟨_, rfl, by omega, fun j x hx1 => hj j x ?_ hx1⟩
   have := (List.getElem?_eq_some_iff.1 hx1).1
   omega

theorem setI_nat {α : Type} (xs : List α) (k : Nat) (x : α) : setI xs (k : Int) x = xs.set k x := by simp [setI]

/-- the variables -/
theorem ren_tot {N : Nat} (hN : bigN N) (xs : List Vl) (hx : xs.length ≤ 10) (cs : List Co) (hcs : Cs 99 xs cs) :
  ∃ (vn : List ByteArray) (m : List (ByteArray × Vl)) (vars : List Co), iterN (σ := ((List ByteArray) × (List (ByteArray × S24)) × (List S46) × Int)) (ρ := ((List ByteArray) × (List (ByteArray × S24)) × (List S46))) (fun ((l51, m52, l53, v54) : ((List ByteArray) × (List (ByteArray × S24)) × (List S46) × Int)) =>
   if v54 < (cs.length : Int) then (
    (idx l53 v54).bind fun x85 =>
    (natI 1 x85.Name.size).bind fun _ =>
    letv (x85.Name.extract 1 x85.Name.size) fun v88 =>
    (catB (ByteArray.mk #[118]) v88).bind fun v89 =>
    letv (setI l53 v54 (S46.mk v89 x85.Kind x85.Nullable)) fun l90 =>
    (idx l90 v54).bind fun x91 =>
    (appL 16 l51 [x91.Name]).bind fun _l92 =>
    (idx xs v54).bind fun x93 =>
    (chkI (v54 + 1)).bind fun v94 =>
    some (.inl ((l51 ++ [x91.Name]), (mput m52 x91.Name x93), l90, v94))
   ) else
   some (.inr (l51, m52, l53))
  ) N (([] : List ByteArray), ([] : List (ByteArray × S24)), cs, 0) = some (vn, m, vars) ∧ Cs 118 xs vars ∧ vn = (List.range xs.length).map (nm2 118) ∧ ∀ (k : Nat) (x : Vl), xs[k]? = some x → mget m (nm2 118 k) = some x := by
 have key := iter_post (fun ((l51, m52, l53, v54) : ((List ByteArray) × (List (ByteArray × S24)) × (List S46) × Int)) =>
   if v54 < (cs.length : Int) then (
    (idx l53 v54).bind fun x85 =>
    (natI 1 x85.Name.size).bind fun _ =>
    letv (x85.Name.extract 1 x85.Name.size) fun v88 =>
    (catB (ByteArray.mk #[118]) v88).bind fun v89 =>
    letv (setI l53 v54 (S46.mk v89 x85.Kind x85.Nullable)) fun l90 =>
    (idx l90 v54).bind fun x91 =>
    (appL 16 l51 [x91.Name]).bind fun l92 =>
    (idx xs v54).bind fun x93 =>
    (chkI (v54 + 1)).bind fun v94 =>
    some (.inl ((l51 ++ [x91.Name]), (mput m52 x91.Name x93), l90, v94))
   ) else
   some (.inr (l51, m52, l53))) (fun s => xs.length - s.2.2.2.toNat)
  (fun s => ∃ k : Nat, s.2.2.2 = (k : Int) ∧ k ≤ xs.length ∧ s.1 = (List.range k).map (nm2 118) ∧ s.2.2.1.length = xs.length ∧ (∀ (j : Nat) (x : Vl), xs[j]? = some x → s.2.2.1[j]? = some ⟨nm2 (if j < k then 118 else 99) j, x.Kind, x.Kind == 0⟩) ∧ ∀ (j : Nat) (x : Vl), j < k → xs[j]? = some x → mget s.2.1 (nm2 118 j) = some x)
  (fun r => Cs 118 xs r.2.2 ∧ r.1 = (List.range xs.length).map (nm2 118) ∧ ∀ (k : Nat) (x : Vl), xs[k]? = some x → mget r.2.1 (nm2 118 k) = some x) ?_ N (([] : List ByteArray), ([] : List (ByteArray × S24)), cs, 0) ⟨0, rfl, Nat.zero_le _, rfl, hcs.1, fun j x h => by simpa using hcs.2 j x h, fun j x h => absurd h (by omega)⟩ (by simp; omega)
 ·obtain ⟨⟨r1, r2, r3⟩, h1, h2, h3, h4⟩ := key
  exact ⟨r1, r2, r3, h1, h2, h3, h4⟩
 ·rintro ⟨l, m, vs, v⟩ ⟨k, hv, hk, hl, hlen, hj, hm⟩
  simp only at hv hl hlen hj hm ⊢
  subst hv
  have hcl := hcs.1
  by_cases hlt : k < xs.length
  ·left
   obtain ⟨x, hx1⟩ := get_of hlt
   have h85 := hj k x hx1
   rw [if_neg (by omega)] at h85
   have hset : idx (vs.set k ⟨nm2 118 k, x.Kind, x.Kind == 0⟩) (k : Int) = some ⟨nm2 118 k, x.Kind, x.Kind == 0⟩ := idx_nat (by rw [List.getElem?_set_self (by omega)])
   rw [if_pos (by omega), idx_nat h85, Option.bind_some]
   simp only [letv_eq, setI_nat]
   rw [show natI 1 (nm2 99 k).size = some 1 from rfl, Option.bind_some, nm2_ren (by omega), Option.bind_some, hset, Option.bind_some]
   rw [appL_of (by simp [Rp.reach, hl]; omega), Option.bind_some, idx_nat hx1, Option.bind_some, chkI_of (by omega) (by omega), Option.bind_some]
   refine ⟨_, rfl, ⟨k + 1, by simp, by omega, by simp [hl, List.range_succ], by simp [hlen], fun j y hy => ?_, fun j y hj1 hy => ?_⟩, by simp; omega⟩
   ·simp only
    have h5 := hj j y hy
    by_cases hjk : j = k
    ·subst hjk
     rw [hx1] at hy
     injection hy with hy
     subst hy
     rw [List.getElem?_set_self (by omega), if_pos (by omega)]
    ·rw [List.getElem?_set_ne (by omega), h5]
     by_cases h6 : j < k
     ·rw [if_pos h6, if_pos (by omega)]
     ·rw [if_neg h6, if_neg (by omega)]
   ·simp only
    rw [mget_put]
    by_cases hjk : j = k
    ·subst hjk
     rw [if_pos rfl, ← hx1, hy]
    ·rw [if_neg (fun e => hjk (nm2_inj (by omega) (by omega) e.symm))]
     exact hm j y (by omega) hy
  ·right
   have hkx : k = xs.length := by omega
   subst hkx
   rw [if_neg (by omega)]
   refine ⟨_, rfl, ⟨hlen, fun j x hx1 => ?_⟩, hl, fun j x hx1 => hm j x ?_ hx1⟩
   ·have h5 := hj j x hx1
    have := (List.getElem?_eq_some_iff.1 hx1).1
    rw [if_pos (by omega)] at h5
    exact h5
   ·have := (List.getElem?_eq_some_iff.1 hx1).1
    omega

/-- the columns by name -/
theorem put_tot {N : Nat} (hN : bigN N) (xs : List Vl) (hx : xs.length ≤ 10) (cs : List Co) (hcs : Cs 99 xs cs) :
  ∃ (m : List (ByteArray × Vl)), iterN (σ := ((List (ByteArray × S24)) × Int)) (ρ := List (ByteArray × S24)) (fun ((m99, v100) : ((List (ByteArray × S24)) × Int)) =>
   if v100 < (cs.length : Int) then (
    (idx cs v100).bind fun x115 =>
    (idx xs v100).bind fun x117 =>
    (chkI (v100 + 1)).bind fun v118 =>
    some (.inl ((mput m99 x115.Name x117), v118))
   ) else
   some (.inr m99)
  ) N (([] : List (ByteArray × S24)), 0) = some m ∧ ∀ (k : Nat) (x : Vl), xs[k]? = some x → mget m (nm2 99 k) = some x := by
 refine iter_post _ (fun s => xs.length - s.2.toNat)
  (fun s => ∃ k : Nat, s.2 = (k : Int) ∧ k ≤ xs.length ∧ ∀ (j : Nat) (x : Vl), j < k → xs[j]? = some x → mget s.1 (nm2 99 j) = some x)
  (fun r => ∀ (k : Nat) (x : Vl), xs[k]? = some x → mget r (nm2 99 k) = some x) ?_ N (([] : List (ByteArray × S24)), 0) ⟨0, rfl, Nat.zero_le _, fun j x h => absurd h (by omega)⟩ (by simp; omega)
 rintro ⟨m, v⟩ ⟨k, hv, hk, hm⟩
 simp only at hv hm ⊢
 subst hv
 have hcl := hcs.1
 by_cases hlt : k < xs.length
 ·left
  obtain ⟨x, hx1⟩ := get_of hlt
  rw [if_pos (by omega), idx_nat (hcs.2 k x hx1), Option.bind_some, idx_nat hx1, Option.bind_some, chkI_of (by omega) (by omega), Option.bind_some]
  refine ⟨_, rfl, ⟨k + 1, by simp, by omega, fun j y hj1 hy => ?_⟩, by simp; omega⟩
  simp only
  rw [mget_put]
  by_cases hjk : j = k
  ·subst hjk
   rw [if_pos rfl, ← hx1, hy]
  ·rw [if_neg (fun e => hjk (nm2_inj (by omega) (by omega) e.symm))]
   exact hm j y (by omega) hy
 ·right
  rw [if_neg (by omega)]
  refine ⟨_, rfl, fun j x hx1 => hm j x ?_ hx1⟩
  have := (List.getElem?_eq_some_iff.1 hx1).1
  omega

theorem cs_find {c : UInt8} {xs : List Vl} {cs : List Co} (h : Cs c xs cs) {nm : ByteArray} {i : Nat} (hf : cs.findIdx? (fun c => decide (c.Name = nm)) = some i) : ∃ x, xs[i]? = some x ∧ nm = nm2 c i ∧ cs[i]? = some ⟨nm2 c i, x.Kind, x.Kind == 0⟩ := by
 obtain ⟨h1, h2, _⟩ := List.findIdx?_eq_some_iff_getElem.1 hf
 obtain ⟨x, hx⟩ := get_of (l := xs) (k := i) (by have := h.1; omega)
 have hc := h.2 i x hx
 refine ⟨x, hx, ?_, hc⟩
 have h3 : cs[i] = ⟨nm2 c i, x.Kind, x.Kind == 0⟩ := (List.getElem?_eq_some_iff.1 hc).2
 rw [h3] at h2
 exact (of_decide_eq_true h2).symm

/-- all values are valid, or the law has nothing to say -/
theorem valid_loop {N : Nat} (hN : bigN N) (xs : List Vl) (hx : xs.length ≤ 100) : ∃ r, iterN (σ := Int) (ρ := (Out Unit Bool)) (fun (v19 : Int) =>
   if v19 < (xs.length : Int) then (
    (idx xs v19).bind fun x34 =>
    (d10 N x34).bind fun r36 =>
    if (!r36) = true then (
     some (.inr (.ret true))
    ) else
    (chkI (v19 + 1)).bind fun v38 =>
    some (.inl v38)
   ) else
   some (.inr (.go ()))
  ) N 0 = some r ∧ (r = .ret true ∨ r = .go () ∧ ∀ x ∈ xs, Val x) := by
 refine iter_post _ (fun v => xs.length - v.toNat) (fun v => ∃ k : Nat, v = (k : Int) ∧ k ≤ xs.length ∧ ∀ x ∈ xs.take k, Val x) _ ?_ N 0 ⟨0, rfl, Nat.zero_le _, by simp⟩ (by omega)
 rintro v ⟨k, rfl, hk, hv⟩
 by_cases hlt : k < xs.length
 ·obtain ⟨x, hx1⟩ := get_of hlt
  obtain ⟨b, hb⟩ := d10_tot N x
  rw [if_pos (by omega), idx_nat hx1, Option.bind_some, hb, Option.bind_some]
  cases b with
  | false => exact .inr ⟨_, rfl, .inl rfl⟩
  | true =>
   left
   rw [if_neg (by simp), chkI_of (by omega) (by omega)]
   refine ⟨_, rfl, ⟨k + 1, rfl, by omega, fun y hy => ?_⟩, by omega⟩
   rw [List.take_add_one, hx1, List.mem_append] at hy
   rcases hy with hy | hy
   ·exact hv y hy
   ·have : y = x := by simpa using hy
    rw [this]; exact d10_val hb
 ·right
  rw [if_neg (by omega)]
  rw [List.take_of_length_le (by omega)] at hv
  exact ⟨_, rfl, .inr ⟨rfl, hv⟩⟩

/-- the law -/
theorem d4_true {N : Nat} (hN : bigN N) (e : Ex) (a1 a2 a3 : List Vl) : d4 N e a1 a2 a3 = some true := by
 obtain ⟨r, h6, hr⟩ := d6_tot 150 N e (by omega) (by omega)
 have h6 : d6 N e 150 = some r := h6
 unfold d4
 rw [d5_eq (by omega), Option.bind_some, if_neg (by simp), h6, Option.bind_some]
 by_cases g1 : r < 0
 ·rw [if_pos g1]; rfl
 rw [if_neg g1]
 by_cases g2 : (a1.length : Int) > 10
 ·rw [if_pos g2]; rfl
 rw [if_neg g2]
 by_cases g3 : (a2.length : Int) > 10
 ·rw [if_pos g3]; rfl
 rw [if_neg g3]
 by_cases g4 : (a3.length : Int) > 20
 ·rw [decide_eq_true g4]; rfl
 rw [decide_eq_false g4, Option.bind_some, if_neg (by simp), d9_eq hN _ _ _ (by omega) (by omega) (by omega), Option.bind_some]
 obtain ⟨o, ho, hcase⟩ := valid_loop hN (a1 ++ a2 ++ a3) (by simp; omega)
 rw [ho]
 rcases hcase with rfl | ⟨rfl, hval⟩
 ·rfl
 simp only [bindO]
 obtain ⟨cols, hc1, hc2⟩ := d11_tot hN a1 (by omega)
 obtain ⟨cs2, hd1, hd2⟩ := d11_tot hN a2 (by omega)
 obtain ⟨vn, mV, vars, hv1, hv2, hv3, hv4⟩ := ren_tot hN a2 (by omega) cs2 hd2
 obtain ⟨mC, hm1, hm2⟩ := put_tot hN a1 (by omega) cols hc2
 rw [hc1, Option.bind_some, hd1, Option.bind_some, hv1, Option.bind_some, hm1, Option.bind_some]
 have l1 := hc2.1
 have l2 := hv2.1
 have hvn : vn = vars.map (·.Name) := by
  apply List.ext_getElem?
  intro i
  rw [hv3]
  by_cases hi : i < a2.length
  ·obtain ⟨x, hx⟩ := get_of hi
   simp [hv2.2 i x hx, hi]
  ·rw [List.getElem?_eq_none (by simp; omega), List.getElem?_eq_none (by simp; omega)]
 have E : Envy cols vars a1 a3 a2 vn mC mV := {
  hc := by omega
  hv := by omega
  hn := by rw [hvn, List.length_map]; omega
  col := fun nm i hf => by
   obtain ⟨x, hx, rfl, hx2⟩ := cs_find hc2 hf
   exact ⟨_, x, hx2, hx, hm2 i x hx, hval x (by have := List.mem_of_getElem? hx; simp [this]), rfl⟩
  var := fun nm i hf => by
   obtain ⟨x, hx, rfl, hx2⟩ := cs_find hv2 hf
   refine ⟨_, x, hx2, ?_, hx, hv4 i x hx, hval x (by have := List.mem_of_getElem? hx; simp [this]), rfl⟩
   rw [hvn, List.findIdx?_map, ← hf]
   congr 1
   funext c
   simp [eq_comm]
  par := fun v hv => hval v (by simp [hv]) }
 have hse := sz_def e
 have hr2 := hr (by omega)
 obtain ⟨t, ht, hte⟩ := cl_all E _ e (Nat.le_refl _)
 obtain ⟨a, d, h16, _⟩ := d16_tot 160 e N (by omega) (by omega) (by omega)
 have h7 : ∃ t2, d7 N cols vars e = some t2 ∧ (t2 = (0, false, 2) ∨ t2 = t) := by
  unfold d7
  rw [h16, Option.bind_some]
  by_cases q1 : a > 60
  ·exact ⟨_, by rw [if_pos q1]; rfl, .inl rfl⟩
  ·by_cases q2 : d > 12
   ·exact ⟨_, by rw [if_neg q1, decide_eq_true q2]; rfl, .inl rfl⟩
   ·exact ⟨t, by rw [if_neg q1, decide_eq_false q2, Option.bind_some, if_neg (by simp), ht N (by omega)]; rfl, .inr rfl⟩
 obtain ⟨t2, h7, hcs⟩ := h7
 rw [h7, Option.bind_some]
 rcases hcs with rfl | rfl
 ·rfl
 by_cases q : t2.2.2 = 0
 ·obtain ⟨_, v, f1, f2, _⟩ := hte q
  rw [if_neg (by simp [q]), f1 N (by omega), Option.bind_some, f2 N (by omega), Option.bind_some, (beqS24_iff v v).2 rfl]
 ·rw [if_pos (by simp [q])]
end Go.Proofs.Ytacafkegbgmnoaa
end
section
namespace Go.Proofs.Ytacafkegbgmnoaa
open Go.Ab Go.Rp
open Go.Ab.Enc (eC eV)

abbrev RVal := Rp.St (Int × Int × ByteArray × Unit)
abbrev RExp := Rose (Int × ByteArray × Int × RVal × Unit) Unit
def toVl (v : RVal) : Vl := ⟨v.val.1, v.val.2.1, v.val.2.2.1⟩
mutual
def toEx : RExp → Ex
 | .mk a ks _ => ⟨a.1, a.2.1, a.2.2.1, toVl a.2.2.2.1, toExs ks⟩
def toExs : List RExp → List Ex
 | [] => []
 | k :: ks => toEx k :: toExs ks
end
theorem eC_val (v : RVal) : (eC v : List D) = cS24 (toVl v) := rfl
mutual
theorem roseC_ex : ∀ (r : RExp), roseC r = cS27 (toEx r)
 | .mk a ks b => by
  have h := roseCs_ex ks
  rw [toEx, cS27, ← h, roseC]
  rfl
theorem roseCs_ex : ∀ (l : List RExp), roseCs l = cS27L (toExs l)
 | [] => by rw [toExs, roseCs, cS27L]
 | k :: ks => by rw [toExs, roseCs, cS27L, roseC_ex k, roseCs_ex ks]
end

theorem expreval_fun (e : RExp) (a1 a2 a3 : List RVal) : Fun Try.prog 4 [eV e, eV a1, eV a2, eV a3] (fun r _ => r = .d (.lit (.bool true))) := by
 have h := p4 9223372036854775808 (toEx e) (a1.map toVl) (a2.map toVl) (a3.map toVl) true (d4_true (Nat.le_refl _) _ _ _ _)
 have e0 : (eV e : V) = .agg [.d (.lit (.int .i64 (toEx e).Kind)), .d (.lit (.string (toEx e).Name)), .d (.lit (.int .i64 (toEx e).Index)), .d (.lit (.int .i64 (toEx e).Value.Kind)), .d (.lit (.int .i64 (toEx e).Value.Int)), .d (.lit (.string (toEx e).Value.Text)), .d (.sl ((toEx e).Args.map cS27))] := by
  show V.agg ((roseC e).map V.d) = _
  rw [roseC_ex, cS27_def]
  rfl
 have e1 : ∀ a : List RVal, (eV a : V) = .d (.sl ((a.map toVl).map cS24)) := fun a => by
  show V.d (.sl (a.map eC)) = _
  rw [List.map_map]
  rfl
 rw [e0, e1, e1, e1]
 exact h.2.mono fun _ _ h => h.1
end Go.Proofs.Ytacafkegbgmnoaa
end
