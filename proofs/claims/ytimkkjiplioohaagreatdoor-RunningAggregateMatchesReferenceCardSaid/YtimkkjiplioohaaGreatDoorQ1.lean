/- The plain law of Sort: lists sorted by a comparison, told up to steps that keep equal elements in order. The plain law of Sort: heaps in lists. The plain law of Sort: merging of sorted lists by the least head; symmetric merging in place. The plain law of Sort: the library's stable sort. The plain law of Sort: insertion sort and symmetric merging in place. The plain law of Sort: symmetric merging; the stable sort. The plain law of Sort: the library's stable sort sorts, and keeps equal elements in order. The plain law of Sort: the order of rows. The plain law of Sort: the heap of runs. The plain law of Sort: merging runs by the heap. The plain law of Sort: the external merge sort; the reference's selection; the first rows. The plain law of Sort: the reference's selection; the first rows. The plain law of GroupAggregate: aggregates, as both sides reckon them. The plain law of GroupAggregate: which aggregates are valid; what they are over rows. The plain law of GroupAggregate: groups of sorted rows. The plain law of RunningAggregate. The law's arguments as the functional program takes them. -/
import Derived.Test.YtimkkjiplioohaaGreatDoorA4
import Derived.Test.YtimkkjiplioohaaGreatDoorRa17
section
namespace Go.St
open Option renaming bind_some → ob
open List renaming getElem?_eq_getElem → ge,length_append → lap
structure TP {α : Type} (c : α → α → Int) : Prop where
 refl : ∀ a,c a a = 0
 anti : ∀ a b,c a b < 0 ↔ 0 < c b a
 trans : ∀ a b d,c a b ≤ 0 → c b d ≤ 0 → c a d ≤ 0
section
variable {α : Type} {c : α → α → Int}
theorem TP.symm (h : TP c) {a b : α} (e : c a b = 0) : c b a = 0 := by
 have h1 := h.anti a b
 have h2 := h.anti b a
 omega
theorem TP.ge (h : TP c) {a b : α} (e : ¬ c a b < 0) : c b a ≤ 0 := by
 have h2 := h.anti a b
 omega
theorem TP.le (h : TP c) {a b : α} (e : c a b < 0) : ¬ c b a ≤ 0 := by
 have h2 := h.anti a b
 omega
theorem TP.lt_le (h : TP c) {a b d : α} (e : c a b < 0) (f : c b d ≤ 0) : c a d < 0 := by
 have h1 := h.trans b d a f
 have h3 := h.anti a b
 have h4 := h.anti a d
 omega
theorem TP.le_lt (h : TP c) {a b d : α} (e : c a b ≤ 0) (f : c b d < 0) : c a d < 0 := by
 have h1 := fun g => h.trans d a b g e
 have h3 := h.anti b d
 have h4 := h.anti a d
 omega
def eqv (c : α → α → Int) (x : α) (y : α) : Bool := decide (c x y = 0)
def Sim (c : α → α → Int) (l m : List α) : Prop := ∀ x,l.filter (eqv c x) = m.filter (eqv c x)
def Srt (c : α → α → Int) (l : List α) : Prop := l.Pairwise fun a b => c a b ≤ 0
theorem Sim.rfl {l : List α} : Sim c l l := fun _ => Eq.refl _
theorem Sim.symm {l m : List α} (h : Sim c l m) : Sim c m l := fun x => (h x).symm
theorem Sim.trans {l m k : List α} (h : Sim c l m) (g : Sim c m k) : Sim c l k := fun x => (h x).trans (g x)
theorem Sim.app {l m l' m' : List α} (h : Sim c l m) (g : Sim c l' m') : Sim c (l ++ l') (m ++ m') := fun x => by
 rw [List.filter_append,List.filter_append,h x,g x]
theorem Sim.mem (tp : TP c) {l m : List α} (h : Sim c l m) {x : α} (hx : x ∈ l) : x ∈ m := by
 have : x ∈ m.filter (eqv c x) := by
  rw [← h x,List.mem_filter]
  exact ⟨hx,by unfold eqv;rw [tp.refl];rfl⟩
 exact (List.mem_filter.1 this).1
theorem Sim.rot (tp : TP c) {p a b q : List α} (h : ∀ x ∈ a,∀ y ∈ b,c x y ≠ 0) : Sim c (p ++ (a ++ (b ++ q))) (p ++ (b ++ (a ++ q))) := fun z => by
 simp only [List.filter_append]
 congr 1
 have : a.filter (eqv c z) = [] ∨ b.filter (eqv c z) = [] := by
  by_cases ha : a.filter (eqv c z) = []
  ·exact .inl ha
  ·right
   rw [List.filter_eq_nil_iff]
   intro y hy hz
   apply ha
   rw [List.filter_eq_nil_iff]
   intro x hx hx2
   refine h x hx y hy ?_
   unfold eqv at hz hx2
   have h1 := of_decide_eq_true hz
   have h2 := tp.symm (of_decide_eq_true hx2)
   have h3 := tp.trans x z y (by omega) (by omega)
   have h4 := tp.trans y z x (by have := tp.symm h1;omega) (by have := tp.symm h2;omega)
   have h5 := tp.anti x y
   have h6 := tp.anti y x
   omega
 rcases this with h | h <;> rw [h] <;> simp
theorem Sim.cons_inv {x : α} {l m : List α} (h : Sim c (x :: l) (x :: m)) : Sim c l m := fun z => by
 have := h z
 simp only [List.filter_cons] at this
 split at this
 ·injection this
 ·exact this
theorem Sim.nil_inv (tp : TP c) {m : List α} (h : Sim c [] m) : m = [] := by
 cases m with
 | nil => rfl
 | cons y m => exact absurd (h.symm.mem tp (List.mem_cons_self ..)) (by simp)
theorem Sim.uniq (tp : TP c) : ∀ {l m : List α},Srt c l → Srt c m → Sim c l m → l = m
 | [],m,_,_,h => (h.nil_inv tp).symm
 | x :: l,[],_,_,h => by have := h.symm.nil_inv tp;cases this
 | x :: l,y :: m,hl,hm,h => by
  obtain ⟨hl1,hl2⟩ := List.pairwise_cons.1 hl
  obtain ⟨hm1,hm2⟩ := List.pairwise_cons.1 hm
  have h1 : c y x ≤ 0 := by
   rcases List.mem_cons.1 (h.mem tp (List.mem_cons_self ..)) with rfl | g
   ·rw [tp.refl];omega
   ·exact hm1 _ g
  have h2 : c x y ≤ 0 := by
   rcases List.mem_cons.1 (h.symm.mem tp (List.mem_cons_self ..)) with rfl | g
   ·rw [tp.refl];omega
   ·exact hl1 _ g
  have h0 : c x y = 0 := by
   have := tp.anti y x
   have := tp.anti x y
   omega
  have := h x
  rw [List.filter_cons_of_pos (by unfold eqv;rw [tp.refl];rfl),List.filter_cons_of_pos (by unfold eqv;rw [h0];rfl)] at this
  injection this with h3 _
  subst h3
  rw [Sim.uniq tp hl2 hm2 h.cons_inv]
theorem Sim.len (tp : TP c) : ∀ {l m : List α},Sim c l m → l.length = m.length
 | [],m,h => by rw [h.nil_inv tp]
 | x :: l,m,h => by
  have hx : (m.filter (eqv c x)) = x :: l.filter (eqv c x) := by
   rw [← h x,List.filter_cons_of_pos (by unfold eqv;rw [tp.refl];rfl)]
  obtain ⟨m1,m2,rfl,hm1,_,_⟩ := List.filter_eq_cons_iff.1 hx
  have : Sim c l (m1 ++ m2) := by
   have h2 : Sim c (x :: l) (x :: (m1 ++ m2)) := by
    refine h.trans fun z => ?_
    simp only [List.filter_append,List.filter_cons]
    split
    ·rename_i hz
     have : m1.filter (eqv c z) = [] := by
      rw [List.filter_eq_nil_iff]
      intro y hy hy2
      refine hm1 y hy ?_
      unfold eqv at hz hy2 ⊢
      have h1 := of_decide_eq_true hz
      have h2 := of_decide_eq_true hy2
      have h1' := tp.symm h1
      have h2' := tp.symm h2
      have h3 := tp.trans x z y (by omega) (by omega)
      have h4 := tp.trans y z x (by omega) (by omega)
      have h5 := tp.anti x y
      have h6 := tp.anti y x
      exact decide_eq_true (by omega)
     rw [this];rfl
    ·rfl
   exact h2.cons_inv
  have h3 := Sim.len tp this
  simp only [lap,List.length_cons] at h3 ⊢
  omega
theorem Srt.app {l m : List α} : Srt c (l ++ m) ↔ Srt c l ∧ Srt c m ∧ ∀ x ∈ l,∀ y ∈ m,c x y ≤ 0 := List.pairwise_append
theorem Srt.get (tp : TP c) {l : List α} (h : Srt c l) {i j : Nat} {x y : α} (hi : l[i]? = some x) (hj : l[j]? = some y) (hij : i ≤ j) : c x y ≤ 0 := by
 by_cases e : i = j
 ·subst e;rw [hi] at hj;injection hj with hj;subst hj;rw [tp.refl];omega
 ·obtain ⟨h1,rfl⟩ := List.getElem?_eq_some_iff.1 hi
  obtain ⟨h2,rfl⟩ := List.getElem?_eq_some_iff.1 hj
  exact List.pairwise_iff_getElem.1 h i j h1 h2 (by omega)
def Least (c : α → α → Int) (l : List α) (i : Nat) : Prop := ∃ x,l[i]? = some x ∧ (∀ y ∈ l.take i,c x y < 0) ∧ ∀ y ∈ l,c x y ≤ 0
theorem Least.step (tp : TP c) {l r out : List α} {i : Nat} {x : α} (hx : r[i]? = some x) (hL : Least c r i) (hs : Srt c out) (ho : ∀ a ∈ out,∀ b ∈ r,c a b ≤ 0) (hsim : Sim c l (out ++ r)) :
  Srt c (out ++ [x]) ∧ (∀ a ∈ out ++ [x],∀ b ∈ r.eraseIdx i,c a b ≤ 0) ∧ Sim c l (out ++ [x] ++ r.eraseIdx i) := by
 obtain ⟨x',hx',h1,h2⟩ := hL
 rw [hx] at hx';injection hx' with hx';subst hx'
 have hmem : x ∈ r := List.mem_of_getElem? hx
 have hsub : ∀ b,b ∈ r.eraseIdx i → b ∈ r := fun b hb => (List.eraseIdx_sublist r i).subset hb
 refine ⟨Srt.app.2 ⟨hs,List.pairwise_singleton _ _,fun a ha b hb => by obtain rfl := List.mem_singleton.1 hb;exact ho a ha _ hmem⟩,fun a ha b hb => ?_,hsim.trans ?_⟩
 ·rcases List.mem_append.1 ha with ha | ha
  ·exact ho a ha b (hsub b hb)
  ·obtain rfl := List.mem_singleton.1 ha
   exact h2 b (hsub b hb)
 ·have hr : r = r.take i ++ ([x] ++ r.drop (i + 1)) := by
   obtain ⟨h3,rfl⟩ := List.getElem?_eq_some_iff.1 hx
   simp
  have he : r.eraseIdx i = r.take i ++ r.drop (i + 1) := List.eraseIdx_eq_take_drop_succ r i
  rw [he,List.append_assoc]
  refine Sim.trans (m := out ++ (r.take i ++ ([x] ++ r.drop (i + 1)))) (by rw [← hr];exact .rfl) ?_
  exact .rot tp fun y hy z hz => by
   obtain rfl := List.mem_singleton.1 hz
   have := h1 y hy
   have := tp.anti z y
   omega
end
end Go.St
end
section
namespace Go.St
open Option renaming bind_some → ob
open List renaming getElem?_eq_getElem → ge,length_append → lap
section
variable {ε : Type} {lt : ε → ε → Bool}
structure TO (lt : ε → ε → Bool) : Prop where
 irr : ∀ a,lt a a = false
 tr : ∀ a b d,lt b a = false → lt d b = false → lt d a = false
 asy : ∀ a b,lt a b = true → lt b a = false
def swp (l : List ε) (i j : Nat) (x y : ε) : List ε := (l.set i y).set j x
theorem swp_len {l : List ε} {i j : Nat} {x y : ε} : (swp l i j x y).length = l.length := by simp [swp]
theorem swp_get {l : List ε} {i j k : Nat} {x y : ε} (hi : l[i]? = some x) (hj : l[j]? = some y) : (swp l i j x y)[k]? = if k = j then some x else if k = i then some y else l[k]? := by
 obtain ⟨h1,_⟩ := List.getElem?_eq_some_iff.1 hi
 obtain ⟨h2,_⟩ := List.getElem?_eq_some_iff.1 hj
 unfold swp
 simp only [List.getElem?_set,List.length_set]
 by_cases e1 : k = j
 ·subst e1
  simp [h2]
 ·by_cases e2 : k = i
  ·subst e2
   simp [h1,e1,Ne.symm e1]
  ·simp [e1,e2,Ne.symm e1,Ne.symm e2]
theorem swp_perm {l : List ε} {i j : Nat} {x y : ε} (hi : l[i]? = some x) (hj : l[j]? = some y) : (swp l i j x y).Perm l := by
 obtain ⟨h1,rfl⟩ := List.getElem?_eq_some_iff.1 hi
 obtain ⟨h2,rfl⟩ := List.getElem?_eq_some_iff.1 hj
 exact List.set_set_perm h1 h2
def Par (i j : Nat) : Prop := j = 2 * i + 1 ∨ j = 2 * i + 2
def HP (lt : ε → ε → Bool) (l : List ε) (n k : Nat) : Prop := ∀ i j x y,k ≤ i → Par i j → j < n → l[i]? = some x → l[j]? = some y → lt y x = false
def HPd (lt : ε → ε → Bool) (l : List ε) (n k i : Nat) : Prop :=
 (∀ p j x y,k ≤ p → p ≠ i → Par p j → j < n → l[p]? = some x → l[j]? = some y → lt y x = false) ∧
 (∀ p j x y,k ≤ p → Par p i → Par i j → j < n → l[p]? = some x → l[j]? = some y → lt y x = false)
def HPu (lt : ε → ε → Bool) (l : List ε) (n j : Nat) : Prop :=
 (∀ p k x y,k ≠ j → Par p k → k < n → l[p]? = some x → l[k]? = some y → lt y x = false) ∧
 (∀ p k x y,Par p j → Par j k → k < n → l[p]? = some x → l[k]? = some y → lt y x = false)
theorem HP.root (to : TO lt) {l : List ε} {n : Nat} (h : HP lt l n 0) {x : ε} (h0 : l[0]? = some x) : ∀ (j : Nat) (y : ε),j < n → l[j]? = some y → lt y x = false := by
 intro j
 induction j using Nat.strongRecOn with
 | ind j ih =>
  intro y hj hy
  by_cases e : j = 0
  ·subst e;rw [h0] at hy;injection hy with hy;subst hy;exact to.irr _
  ·have hlen := (List.getElem?_eq_some_iff.1 hy).1
   have hp : (j - 1) / 2 < l.length := by omega
   have hz := ge hp
   have h1 := ih ((j - 1) / 2) (by omega) _ (by omega) hz
   have h2 := h ((j - 1) / 2) j _ y (Nat.zero_le _) (by unfold Par;omega) hj hz hy
   exact to.tr _ _ _ h1 h2
theorem HPd.start {l : List ε} {n k : Nat} (h : HP lt l n (k + 1)) : HPd lt l n k k :=
 ⟨fun p j x y h1 h2 h3 h4 h5 h6 => h p j x y (by omega) h3 h4 h5 h6,fun p j x y h1 h2 => by unfold Par at h2;omega⟩
theorem HPd.fin {l : List ε} {n k i : Nat} (h : HPd lt l n k i) (h2 : ∀ j x y,Par i j → j < n → l[i]? = some x → l[j]? = some y → lt y x = false) : HP lt l n k := by
 intro p j x y h3 h4 h5 h6 h7
 by_cases e : p = i
 ·subst e;exact h2 j x y h4 h5 h6 h7
 ·exact h.1 p j x y h3 e h4 h5 h6 h7
theorem HPd.swap (to : TO lt) {l : List ε} {n k i j : Nat} {x y : ε} (h : HPd lt l n k i) (hk : k ≤ i) (hp : Par i j) (hj : j < n) (hx : l[i]? = some x) (hy : l[j]? = some y) (hlt : lt y x = true)
  (hmin : ∀ j' z,Par i j' → j' < n → l[j']? = some z → lt z y = false) : HPd lt (swp l i j x y) n k j := by
 have hij : i ≠ j := by unfold Par at hp;omega
 refine ⟨fun p q a b h1 h2 h3 h4 h5 h6 => ?_,fun p q a b h1 h2 h3 h4 h5 h6 => ?_⟩
 ·rw [swp_get hx hy] at h5 h6
  rw [if_neg h2] at h5
  by_cases e : p = i
  ·subst e
   rw [if_pos rfl] at h5
   injection h5 with h5;subst h5
   by_cases e2 : q = j
   ·subst e2
    rw [if_pos rfl] at h6
    injection h6 with h6;subst h6
    exact to.asy _ _ hlt
   ·rw [if_neg e2,if_neg (by unfold Par at h3;omega)] at h6
    exact hmin q b h3 h4 h6
  ·rw [if_neg e] at h5
   have e2 : q ≠ j := by unfold Par at h3 hp;omega
   rw [if_neg e2] at h6
   by_cases e3 : q = i
   ·subst e3
    rw [if_pos rfl] at h6
    injection h6 with h6;subst h6
    exact h.2 p j a y h1 h3 hp hj h5 hy
   ·rw [if_neg e3] at h6
    exact h.1 p q a b h1 e h3 h4 h5 h6
 ·have e : p = i := by unfold Par at h2 hp;omega
  subst e
  rw [swp_get hx hy] at h5 h6
  rw [if_neg hij,if_pos rfl] at h5
  injection h5 with h5;subst h5
  rw [if_neg (by unfold Par at h3;omega),if_neg (by unfold Par at h3 hp;omega)] at h6
  exact h.1 j q y b (by unfold Par at hp;omega) (fun e => hij e.symm) h3 h4 hy h6
theorem HPu.start {l : List ε} {n : Nat} (h : HP lt l n 0) : HPu lt l (n + 1) n :=
 ⟨fun p k x y h1 h2 h3 h4 h5 => h p k x y (Nat.zero_le _) h2 (by omega) h4 h5,fun p k x y h1 h2 h3 => by unfold Par at h2;omega⟩
theorem HPu.fin {l : List ε} {n j : Nat} (h : HPu lt l n j) (h2 : ∀ p x y,Par p j → l[p]? = some x → l[j]? = some y → lt y x = false) : HP lt l n 0 := by
 intro p k x y _ h4 h5 h6 h7
 by_cases e : k = j
 ·subst e;exact h2 p x y h4 h6 h7
 ·exact h.1 p k x y e h4 h5 h6 h7
theorem HPu.swap (to : TO lt) {l : List ε} {n i j : Nat} {x y : ε} (h : HPu lt l n j) (hp : Par i j) (hj : j < n) (hx : l[i]? = some x) (hy : l[j]? = some y) (hlt : lt y x = true) : HPu lt (swp l i j x y) n i := by
 have hij : i ≠ j := by unfold Par at hp;omega
 refine ⟨fun p k a b h1 h2 h3 h4 h5 => ?_,fun p k a b h1 h2 h3 h4 h5 => ?_⟩
 ·rw [swp_get hx hy] at h4 h5
  by_cases e : p = j
  ·subst e
   rw [if_pos rfl] at h4
   injection h4 with h4;subst h4
   rw [if_neg (by unfold Par at h2;omega),if_neg h1] at h5
   exact h.2 i k x b hp h2 h3 hx h5
  ·rw [if_neg e] at h4
   by_cases e2 : p = i
   ·subst e2
    rw [if_pos rfl] at h4
    injection h4 with h4;subst h4
    by_cases e3 : k = j
    ·subst e3
     rw [if_pos rfl] at h5
     injection h5 with h5;subst h5
     exact to.asy _ _ hlt
    ·rw [if_neg e3,if_neg h1] at h5
     exact to.tr _ _ _ (to.asy _ _ hlt) (h.1 p k x b e3 h2 h3 hx h5)
   ·rw [if_neg e2] at h4
    rw [if_neg (by unfold Par at h2 hp;omega),if_neg h1] at h5
    exact h.1 p k a b (by unfold Par at h2 hp;omega) h2 h3 h4 h5
 ·have e1 : p ≠ j := by unfold Par at h1 hp;omega
  have e2 : p ≠ i := by unfold Par at h1;omega
  rw [swp_get hx hy] at h4 h5
  rw [if_neg e1,if_neg e2] at h4
  have g1 := h.1 p i a x (by omega) h1 (by unfold Par at hp;omega) h4 hx
  by_cases e3 : k = j
  ·subst e3
   rw [if_pos rfl] at h5
   injection h5 with h5;subst h5
   exact g1
  ·rw [if_neg e3,if_neg (by unfold Par at h2;omega)] at h5
   exact to.tr _ _ _ g1 (h.1 i k x b e3 h2 h3 hx h5)
end
end Go.St
end
section
namespace Go.St
open Option renaming bind_some → ob
open List renaming getElem?_eq_getElem → ge,length_append → lap
section
variable {α : Type} {c : α → α → Int}
structure MI (c : α → α → Int) (l out : List α) (rem : List (List α)) : Prop where
 srt : Srt c out
 le : ∀ a ∈ out,∀ r ∈ rem,∀ b ∈ r,c a b ≤ 0
 runs : ∀ r ∈ rem,Srt c r
 sim : Sim c l (out ++ rem.flatten)
theorem MI.pop (tp : TP c) {l out : List α} {rem : List (List α)} (h : MI c l out rem) {i : Nat} {x : α} {xs : List α} (hi : rem[i]? = some (x :: xs))
  (hmin : ∀ j y ys,rem[j]? = some (y :: ys) → c x y ≤ 0 ∧ (j < i → c x y < 0)) : MI c l (out ++ [x]) (rem.set i xs) := by
 obtain ⟨hlt,hget⟩ := List.getElem?_eq_some_iff.1 hi
 have hmem : x :: xs ∈ rem := List.mem_of_getElem? hi
 have hx := List.pairwise_cons.1 (h.runs _ hmem)
 have hset : ∀ r,r ∈ rem.set i xs → r ∈ rem ∨ r = xs := fun r hr => List.mem_or_eq_of_mem_set hr
 have hall : ∀ r ∈ rem,∀ b ∈ r,c x b ≤ 0 := fun r hr b hb => by
  obtain ⟨j,hj⟩ := List.getElem?_of_mem hr
  cases r with
  | nil => cases hb
  | cons y ys =>
   have h1 := (hmin j y ys hj).1
   rcases List.mem_cons.1 hb with rfl | hb
   ·exact h1
   ·exact tp.trans _ _ _ h1 ((List.pairwise_cons.1 (h.runs _ hr)).1 b hb)
 have hpre : ∀ r ∈ rem.take i,∀ b ∈ r,c x b < 0 := fun r hr b hb => by
  obtain ⟨j,hj⟩ := List.getElem?_of_mem hr
  have hji : j < i := by
   have := (List.getElem?_eq_some_iff.1 hj).1
   rw [List.length_take] at this
   omega
  rw [List.getElem?_take_of_lt hji] at hj
  have hr' := List.mem_of_getElem? hj
  cases r with
  | nil => cases hb
  | cons y ys =>
   have h1 := (hmin j y ys hj).2 hji
   rcases List.mem_cons.1 hb with rfl | hb
   ·exact h1
   ·exact tp.lt_le h1 ((List.pairwise_cons.1 (h.runs _ hr')).1 b hb)
 refine ⟨Srt.app.2 ⟨h.srt,List.pairwise_singleton _ _,fun a ha b hb => by obtain rfl := List.mem_singleton.1 hb;exact h.le a ha _ hmem _ (List.mem_cons_self ..)⟩,fun a ha r hr b hb => ?_,fun r hr => ?_,h.sim.trans ?_⟩
 ·rcases List.mem_append.1 ha with ha | ha
  ·rcases hset r hr with hr | rfl
   ·exact h.le a ha r hr b hb
   ·exact h.le a ha _ hmem b (List.mem_cons_of_mem _ hb)
  ·obtain rfl := List.mem_singleton.1 ha
   rcases hset r hr with hr | rfl
   ·exact hall r hr b hb
   ·exact hx.1 b hb
 ·rcases hset r hr with hr | rfl
  ·exact h.runs r hr
  ·exact hx.2
 ·have e1 : rem = rem.take i ++ ((x :: xs) :: rem.drop (i + 1)) := by
   rw [← hget];simp
  have e2 : rem.set i xs = rem.take i ++ (xs :: rem.drop (i + 1)) := by
   rw [List.set_eq_take_append_cons_drop,if_pos hlt]
  rw [e2]
  refine Sim.trans (m := out ++ ((rem.take i).flatten ++ ([x] ++ (xs ++ (rem.drop (i + 1)).flatten)))) ?_ ?_
  ·have : rem.flatten = (rem.take i).flatten ++ ([x] ++ (xs ++ (rem.drop (i + 1)).flatten)) := by
    conv => lhs;rw [e1]
    simp
   rw [this];exact .rfl
  ·have : out ++ [x] ++ (rem.take i ++ xs :: rem.drop (i + 1)).flatten = out ++ ([x] ++ ((rem.take i).flatten ++ (xs ++ (rem.drop (i + 1)).flatten))) := by simp
   rw [this]
   refine .rot tp fun y hy z hz => ?_
   obtain rfl := List.mem_singleton.1 hz
   obtain ⟨r,hr,hyr⟩ := List.mem_flatten.1 hy
   have := hpre r hr y hyr
   have := tp.anti z y
   omega
theorem sym_le (tp : TP c) {A B C D : List α} (hAB : Srt c (A ++ B)) (hCD : Srt c (C ++ D)) (h1 : ∀ x ∈ A,∀ y ∈ D,c x y ≤ 0) (h2 : ∀ x ∈ B,∀ y ∈ C,c y x < 0) :
  Sim c (A ++ B ++ (C ++ D)) (A ++ C ++ (B ++ D)) ∧ ∀ x ∈ A ++ C,∀ y ∈ B ++ D,c x y ≤ 0 := by
 constructor
 ·have : Sim c (A ++ (B ++ (C ++ D))) (A ++ (C ++ (B ++ D))) := .rot tp fun x hx y hy => by
   have := h2 x hx y hy
   have := tp.anti y x
   omega
  simpa using this
 ·intro x hx y hy
  rcases List.mem_append.1 hx with hx | hx <;> rcases List.mem_append.1 hy with hy | hy
  ·exact (Srt.app.1 hAB).2.2 x hx y hy
  ·exact h1 x hx y hy
  ·have := h2 y hy x hx;omega
  ·exact (Srt.app.1 hCD).2.2 x hx y hy
theorem seam_le (tp : TP c) {A D : List α} (hA : Srt c A) (hD : Srt c D) (h : ∀ x y,A[A.length - 1]? = some x → D[0]? = some y → c x y ≤ 0) : ∀ x ∈ A,∀ y ∈ D,c x y ≤ 0 := by
 intro x hx y hy
 obtain ⟨i,hi⟩ := List.getElem?_of_mem hx
 obtain ⟨j,hj⟩ := List.getElem?_of_mem hy
 have hi' := (List.getElem?_eq_some_iff.1 hi).1
 have hj' := (List.getElem?_eq_some_iff.1 hj).1
 have ha := ge (l := A) (i := A.length - 1) (by omega)
 have hd := ge (l := D) (i := 0) (by omega)
 exact tp.trans _ _ _ (hA.get tp hi ha (by omega)) (tp.trans _ _ _ (h _ _ ha hd) (hD.get tp hd hj (by omega)))
theorem seam_lt (tp : TP c) {B C : List α} (hB : Srt c B) (hC : Srt c C) (h : ∀ x y,B[0]? = some x → C[C.length - 1]? = some y → c y x < 0) : ∀ x ∈ B,∀ y ∈ C,c y x < 0 := by
 intro x hx y hy
 obtain ⟨i,hi⟩ := List.getElem?_of_mem hx
 obtain ⟨j,hj⟩ := List.getElem?_of_mem hy
 have hi' := (List.getElem?_eq_some_iff.1 hi).1
 have hj' := (List.getElem?_eq_some_iff.1 hj).1
 have ha := ge (l := C) (i := C.length - 1) (by omega)
 have hd := ge (l := B) (i := 0) (by omega)
 exact tp.le_lt (hC.get tp hj ha (by omega)) (tp.lt_le (h _ _ hd ha) (hB.get tp hd hi (by omega)))
end
end Go.St
end
section
namespace Go.Proofs.YtimkkjiplioohaaGreatDoor
open Option renaming bind_some → ob
open List renaming getElem?_eq_getElem → ge,length_append → lap
open Go.Ab Go.Rp Go.St
theorem chk_ok {n : Int} (h1 : -9223372036854775808 ≤ n) (h2 : n ≤ 9223372036854775807) : chkI n = some n := by
 unfold chkI
 rw [if_pos ⟨h1,h2⟩]
theorem idx_nat {α : Type} {xs : List α} {i : Nat} {x : α} (h : xs[i]? = some x) : idx xs (i : Int) = some x := by
 unfold idx
 rw [if_pos (by omega),Int.toNat_natCast,h]
theorem ite_tt {α : Type} (a b : α) : (if true = true then a else b) = a := if_pos rfl
theorem ite_ft {α : Type} (a b : α) : (if false = true then a else b) = b := if_neg (by decide)
theorem iter_post {τ ρ : Type} (step : τ → Option (τ ⊕ ρ)) (μ : τ → Nat) (Inv : τ → Prop) (Post : ρ → Prop)
  (h : ∀ s,Inv s → (∃ s',step s = some (.inl s') ∧ Inv s' ∧ μ s' < μ s) ∨ ∃ r,step s = some (.inr r) ∧ Post r) :
  ∀ (n : Nat) (s : τ),Inv s → μ s < n → ∃ r,iterN step n s = some r ∧ Post r := by
 intro n
 induction n with
 | zero => intro s _ h;omega
 | succ n ih =>
  intro s hi hm
  rw [iterN_succ]
  rcases h s hi with ⟨s',h1,h2,h3⟩ | ⟨r,h1,h2⟩
  ·rw [h1];exact ih s' h2 (by omega)
  ·rw [h1];exact ⟨r,rfl,h2⟩
theorem bind_ex {α β : Type} {d : Option α} {k : α → Option β} {P : α → Prop} {Q : β → Prop} (h : ∃ s,d = some s ∧ P s) (h2 : ∀ s,P s → ∃ r,k s = some r ∧ Q r) : ∃ r,d.bind k = some r ∧ Q r := by
 obtain ⟨s,rfl,hp⟩ := h
 exact h2 s hp
theorem bindO_ex {β ρ : Type} {d : Option (Out β ρ)} {k : β → Option ρ} {P : Out β ρ → Prop} {Q : ρ → Prop} (h : ∃ s,d = some s ∧ P s) (h1 : ∀ x,P (.ret x) → Q x) (h2 : ∀ b,P (.go b) → ∃ r,k b = some r ∧ Q r) : ∃ r,bindO d k = some r ∧ Q r := by
 obtain ⟨s,rfl,hp⟩ := h
 cases s with
 | go b => exact h2 b hp
 | ret x => exact ⟨x,rfl,h1 x hp⟩
theorem take_succ' {α : Type} {xs : List α} {j : Nat} {x : α} (h : xs[j]? = some x) : xs.take (j + 1) = xs.take j ++ [x] := by
 rw [List.take_add_one,h];rfl
theorem idx_app {α : Type} {P Q : List α} {x : α} {v : Int} (h : v = P.length) : idx (P ++ x :: Q) v = some x := by
 rw [h]
 exact idx_nat (by simp)
theorem setI_app {α : Type} {P Q : List α} {x y : α} {v : Int} (h : v = P.length) : setI (P ++ x :: Q) v y = P ++ y :: Q := by
 unfold setI
 rw [h,Int.toNat_natCast]
 simp
theorem lenG_ok {a b : Nat} (h : a = b) : lenG a b = some () := by unfold lenG;rw [if_pos h]
theorem half_ok {v : Int} (h0 : 0 ≤ v) (h1 : v ≤ 9223372036854775807) : chkI (shrI (IntKind.u64.wrap v) 1) = some (v / 2) := by
 have : IntKind.u64.wrap v = v := by
  rw [IntKind.wrap_u64];omega
 rw [this]
 have e : shrI v 1 = v / 2 := by
  unfold shrI
  rw [Int.fdiv_eq_ediv_of_nonneg _ (by decide)]
  rfl
 rw [e,chk_ok (by omega) (by omega)]
abbrev Row := List S61
abbrev Cmp := List S61 → List S61 → Option Int
theorem d229_ok {N : Nat} {P A M B Q : List Row} {p : Cmp} {a1 a2 a3 : Int} (hl : A.length = B.length) (hN : A.length < N) (h1 : a1 = P.length) (h2 : a2 = P.length + A.length + M.length) (h3 : a3 = A.length) (hs : P.length + A.length + M.length + B.length ≤ 1000000) :
  d229 N (P ++ (A ++ (M ++ (B ++ Q)))) a1 a2 a3 p = some (P ++ (B ++ (M ++ (A ++ Q)))) := by
 have h : ∃ r,d229 N (P ++ (A ++ (M ++ (B ++ Q)))) a1 a2 a3 p = some r ∧ r = P ++ (B ++ (M ++ (A ++ Q))) := by
  unfold d229
  refine bind_ex (P := fun l => l = P ++ (B ++ (M ++ (A ++ Q)))) ?_ fun s hs => ⟨s,rfl,hs⟩
  refine iter_post _ (fun s : List Row × Int => A.length - s.2.toNat) (fun s : List Row × Int => ∃ j : Nat,s.2 = j ∧ j ≤ A.length ∧ s.1 = P ++ (B.take j ++ (A.drop j ++ (M ++ (A.take j ++ (B.drop j ++ Q)))))) _ ?_ N _ ⟨0,rfl,Nat.zero_le _,by simp⟩ (by simpa using hN)
  rintro ⟨l,v⟩ ⟨j,hv,hj,hl1⟩
  dsimp only at hv hl1 ⊢
  subst hv hl1
  by_cases hlt : (j : Int) < a3
  ·rw [if_pos hlt]
   have hja : j < A.length := by omega
   have hx := ge (l := A) (i := j) (by omega)
   have hy := ge (l := B) (i := j) (by omega)
   have ex : A.drop j = A[j] :: A.drop (j + 1) := List.drop_eq_getElem_cons (by omega)
   have ey : B.drop j = B[j] :: B.drop (j + 1) := List.drop_eq_getElem_cons (by omega)
   rw [ex,ey]
   generalize A[j] = x at *
   generalize hyy : B[j] = y at *
   have tj : (B.take j).length = j := by rw [List.length_take];omega
   have ta : (A.take j).length = j := by rw [List.length_take];omega
   have da : (A.drop (j + 1)).length = A.length - (j + 1) := List.length_drop
   have form : ∀ z w : Row,P ++ (B.take j ++ (z :: A.drop (j + 1) ++ (M ++ (A.take j ++ (w :: B.drop (j + 1) ++ Q))))) = (P ++ B.take j ++ z :: (A.drop (j + 1) ++ M ++ A.take j)) ++ w :: (B.drop (j + 1) ++ Q) := fun z w => by simp
   have form2 : ∀ z w : Row,P ++ (B.take j ++ (z :: A.drop (j + 1) ++ (M ++ (A.take j ++ (w :: B.drop (j + 1) ++ Q))))) = (P ++ B.take j) ++ z :: (A.drop (j + 1) ++ M ++ A.take j ++ w :: (B.drop (j + 1) ++ Q)) := fun z w => by simp
   have len2 : ∀ z : Row,a2 + j = ((P ++ B.take j ++ z :: (A.drop (j + 1) ++ M ++ A.take j)).length : Int) := fun z => by simp only [lap,List.length_cons,tj,ta,da];omega
   have len1 : a1 + j = ((P ++ B.take j).length : Int) := by simp only [lap,tj];omega
   have i2 : ∀ z w : Row,idx (P ++ (B.take j ++ (z :: A.drop (j + 1) ++ (M ++ (A.take j ++ (w :: B.drop (j + 1) ++ Q)))))) (a2 + j) = some w := fun z w => by rw [form z w];exact idx_app (len2 z)
   have i1 : ∀ z w : Row,idx (P ++ (B.take j ++ (z :: A.drop (j + 1) ++ (M ++ (A.take j ++ (w :: B.drop (j + 1) ++ Q)))))) (a1 + j) = some z := fun z w => by rw [form2 z w];exact idx_app len1
   have s1 : ∀ z w u : Row,setI (P ++ (B.take j ++ (z :: A.drop (j + 1) ++ (M ++ (A.take j ++ (w :: B.drop (j + 1) ++ Q)))))) (a1 + j) u = P ++ (B.take j ++ (u :: A.drop (j + 1) ++ (M ++ (A.take j ++ (w :: B.drop (j + 1) ++ Q))))) := fun z w u => by rw [form2 z w,form2 u w];exact setI_app len1
   have s2 : ∀ z w u : Row,setI (P ++ (B.take j ++ (z :: A.drop (j + 1) ++ (M ++ (A.take j ++ (w :: B.drop (j + 1) ++ Q)))))) (a2 + j) u = P ++ (B.take j ++ (z :: A.drop (j + 1) ++ (M ++ (A.take j ++ (u :: B.drop (j + 1) ++ Q))))) := fun z w u => by rw [form z w,form z u];exact setI_app (len2 z)
   rw [chk_ok (by omega) (by omega),ob,chk_ok (by omega) (by omega),ob,ob,i2,ob,ob,i1,ob,ob,letv_eq,s1,i2,ob,letv_eq,s2,chk_ok (by omega) (by omega),ob]
   refine .inl ⟨_,rfl,⟨j + 1,by simp,by omega,?_⟩,by dsimp only;omega⟩
   rw [take_succ' hx,take_succ' hy]
   simp
  ·rw [if_neg hlt]
   refine .inr ⟨_,rfl,?_⟩
   have : j = A.length := by omega
   subst this
   simp [hl]
 obtain ⟨r,h1,rfl⟩ := h
 exact h1
theorem d204_ok {N : Nat} {P A B Q : List Row} {p : Cmp} {a1 a2 a3 : Int} (hA : A ≠ []) (hB : B ≠ []) (h1 : a1 = P.length) (h2 : a2 = P.length + A.length) (h3 : a3 = P.length + A.length + B.length) (hs : P.length + A.length + B.length ≤ 1000000) (hN : A.length + B.length < N) :
  d204 N (P ++ (A ++ (B ++ Q))) a1 a2 a3 p = some (P ++ (B ++ (A ++ Q))) := by
 have h : ∃ r,d204 N (P ++ (A ++ (B ++ Q))) a1 a2 a3 p = some r ∧ r = P ++ (B ++ (A ++ Q)) := by
  have la := List.length_pos_iff.2 hA
  have lb := List.length_pos_iff.2 hB
  unfold d204
  rw [chk_ok (by omega) (by omega),ob,chk_ok (by omega) (by omega),ob]
  refine bind_ex (P := fun s : List Row × Int => ∃ P' X Y Q',s.1 = P' ++ (X ++ (Y ++ Q')) ∧ s.2 = (X.length : Int) ∧ Y.length = X.length ∧ a2 = P'.length + X.length ∧ P' ++ (Y ++ (X ++ Q')) = P ++ (B ++ (A ++ Q)) ∧ P'.length + X.length + Y.length ≤ 1000000 ∧ X.length + Y.length ≤ A.length + B.length) ?_ ?_
  ·refine iter_post _ (fun s : List Row × Int × Int => s.2.1.toNat + s.2.2.toNat) (fun s : List Row × Int × Int => ∃ P' X Y Q',s.1 = P' ++ (X ++ (Y ++ Q')) ∧ s.2.1 = (X.length : Int) ∧ s.2.2 = (Y.length : Int) ∧ X ≠ [] ∧ Y ≠ [] ∧ a2 = P'.length + X.length ∧ P' ++ (Y ++ (X ++ Q')) = P ++ (B ++ (A ++ Q)) ∧ P'.length + X.length + Y.length ≤ 1000000 ∧ X.length + Y.length ≤ A.length + B.length) _ ?_ N _ ⟨P,A,B,Q,rfl,by dsimp only;omega,by dsimp only;omega,hA,hB,h2,rfl,hs,Nat.le_refl _⟩ (by dsimp only;omega)
   rintro ⟨l,i,j⟩ ⟨P',X,Y,Q',hl,hi,hj,hX,hY,e2,et,hs',hb⟩
   dsimp only at hl hi hj ⊢
   subst hl hi hj
   have lx := List.length_pos_iff.2 hX
   have ly := List.length_pos_iff.2 hY
   by_cases hne : X.length = Y.length
   ·rw [if_neg (by simp [hne])]
    exact .inr ⟨_,rfl,P',X,Y,Q',rfl,rfl,hne.symm,e2,et,hs',hb⟩
   ·rw [if_pos (by simp;omega)]
    by_cases hgt : X.length > Y.length
    ·rw [if_pos (by omega),chk_ok (by omega) (by omega),ob]
     have hX1 : (X.take Y.length).length = Y.length := by rw [List.length_take];omega
     have hX2 : (X.drop Y.length).length = X.length - Y.length := List.length_drop
     have eX : X = X.take Y.length ++ X.drop Y.length := (List.take_append_drop ..).symm
     generalize X.take Y.length = X1 at eX hX1
     generalize X.drop Y.length = X2 at eX hX2
     subst eX
     rw [lap] at *
     rw [show P' ++ (X1 ++ X2 ++ (Y ++ Q')) = P' ++ (X1 ++ (X2 ++ (Y ++ Q'))) by simp,d229_ok hX1 (by omega) (by omega) (by omega) (by omega) (by omega),ob,lenG_ok (by simp only [lap];omega),ob,chk_ok (by omega) (by omega),ob]
     refine .inl ⟨_,rfl,⟨P' ++ Y,X2,X1,Q',by simp,by dsimp only;omega,by dsimp only;omega,fun e => ?_,fun e => ?_,by rw [lap];omega,by rw [← et];simp,by rw [lap];omega,by omega⟩,by dsimp only;omega⟩
     ·have := congrArg List.length e;simp only [List.length_nil] at this;omega
     ·have := congrArg List.length e;simp only [List.length_nil] at this;omega
    ·rw [if_neg (by omega),chk_ok (by omega) (by omega),ob,chk_ok (by omega) (by omega),ob,chk_ok (by omega) (by omega),ob]
     have hY1 : (Y.take (Y.length - X.length)).length = Y.length - X.length := by rw [List.length_take];omega
     have hY2 : (Y.drop (Y.length - X.length)).length = X.length := by rw [List.length_drop];omega
     have eY : Y = Y.take (Y.length - X.length) ++ Y.drop (Y.length - X.length) := (List.take_append_drop ..).symm
     generalize Y.take (Y.length - X.length) = Y1 at eY hY1
     generalize Y.drop (Y.length - X.length) = Y2 at eY hY2
     subst eY
     rw [lap] at *
     rw [show P' ++ (X ++ (Y1 ++ Y2 ++ Q')) = P' ++ (X ++ (Y1 ++ (Y2 ++ Q'))) by simp,d229_ok hY2.symm (by omega) (by omega) (by omega) (by omega) (by omega),ob,lenG_ok (by simp only [lap];omega),ob,chk_ok (by omega) (by omega),ob]
     refine .inl ⟨_,rfl,⟨P',Y2,Y1,X ++ Q',by simp,by dsimp only;omega,by dsimp only;omega,fun e => ?_,fun e => ?_,by omega,by rw [← et];simp,by omega,by omega⟩,by dsimp only;omega⟩
     ·have := congrArg List.length e;simp only [List.length_nil] at this;omega
     ·have := congrArg List.length e;simp only [List.length_nil] at this;omega
  ·rintro ⟨l,i⟩ ⟨P',X,Y,Q',hl,hi,hxy,e2,et,hs',hb⟩
   dsimp only at hl hi ⊢
   subst hl hi
   rw [chk_ok (by omega) (by omega),ob]
   have := d229_ok (N := N) (P := P') (A := X) (M := []) (B := Y) (Q := Q') (p := p) (a1 := a2 - X.length) (a2 := a2) (a3 := X.length) hxy.symm (by omega) (by omega) (by simp;omega) rfl (by simp;omega)
   simp only [List.nil_append] at this
   rw [this,ob,lenG_ok (by simp only [lap];omega),ob]
   exact ⟨_,rfl,et⟩
 obtain ⟨r,h1,rfl⟩ := h
 exact h1
end Go.Proofs.YtimkkjiplioohaaGreatDoor
end
section
namespace Go.Proofs.YtimkkjiplioohaaGreatDoor
open Option renaming bind_some → ob
open List renaming getElem?_eq_getElem → ge,length_append → lap
open Go.Ab Go.Rp Go.St
theorem iter_po {τ ρ : Type} (step : τ → Option (τ ⊕ ρ)) (μ : τ → Nat) (Inv : τ → Prop) (Post : ρ → Prop)
  (h : ∀ s,Inv s → ∃ o,step s = some o ∧ (match o with | .inl s' => Inv s' ∧ μ s' < μ s | .inr r => Post r)) : ∀ (n : Nat) (s : τ),Inv s → μ s < n → ∃ r,iterN step n s = some r ∧ Post r :=
 iter_post step μ Inv Post fun s hi => by
  obtain ⟨o,h1,h2⟩ := h s hi
  cases o with
  | inl s' => exact .inl ⟨s',h1,h2.1,h2.2⟩
  | inr r => exact .inr ⟨r,h1,h2⟩
theorem bind_to {α β : Type} {d : Option α} {k : α → Option β} {r : β} (v : α) (h : ∃ s,d = some s ∧ s = v) (h2 : k v = some r) : d.bind k = some r := by
 obtain ⟨s,rfl,rfl⟩ := h
 exact h2
theorem adj {U W : List Row} {i j : Int} (hi : i = U.length) (hj : j = U.length + 1) (z w : Row) :
  idx (U ++ z :: w :: W) i = some z ∧ idx (U ++ z :: w :: W) j = some w ∧ (∀ u,setI (U ++ z :: w :: W) i u = U ++ u :: w :: W) ∧ ∀ u,setI (U ++ z :: w :: W) j u = U ++ z :: u :: W := by
 have e : ∀ u,U ++ z :: u :: W = (U ++ [z]) ++ u :: W := fun u => by simp
 have hj' : j = ((U ++ [z]).length : Int) := by simp;omega
 exact ⟨idx_app hi,by rw [e];exact idx_app hj',fun u => setI_app hi,fun u => by rw [e,e];exact setI_app hj'⟩
theorem idx_mid {P A R : List Row} {k : Nat} {x : Row} {v : Int} (h : A[k]? = some x) (hv : v = P.length + k) : idx (P ++ (A ++ R)) v = some x := by
 obtain ⟨h1,rfl⟩ := List.getElem?_eq_some_iff.1 h
 rw [hv,← Int.natCast_add]
 refine idx_nat ?_
 rw [List.getElem?_append_right (by omega),Nat.add_sub_cancel_left,List.getElem?_append_left h1,ge h1]
section
variable {p : Cmp} {c : Row → Row → Int} {G : Row → Prop}
theorem d168_ok (tp : TP c) (hp : ∀ x y,G x → G y → p x y = some (c x y)) {N : Nat} {P A Q : List Row} {a1 a2 : Int} (hG : ∀ x ∈ A,G x) (h1 : a1 = P.length) (h2 : a2 = P.length + A.length) (hs : P.length + A.length ≤ 1000000) (hN : A.length + 1 < N) :
  ∃ X,d168 N (P ++ (A ++ Q)) a1 a2 p = some (P ++ (X ++ Q)) ∧ Srt c X ∧ Sim c A X := by
 have h : ∃ l,d168 N (P ++ (A ++ Q)) a1 a2 p = some l ∧ ∃ X,l = P ++ (X ++ Q) ∧ Srt c X ∧ Sim c A X := by
  unfold d168
  rw [chk_ok (by omega) (by omega),ob]
  refine bind_ex (P := fun l => ∃ X,l = P ++ (X ++ Q) ∧ Srt c X ∧ Sim c A X) ?_ fun l hl => ⟨l,rfl,hl⟩
  cases hA : A with
  | nil =>
   obtain ⟨M,rfl⟩ : ∃ M,N = M + 1 := ⟨N - 1,by omega⟩
   rw [iterN_succ]
   dsimp only
   rw [if_neg (by rw [hA] at h2;simp only [List.length_nil] at h2;omega)]
   exact ⟨_,rfl,[],rfl,List.Pairwise.nil,.rfl⟩
  | cons x0 R0 =>
   refine iter_po _ (fun s : List Row × Int => (a2 - s.2).toNat) (fun s : List Row × Int => ∃ X R,s.1 = P ++ (X ++ (R ++ Q)) ∧ s.2 = P.length + X.length ∧ X ≠ [] ∧ Srt c X ∧ Sim c A (X ++ R)) _ ?_ N _ ⟨[x0],R0,by simp,by simp;omega,by simp,List.pairwise_singleton _ _,by rw [hA];exact .rfl⟩ (by dsimp only;omega)
   rintro ⟨l,v⟩ ⟨X,R,hl,hv,hX,hsX,hsim⟩
   dsimp only at hl hv ⊢
   subst hl hv
   have hlen := hsim.len tp
   rw [lap] at hlen
   by_cases hlt : (P.length + X.length : Int) < a2
   ·rw [if_pos hlt]
    cases R with
    | nil => simp only [List.length_nil] at hlen;omega
    | cons y R =>
     simp only [List.length_cons] at hlen
     have gy : G y := hG y (hsim.symm.mem tp (by simp))
     have gX : ∀ x ∈ X,G x := fun x hx => hG x (hsim.symm.mem tp (by simp [hx]))
     refine bind_ex (P := fun l => ∃ S T,l = P ++ (S ++ (y :: (T ++ (R ++ Q)))) ∧ X = S ++ T ∧ (∀ t ∈ T,c y t < 0) ∧ ∀ s ∈ S,c s y ≤ 0) ?_ ?_
     ·refine iter_po _ (fun s : List Row × Int => (s.2 - a1).toNat) (fun s : List Row × Int => ∃ S T,s.1 = P ++ (S ++ (y :: (T ++ (R ++ Q)))) ∧ s.2 = P.length + S.length ∧ X = S ++ T ∧ ∀ t ∈ T,c y t < 0) _ ?_ N _ ⟨X,[],by simp,rfl,by simp,by simp⟩ (by dsimp only;omega)
      rintro ⟨l,j⟩ ⟨S,T,hl,hj,hST,hT⟩
      dsimp only at hl hj ⊢
      subst hl hj
      have hSn := congrArg List.length hST
      rw [lap] at hSn
      by_cases hgt : (P.length + S.length : Int) > a1
      ·rw [if_pos hgt]
       have hS : S ≠ [] := fun e => by rw [e] at hgt;simp only [List.length_nil] at hgt;omega
       obtain ⟨S',z,rfl⟩ : ∃ S' z,S = S' ++ [z] := ⟨S.dropLast,S.getLast hS,(List.dropLast_concat_getLast hS).symm⟩
       rw [lap,List.length_singleton] at *
       rw [show P ++ (S' ++ [z] ++ (y :: (T ++ (R ++ Q)))) = (P ++ S') ++ z :: y :: (T ++ (R ++ Q)) by simp]
       have e1 : ((P.length : Int) + ((S'.length + 1 : Nat) : Int)) - 1 = ((P ++ S').length : Int) := by rw [lap];omega
       have e2 : ((P.length : Int) + ((S'.length + 1 : Nat) : Int)) = ((P ++ S').length : Int) + 1 := by rw [lap];omega
       have ad := adj (W := T ++ (R ++ Q)) e1 e2
       rw [(ad z y).2.1,ob,chk_ok (by omega) (by omega),ob,(ad z y).1,ob,hp y z gy (gX z (by rw [hST];simp)),ob,ob]
       by_cases hc : c y z < 0
       ·rw [if_pos (decide_eq_true hc),ob,ob,(ad z y).1,ob,ob,letv_eq,(ad z y).2.2.2,(ad z z).1,ob,letv_eq,(ad z z).2.2.1,ob]
        refine ⟨_,rfl,⟨S',z :: T,by simp,by dsimp only;omega,by rw [hST];simp,fun t ht => ?_⟩,by dsimp only;omega⟩
        rcases List.mem_cons.1 ht with rfl | ht
        ·exact hc
        ·exact hT t ht
       ·rw [if_neg (by rw [decide_eq_true_iff];exact hc)]
        refine ⟨_,rfl,S' ++ [z],T,by simp,hST,hT,fun s hs => ?_⟩
        have hzy := tp.ge hc
        rcases List.mem_append.1 hs with hs | hs
        ·rw [hST] at hsX
         have := (Srt.app.1 (Srt.app.1 hsX).1).2.2 s hs z (by simp)
         exact tp.trans _ _ _ this hzy
        ·obtain rfl := List.mem_singleton.1 hs
         exact hzy
      ·rw [if_neg hgt,ob,ite_ft]
       have hS : S = [] := List.eq_nil_of_length_eq_zero (by omega)
       subst hS
       exact ⟨_,rfl,[],T,rfl,hST,hT,by simp⟩
     ·rintro l ⟨S,T,rfl,hST,hT,hS⟩
      rw [chk_ok (by omega) (by omega),ob]
      have hSn := congrArg List.length hST
      rw [lap] at hSn
      have hsX' := hsX
      rw [hST] at hsX'
      obtain ⟨s1,s2,s3⟩ := Srt.app.1 hsX'
      refine ⟨_,rfl,⟨S ++ (y :: T),R,by simp,by simp only [lap,List.length_cons];omega,by simp,Srt.app.2 ⟨s1,List.pairwise_cons.2 ⟨fun t ht => by have := hT t ht;omega,s2⟩,fun s hs t ht => ?_⟩,?_⟩,by dsimp only;omega⟩
      ·rcases List.mem_cons.1 ht with rfl | ht
       ·exact hS s hs
       ·exact s3 s hs t ht
      ·refine hsim.trans ?_
       rw [hST]
       have := Sim.rot (c := c) tp (p := S) (a := T) (b := [y]) (q := R) fun x hx z hz => by
        obtain rfl := List.mem_singleton.1 hz
        have := hT x hx
        have := tp.anti z x
        omega
       simpa using this
   ·rw [if_neg hlt]
    cases R with
    | cons y R => simp only [List.length_cons] at hlen;omega
    | nil => exact ⟨_,rfl,X,by simp,hsX,by rw [hA] at hsim;simpa using hsim⟩
 obtain ⟨l,h3,X,rfl,h4,h5⟩ := h
 exact ⟨X,h3,h4,h5⟩
theorem up_ok {N : Nat} {P B1 R : List Row} {x : Row} {a1 i : Int} (h1 : a1 = P.length) (hi : i = P.length + B1.length + 1) (hs : P.length + B1.length ≤ 1000000) (hN : B1.length + 1 < N) :
  iterN (σ := ((List (List S61)) × Int)) (ρ := List (List S61)) (fun ((l69,v70) : ((List (List S61)) × Int)) =>
     (chkI (i - 1)).bind fun v100 =>
     if v70 < v100 then (
      (chkI (v70 + 1)).bind fun v102 =>
      (chkI (v70 + 1)).bind fun v103 =>
      (idx l69 v103).bind fun x104 =>
      (idx l69 v70).bind fun x106 =>
      letv (setI l69 v70 x104) fun l108 =>
      (idx l108 v102).bind fun _x109 =>
      letv (setI l108 v102 x106) fun l111 =>
      (chkI (v70 + 1)).bind fun v112 =>
      some (.inl (l111,v112))
     ) else
     some (.inr l69)
    ) N (P ++ x :: (B1 ++ R),a1) = some (P ++ (B1 ++ x :: R)) := by
 have h : ∃ r,iterN (σ := ((List (List S61)) × Int)) (ρ := List (List S61)) (fun ((l69,v70) : ((List (List S61)) × Int)) =>
     (chkI (i - 1)).bind fun v100 =>
     if v70 < v100 then (
      (chkI (v70 + 1)).bind fun v102 =>
      (chkI (v70 + 1)).bind fun v103 =>
      (idx l69 v103).bind fun x104 =>
      (idx l69 v70).bind fun x106 =>
      letv (setI l69 v70 x104) fun l108 =>
      (idx l108 v102).bind fun x109 =>
      letv (setI l108 v102 x106) fun l111 =>
      (chkI (v70 + 1)).bind fun v112 =>
      some (.inl (l111,v112))
     ) else
     some (.inr l69)
    ) N (P ++ x :: (B1 ++ R),a1) = some r ∧ r = P ++ (B1 ++ x :: R) := by
  refine iter_po _ (fun s : List Row × Int => (i - s.2).toNat) (fun s : List Row × Int => ∃ S T,B1 = S ++ T ∧ s.1 = P ++ (S ++ (x :: (T ++ R))) ∧ s.2 = P.length + S.length) _ ?_ N _ ⟨[],B1,rfl,by simp,by simp;omega⟩ (by dsimp only;omega)
  rintro ⟨l,k⟩ ⟨S,T,hB,hl,hk⟩
  dsimp only at hl hk ⊢
  subst hl hk
  have hBn := congrArg List.length hB
  rw [lap] at hBn
  rw [chk_ok (by omega) (by omega),ob]
  cases T with
  | nil =>
   simp only [List.length_nil] at hBn
   rw [if_neg (by omega)]
   exact ⟨_,rfl,by rw [hB];simp⟩
  | cons t T =>
   simp only [List.length_cons] at hBn
   rw [if_pos (by omega)]
   rw [show P ++ (S ++ (x :: (t :: T ++ R))) = (P ++ S) ++ x :: t :: (T ++ R) by simp]
   have e1 : ((P.length : Int) + (S.length : Int)) = ((P ++ S).length : Int) := by rw [lap];omega
   have e2 : ((P.length : Int) + (S.length : Int)) + 1 = ((P ++ S).length : Int) + 1 := by rw [lap];omega
   have ad := adj (W := T ++ R) e1 e2
   rw [chk_ok (by omega) (by omega),ob,ob,(ad x t).2.1,ob,(ad x t).1,ob,letv_eq,(ad x t).2.2.1,(ad t t).2.1,ob,letv_eq,(ad t t).2.2.2,ob]
   exact ⟨_,rfl,⟨S ++ [t],T,by rw [hB];simp,by simp,by simp only [lap,List.length_singleton];omega⟩,by dsimp only;omega⟩
 obtain ⟨r,h3,rfl⟩ := h
 exact h3
theorem down_ok {N : Nat} {P A2 R : List Row} {y : Row} {a2 i : Int} (hi : i = P.length) (h2 : a2 = P.length + A2.length) (hs : P.length + A2.length ≤ 1000000) (hN : A2.length < N) :
  iterN (σ := ((List (List S61)) × Int)) (ρ := List (List S61)) (fun ((l180,v181) : ((List (List S61)) × Int)) =>
     if v181 > i then (
      (chkI (v181 - 1)).bind fun v210 =>
      (chkI (v181 - 1)).bind fun v211 =>
      (idx l180 v211).bind fun x212 =>
      (idx l180 v181).bind fun x214 =>
      letv (setI l180 v181 x212) fun l216 =>
      (idx l216 v210).bind fun _x217 =>
      letv (setI l216 v210 x214) fun l219 =>
      (chkI (v181 - 1)).bind fun v220 =>
      some (.inl (l219,v220))
     ) else
     some (.inr l180)
    ) N (P ++ (A2 ++ y :: R),a2) = some (P ++ y :: (A2 ++ R)) := by
 have h : ∃ r,iterN (σ := ((List (List S61)) × Int)) (ρ := List (List S61)) (fun ((l180,v181) : ((List (List S61)) × Int)) =>
     if v181 > i then (
      (chkI (v181 - 1)).bind fun v210 =>
      (chkI (v181 - 1)).bind fun v211 =>
      (idx l180 v211).bind fun x212 =>
      (idx l180 v181).bind fun x214 =>
      letv (setI l180 v181 x212) fun l216 =>
      (idx l216 v210).bind fun x217 =>
      letv (setI l216 v210 x214) fun l219 =>
      (chkI (v181 - 1)).bind fun v220 =>
      some (.inl (l219,v220))
     ) else
     some (.inr l180)
    ) N (P ++ (A2 ++ y :: R),a2) = some r ∧ r = P ++ y :: (A2 ++ R) := by
  refine iter_po _ (fun s : List Row × Int => (s.2 - i).toNat) (fun s : List Row × Int => ∃ S T,A2 = S ++ T ∧ s.1 = P ++ (S ++ (y :: (T ++ R))) ∧ s.2 = P.length + S.length) _ ?_ N _ ⟨A2,[],by simp,by simp,by simp;omega⟩ (by dsimp only;omega)
  rintro ⟨l,k⟩ ⟨S,T,hB,hl,hk⟩
  dsimp only at hl hk ⊢
  subst hl hk
  have hBn := congrArg List.length hB
  rw [lap] at hBn
  by_cases hS : S = []
  ·subst hS
   rw [if_neg (by simp only [List.length_nil];omega)]
   exact ⟨_,rfl,by rw [hB];simp⟩
  ·obtain ⟨S',z,rfl⟩ : ∃ S' z,S = S' ++ [z] := ⟨S.dropLast,S.getLast hS,(List.dropLast_concat_getLast hS).symm⟩
   rw [lap,List.length_singleton] at *
   rw [if_pos (by omega)]
   rw [show P ++ (S' ++ [z] ++ (y :: (T ++ R))) = (P ++ S') ++ z :: y :: (T ++ R) by simp]
   have e1 : ((P.length : Int) + ((S'.length + 1 : Nat) : Int)) - 1 = ((P ++ S').length : Int) := by rw [lap];omega
   have e2 : ((P.length : Int) + ((S'.length + 1 : Nat) : Int)) = ((P ++ S').length : Int) + 1 := by rw [lap];omega
   have ad := adj (W := T ++ R) e1 e2
   rw [chk_ok (by omega) (by omega),ob,ob,(ad z y).1,ob,(ad z y).2.1,ob,letv_eq,(ad z y).2.2.2,(ad z z).1,ob,letv_eq,(ad z z).2.2.1,ob]
   exact ⟨_,rfl,⟨S',z :: T,by rw [hB];simp,by simp,by dsimp only;omega⟩,by dsimp only;omega⟩
 obtain ⟨r,h3,rfl⟩ := h
 exact h3
end
end Go.Proofs.YtimkkjiplioohaaGreatDoor
end
section
namespace Go.Proofs.YtimkkjiplioohaaGreatDoor
open Option renaming bind_some → ob
open List renaming getElem?_eq_getElem → ge,length_append → lap
open Go.Ab Go.Rp Go.St
section
variable {p : Cmp} {c : Row → Row → Int} {G : Row → Prop}
theorem take_all {B : List Row} {k : Nat} {q : Row → Prop} (tp : TP c) (hB : Srt c B) (hq : ∀ x y,q y → c x y ≤ 0 → q x) (h : k = 0 ∨ ∀ y,B[k - 1]? = some y → q y) (hk : k ≤ B.length) : ∀ y ∈ B.take k,q y := by
 intro y hy
 obtain ⟨j,hj⟩ := List.getElem?_of_mem hy
 have hj' := (List.getElem?_eq_some_iff.1 hj).1
 rw [List.length_take] at hj'
 rw [List.getElem?_take_of_lt (by omega)] at hj
 rcases h with rfl | h
 ·omega
 ·have hx := ge (l := B) (i := k - 1) (by omega)
  exact hq y _ (h _ hx) (hB.get tp hj hx (by omega))
theorem drop_all {B : List Row} {k : Nat} {q : Row → Prop} (tp : TP c) (hB : Srt c B) (hq : ∀ x y,q x → c x y ≤ 0 → q y) (h : k = B.length ∨ ∀ y,B[k]? = some y → q y) (hk : k ≤ B.length) : ∀ y ∈ B.drop k,q y := by
 intro y hy
 obtain ⟨j,hj⟩ := List.getElem?_of_mem hy
 have hj' := (List.getElem?_eq_some_iff.1 hj).1
 rw [List.length_drop] at hj'
 rw [List.getElem?_drop] at hj
 rcases h with rfl | h
 ·omega
 ·have hx := ge (l := B) (i := k) (by omega)
  exact hq _ y (h _ hx) (hB.get tp hx hj (by omega))
theorem Srt.split {A : List Row} (h : Srt c A) (k : Nat) : Srt c (A.take k) ∧ Srt c (A.drop k) ∧ ∀ x ∈ A.take k,∀ y ∈ A.drop k,c x y ≤ 0 := by
 rw [← List.take_append_drop k A] at h
 exact Srt.app.1 h
theorem via {d : Option (List Row)} {f : List Row → List Row} {R : List Row → Prop} (h : ∃ l,d = some l ∧ ∃ X,l = f X ∧ R X) : ∃ X,d = some (f X) ∧ R X := by
 obtain ⟨l,h1,X,rfl,h2⟩ := h
 exact ⟨X,h1,h2⟩
theorem d169_ok (tp : TP c) (hp : ∀ x y,G x → G y → p x y = some (c x y)) : ∀ (N : Nat) (P A B Q : List Row) (a1 a2 a3 : Int),A ≠ [] → B ≠ [] → Srt c A → Srt c B → (∀ x ∈ A,G x) → (∀ x ∈ B,G x) → a1 = P.length → a2 = P.length + A.length → a3 = P.length + A.length + B.length →
  P.length + A.length + B.length ≤ 1000000 → 2 * (A.length + B.length) + 4 ≤ N → ∃ X,d169 N (P ++ (A ++ (B ++ Q))) a1 a2 a3 p = some (P ++ (X ++ Q)) ∧ Srt c X ∧ Sim c (A ++ B) X := by
 intro N
 induction N with
 | zero => intro P A B Q a1 a2 a3 hA hB _ _ _ _ _ _ _ _ hN;omega
 | succ N ih =>
 intro P A B Q a1 a2 a3 hA hB sA sB gA gB h1 h2 h3 hs hN
 have la := List.length_pos_iff.2 hA
 have lb := List.length_pos_iff.2 hB
 rw [d169,chk_ok (by omega) (by omega),ob]
 by_cases hA1 : A.length = 1
 ·rw [if_pos (by simp;omega)]
  obtain ⟨x,rfl⟩ := List.length_eq_one_iff.1 hA1
  have gx : G x := gA x (by simp)
  have hget : ∀ (k : Nat) (y : Row) (v : Int),B[k]? = some y → v = a2 + k → idx (P ++ ([x] ++ (B ++ Q))) v = some y := fun k y v h hv => by
   rw [show P ++ ([x] ++ (B ++ Q)) = (P ++ [x]) ++ (B ++ Q) by simp]
   exact idx_mid h (by rw [lap,List.length_singleton] at *;omega)
  have hx : idx (P ++ ([x] ++ (B ++ Q))) a1 = some x := idx_app h1
  rw [List.length_singleton] at *
  refine via (f := fun X => P ++ (X ++ Q)) (R := fun X => Srt c X ∧ Sim c ([x] ++ B) X) ?_
  refine bind_ex (P := fun i : Int => ∃ k : Nat,i = a2 + k ∧ k ≤ B.length ∧ (k = 0 ∨ ∀ y,B[k - 1]? = some y → c y x < 0) ∧ (k = B.length ∨ ∀ y,B[k]? = some y → c x y ≤ 0)) ?_ ?_
  rotate_left 2
  ·refine iter_po _ (fun s : Int × Int => (s.2 - s.1).toNat) (fun s : Int × Int => ∃ k q : Nat,s.1 = a2 + k ∧ s.2 = a2 + q ∧ k ≤ q ∧ q ≤ B.length ∧ (k = 0 ∨ ∀ y,B[k - 1]? = some y → c y x < 0) ∧ (q = B.length ∨ ∀ y,B[q]? = some y → c x y ≤ 0)) _ ?_ N _ ⟨0,B.length,by simp,by dsimp only;omega,Nat.zero_le _,Nat.le_refl _,.inl rfl,.inl rfl⟩ (by dsimp only;omega)
   rintro ⟨i,j⟩ ⟨k,q,hi,hj,hkq,hq,f1,f2⟩
   dsimp only at hi hj ⊢
   by_cases hlt : i < j
   ·rw [if_pos hlt,chk_ok (by omega) (by omega),ob,letv_eq,letv_eq,half_ok (by omega) (by omega),ob]
    obtain ⟨h,hh⟩ : ∃ h : Nat,(i + j) / 2 = a2 + h := ⟨((i + j) / 2 - a2).toNat,by omega⟩
    rw [hh]
    have hy := ge (l := B) (i := h) (by omega)
    have gy := gB B[h] (List.getElem_mem _)
    generalize B[h] = y at hy gy
    rw [hget h y _ hy rfl,ob,hx,ob,hp y x gy gx,ob]
    by_cases hc : c y x < 0
    ·rw [if_pos hc,chk_ok (by omega) (by omega),ob]
     exact ⟨_,rfl,⟨h + 1,q,by dsimp only;omega,hj,by omega,hq,.inr fun z hz => by rw [Nat.add_sub_cancel,hy] at hz;injection hz with hz;rw [← hz];exact hc,f2⟩,by dsimp only;omega⟩
    ·rw [if_neg hc]
     exact ⟨_,rfl,⟨k,h,hi,rfl,by omega,by omega,f1,.inr fun z hz => by rw [hy] at hz;injection hz with hz;rw [← hz];exact tp.ge hc⟩,by dsimp only;omega⟩
   ·rw [if_neg hlt]
    obtain rfl : k = q := by omega
    exact ⟨_,rfl,k,hi,hq,f1,f2⟩
  ·rintro i ⟨k,hi,hk,f1,f2⟩
   have t1 := take_all (q := fun y => c y x < 0) tp sB (fun a b h h' => tp.le_lt h' h) f1 hk
   have t2 := drop_all (q := fun y => c x y ≤ 0) tp sB (fun a b h h' => tp.trans _ _ _ h h') f2 hk
   obtain ⟨s1,s2,s3⟩ := Srt.split sB k
   have eB : B = B.take k ++ B.drop k := (List.take_append_drop ..).symm
   have l1 : (B.take k).length = k := by rw [List.length_take];omega
   have u := up_ok (N := N) (P := P) (B1 := B.take k) (R := B.drop k ++ Q) (x := x) (a1 := a1) (i := i) h1 (by omega) (by omega) (by omega)
   rw [show P ++ x :: (B.take k ++ (B.drop k ++ Q)) = P ++ ([x] ++ (B ++ Q)) by rw [← List.append_assoc,← eB];rfl] at u
   rw [u,ob]
   refine ⟨_,rfl,B.take k ++ x :: B.drop k,by simp,Srt.app.2 ⟨s1,List.pairwise_cons.2 ⟨t2,s2⟩,fun y hy z hz => ?_⟩,?_⟩
   ·rcases List.mem_cons.1 hz with rfl | hz
    ·have := t1 y hy;omega
    ·exact s3 y hy z hz
   ·have := Sim.rot (c := c) tp (p := []) (a := [x]) (b := B.take k) (q := B.drop k) fun y hy z hz => by
     obtain rfl := List.mem_singleton.1 hy
     have := t1 z hz
     have := tp.anti z y
     omega
    rw [← eB] at this
    simpa using this
 rw [if_neg (by simp;omega),chk_ok (by omega) (by omega),ob]
 by_cases hB1 : B.length = 1
 ·rw [if_pos (by simp;omega)]
  obtain ⟨y,rfl⟩ := List.length_eq_one_iff.1 hB1
  have gy : G y := gB y (by simp)
  have hget : ∀ (k : Nat) (x : Row) (v : Int),A[k]? = some x → v = a1 + k → idx (P ++ (A ++ ([y] ++ Q))) v = some x := fun k x v h hv => idx_mid h (by omega)
  have hy : idx (P ++ (A ++ ([y] ++ Q))) a2 = some y := by
   rw [← List.append_assoc]
   exact idx_app (by rw [lap];omega)
  rw [List.length_singleton] at *
  refine via (f := fun X => P ++ (X ++ Q)) (R := fun X => Srt c X ∧ Sim c (A ++ [y]) X) ?_
  refine bind_ex (P := fun i : Int => ∃ k : Nat,i = a1 + k ∧ k ≤ A.length ∧ (k = 0 ∨ ∀ x,A[k - 1]? = some x → c x y ≤ 0) ∧ (k = A.length ∨ ∀ x,A[k]? = some x → c y x < 0)) ?_ ?_
  rotate_left 2
  ·refine iter_po _ (fun s : Int × Int => (s.2 - s.1).toNat) (fun s : Int × Int => ∃ k q : Nat,s.1 = a1 + k ∧ s.2 = a1 + q ∧ k ≤ q ∧ q ≤ A.length ∧ (k = 0 ∨ ∀ x,A[k - 1]? = some x → c x y ≤ 0) ∧ (q = A.length ∨ ∀ x,A[q]? = some x → c y x < 0)) _ ?_ N _ ⟨0,A.length,by simp,by dsimp only;omega,Nat.zero_le _,Nat.le_refl _,.inl rfl,.inl rfl⟩ (by dsimp only;omega)
   rintro ⟨i,j⟩ ⟨k,q,hi,hj,hkq,hq,f1,f2⟩
   dsimp only at hi hj ⊢
   by_cases hlt : i < j
   ·rw [if_pos hlt,chk_ok (by omega) (by omega),ob,letv_eq,letv_eq,half_ok (by omega) (by omega),ob]
    obtain ⟨h,hh⟩ : ∃ h : Nat,(i + j) / 2 = a1 + h := ⟨((i + j) / 2 - a1).toNat,by omega⟩
    rw [hh]
    have hx := ge (l := A) (i := h) (by omega)
    have gx := gA A[h] (List.getElem_mem _)
    generalize A[h] = x at hx gx
    rw [hy,ob,hget h x _ hx rfl,ob,hp y x gy gx,ob]
    by_cases hc : c y x < 0
    ·rw [if_neg (by simp [hc])]
     exact ⟨_,rfl,⟨k,h,hi,rfl,by omega,by omega,f1,.inr fun z hz => by rw [hx] at hz;injection hz with hz;rw [← hz];exact hc⟩,by dsimp only;omega⟩
    ·rw [if_pos (by simp [hc]),chk_ok (by omega) (by omega),ob]
     exact ⟨_,rfl,⟨h + 1,q,by dsimp only;omega,hj,by omega,hq,.inr fun z hz => by rw [Nat.add_sub_cancel,hx] at hz;injection hz with hz;rw [← hz];exact tp.ge hc,f2⟩,by dsimp only;omega⟩
   ·rw [if_neg hlt]
    obtain rfl : k = q := by omega
    exact ⟨_,rfl,k,hi,hq,f1,f2⟩
  ·rintro i ⟨k,hi,hk,f1,f2⟩
   have t1 := take_all (q := fun x => c x y ≤ 0) tp sA (fun a b h h' => tp.trans _ _ _ h' h) f1 hk
   have t2 := drop_all (q := fun x => c y x < 0) tp sA (fun a b h h' => tp.lt_le h h') f2 hk
   obtain ⟨s1,s2,s3⟩ := Srt.split sA k
   have eA : A = A.take k ++ A.drop k := (List.take_append_drop ..).symm
   have l1 : (A.take k).length = k := by rw [List.length_take];omega
   have l2 : (A.drop k).length = A.length - k := List.length_drop
   have u := down_ok (N := N) (P := P ++ A.take k) (A2 := A.drop k) (R := Q) (y := y) (a2 := a2) (i := i) (by rw [lap];omega) (by rw [lap];omega) (by rw [lap];omega) (by omega)
   rw [show P ++ A.take k ++ (A.drop k ++ y :: Q) = P ++ (A ++ ([y] ++ Q)) by rw [List.append_assoc,← List.append_assoc (A.take k),← eA];rfl] at u
   rw [u,ob]
   refine ⟨_,rfl,A.take k ++ y :: A.drop k,by simp,Srt.app.2 ⟨s1,List.pairwise_cons.2 ⟨fun z hz => by have := t2 z hz;omega,s2⟩,fun x hx z hz => ?_⟩,?_⟩
   ·rcases List.mem_cons.1 hz with rfl | hz
    ·exact t1 x hx
    ·exact s3 x hx z hz
   ·have := Sim.rot (c := c) tp (p := A.take k) (a := A.drop k) (b := [y]) (q := []) fun x hx z hz => by
     obtain rfl := List.mem_singleton.1 hz
     have := t2 x hx
     have := tp.anti z x
     omega
    rw [← List.append_assoc,← eA] at this
    simpa using this
 rw [if_neg (by simp;omega),chk_ok (by omega) (by omega),ob,letv_eq,letv_eq,half_ok (by omega) (by omega),ob]
 obtain ⟨e,he⟩ : ∃ e : Nat,e = (A.length + B.length) / 2 := ⟨_,rfl⟩
 have hmid : (a1 + a3) / 2 = P.length + e := by omega
 rw [hmid,chk_ok (by omega) (by omega),ob]
 obtain ⟨k0,q0,hst,hk0,hq0,hkq0,hend⟩ : ∃ k0 q0 : Nat,(if a2 > (P.length + e : Int) then ((chkI ((P.length + e : Int) + a2 - a3)).bind fun v231 => some (v231,(P.length + e : Int))) else some (a1,a2)) = some ((P.length + k0 : Int),(P.length + q0 : Int)) ∧ (k0 = 0 ∨ B.length + k0 = e) ∧ (q0 = e ∨ q0 = A.length) ∧ k0 ≤ q0 ∧ (q0 ≤ e ∧ q0 ≤ A.length ∧ e ≤ B.length + k0 ∧ k0 ≤ A.length) := by
  by_cases hgt : A.length > e
  ·refine ⟨e - B.length,e,?_,by omega,.inl rfl,by omega,by omega⟩
   rw [if_pos (by omega),chk_ok (by omega) (by omega),ob]
   congr 2
   omega
  ·refine ⟨0,A.length,?_,.inl rfl,.inr rfl,by omega,by omega⟩
   rw [if_neg (by omega)]
   congr 2 <;> omega
 rw [hst,ob]
 dsimp only
 rw [chk_ok (by omega) (by omega),ob]
 have hgA : ∀ (k : Nat) (x : Row) (v : Int),A[k]? = some x → v = P.length + k → idx (P ++ (A ++ (B ++ Q))) v = some x := fun k x v h hv => idx_mid h hv
 have hgB : ∀ (k : Nat) (x : Row) (v : Int),B[k]? = some x → v = P.length + A.length + k → idx (P ++ (A ++ (B ++ Q))) v = some x := fun k x v h hv => by
  rw [← List.append_assoc]
  exact idx_mid h (by rw [lap];omega)
 refine via (f := fun X => P ++ (X ++ Q)) (R := fun X => Srt c X ∧ Sim c (A ++ B) X) ?_
 refine bind_ex (P := fun s : Int => ∃ k : Nat,s = P.length + k ∧ k0 ≤ k ∧ k ≤ q0 ∧ (k = k0 ∨ ∀ x y,A[k - 1]? = some x → B[e - k]? = some y → c x y ≤ 0) ∧ (k = q0 ∨ ∀ x y,A[k]? = some x → B[e - 1 - k]? = some y → c y x < 0)) ?_ ?_
 rotate_left 2
 ·refine iter_po _ (fun s : Int × Int => (s.2 - s.1).toNat) (fun s : Int × Int => ∃ k q : Nat,s.1 = P.length + k ∧ s.2 = P.length + q ∧ k0 ≤ k ∧ k ≤ q ∧ q ≤ q0 ∧ (k = k0 ∨ ∀ x y,A[k - 1]? = some x → B[e - k]? = some y → c x y ≤ 0) ∧ (q = q0 ∨ ∀ x y,A[q]? = some x → B[e - 1 - q]? = some y → c y x < 0)) _ ?_ N _ ⟨k0,q0,rfl,rfl,Nat.le_refl _,hkq0,Nat.le_refl _,.inl rfl,.inl rfl⟩ (by dsimp only;omega)
  rintro ⟨i,j⟩ ⟨k,q,hi,hj,hk,hkq,hq,f1,f2⟩
  dsimp only at hi hj ⊢
  by_cases hlt : i < j
  ·rw [if_pos hlt,chk_ok (by omega) (by omega),ob,letv_eq,letv_eq,half_ok (by omega) (by omega),ob]
   obtain ⟨h,hh⟩ : ∃ h : Nat,(i + j) / 2 = P.length + h := ⟨((i + j) / 2 - P.length).toNat,by omega⟩
   rw [hh,chk_ok (by omega) (by omega),ob]
   have hx := ge (l := A) (i := h) (by omega)
   have gx := gA A[h] (List.getElem_mem _)
   have hy := ge (l := B) (i := e - 1 - h) (by omega)
   have gy := gB B[e - 1 - h] (List.getElem_mem _)
   generalize A[h] = x at hx gx
   generalize B[e - 1 - h] = y at hy gy
   rw [hgB _ y _ hy (by omega),ob,hgA _ x _ hx rfl,ob,hp y x gy gx,ob]
   by_cases hc : c y x < 0
   ·rw [if_neg (by simp [hc])]
    exact ⟨_,rfl,⟨k,h,hi,rfl,hk,by omega,by omega,f1,.inr fun x' y' hx' hy' => by rw [hx] at hx';rw [hy] at hy';injection hx' with hx';injection hy' with hy';rw [← hx',← hy'];exact hc⟩,by dsimp only;omega⟩
   ·rw [if_pos (by simp [hc]),chk_ok (by omega) (by omega),ob]
    exact ⟨_,rfl,⟨h + 1,q,by dsimp only;omega,hj,by omega,by omega,hq,.inr fun x' y' hx' hy' => by rw [Nat.add_sub_cancel,hx] at hx';rw [show e - (h + 1) = e - 1 - h by omega,hy] at hy';injection hx' with hx';injection hy' with hy';rw [← hx',← hy'];exact tp.ge hc,f2⟩,by dsimp only;omega⟩
  ·rw [if_neg hlt]
   obtain rfl : k = q := by omega
   exact ⟨_,rfl,k,hi,hk,hq,f1,f2⟩
 ·rintro s ⟨k,rfl,hk,hkq,f1,f2⟩
  rw [chk_ok (by omega) (by omega),ob]
  have eA : A = A.take k ++ A.drop k := (List.take_append_drop ..).symm
  have eB : B = B.take (e - k) ++ B.drop (e - k) := (List.take_append_drop ..).symm
  have lA1 : (A.take k).length = k := by rw [List.length_take];omega
  have lA2 : (A.drop k).length = A.length - k := List.length_drop
  have lB1 : (B.take (e - k)).length = e - k := by rw [List.length_take];omega
  have lB2 : (B.drop (e - k)).length = B.length - (e - k) := List.length_drop
  obtain ⟨sA1,sA2,_⟩ := Srt.split sA k
  obtain ⟨sB1,sB2,_⟩ := Srt.split sB (e - k)
  have gA1 : ∀ x ∈ A.take k,G x := fun x hx => gA x (List.mem_of_mem_take hx)
  have gA2 : ∀ x ∈ A.drop k,G x := fun x hx => gA x (List.mem_of_mem_drop hx)
  have gB1 : ∀ x ∈ B.take (e - k),G x := fun x hx => gB x (List.mem_of_mem_take hx)
  have gB2 : ∀ x ∈ B.drop (e - k),G x := fun x hx => gB x (List.mem_of_mem_drop hx)
  have m1 : ∀ x ∈ A.take k,∀ y ∈ B.drop (e - k),c x y ≤ 0 := by
   rcases f1 with rfl | f1
   ·rcases hk0 with rfl | hk0
    ·intro x hx;simp at hx
    ·intro x _ y hy
     rw [List.drop_eq_nil_of_le (by omega)] at hy
     cases hy
   ·by_cases hk1 : k = 0
    ·subst hk1;intro x hx;simp at hx
    refine seam_le tp sA1 sB2 fun x y hx hy => ?_
    rw [lA1,List.getElem?_take_of_lt (by omega)] at hx
    rw [List.getElem?_drop,Nat.add_zero] at hy
    exact f1 x y hx hy
  have m2 : ∀ x ∈ A.drop k,∀ y ∈ B.take (e - k),c y x < 0 := by
   rcases f2 with rfl | f2
   ·rcases hq0 with rfl | hq0
    ·intro x _ y hy;simp at hy
    ·intro x hx
     rw [List.drop_eq_nil_of_le (by omega)] at hx
     cases hx
   ·by_cases hk1 : e - k = 0
    ·rw [hk1];intro x _ y hy;simp at hy
    refine seam_lt tp sA2 sB1 fun x y hx hy => ?_
    rw [List.getElem?_drop,Nat.add_zero] at hx
    rw [lB1,List.getElem?_take_of_lt (by omega),show e - k - 1 = e - 1 - k by omega] at hy
    exact f2 x y hx hy
  have sy := sym_le tp (A := A.take k) (B := A.drop k) (C := B.take (e - k)) (D := B.drop (e - k)) (by rw [← eA];exact sA) (by rw [← eB];exact sB) m1 m2
  rw [← eA,← eB] at sy
  generalize A.take k = A1 at *
  generalize A.drop k = A2 at *
  generalize B.take (e - k) = B1 at *
  generalize B.drop (e - k) = B2 at *
  refine bind_ex (P := fun b : Bool => b = decide (A2 ≠ [] ∧ B1 ≠ [])) ?_ ?_
  ·have n2 : A2 = [] ↔ A.length - k = 0 := by rw [← lA2];exact List.length_eq_zero_iff.symm
   have n1 : B1 = [] ↔ e - k = 0 := by rw [← lB1];exact List.length_eq_zero_iff.symm
   by_cases hc : (P.length + k : Int) < a2
   ·rw [if_pos hc]
    refine ⟨_,rfl,?_⟩
    rw [decide_eq_decide,ne_eq,ne_eq,n1,n2]
    omega
   ·rw [if_neg hc]
    refine ⟨_,rfl,(decide_eq_false ?_).symm⟩
    rw [ne_eq,ne_eq,n1,n2]
    omega
  rintro _ rfl
  refine bind_ex (P := fun l => l = P ++ (A1 ++ (B1 ++ (A2 ++ (B2 ++ Q))))) ?_ ?_
  ·by_cases hc : A2 ≠ [] ∧ B1 ≠ []
   ·rw [if_pos (decide_eq_true hc)]
    have := d204_ok (N := N) (P := P ++ A1) (A := A2) (B := B1) (Q := B2 ++ Q) (p := p) (a1 := P.length + k) (a2 := a2) (a3 := P.length + e + a2 - (P.length + k)) hc.1 hc.2 (by rw [lap];omega) (by rw [lap];omega) (by rw [lap];omega) (by rw [lap];omega) (by omega)
    rw [show P ++ (A ++ (B ++ Q)) = P ++ A1 ++ (A2 ++ (B1 ++ (B2 ++ Q))) by rw [eA,eB];simp,this,ob,lenG_ok (by simp only [lap];omega),ob]
    exact ⟨_,rfl,by simp⟩
   ·rw [if_neg (by rw [decide_eq_true_iff];exact hc)]
    refine ⟨_,rfl,?_⟩
    rw [eA,eB]
    by_cases h : A2 = []
    ·subst h;simp
    ·have h' : B1 = [] := Classical.byContradiction fun g => hc ⟨h,g⟩
     subst h';simp
  rintro _ rfl
  refine bind_ex (P := fun b : Bool => b = decide (A1 ≠ [] ∧ B1 ≠ [])) ?_ ?_
  ·have n2 : A1 = [] ↔ k = 0 := by rw [← lA1];exact List.length_eq_zero_iff.symm
   have n1 : B1 = [] ↔ e - k = 0 := by rw [← lB1];exact List.length_eq_zero_iff.symm
   by_cases hc : a1 < (P.length + k : Int)
   ·rw [if_pos hc]
    refine ⟨_,rfl,?_⟩
    rw [decide_eq_decide,ne_eq,ne_eq,n1,n2]
    omega
   ·rw [if_neg hc]
    refine ⟨_,rfl,(decide_eq_false ?_).symm⟩
    rw [ne_eq,ne_eq,n1,n2]
    omega
  rintro _ rfl
  refine bind_ex (P := fun l => ∃ X,l = P ++ (X ++ (A2 ++ (B2 ++ Q))) ∧ Srt c X ∧ Sim c (A1 ++ B1) X) ?_ ?_
  ·by_cases hc : A1 ≠ [] ∧ B1 ≠ []
   ·rw [if_pos (decide_eq_true hc)]
    obtain ⟨X,g1,g2,g3⟩ := ih P A1 B1 (A2 ++ (B2 ++ Q)) a1 (P.length + k) (P.length + e) hc.1 hc.2 sA1 sB1 gA1 gB1 h1 (by omega) (by omega) (by omega) (by omega)
    have := g3.len tp
    rw [lap] at this
    rw [g1,ob,lenG_ok (by simp only [lap];omega),ob]
    exact ⟨_,rfl,X,rfl,g2,g3⟩
   ·rw [if_neg (by rw [decide_eq_true_iff];exact hc)]
    refine ⟨_,rfl,A1 ++ B1,by simp,?_,.rfl⟩
    by_cases h : A1 = []
    ·subst h;exact sB1
    ·have h' : B1 = [] := Classical.byContradiction fun g => hc ⟨h,g⟩
     subst h';rw [List.append_nil];exact sA1
  rintro _ ⟨X1,rfl,sX1,mX1⟩
  have lX1 := mX1.len tp
  rw [lap] at lX1
  refine bind_ex (P := fun b : Bool => b = decide (A2 ≠ [] ∧ B2 ≠ [])) ?_ ?_
  ·have n2 : A2 = [] ↔ A.length - k = 0 := by rw [← lA2];exact List.length_eq_zero_iff.symm
   have n1 : B2 = [] ↔ B.length - (e - k) = 0 := by rw [← lB2];exact List.length_eq_zero_iff.symm
   by_cases hc : (P.length + e : Int) < P.length + e + a2 - (P.length + k)
   ·rw [if_pos hc]
    refine ⟨_,rfl,?_⟩
    rw [decide_eq_decide,ne_eq,ne_eq,n1,n2]
    omega
   ·rw [if_neg hc]
    refine ⟨_,rfl,(decide_eq_false ?_).symm⟩
    rw [ne_eq,ne_eq,n1,n2]
    omega
  rintro _ rfl
  obtain ⟨X2,sX2,mX2,hX2⟩ : ∃ X2,Srt c X2 ∧ Sim c (A2 ++ B2) X2 ∧ (if decide (A2 ≠ [] ∧ B2 ≠ []) = true then ((d169 N (P ++ (X1 ++ (A2 ++ (B2 ++ Q)))) (P.length + e) (P.length + e + a2 - (P.length + k)) a3 p).bind fun r311 => (lenG r311.length (P ++ (X1 ++ (A2 ++ (B2 ++ Q)))).length).bind fun _ => some r311) else some (P ++ (X1 ++ (A2 ++ (B2 ++ Q))))) = some (P ++ (X1 ++ (X2 ++ Q))) := by
   by_cases hc : A2 ≠ [] ∧ B2 ≠ []
   ·obtain ⟨X,g1,g2,g3⟩ := ih (P ++ X1) A2 B2 Q (P.length + e) (P.length + e + a2 - (P.length + k)) a3 hc.1 hc.2 sA2 sB2 gA2 gB2 (by rw [lap];omega) (by rw [lap];omega) (by rw [lap];omega) (by rw [lap];omega) (by omega)
    have := g3.len tp
    rw [lap] at this
    refine ⟨X,g2,g3,?_⟩
    rw [if_pos (decide_eq_true hc),← List.append_assoc P,g1,ob,lenG_ok (by simp only [lap];omega),ob]
    simp
   ·refine ⟨A2 ++ B2,?_,.rfl,by rw [if_neg (by rw [decide_eq_true_iff];exact hc)];simp⟩
    by_cases h : A2 = []
    ·subst h;exact sB2
    ·have h' : B2 = [] := Classical.byContradiction fun g => hc ⟨h,g⟩
     subst h';rw [List.append_nil];exact sA2
  rw [hX2]
  refine ⟨_,rfl,X1 ++ X2,by simp,Srt.app.2 ⟨sX1,sX2,fun x hx y hy => sy.2 x (mX1.symm.mem tp hx) y (mX2.symm.mem tp hy)⟩,sy.1.trans (mX1.app mX2)⟩
end
end Go.Proofs.YtimkkjiplioohaaGreatDoor
end
section
namespace Go.Proofs.YtimkkjiplioohaaGreatDoor
open Option renaming bind_some → ob
open List renaming getElem?_eq_getElem → ge,length_append → lap
open Go.Ab Go.Rp Go.St
inductive BlkS (c : Row → Row → Int) (bs : Nat) : List Row → Prop
 | last {R : List Row} : Srt c R → R.length < bs → BlkS c bs R
 | cons {B R : List Row} : B.length = bs → Srt c B → BlkS c bs R → BlkS c bs (B ++ R)
inductive ExB (c : Row → Row → Int) (bs : Nat) : List Row → Prop
 | nil : ExB c bs []
 | snoc {D B : List Row} : ExB c bs D → B.length = bs → Srt c B → ExB c bs (D ++ B)
section
variable {p : Cmp} {c : Row → Row → Int} {G : Row → Prop}
theorem ExB.app {bs : Nat} {D : List Row} (h : ExB c bs D) : ∀ {R : List Row},BlkS c bs R → BlkS c bs (D ++ R) := by
 induction h with
 | nil => exact fun h => h
 | snoc _ hl hs ih => exact fun h => by rw [List.append_assoc];exact ih (.cons hl hs h)
theorem BlkS.inv {bs : Nat} {R : List Row} (h : BlkS c bs R) (hl : bs ≤ R.length) : ∃ B R',R = B ++ R' ∧ B.length = bs ∧ Srt c B ∧ BlkS c bs R' := by
 cases h with
 | last _ h => omega
 | cons h1 h2 h3 => exact ⟨_,_,rfl,h1,h2,h3⟩
theorem BlkS.srt {bs : Nat} {R : List Row} (h : BlkS c bs R) (hl : R.length ≤ bs) : Srt c R := by
 cases h with
 | last h _ => exact h
 | @cons B R' h1 h2 h3 =>
  rw [lap] at hl
  rw [List.eq_nil_of_length_eq_zero (show R'.length = 0 by omega),List.append_nil]
  exact h2
theorem d133_ok (tp : TP c) (hp : ∀ x y,G x → G y → p x y = some (c x y)) {N : Nat} {L : List Row} (hG : ∀ x ∈ L,G x) (hl : L.length ≤ 1000) (hN : 10000 ≤ N) : ∃ X,d133 N L (L.length : Int) p = some X ∧ Srt c X ∧ Sim c L X := by
 unfold d133
 refine bind_ex (P := fun s : List Row × Int => ∃ D R,s.1 = D ++ R ∧ s.2 = (D.length : Int) ∧ ExB c 20 D ∧ Sim c L (D ++ R) ∧ R.length < 20) ?_ ?_
 ·refine iter_po _ (fun s : List Row × Int × Int => (L.length + 20 - s.2.2).toNat) (fun s : List Row × Int × Int => ∃ D R,s.1 = D ++ R ∧ s.2.1 = (D.length : Int) ∧ s.2.2 = (D.length : Int) + 20 ∧ ExB c 20 D ∧ Sim c L (D ++ R)) _ ?_ N _ ⟨[],L,rfl,rfl,rfl,.nil,.rfl⟩ (by dsimp only;omega)
  rintro ⟨l,a,b⟩ ⟨D,R,hl1,ha,hb,hD,hsim⟩
  dsimp only at hl1 ha hb ⊢
  subst hl1 ha hb
  have hlen := hsim.len tp
  rw [lap] at hlen
  by_cases hle : (D.length : Int) + 20 ≤ L.length
  ·rw [if_pos hle]
   have l1 : (R.take 20).length = 20 := by rw [List.length_take];omega
   have eR : R = R.take 20 ++ R.drop 20 := (List.take_append_drop ..).symm
   generalize R.take 20 = A at *
   generalize R.drop 20 = R' at *
   subst eR
   have gA : ∀ x ∈ A,G x := fun x hx => hG x (hsim.symm.mem tp (by simp [hx]))
   rw [lap] at hlen
   obtain ⟨X,g1,g2,g3⟩ := d168_ok tp hp (N := N) (P := D) (A := A) (Q := R') (a1 := D.length) (a2 := D.length + 20) gA rfl (by omega) (by omega) (by omega)
   have lX := g3.len tp
   rw [g1,ob,lenG_ok (by simp only [lap];omega),ob,chk_ok (by omega) (by omega),ob]
   refine ⟨_,rfl,⟨D ++ X,R',by simp,by simp;omega,by simp;omega,.snoc hD (by omega) g2,hsim.trans ?_⟩,by dsimp only;omega⟩
   rw [List.append_assoc]
   exact Sim.rfl.app (g3.app .rfl)
  ·rw [if_neg hle]
   exact ⟨_,rfl,D,R,rfl,rfl,hD,hsim,by omega⟩
 rintro ⟨l,a⟩ ⟨D,R,hl1,ha,hD,hsim,hR⟩
 dsimp only at hl1 ha ⊢
 subst hl1 ha
 have hlen := hsim.len tp
 rw [lap] at hlen
 have gR : ∀ x ∈ R,G x := fun x hx => hG x (hsim.symm.mem tp (by simp [hx]))
 obtain ⟨X,g1,g2,g3⟩ := d168_ok tp hp (N := N) (P := D) (A := R) (Q := []) (a1 := D.length) (a2 := L.length) gR rfl (by omega) (by omega) (by omega)
 have lX := g3.len tp
 rw [List.append_nil,List.append_nil] at g1
 rw [g1,ob,lenG_ok (by simp only [lap];omega),ob]
 have hB := hD.app (.last g2 (by omega))
 have hS : Sim c L (D ++ X) := hsim.trans (Sim.rfl.app g3)
 clear g1 g2 g3 hD hsim hlen lX gR
 generalize D ++ X = M at hB hS
 refine bind_ex (P := fun l => Srt c l ∧ Sim c L l) ?_ fun l hl => ⟨l,rfl,hl⟩
 refine iter_po _ (fun s : List Row × Int => (L.length - s.2).toNat) (fun s : List Row × Int => ∃ bs : Nat,s.2 = bs ∧ 20 ≤ bs ∧ BlkS c bs s.1 ∧ Sim c L s.1) _ ?_ N _ ⟨20,rfl,Nat.le_refl _,hB,hS⟩ (by dsimp only;omega)
 rintro ⟨l,v⟩ ⟨bs,hv,hbs,hB,hS⟩
 dsimp only at hv hB hS ⊢
 subst hv
 by_cases hlt : (bs : Int) < L.length
 ·rw [if_pos hlt,chk_ok (by omega) (by omega),ob]
  refine bind_ex (P := fun s : List Row × Int => ∃ D R,s.1 = D ++ R ∧ s.2 = (D.length : Int) ∧ ExB c (2 * bs) D ∧ BlkS c bs R ∧ Sim c L (D ++ R) ∧ R.length < 2 * bs) ?_ ?_
  ·refine iter_po _ (fun s : List Row × Int × Int => (L.length + 2 * bs - s.2.2).toNat) (fun s : List Row × Int × Int => ∃ D R,s.1 = D ++ R ∧ s.2.1 = (D.length : Int) ∧ s.2.2 = (D.length : Int) + 2 * bs ∧ ExB c (2 * bs) D ∧ BlkS c bs R ∧ Sim c L (D ++ R)) _ ?_ N _ ⟨[],l,rfl,rfl,by simp,.nil,hB,hS⟩ (by dsimp only;omega)
   rintro ⟨l,a,b⟩ ⟨D,R,hl1,ha,hb,hD,hR,hsim⟩
   dsimp only at hl1 ha hb ⊢
   subst hl1 ha hb
   have hlen := hsim.len tp
   rw [lap] at hlen
   by_cases hle : (D.length : Int) + 2 * bs ≤ L.length
   ·rw [if_pos hle]
    obtain ⟨B1,R1,rfl,lB1,sB1,hR1⟩ := hR.inv (by omega)
    rw [lap] at hlen
    obtain ⟨B2,R2,rfl,lB2,sB2,hR2⟩ := hR1.inv (by omega)
    rw [lap] at hlen
    obtain ⟨X,g1,g2,g3⟩ := d169_ok tp hp N D B1 B2 R2 D.length (D.length + bs) (D.length + 2 * bs) (List.length_pos_iff.1 (by omega)) (List.length_pos_iff.1 (by omega)) sB1 sB2 (fun x hx => hG x (hsim.symm.mem tp (by simp [hx]))) (fun x hx => hG x (hsim.symm.mem tp (by simp [hx]))) rfl (by omega) (by omega) (by omega) (by omega)
    have lX := g3.len tp
    rw [lap] at lX
    rw [chk_ok (by omega) (by omega),ob,g1,ob,lenG_ok (by simp only [lap];omega),ob,ob,chk_ok (by omega) (by omega),ob]
    refine ⟨_,rfl,⟨D ++ X,R2,by simp,by simp;omega,by simp;omega,.snoc hD (by omega) g2,hR2,hsim.trans ?_⟩,by dsimp only;omega⟩
    rw [List.append_assoc,← List.append_assoc B1]
    exact Sim.rfl.app (g3.app .rfl)
   ·rw [if_neg hle]
    exact ⟨_,rfl,D,R,rfl,rfl,hD,hR,hsim,by omega⟩
  ·rintro ⟨l,a⟩ ⟨D,R,hl1,ha,hD,hR,hsim,hRl⟩
   dsimp only at hl1 ha ⊢
   subst hl1 ha
   have hlen := hsim.len tp
   rw [lap] at hlen
   rw [chk_ok (by omega) (by omega),ob]
   by_cases hlt2 : (D.length : Int) + bs < L.length
   ·rw [if_pos hlt2]
    obtain ⟨B1,R1,rfl,lB1,sB1,hR1⟩ := hR.inv (by omega)
    rw [lap] at hlen hRl
    obtain ⟨X,g1,g2,g3⟩ := d169_ok tp hp N D B1 R1 [] D.length (D.length + bs) L.length (List.length_pos_iff.1 (by omega)) (List.length_pos_iff.1 (by omega)) sB1 (hR1.srt (by omega)) (fun x hx => hG x (hsim.symm.mem tp (by simp [hx]))) (fun x hx => hG x (hsim.symm.mem tp (by simp [hx]))) rfl (by omega) (by omega) (by omega) (by omega)
    have lX := g3.len tp
    rw [lap] at lX
    rw [List.append_nil,List.append_nil] at g1
    rw [g1,ob,lenG_ok (by simp only [lap];omega),ob,chk_ok (by omega) (by omega),ob]
    exact ⟨_,rfl,⟨2 * bs,by dsimp only;omega,by omega,hD.app (.last g2 (by omega)),hsim.trans (Sim.rfl.app g3)⟩,by dsimp only;omega⟩
   ·rw [if_neg hlt2,chk_ok (by omega) (by omega),ob]
    exact ⟨_,rfl,⟨2 * bs,by dsimp only;omega,by omega,hD.app (.last (hR.srt (by omega)) (by omega)),hsim⟩,by dsimp only;omega⟩
 ·rw [if_neg hlt]
  have hlen := hS.len tp
  exact ⟨_,rfl,hB.srt (by omega),hS⟩
theorem d110_ok (tp : TP c) (hp : ∀ x y,G x → G y → p x y = some (c x y)) {N : Nat} {L : List Row} (hG : ∀ x ∈ L,G x) (hl : L.length ≤ 1000) (hN : 10000 ≤ N) : ∃ X,d110 N L p = some X ∧ Srt c X ∧ Sim c L X := by
 obtain ⟨X,h1,h2,h3⟩ := d133_ok tp hp hG hl hN
 refine ⟨X,?_,h2,h3⟩
 unfold d110
 rw [h1,ob,lenG_ok (h3.len tp).symm,ob]
end
end Go.Proofs.YtimkkjiplioohaaGreatDoor
end
section
namespace Go.Proofs.YtimkkjiplioohaaGreatDoor
open Option renaming bind_some → ob
open List renaming getElem?_eq_getElem → ge,length_append → lap
open Go.Ab Go.Rp Go.St
instance : DecidableEq S61 := fun x y => decidable_of_iff (beqS61 x y = true) (beqS61_iff x y)
theorem bytes_tri : ∀ (a b : List UInt8),Op.bytesLess a b = false → Op.bytesLess b a = false → a = b
 | [],[],_,_ => rfl
 | [],_ :: _,h,_ => by simp [Op.bytesLess] at h
 | _ :: _,[],_,h => by simp [Op.bytesLess] at h
 | x :: a,y :: b,h,g => by
  simp [Op.bytesLess] at h g
  obtain rfl : x = y := by
   have h1 := h.1;have g1 := g.1
   simp only [UInt8.le_iff_toNat_le] at h1 g1
   exact UInt8.toNat_inj.1 (by omega)
  rw [bytes_tri a b (h.2 rfl) (g.2 rfl)]
theorem bytes_irr : ∀ (a : List UInt8),Op.bytesLess a a = false
 | [] => rfl
 | x :: a => by simp [Op.bytesLess,bytes_irr a]
theorem bytes_tr : ∀ (a b d : List UInt8),Op.bytesLess b a = false → Op.bytesLess d b = false → Op.bytesLess d a = false
 | [],_,d,_,_ => by cases d <;> rfl
 | x :: a,[],_,h,_ => by simp [Op.bytesLess] at h
 | x :: a,y :: b,[],_,h => by simp [Op.bytesLess] at h
 | x :: a,y :: b,z :: d,h,g => by
  simp [Op.bytesLess] at h g ⊢
  have h1 := h.1;have g1 := g.1
  simp only [UInt8.le_iff_toNat_le] at h1 g1 ⊢
  refine ⟨by omega,fun e => ?_⟩
  subst e
  obtain rfl : y = z := UInt8.toNat_inj.1 (by omega)
  exact bytes_tr a b d (h.2 rfl) (g.2 rfl)
def vlt (a b : S61) : Bool := if (a.Kind != b.Kind) then decide (a.Kind < b.Kind) else if (a.Int != b.Int) then decide (a.Int < b.Int) else Op.bytesLess a.Text.toList b.Text.toList
theorem vlt_f {a b : S61} : vlt a b = false ↔ b.Kind < a.Kind ∨ a.Kind = b.Kind ∧ (b.Int < a.Int ∨ a.Int = b.Int ∧ Op.bytesLess a.Text.toList b.Text.toList = false) := by
 unfold vlt
 by_cases h : a.Kind = b.Kind
 ·rw [if_neg (by simp [h])]
  by_cases h2 : a.Int = b.Int
  ·rw [if_neg (by simp [h2])]
   constructor
   ·exact fun g => .inr ⟨h,.inr ⟨h2,g⟩⟩
   ·rintro (g | ⟨_,g | ⟨_,g⟩⟩)
    ·omega
    ·omega
    ·exact g
  ·rw [if_pos (by simp [h2]),decide_eq_false_iff_not]
   constructor
   ·exact fun g => .inr ⟨h,.inl (by omega)⟩
   ·rintro (g | ⟨_,g | ⟨g,_⟩⟩)
    ·omega
    ·omega
    ·exact absurd g h2
 ·rw [if_pos (by simp [h]),decide_eq_false_iff_not]
  constructor
  ·exact fun g => .inl (by omega)
  ·rintro (g | ⟨g,_⟩)
   ·omega
   ·exact absurd g h
theorem vlt_irr (a : S61) : vlt a a = false := vlt_f.2 (.inr ⟨rfl,.inr ⟨rfl,bytes_irr _⟩⟩)
theorem vlt_tr {a b d : S61} (h : vlt b a = false) (g : vlt d b = false) : vlt d a = false := by
 rw [vlt_f] at *
 rcases h with h | ⟨h1,h | ⟨h2,h3⟩⟩ <;> rcases g with g | ⟨g1,g | ⟨g2,g3⟩⟩
 ·exact .inl (by omega)
 ·exact .inl (by omega)
 ·exact .inl (by omega)
 ·exact .inl (by omega)
 ·exact .inr ⟨by omega,.inl (by omega)⟩
 ·exact .inr ⟨by omega,.inl (by omega)⟩
 ·exact .inl (by omega)
 ·exact .inr ⟨by omega,.inl (by omega)⟩
 ·exact .inr ⟨by omega,.inr ⟨by omega,bytes_tr _ _ _ h3 g3⟩⟩
theorem vlt_tri {a b : S61} (h : vlt a b = false) (g : vlt b a = false) : a = b := by
 rw [vlt_f] at *
 refine (beqS61_iff a b).1 ?_
 rcases h with h | ⟨h1,h | ⟨h2,h3⟩⟩ <;> rcases g with g | ⟨g1,g | ⟨g2,g3⟩⟩ <;> try omega
 unfold beqS61
 rw [h1,h2,bytes_tri _ _ h3 g3]
 simp
theorem vlt_asy {a b : S61} (h : vlt a b = true) : vlt b a = false := by
 cases g : vlt b a with
 | false => rfl
 | true =>
  exfalso
  have e : ∀ x y : S61,vlt x y = true → x.Kind < y.Kind ∨ x.Kind = y.Kind ∧ (x.Int < y.Int ∨ x.Int = y.Int ∧ Op.bytesLess x.Text.toList y.Text.toList = true) := fun x y h => by
   unfold vlt at h
   split at h
   ·exact .inl (of_decide_eq_true h)
   ·rename_i h1
    split at h
    ·exact .inr ⟨by simpa using h1,.inl (of_decide_eq_true h)⟩
    ·rename_i h2
     exact .inr ⟨by simpa using h1,.inr ⟨by simpa using h2,h⟩⟩
  have bb : ∀ x y : List UInt8,Op.bytesLess x y = true → Op.bytesLess y x = true → False := by
   intro x
   induction x with
   | nil => intro y _ h;cases y <;> simp [Op.bytesLess] at h
   | cons a x ih =>
    intro y h1 h2
    cases y with
    | nil => simp [Op.bytesLess] at h1
    | cons b y =>
     simp [Op.bytesLess] at h1 h2
     simp only [UInt8.lt_iff_toNat_lt] at h1 h2
     rcases h1 with h1 | ⟨rfl,h1⟩ <;> rcases h2 with h2 | ⟨h2',h2⟩
     ·omega
     ·subst h2';omega
     ·omega
     ·exact ih y h1 h2
  rcases e _ _ h with h | ⟨h1,h | ⟨h2,h3⟩⟩ <;> rcases e _ _ g with g | ⟨g1,g | ⟨g2,g3⟩⟩ <;> try omega
  exact bb _ _ h3 g3
theorem d131_ok (N : Nat) (a b : S61) : d131 N a b = some (vlt a b) := by
 unfold d131 vlt
 split
 ·rfl
 ·split <;> rfl
theorem d107_ok (N : Nat) (a b : S61) : d107 N a b = some (vlt a b) := by
 unfold d107 vlt
 split
 ·rfl
 ·split <;> rfl
def hv (d : Bool) (x y : S61) : Int := if x = y then 0 else if (if d = true then !vlt x y else vlt x y) = true then -1 else 1
theorem hv_le {d : Bool} {x y : S61} : hv d x y ≤ 0 ↔ (if d = true then vlt x y else vlt y x) = false := by
 unfold hv
 by_cases h : x = y
 ·subst h;rw [if_pos rfl,vlt_irr];simp
 ·rw [if_neg h]
  have t := @vlt_tri x y
  have u := @vlt_asy x y
  have v := @vlt_asy y x
  cases d <;> cases h1 : vlt x y <;> cases h2 : vlt y x <;> simp_all
theorem hv_lt {d : Bool} {x y : S61} : hv d x y < 0 ↔ (if d = true then vlt y x else vlt x y) = true := by
 unfold hv
 by_cases h : x = y
 ·subst h;rw [if_pos rfl,vlt_irr];simp
 ·rw [if_neg h]
  have t := @vlt_tri x y
  have u := @vlt_asy x y
  have v := @vlt_asy y x
  cases d <;> cases h1 : vlt x y <;> cases h2 : vlt y x <;> simp_all
theorem hv_ne {d : Bool} {x y : S61} (h : x ≠ y) : hv d x y ≠ 0 := by
 unfold hv
 rw [if_neg h]
 by_cases g : (if d = true then !vlt x y else vlt x y) = true
 ·rw [if_pos g];decide
 ·rw [if_neg g];decide
theorem hv_tp (d : Bool) : TP (hv d) where
 refl a := if_pos rfl
 anti a b := by
  rw [hv_lt]
  have := @hv_le d b a
  rw [show (0 < hv d b a) ↔ ¬ hv d b a ≤ 0 by omega,this]
  simp
 trans a b e h1 h2 := by
  rw [hv_le] at *
  cases d
  ·exact vlt_tr h1 h2
  ·exact vlt_tr h2 h1
def cmpK : List S61 → List S61 → List Bool → Int
 | x :: a,y :: b,ds => if hv (ds.headD false) x y = 0 then cmpK a b ds.tail else hv (ds.headD false) x y
 | _,_,_ => 0
theorem cmpK_refl : ∀ (a : List S61) (ds : List Bool),cmpK a a ds = 0
 | [],_ => rfl
 | x :: a,ds => by rw [cmpK,(hv_tp _).refl,if_pos rfl,cmpK_refl a]
theorem cmpK_anti : ∀ (a b : List S61) (ds : List Bool),cmpK a b ds < 0 ↔ 0 < cmpK b a ds
 | [],[],_ => by simp [cmpK]
 | [],_ :: _,_ => by simp [cmpK]
 | _ :: _,[],_ => by simp [cmpK]
 | x :: a,y :: b,ds => by
  rw [cmpK,cmpK]
  have h1 := (hv_tp (ds.headD false)).anti x y
  have h2 := (hv_tp (ds.headD false)).anti y x
  have := cmpK_anti a b ds.tail
  by_cases h : hv (ds.headD false) x y = 0
  ·rw [if_pos h,if_pos (by omega)];exact this
  ·rw [if_neg h,if_neg (by omega)];exact h1
theorem cmpK_trans : ∀ (a b e : List S61) (ds : List Bool),a.length = b.length → b.length = e.length → cmpK a b ds ≤ 0 → cmpK b e ds ≤ 0 → cmpK a e ds ≤ 0
 | [],_,_,_,_,_,_,_ => by simp [cmpK]
 | x :: a,[],_,_,h,_,_,_ => by cases h
 | x :: a,y :: b,[],_,_,h,_,_ => by cases h
 | x :: a,y :: b,z :: e,ds,h,g,h1,h2 => by
  rw [cmpK] at *
  have tp := hv_tp (ds.headD false)
  have t1 := tp.trans x y z
  have t2 := @TP.lt_le _ _ tp x y z
  have t3 := @TP.le_lt _ _ tp x y z
  have t4 := tp.anti x z
  have t5 := tp.anti x y
  have t6 := tp.anti y z
  have t7 := tp.trans z y x
  have t8 := tp.anti z x
  have t9 := tp.anti z y
  have t10 := tp.anti y x
  have ih := cmpK_trans a b e ds.tail (by simpa using h) (by simpa using g)
  by_cases e1 : hv (ds.headD false) x y = 0
  ·rw [if_pos e1] at h1
   by_cases e2 : hv (ds.headD false) y z = 0
   ·rw [if_pos e2] at h2
    rw [if_pos (by omega)]
    exact ih h1 h2
   ·rw [if_neg e2] at h2
    have := t3 (by omega) (by omega)
    rw [if_neg (by omega)]
    omega
  ·rw [if_neg e1] at h1
   have h2' : hv (ds.headD false) y z ≤ 0 := by
    by_cases e2 : hv (ds.headD false) y z = 0
    ·omega
    ·rw [if_neg e2] at h2;omega
   have := t2 (by omega) h2'
   rw [if_neg (by omega)]
   omega
def get (r : List S61) (i : Int) : S61 := r.getD i.toNat ⟨0,0,⟨#[]⟩⟩
def In (cols : List Int) (r : Row) : Prop := ∀ i ∈ cols,0 ≤ i ∧ i < r.length
def kof (cols : List Int) (r : Row) : List S61 := cols.map (get r)
theorem idx_get {r : List S61} {i : Int} (h : 0 ≤ i ∧ i < r.length) : idx r i = some (get r i) := by
 unfold idx get
 rw [if_pos h.1,List.getD_eq_getElem?_getD,ge (show i.toNat < r.length by omega)]
 rfl
def ord (by_ : S65) (r s : Row) : Int := cmpK (kof by_.Columns r) (kof by_.Columns s) by_.Descending
theorem ord_tp (by_ : S65) : TP (ord by_) where
 refl a := cmpK_refl _ _
 anti a b := cmpK_anti _ _ _
 trans a b e := cmpK_trans _ _ _ _ (by simp [kof]) (by simp [kof])
theorem ord_zero {by_ : S65} {r s : Row} : ord by_ r s = 0 ↔ kof by_.Columns r = kof by_.Columns s := by
 unfold ord
 have : ∀ (a b : List S61) (ds : List Bool),a.length = b.length → (cmpK a b ds = 0 ↔ a = b) := by
  intro a
  induction a with
  | nil => intro b ds h;cases b with
   | nil => simp [cmpK]
   | cons => cases h
  | cons x a ih => intro b ds h;cases b with
   | nil => cases h
   | cons y b =>
    rw [cmpK]
    by_cases e : x = y
    ·subst e
     rw [(hv_tp _).refl,if_pos rfl,ih b _ (by simpa using h)]
     simp
    ·have := hv_ne (d := ds.headD false) e
     rw [if_neg this]
     exact ⟨fun h => absurd h this,fun h => absurd (List.cons.inj h).1 e⟩
 exact this _ _ _ (by simp [kof])
theorem key_ok {N : Nat} {r : Row} {cols : List Int} (hi : In cols r) (hl : cols.length ≤ 1000) (hN : 10000 ≤ N) (b : Nat) (hb : b ≤ 1000) : iterN (σ := ((List S61) × Int)) (ρ := List S61) (fun ((l7,v8) : ((List S61) × Int)) =>
   if v8 < (cols.length : Int) then (
    (idx cols v8).bind fun x27 =>
    (idx r x27).bind fun x29 =>
    (appL b l7 [x29]).bind fun _l31 =>
    (chkI (v8 + 1)).bind fun v32 =>
    some (.inl ((l7 ++ [x29]),v32))
   ) else
   some (.inr l7)
  ) N (([] : List S61),0) = some (kof cols r) := by
 have h : ∃ x,iterN (σ := ((List S61) × Int)) (ρ := List S61) (fun ((l7,v8) : ((List S61) × Int)) =>
   if v8 < (cols.length : Int) then (
    (idx cols v8).bind fun x27 =>
    (idx r x27).bind fun x29 =>
    (appL b l7 [x29]).bind fun l31 =>
    (chkI (v8 + 1)).bind fun v32 =>
    some (.inl ((l7 ++ [x29]),v32))
   ) else
   some (.inr l7)
  ) N (([] : List S61),0) = some x ∧ x = kof cols r := by
  refine iter_po _ (fun s : List S61 × Int => cols.length - s.2.toNat) (fun s : List S61 × Int => ∃ j : Nat,s.2 = j ∧ j ≤ cols.length ∧ s.1 = (cols.take j).map (get r)) _ ?_ N _ ⟨0,rfl,Nat.zero_le _,rfl⟩ (by dsimp only;omega)
  rintro ⟨l,s⟩ ⟨j,hs,hj,hl1⟩
  dsimp only at hs hl1 ⊢
  subst hs hl1
  by_cases hlt : (j : Int) < (cols.length : Int)
  ·rw [if_pos hlt]
   have hx := ge (l := cols) (i := j) (by omega)
   have hm := hi cols[j] (List.getElem_mem _)
   generalize cols[j] = i at hx hm
   have hlen : ((cols.take j).map (get r)).length ≤ 1000 := by rw [List.length_map,List.length_take];omega
   have hmul : (((cols.take j).map (get r)).length + 1) * b ≤ 1001 * 1000 := Nat.mul_le_mul (by omega) hb
   rw [idx_nat hx,ob,idx_get hm,ob]
   unfold appL
   rw [if_pos (by unfold Rp.reach;simp only [List.length_singleton];omega),ob,chk_ok (by omega) (by omega),ob]
   exact ⟨_,rfl,⟨j + 1,by simp,by omega,by rw [take_succ' hx];simp⟩,by dsimp only;omega⟩
  ·rw [if_neg hlt]
   have : j = cols.length := by omega
   subst this
   exact ⟨_,rfl,by rw [List.take_length];rfl⟩
 obtain ⟨x,h1,rfl⟩ := h
 exact h1
theorem d71_ok {N : Nat} {r : Row} {by_ : S65} (hi : In by_.Columns r) (hl : by_.Columns.length ≤ 1000) (hN : 10000 ≤ N) : d71 N r by_ = some (kof by_.Columns r) := by
 unfold d71
 rw [key_ok hi hl hN 32 (by omega)]
 rfl
theorem d35_ok {N : Nat} {r : Row} {cols : List Int} (hi : In cols r) (hl : cols.length ≤ 1000) (hN : 10000 ≤ N) : d35 N r cols = some (kof cols r) := by
 unfold d35
 rw [key_ok hi hl hN 32 (by omega)]
 rfl
theorem head_drop {ds : List Bool} {j : Nat} : (ds.drop j).headD false = (ds[j]?).getD false := by
 rw [← List.head?_drop,List.headD_eq_head?_getD]
theorem d102_ok {N : Nat} {a b : List S61} {ds : List Bool} (hl : a.length = b.length) (ha : a.length ≤ 1000) (hN : 10000 ≤ N) : d102 N a b ds = some (cmpK a b ds) := by
 have h : ∃ r,d102 N a b ds = some r ∧ r = cmpK a b ds := by
  unfold d102
  refine bindO_ex (P := fun o => match o with
   | .ret x => x = cmpK a b ds
   | .go _ => cmpK a b ds = 0) ?_ (fun x hx => hx) fun _ hx => ⟨0,rfl,(show cmpK a b ds = 0 from hx).symm⟩
  refine iter_po _ (fun s : Int => a.length - s.toNat) (fun s : Int => ∃ j : Nat,s = j ∧ j ≤ a.length ∧ cmpK a b ds = cmpK (a.drop j) (b.drop j) (ds.drop j)) _ ?_ N _ ⟨0,rfl,Nat.zero_le _,rfl⟩ (by omega)
  rintro s ⟨j,rfl,hj,he⟩
  by_cases hlt : (j : Int) < (a.length : Int)
  ·rw [if_pos hlt,if_neg (by omega)]
   have hx := ge (l := a) (i := j) (by omega)
   have hy := ge (l := b) (i := j) (by omega)
   have ex : a.drop j = a[j] :: a.drop (j + 1) := List.drop_eq_getElem_cons (by omega)
   have ey : b.drop j = b[j] :: b.drop (j + 1) := List.drop_eq_getElem_cons (by omega)
   rw [ex,ey,cmpK,head_drop,List.tail_drop] at he
   generalize a[j] = x at *
   generalize b[j] = y at *
   rw [idx_nat hx,ob,idx_nat hy,ob,ob]
   by_cases hxy : x = y
   ·rw [if_pos ((beqS61_iff x y).2 hxy),chk_ok (by omega) (by omega),ob]
    rw [hxy,(hv_tp _).refl,if_pos rfl] at he
    exact ⟨_,rfl,⟨j + 1,by simp,by omega,he⟩,by omega⟩
   ·rw [if_neg (fun h => hxy ((beqS61_iff x y).1 h)),ob,ob,d131_ok,ob]
    have hd : (if (j : Int) < (ds.length : Int) then ((idx ds (j : Int)).bind fun x92 => some x92) else some false) = some ((ds[j]?).getD false) := by
     by_cases hd : j < ds.length
     ·rw [if_pos (by omega),idx_nat (ge hd),ge hd];rfl
     ·rw [if_neg (by omega),List.getElem?_eq_none (by omega)];rfl
    rw [hd,ob]
    have hv0 := hv_ne (d := (ds[j]?).getD false) hxy
    rw [if_neg hv0] at he
    rw [he]
    unfold hv
    rw [if_neg hxy]
    cases (ds[j]?).getD false <;> cases vlt x y <;> exact ⟨_,rfl,rfl⟩
  ·rw [if_neg hlt]
   have : j = a.length := by omega
   subst this
   refine ⟨_,rfl,?_⟩
   show cmpK a b ds = 0
   rw [he,List.drop_eq_nil_of_le (Nat.le_refl _)]
   rfl
 obtain ⟨r,h1,rfl⟩ := h
 exact h1
theorem kof_len {cols : List Int} {r : Row} : (kof cols r).length = cols.length := by simp [kof]
theorem d70_ok {N : Nat} {r s : Row} {by_ : S65} (hr : In by_.Columns r) (hs : In by_.Columns s) (hl : by_.Columns.length ≤ 1000) (hN : 10000 ≤ N) : d70 N r s by_ = some (ord by_ r s) := by
 unfold d70
 rw [d71_ok hr hl hN,ob,d71_ok hs hl hN,ob,d102_ok (by rw [kof_len,kof_len]) (by rw [kof_len];exact hl) hN]
 rfl
theorem d111_ok {N : Nat} {r s : Row} {by_ : S65} (hr : In by_.Columns r) (hs : In by_.Columns s) (hl : by_.Columns.length ≤ 1000) (hN : 10000 ≤ N) : d111 N r s by_ = some (ord by_ r s) := by
 unfold d111
 rw [d70_ok hr hs hl hN]
 rfl
theorem d79_ok {N : Nat} {a b : List S61} {ds : List Bool} (hl : a.length = b.length) (ha : a.length ≤ 1000) (hN : 10000 ≤ N) : d79 N a b ds = some (decide (cmpK a b ds < 0)) := by
 have h : ∃ r,d79 N a b ds = some r ∧ r = decide (cmpK a b ds < 0) := by
  unfold d79
  rw [letv_eq,show minI (a.length : Int) (b.length : Int) = a.length by unfold minI;rw [hl,if_neg (by omega)]]
  refine bindO_ex (P := fun o => match o with
   | .ret x => x = decide (cmpK a b ds < 0)
   | .go _ => cmpK a b ds = 0) ?_ (fun x hx => hx) fun _ hx => ⟨false,rfl,by rw [show cmpK a b ds = 0 from hx];rfl⟩
  refine iter_po _ (fun s : Int => a.length - s.toNat) (fun s : Int => ∃ j : Nat,s = j ∧ j ≤ a.length ∧ cmpK a b ds = cmpK (a.drop j) (b.drop j) (ds.drop j)) _ ?_ N _ ⟨0,rfl,Nat.zero_le _,rfl⟩ (by omega)
  rintro s ⟨j,rfl,hj,he⟩
  by_cases hlt : (j : Int) < (a.length : Int)
  ·rw [if_pos hlt]
   have hx := ge (l := a) (i := j) (by omega)
   have hy := ge (l := b) (i := j) (by omega)
   have ex : a.drop j = a[j] :: a.drop (j + 1) := List.drop_eq_getElem_cons (by omega)
   have ey : b.drop j = b[j] :: b.drop (j + 1) := List.drop_eq_getElem_cons (by omega)
   rw [ex,ey,cmpK,head_drop,List.tail_drop] at he
   generalize a[j] = x at *
   generalize b[j] = y at *
   have hd : (if (j : Int) < (ds.length : Int) then ((idx ds (j : Int)).bind fun x92 => some x92) else some false) = some ((ds[j]?).getD false) := by
    by_cases hd : j < ds.length
    ·rw [if_pos (by omega),idx_nat (ge hd),ge hd];rfl
    ·rw [if_neg (by omega),List.getElem?_eq_none (by omega)];rfl
   rw [idx_nat hx,ob,idx_nat hy,ob,hd,ob]
   have hlt' := @hv_lt ((ds[j]?).getD false) x y
   have hle' := @hv_le ((ds[j]?).getD false) x y
   have tri := @vlt_tri x y
   have asy := @vlt_asy x y
   generalize (ds[j]?).getD false = d at *
   have fin : vlt x y = false → vlt y x = false → cmpK a b ds = cmpK (a.drop (j + 1)) (b.drop (j + 1)) (ds.drop (j + 1)) := fun h1 h2 => by
    obtain rfl := tri h1 h2
    rw [he,(hv_tp _).refl,if_pos rfl]
   have bad : hv d x y < 0 → cmpK a b ds < 0 := fun h => by rw [he,if_neg (by omega)];exact h
   have good : ¬ hv d x y ≤ 0 → ¬ cmpK a b ds < 0 := fun h => by rw [he,if_neg (by omega)];omega
   cases d
   ·rw [if_neg (by decide),ob]
    show ∃ o,((d107 N x y).bind _) = some o ∧ _
    rw [d107_ok,ob]
    cases h1 : vlt x y
    ·rw [ite_ft]
     show ∃ o,((d107 N y x).bind _) = some o ∧ _
     rw [d107_ok,ob]
     cases h2 : vlt y x
     ·rw [ite_ft,chk_ok (by omega) (by omega),ob]
      exact ⟨_,rfl,⟨j + 1,by simp,by omega,fin h1 h2⟩,by omega⟩
     ·rw [ite_tt]
      exact ⟨_,rfl,(decide_eq_false (good fun h => by have := hle'.1 h;simp [h2] at this)).symm⟩
    ·rw [ite_tt]
     exact ⟨_,rfl,(decide_eq_true (bad (hlt'.2 (by simp [h1])))).symm⟩
   ·rw [if_pos rfl,ob]
    show ∃ o,((d107 N y x).bind _) = some o ∧ _
    rw [d107_ok,ob]
    cases h1 : vlt y x
    ·rw [ite_ft]
     show ∃ o,((d107 N x y).bind _) = some o ∧ _
     rw [d107_ok,ob]
     cases h2 : vlt x y
     ·rw [ite_ft,chk_ok (by omega) (by omega),ob]
      exact ⟨_,rfl,⟨j + 1,by simp,by omega,fin h2 h1⟩,by omega⟩
     ·rw [ite_tt]
      exact ⟨_,rfl,(decide_eq_false (good fun h => by have := hle'.1 h;simp [h2] at this)).symm⟩
    ·rw [ite_tt]
     exact ⟨_,rfl,(decide_eq_true (bad (hlt'.2 (by simp [h1])))).symm⟩
  ·rw [if_neg hlt]
   have : j = a.length := by omega
   subst this
   refine ⟨_,rfl,?_⟩
   show cmpK a b ds = 0
   rw [he,List.drop_eq_nil_of_le (Nat.le_refl _)]
   rfl
 obtain ⟨r,h1,rfl⟩ := h
 exact h1
end Go.Proofs.YtimkkjiplioohaaGreatDoor
end
section
namespace Go.Proofs.YtimkkjiplioohaaGreatDoor
open Option renaming bind_some → ob
open List renaming getElem?_eq_getElem → ge,length_append → lap
open Go.Ab Go.Rp Go.St
def hlt (by_ : S65) (e f : S189) : Bool := decide (ord by_ e.row f.row < 0) || (decide (ord by_ e.row f.row = 0) && decide (e.run < f.run))
theorem hlt_f {by_ : S65} {e f : S189} : hlt by_ e f = false ↔ 0 ≤ ord by_ e.row f.row ∧ (ord by_ e.row f.row = 0 → f.run ≤ e.run) := by
 unfold hlt
 simp only [Bool.or_eq_false_iff,Bool.and_eq_false_imp,decide_eq_false_iff_not,decide_eq_true_eq]
 constructor
 ·rintro ⟨h1,h2⟩
  exact ⟨by omega,fun h => by have := h2 h;omega⟩
 ·rintro ⟨h1,h2⟩
  exact ⟨by omega,fun h => by have := h2 h;omega⟩
theorem hlt_to (by_ : S65) : TO (hlt by_) where
 irr a := hlt_f.2 ⟨by rw [(ord_tp by_).refl];omega,fun _ => Int.le_refl _⟩
 tr a b d h g := by
  rw [hlt_f] at *
  have tp := ord_tp by_
  have a1 := tp.anti b.row a.row
  have a2 := tp.anti d.row b.row
  have a3 := tp.anti d.row a.row
  have a4 := tp.anti a.row b.row
  have a5 := tp.anti b.row d.row
  have a6 := tp.anti a.row d.row
  have t := tp.trans a.row b.row d.row (by omega) (by omega)
  have t2 := @TP.lt_le _ _ tp a.row b.row d.row
  have t3 := @TP.le_lt _ _ tp a.row b.row d.row
  refine ⟨by omega,fun e => ?_⟩
  have e1 : ord by_ b.row a.row = 0 := by
   by_cases e1 : ord by_ b.row a.row = 0
   ·exact e1
   ·have := t2 (by omega) (by omega);omega
  have e2 : ord by_ d.row b.row = 0 := by
   by_cases e2 : ord by_ d.row b.row = 0
   ·exact e2
   ·have := t3 (by omega) (by omega);omega
  have := h.2 e1
  have := g.2 e2
  omega
 asy a b h := by
  rw [hlt_f]
  have tp := ord_tp by_
  have a1 := tp.anti a.row b.row
  have a2 := tp.anti b.row a.row
  unfold hlt at h
  simp only [Bool.or_eq_true,Bool.and_eq_true,decide_eq_true_eq] at h
  rcases h with h | ⟨h1,h2⟩
  ·exact ⟨by omega,by omega⟩
  ·exact ⟨by omega,by omega⟩
section
variable {N : Nat} {by_ : S65} {l : List S189}
def OKh (by_ : S65) (l : List S189) : Prop := by_.Columns.length ≤ 1000 ∧ l.length ≤ 1000 ∧ ∀ e ∈ l,In by_.Columns e.row
theorem OKh.perm {l' : List S189} (h : OKh by_ l) (p : l'.Perm l) : OKh by_ l' := ⟨h.1,by rw [p.length_eq];exact h.2.1,fun e he => h.2.2 e (p.subset he)⟩
theorem d285_ok (hN : 10000 ≤ N) (ok : OKh by_ l) {i j : Nat} {x y : S189} (hi : l[i]? = some x) (hj : l[j]? = some y) : d285 N (S187.mk by_ l) i j = some (hlt by_ x y) := by
 unfold d285
 dsimp only
 rw [idx_nat hi,ob,idx_nat hj,ob,d70_ok (ok.2.2 x (List.mem_of_getElem? hi)) (ok.2.2 y (List.mem_of_getElem? hj)) ok.1 hN,ob]
 unfold hlt
 by_cases h1 : ord by_ x.row y.row < 0
 ·rw [if_pos h1,decide_eq_true h1];rfl
 ·rw [if_neg h1,decide_eq_false h1]
  by_cases h2 : ord by_ x.row y.row = 0
  ·rw [if_pos (by simp [h2]),decide_eq_true h2];rfl
  ·rw [if_neg (by simp [h2]),decide_eq_false h2];rfl
theorem d288_ok {i j : Nat} {x y : S189} (hi : l[i]? = some x) (hj : l[j]? = some y) : d288 N (S187.mk by_ l) i j = some (S187.mk by_ (swp l i j x y)) := by
 unfold d288
 dsimp only
 obtain ⟨h1,_⟩ := List.getElem?_eq_some_iff.1 hj
 rw [idx_nat hj,ob,idx_nat hi,ob,letv_eq]
 have : idx (setI l i y) (j : Int) = some ((setI l i y)[j]'(by unfold setI;rw [List.length_set];exact h1)) := idx_nat (ge _)
 rw [this,ob,letv_eq]
 unfold setI swp
 simp
theorem d134_ok (hN : 10000 ≤ N) (ok : OKh by_ l) {k i n : Nat} (hd : HPd (hlt by_) l n k i) (hk : k ≤ i) (hn : n ≤ l.length) (hi : i ≤ 1000) :
  ∃ l' b,d134 N (S187.mk by_ l) i n = some (S187.mk by_ l',b) ∧ l'.Perm l ∧ HP (hlt by_) l' n k ∧ ∀ j,n ≤ j → l'[j]? = l[j]? := by
 have to := hlt_to by_
 have hl := ok.2.1
 obtain ⟨cols,desc⟩ := by_
 have h : ∃ r,d134 N (S187.mk ⟨cols,desc⟩ l) i n = some r ∧ ∃ l' b,r = (S187.mk ⟨cols,desc⟩ l',b) ∧ l'.Perm l ∧ HP (hlt ⟨cols,desc⟩) l' n k ∧ ∀ j,n ≤ j → l'[j]? = l[j]? := by
  unfold d134
  dsimp only
  refine bind_ex (P := fun s : Int × List Int × List Bool × List S189 => s.2.1 = cols ∧ s.2.2.1 = desc ∧ s.2.2.2.Perm l ∧ HP (hlt ⟨cols,desc⟩) s.2.2.2 n k ∧ ∀ j,n ≤ j → s.2.2.2[j]? = l[j]?) ?_ ?_
  ·refine iter_po _ (fun s : Int × List Int × List Bool × List S189 => n - s.1.toNat) (fun s : Int × List Int × List Bool × List S189 => ∃ i : Nat,s.1 = i ∧ k ≤ i ∧ i ≤ 1000 ∧ s.2.1 = cols ∧ s.2.2.1 = desc ∧ s.2.2.2.Perm l ∧ HPd (hlt ⟨cols,desc⟩) s.2.2.2 n k i ∧ ∀ j,n ≤ j → s.2.2.2[j]? = l[j]?) _ ?_ N _ ⟨i,rfl,hk,hi,rfl,rfl,List.Perm.refl _,hd,fun _ _ => rfl⟩ (by dsimp only;omega)
   rintro ⟨v,l20,l21,h⟩ ⟨i,hv,hk,hi,e1,e2,hp,hd,ht⟩
   dsimp only at hv e1 e2 hp hd ht ⊢
   subst hv e1 e2
   have ok' := ok.perm hp
   have hlen := hp.length_eq
   rw [chk_ok (by omega) (by omega),ob,chk_ok (by omega) (by omega),ob]
   by_cases hc : (2 * (i : Int) + 1) ≥ n
   ·rw [if_pos hc,ob,if_pos rfl]
    exact ⟨_,rfl,rfl,rfl,hp,hd.fin fun j x y hpar hj => by unfold Par at hpar;omega,ht⟩
   rw [if_neg hc,ob,if_neg (by rw [decide_eq_true_iff];omega),chk_ok (by omega) (by omega),ob]
   have gx := ge (l := h) (i := i) (by omega)
   have g1 := ge (l := h) (i := 2 * i + 1) (by omega)
   generalize h[i] = x at gx
   generalize h[2 * i + 1] = y1 at g1
   have c1 : (2 * (i : Int) + 1) = ((2 * i + 1 : Nat) : Int) := by omega
   have c2 : ((2 * i + 1 : Nat) : Int) + 1 = ((2 * i + 2 : Nat) : Int) := by omega
   rw [c1,c2]
   obtain ⟨j,y,hj0,hjn,hpar,gy,hmin⟩ : ∃ (j : Nat) (y : S189),(Option.bind (α := Bool) (if ((2 * i + 2 : Nat) : Int) < (n : Int) then ((d285 N (S187.mk (S65.mk l20 l21) h) ((2 * i + 2 : Nat) : Int) ((2 * i + 1 : Nat) : Int)).bind fun r78 => some r78) else some false) fun (v76 : Bool) => if v76 = true then some ((2 * i + 2 : Nat) : Int) else some ((2 * i + 1 : Nat) : Int)) = some (j : Int) ∧ j < n ∧ Par i j ∧ h[j]? = some y ∧ ∀ j' z,Par i j' → j' < n → h[j']? = some z → hlt ⟨l20,l21⟩ z y = false := by
    by_cases c3 : 2 * i + 2 < n
    ·have g2 := ge (l := h) (i := 2 * i + 2) (by omega)
     generalize h[2 * i + 2] = y2 at g2
     rw [if_pos (by omega),d285_ok hN ok' g2 g1,ob,ob]
     cases hc2 : hlt ⟨l20,l21⟩ y2 y1
     ·rw [ite_ft]
      refine ⟨2 * i + 1,y1,rfl,by omega,.inl rfl,g1,fun j' z hp' _ hz => ?_⟩
      rcases hp' with rfl | rfl
      ·rw [g1] at hz;injection hz with hz;subst hz;exact to.irr _
      ·rw [g2] at hz;injection hz with hz;subst hz;exact hc2
     ·rw [ite_tt]
      refine ⟨2 * i + 2,y2,rfl,c3,.inr rfl,g2,fun j' z hp' _ hz => ?_⟩
      rcases hp' with rfl | rfl
      ·rw [g1] at hz;injection hz with hz;subst hz;exact to.asy _ _ hc2
      ·rw [g2] at hz;injection hz with hz;subst hz;exact to.irr _
    ·rw [if_neg (by omega),ob,ite_ft]
     refine ⟨2 * i + 1,y1,rfl,by omega,.inl rfl,g1,fun j' z hp' hj' hz => ?_⟩
     rcases hp' with rfl | rfl
     ·rw [g1] at hz;injection hz with hz;subst hz;exact to.irr _
     ·omega
   refine bind_ex (P := fun b : Bool => Option.bind (α := Int) (if b = true then some ((2 * i + 2 : Nat) : Int) else some ((2 * i + 1 : Nat) : Int)) some = some (j : Int)) ?_ ?_
   ·obtain ⟨b,hb1,hb2⟩ := Option.bind_eq_some_iff.1 hj0
    exact ⟨b,hb1,by rw [hb2];rfl⟩
   intro b hb
   obtain ⟨v,hv1,hv2⟩ := Option.bind_eq_some_iff.1 hb
   rw [hv1,ob]
   injection hv2 with hv2
   subst hv2
   rw [d285_ok hN ok' gy gx,ob]
   cases hc3 : hlt ⟨l20,l21⟩ y x
   ·rw [if_pos (show (!false) = true from rfl)]
    refine ⟨_,rfl,rfl,rfl,hp,hd.fin fun j' x' z hp' hj' hx' hz => ?_,ht⟩
    rw [gx] at hx';injection hx' with hx';subst hx'
    exact to.tr _ _ _ hc3 (hmin j' z hp' hj' hz)
   ·rw [if_neg (by decide),d288_ok gx gy,ob]
    have hij : i < j := by unfold Par at hpar;omega
    refine ⟨_,rfl,⟨j,rfl,by omega,by omega,rfl,rfl,(swp_perm gx gy).trans hp,hd.swap to hk hpar hjn gx gy hc3 hmin,fun q hq => ?_⟩,by dsimp only;omega⟩
    dsimp only
    rw [swp_get gx gy,if_neg (by omega),if_neg (by omega),ht q hq]
  ·rintro ⟨v,l20,l21,h⟩ ⟨e1,e2,hp,hh,ht⟩
   dsimp only at e1 e2 hp hh ht ⊢
   subst e1 e2
   exact ⟨_,rfl,h,_,rfl,hp,hh,ht⟩
 obtain ⟨r,h1,l',b,rfl,h2⟩ := h
 exact ⟨l',b,h1,h2⟩
theorem d113_ok (hN : 10000 ≤ N) (ok : OKh by_ l) : ∃ l',d113 N (S187.mk by_ l) = some (S187.mk by_ l') ∧ l'.Perm l ∧ HP (hlt by_) l' l.length 0 := by
 have hl := ok.2.1
 obtain ⟨cols,desc⟩ := by_
 have h : ∃ r,d113 N (S187.mk ⟨cols,desc⟩ l) = some r ∧ ∃ l',r = S187.mk ⟨cols,desc⟩ l' ∧ l'.Perm l ∧ HP (hlt ⟨cols,desc⟩) l' l.length 0 := by
  unfold d113 d114
  dsimp only
  rw [ob]
  have q : quoI (l.length : Int) 2 = some ((l.length / 2 : Nat) : Int) := by
   unfold quoI
   rw [if_neg (by decide),Int.tdiv_eq_ediv_of_nonneg (by omega)]
   rw [chk_ok (by omega) (by omega)]
   congr 1
  rw [q,ob,chk_ok (by omega) (by omega),ob]
  refine bind_ex (P := fun s : List Int × List Bool × List S189 => s.1 = cols ∧ s.2.1 = desc ∧ s.2.2.Perm l ∧ HP (hlt ⟨cols,desc⟩) s.2.2 l.length 0) ?_ ?_
  ·refine iter_po _ (fun s : Int × List Int × List Bool × List S189 => (s.1 + 1).toNat) (fun s : Int × List Int × List Bool × List S189 => ∃ k : Nat,s.1 = (k : Int) - 1 ∧ k ≤ l.length ∧ s.2.1 = cols ∧ s.2.2.1 = desc ∧ s.2.2.2.Perm l ∧ HP (hlt ⟨cols,desc⟩) s.2.2.2 l.length k) _ ?_ N _ ⟨l.length / 2,rfl,by omega,rfl,rfl,List.Perm.refl _,fun i j x y h1 h2 h3 => by unfold Par at h2;omega⟩ (by dsimp only;omega)
   rintro ⟨v,l20,l21,h⟩ ⟨k,hv,hk,e1,e2,hp,hh⟩
   dsimp only at hv e1 e2 hp hh ⊢
   subst hv e1 e2
   by_cases hc : (k : Int) - 1 ≥ 0
   ·rw [if_pos hc]
    obtain ⟨k,rfl⟩ : ∃ q,k = q + 1 := ⟨k - 1,by omega⟩
    obtain ⟨l',b,g1,g2,g3,_⟩ := d134_ok hN (ok.perm hp) (HPd.start hh) (Nat.le_refl k) (by rw [hp.length_eq];exact Nat.le_refl _) (by omega)
    rw [show ((k + 1 : Nat) : Int) - 1 = (k : Int) by omega,g1,ob,chk_ok (by omega) (by omega),ob]
    exact ⟨_,rfl,⟨k,rfl,by omega,rfl,rfl,g2.trans hp,g3⟩,by dsimp only;omega⟩
   ·rw [if_neg hc]
    obtain rfl : k = 0 := by omega
    exact ⟨_,rfl,rfl,rfl,hp,hh⟩
  ·rintro ⟨l20,l21,h⟩ ⟨e1,e2,hp,hh⟩
   dsimp only at e1 e2 hp hh ⊢
   subst e1 e2
   exact ⟨_,rfl,h,rfl,hp,hh⟩
 obtain ⟨r,h1,l',rfl,h2⟩ := h
 exact ⟨l',h1,h2⟩
theorem d115_ok (hN : 10000 ≤ N) (ok : OKh by_ l) (hne : l ≠ []) (hh : HP (hlt by_) l l.length 0) :
  ∃ l' x,d115 N (S187.mk by_ l) = some (S187.mk by_ l',x) ∧ (x :: l').Perm l ∧ HP (hlt by_) l' l'.length 0 ∧ ∀ e ∈ l,hlt by_ e x = false := by
 have hl := ok.2.1
 have hpos := List.length_pos_iff.2 hne
 obtain ⟨n,hn⟩ : ∃ n,l.length = n + 1 := ⟨l.length - 1,by omega⟩
 have g0 := ge (l := l) (i := 0) (by omega)
 have gn := ge (l := l) (i := n) (by omega)
 generalize l[0] = x at g0
 generalize l[n] = y at gn
 have hmin : ∀ e ∈ l,hlt by_ e x = false := fun e he => by
  obtain ⟨j,hj⟩ := List.getElem?_of_mem he
  exact hh.root (hlt_to by_) g0 j e (List.getElem?_eq_some_iff.1 hj).1 hj
 unfold d115 d114
 dsimp only
 rw [ob,show (l.length : Int) - 1 = (n : Int) by omega,chk_ok (by omega) (by omega),ob,show (0 : Int) = ((0 : Nat) : Int) from rfl,d288_ok g0 gn,ob]
 have hp := swp_perm g0 gn
 have hd : HPd (hlt by_) (swp l 0 n x y) n 0 0 := by
  refine ⟨fun p j a b h1 h2 h3 h4 h5 h6 => ?_,fun p j a b h1 h2 => by unfold Par at h2;omega⟩
  rw [swp_get g0 gn] at h5 h6
  rw [if_neg (by unfold Par at h3;omega),if_neg h2] at h5
  rw [if_neg (by omega),if_neg (by unfold Par at h3;omega)] at h6
  exact hh p j a b (Nat.zero_le _) h3 (by omega) h5 h6
 obtain ⟨l',b,e1,e2,e3,e4⟩ := d134_ok hN (ok.perm hp) hd (Nat.le_refl 0) (by rw [swp_len];omega) (by omega)
 rw [e1,ob]
 have hl' : l'.length = n + 1 := by rw [e2.length_eq,swp_len,hn]
 have gl : l'[n]? = some x := by
  rw [e4 n (Nat.le_refl n),swp_get g0 gn,if_pos rfl]
 have el : l' = l'.take n ++ [x] := by
  rw [← take_succ' gl,← hl',List.take_length]
 unfold d286
 dsimp only
 rw [show (l'.length : Int) - 1 = (n : Int) by omega,chk_ok (by omega) (by omega),ob,idx_nat gl,ob,ob]
 have : natI (n : Int) l'.length = some n := by
  unfold natI
  rw [if_pos (by omega)]
  rfl
 rw [this,ob,ob]
 refine ⟨_,_,rfl,?_,?_,hmin⟩
 ·refine List.Perm.trans ?_ (e2.trans hp)
  conv => rhs;rw [el]
  exact (List.perm_append_singleton x (l'.take n)).symm
 ·rw [List.length_take,Nat.min_eq_left (by omega)]
  intro i j a b h1 h2 h3 h4 h5
  rw [List.getElem?_take_of_lt (by unfold Par at h2;omega)] at h4
  rw [List.getElem?_take_of_lt h3] at h5
  exact e3 i j a b h1 h2 h3 h4 h5
theorem d116_ok (hN : 10000 ≤ N) {x : S189} (ok : OKh by_ (l ++ [x])) (hh : HP (hlt by_) l l.length 0) :
  ∃ l',d116 N (S187.mk by_ l) x = some (S187.mk by_ l') ∧ l'.Perm (l ++ [x]) ∧ HP (hlt by_) l' l'.length 0 := by
 have hl := ok.2.1
 have hl2 : (l ++ [x]).length = l.length + 1 := by simp
 have to := hlt_to by_
 have hu : HPu (hlt by_) (l ++ [x]) (l.length + 1) l.length := by
  refine HPu.start fun i j a b h1 h2 h3 h4 h5 => ?_
  rw [List.getElem?_append_left (by unfold Par at h2;omega)] at h4
  rw [List.getElem?_append_left h3] at h5
  exact hh i j a b h1 h2 h3 h4 h5
 obtain ⟨cols,desc⟩ := by_
 have h : ∃ r,d116 N (S187.mk ⟨cols,desc⟩ l) x = some r ∧ ∃ l',r = S187.mk ⟨cols,desc⟩ l' ∧ l'.Perm (l ++ [x]) ∧ HP (hlt ⟨cols,desc⟩) l' l'.length 0 := by
  unfold d116 d287 d114
  dsimp only
  have : appL 56 l [x] = some (l ++ [x]) := by
   unfold appL
   rw [if_pos (by unfold Rp.reach;simp only [List.length_singleton];omega)]
  rw [this,ob,ob,ob,hl2,show ((l.length + 1 : Nat) : Int) - 1 = (l.length : Int) by omega,chk_ok (by omega) (by omega),ob]
  unfold d135
  dsimp only
  refine bind_ex (P := fun r => ∃ l',r = S187.mk ⟨cols,desc⟩ l' ∧ l'.Perm (l ++ [x]) ∧ HP (hlt ⟨cols,desc⟩) l' l'.length 0) ?_ fun r hr => ⟨r,rfl,hr⟩
  refine bind_ex (P := fun s : List Int × List Bool × List S189 => s.1 = cols ∧ s.2.1 = desc ∧ s.2.2.Perm (l ++ [x]) ∧ HP (hlt ⟨cols,desc⟩) s.2.2 (l.length + 1) 0) ?_ ?_
  ·refine iter_po _ (fun s : Int × List Int × List Bool × List S189 => s.1.toNat) (fun s : Int × List Int × List Bool × List S189 => ∃ j : Nat,s.1 = (j : Int) ∧ j < l.length + 1 ∧ s.2.1 = cols ∧ s.2.2.1 = desc ∧ s.2.2.2.Perm (l ++ [x]) ∧ HPu (hlt ⟨cols,desc⟩) s.2.2.2 (l.length + 1) j) _ ?_ N _ ⟨l.length,rfl,by omega,rfl,rfl,List.Perm.refl _,hu⟩ (by dsimp only;omega)
   rintro ⟨v,l20,l21,h⟩ ⟨j,hv,hj,e1,e2,hp,hu⟩
   dsimp only at hv e1 e2 hp hu ⊢
   subst hv e1 e2
   have ok' := ok.perm hp
   have hlen := hp.length_eq
   rw [chk_ok (by omega) (by omega),ob]
   by_cases h0 : j = 0
   ·subst h0
    have : quoI (((0 : Nat) : Int) - 1) 2 = some 0 := rfl
    rw [this,ob,if_pos (by rfl),ob,if_pos rfl]
    exact ⟨_,rfl,rfl,rfl,hp,hu.fin fun p a b hpar => by unfold Par at hpar;omega⟩
   ·have q : quoI ((j : Int) - 1) 2 = some (((j - 1) / 2 : Nat) : Int) := by
     unfold quoI
     rw [if_neg (by decide),Int.tdiv_eq_ediv_of_nonneg (by omega)]
     rw [chk_ok (by omega) (by omega)]
     congr 1
     omega
    have hpar : Par ((j - 1) / 2) j := by unfold Par;omega
    have gx := ge (l := h) (i := (j - 1) / 2) (by omega)
    have gy := ge (l := h) (i := j) (by omega)
    generalize h[(j - 1) / 2] = a at gx
    generalize h[j] = b at gy
    rw [q,ob,if_neg (by simp;omega),d285_ok hN ok' gy gx,ob,ob]
    cases hc : hlt ⟨l20,l21⟩ b a
    ·rw [if_pos (show (!false) = true from rfl)]
     refine ⟨_,rfl,rfl,rfl,hp,hu.fin fun p a' b' hp' ha' hb' => ?_⟩
     obtain rfl : p = (j - 1) / 2 := by unfold Par at hp';omega
     rw [gx] at ha';injection ha' with ha';subst ha'
     rw [gy] at hb';injection hb' with hb';subst hb'
     exact hc
    ·rw [if_neg (by decide),d288_ok gx gy,ob]
     exact ⟨_,rfl,⟨(j - 1) / 2,rfl,by omega,rfl,rfl,(swp_perm gx gy).trans hp,hu.swap to hpar hj gx gy hc⟩,by dsimp only;omega⟩
  ·rintro ⟨l20,l21,h⟩ ⟨e1,e2,hp,hh⟩
   dsimp only at e1 e2 hp hh ⊢
   subst e1 e2
   exact ⟨_,rfl,h,rfl,hp,by rw [hp.length_eq,hl2];exact hh⟩
 obtain ⟨r,h1,l',rfl,h2⟩ := h
 exact ⟨l',h1,h2⟩
end
end Go.Proofs.YtimkkjiplioohaaGreatDoor
end
section
namespace Go.Proofs.YtimkkjiplioohaaGreatDoor
open Option renaming bind_some → ob
open List renaming getElem?_eq_getElem → ge,length_append → lap
open Go.Ab Go.Rp Go.St
structure Ent (h : List S189) (rem : List (List Row)) : Prop where
 e1 : ∀ e ∈ h,∃ i : Nat,e.run = i ∧ rem[i]? = some (e.row :: e.rest)
 e2 : ∀ (i : Nat) x xs,rem[i]? = some (x :: xs) → S189.mk x i xs ∈ h
 nd : (h.map (·.run)).Nodup
theorem Ent.perm {h h' : List S189} {rem : List (List Row)} (e : Ent h rem) (p : h'.Perm h) : Ent h' rem :=
 ⟨fun x hx => e.e1 x (p.subset hx),fun i x xs hi => p.symm.subset (e.e2 i x xs hi),(p.map _).nodup_iff.2 e.nd⟩
theorem Ent.pop {x : S189} {h h' : List S189} {rem : List (List Row)} (e : Ent h rem) (p : (x :: h').Perm h) {i : Nat} (hi : x.run = i) (hg : rem[i]? = some (x.row :: x.rest)) :
  (x.rest = [] → Ent h' (rem.set i [])) ∧ ∀ z zs,x.rest = z :: zs → Ent (h' ++ [⟨z,i,zs⟩]) (rem.set i (z :: zs)) := by
 obtain ⟨f1,f2,f3⟩ := e.perm p
 rw [List.map_cons,List.nodup_cons] at f3
 have hlt := (List.getElem?_eq_some_iff.1 hg).1
 have other : ∀ f ∈ h',∃ k : Nat,f.run = k ∧ k ≠ i ∧ rem[k]? = some (f.row :: f.rest) := fun f hf => by
  obtain ⟨k,hk,hg2⟩ := f1 f (List.mem_cons_of_mem _ hf)
  refine ⟨k,hk,fun e => f3.1 ?_,hg2⟩
  rw [List.mem_map]
  exact ⟨f,hf,by rw [hk,hi,e]⟩
 have back : ∀ (k : Nat) y ys,k ≠ i → rem[k]? = some (y :: ys) → S189.mk y k ys ∈ h' := fun k y ys hne hk => by
  rcases List.mem_cons.1 (f2 k y ys hk) with e | e
  ·exact absurd (by rw [← e] at hi;exact Int.ofNat.inj hi) hne
  ·exact e
 refine ⟨fun hr => ⟨fun f hf => ?_,fun k y ys hk => ?_,f3.2⟩,fun z zs hr => ⟨fun f hf => ?_,fun k y ys hk => ?_,?_⟩⟩
 ·obtain ⟨k,h1,h2,h3⟩ := other f hf
  exact ⟨k,h1,by rw [List.getElem?_set_ne (Ne.symm h2)];exact h3⟩
 ·by_cases e : k = i
  ·subst e;rw [List.getElem?_set_self hlt] at hk;cases hk
  ·rw [List.getElem?_set_ne (Ne.symm e)] at hk
   exact back k y ys e hk
 ·rcases List.mem_append.1 hf with hf | hf
  ·obtain ⟨k,h1,h2,h3⟩ := other f hf
   exact ⟨k,h1,by rw [List.getElem?_set_ne (Ne.symm h2)];exact h3⟩
  ·obtain rfl := List.mem_singleton.1 hf
   exact ⟨i,rfl,List.getElem?_set_self hlt⟩
 ·by_cases e : k = i
  ·subst e
   rw [List.getElem?_set_self hlt] at hk
   injection hk with hk
   injection hk with h1 h2
   subst h1 h2
   simp
  ·rw [List.getElem?_set_ne (Ne.symm e)] at hk
   exact List.mem_append_left _ (back k y ys e hk)
 ·rw [List.map_append,List.nodup_append]
  refine ⟨f3.2,by simp,fun a ha b hb => ?_⟩
  obtain rfl : b = (i : Int) := by simpa using hb
  obtain ⟨f,hf,rfl⟩ := List.mem_map.1 ha
  obtain ⟨k,h1,h2,_⟩ := other f hf
  rw [h1]
  omega
theorem natI_one {l : List Row} (h : 0 < l.length) : natI 1 l.length = some 1 := by
 unfold natI
 rw [if_pos (by omega)]
 rfl
theorem app_ok {α : Type} {b : Nat} {l m : List α} (h : l.length + m.length ≤ 100000) (hb : b ≤ 1000) : appL b l m = some (l ++ m) := by
 unfold appL
 have : (l.length + m.length) * b ≤ 100000 * 1000 := Nat.mul_le_mul h hb
 rw [if_pos (by unfold Rp.reach;omega)]
theorem d86_ok {N : Nat} {by_ : S65} {R : List (List Row)} (hN : 10000 ≤ N) (hc : by_.Columns.length ≤ 1000) (hR : R.length ≤ 1000) (hF : R.flatten.length ≤ 1000) (hs : ∀ r ∈ R,Srt (ord by_) r) (hI : ∀ x ∈ R.flatten,In by_.Columns x) :
  ∃ X,d86 N R by_ = some X ∧ Srt (ord by_) X ∧ Sim (ord by_) R.flatten X := by
 have tp := ord_tp by_
 unfold d86
 refine bind_ex (P := fun h : List S189 => Ent h R ∧ h.length ≤ R.length) ?_ ?_
 ·refine iter_po _ (fun s : List S189 × Int => (R.length - s.2).toNat) (fun s : List S189 × Int => ∃ j : Nat,s.2 = j ∧ j ≤ R.length ∧ s.1.length ≤ j ∧ Ent s.1 (R.take j)) _ ?_ N _ ⟨0,rfl,Nat.zero_le _,Nat.le_refl _,fun e he => by simp at he,fun i x xs h => by simp at h,by simp⟩ (by dsimp only;omega)
  rintro ⟨h,v⟩ ⟨j,hv,hj,hl,hE⟩
  dsimp only at hv hl hE ⊢
  subst hv
  by_cases hlt : (j : Int) < R.length
  ·rw [if_pos hlt]
   have gx := ge (l := R) (i := j) (by omega)
   generalize R[j] = r at gx
   have gt : (R.take (j + 1))[j]? = some r := by rw [List.getElem?_take_of_lt (by omega)];exact gx
   have old : ∀ i,i < j → (R.take (j + 1))[i]? = (R.take j)[i]? := fun i hi => by rw [List.getElem?_take_of_lt (by omega),List.getElem?_take_of_lt hi]
   have lej : ∀ {i : Nat} {y : List Row},(R.take j)[i]? = some y → i < j := fun {i y} h => by
    have := (List.getElem?_eq_some_iff.1 h).1
    rw [List.length_take] at this
    omega
   have lej' : ∀ {i : Nat} {y : List Row},(R.take (j + 1))[i]? = some y → i < j + 1 := fun {i y} h => by
    have := (List.getElem?_eq_some_iff.1 h).1
    rw [List.length_take] at this
    omega
   rw [idx_nat gx,ob]
   cases r with
   | nil =>
    rw [if_neg (by simp),chk_ok (by omega) (by omega),ob]
    refine ⟨_,rfl,⟨j + 1,by simp,by omega,by dsimp only;omega,fun e he => ?_,fun i x xs hi => ?_,hE.nd⟩,by dsimp only;omega⟩
    ·obtain ⟨i,h1,h2⟩ := hE.e1 e he
     exact ⟨i,h1,by rw [old i (lej h2)];exact h2⟩
    ·by_cases e : i = j
     ·subst e;rw [gt] at hi;cases hi
     ·have := lej' hi
      rw [old i (by omega)] at hi
      exact hE.e2 i x xs hi
   | cons x xs =>
    rw [if_pos (by simp),show idx (x :: xs) 0 = some x from rfl,ob,natI_one (by simp),ob,letv_eq,app_ok (by simp;omega) (by omega),ob,chk_ok (by omega) (by omega),ob]
    refine ⟨_,rfl,⟨j + 1,by simp,by omega,by simp;omega,fun e he => ?_,fun i y ys hi => ?_,?_⟩,by dsimp only;omega⟩
    ·rcases List.mem_append.1 he with he | he
     ·obtain ⟨i,h1,h2⟩ := hE.e1 e he
      exact ⟨i,h1,by rw [old i (lej h2)];exact h2⟩
     ·obtain rfl := List.mem_singleton.1 he
      exact ⟨j,rfl,gt⟩
    ·by_cases e : i = j
     ·subst e
      rw [gt] at hi
      injection hi with hi
      injection hi with h1 h2
      subst h1 h2
      simp
     ·have := lej' hi
      rw [old i (by omega)] at hi
      exact List.mem_append_left _ (hE.e2 i y ys hi)
    ·rw [List.map_append,List.nodup_append]
     refine ⟨hE.nd,by simp,fun a ha b hb => ?_⟩
     obtain rfl : b = (j : Int) := by simpa using hb
     obtain ⟨f,hf,rfl⟩ := List.mem_map.1 ha
     obtain ⟨k,h1,h2⟩ := hE.e1 f hf
     have := lej h2
     rw [h1]
     omega
  ·rw [if_neg hlt]
   obtain rfl : j = R.length := by omega
   rw [List.take_length] at hE
   exact ⟨_,rfl,hE,hl⟩
 rintro h ⟨hE,hl⟩
 have inE : ∀ {h : List S189} {rem : List (List Row)} {out : List Row},Ent h rem → Sim (ord by_) R.flatten (out ++ rem.flatten) → ∀ e ∈ h,In by_.Columns e.row := fun {h rem out} hE hsim e he => by
  obtain ⟨i,_,h2⟩ := hE.e1 e he
  refine hI _ (hsim.symm.mem tp (List.mem_append_right _ (List.mem_flatten.2 ⟨_,List.mem_of_getElem? h2,List.mem_cons_self ..⟩)))
 have hok : OKh by_ h := ⟨hc,by omega,inE (out := []) hE .rfl⟩
 obtain ⟨h1,g1,g2,g3⟩ := d113_ok hN hok
 rw [g1,ob]
 have hl1 := g2.length_eq
 rw [← hl1] at g3
 have hE1 := hE.perm g2
 clear g1 g2 hE hok
 obtain ⟨cols,desc⟩ := by_
 refine bind_ex (P := fun X => Srt (ord ⟨cols,desc⟩) X ∧ Sim (ord ⟨cols,desc⟩) R.flatten X) ?_ fun X hX => ⟨X,rfl,hX⟩
 refine iter_po _ (fun s : List Int × List Bool × List S189 × List Row => R.flatten.length - s.2.2.2.length) (fun s : List Int × List Bool × List S189 × List Row => s.1 = cols ∧ s.2.1 = desc ∧ ∃ rem,Ent s.2.2.1 rem ∧ HP (hlt ⟨cols,desc⟩) s.2.2.1 s.2.2.1.length 0 ∧ MI (ord ⟨cols,desc⟩) R.flatten s.2.2.2 rem ∧ s.2.2.1.length ≤ R.length) _ ?_ N _ ⟨rfl,rfl,R,hE1,g3,⟨List.Pairwise.nil,by simp,hs,.rfl⟩,by dsimp only;omega⟩ (by dsimp only;omega)
 rintro ⟨l55,l56,h,out⟩ ⟨e1,e2,rem,hE,hH,hM,hl⟩
 dsimp only at e1 e2 hE hH hM hl ⊢
 subst e1 e2
 have hlen := hM.sim.len tp
 rw [lap] at hlen
 have hok : OKh ⟨l55,l56⟩ h := ⟨hc,by omega,inE hE hM.sim⟩
 unfold d114
 rw [ob]
 dsimp only
 by_cases h0 : h = []
 ·subst h0
  rw [if_neg (by simp)]
  refine ⟨_,rfl,hM.srt,?_⟩
  have : rem.flatten = [] := by
   rw [List.flatten_eq_nil_iff]
   intro r hr
   obtain ⟨i,hi⟩ := List.getElem?_of_mem hr
   cases r with
   | nil => rfl
   | cons y ys => have := hE.e2 i y ys hi;simp at this
  have hs := hM.sim
  rw [this,List.append_nil] at hs
  exact hs
 ·have hpos := List.length_pos_iff.2 h0
  rw [if_pos (by omega)]
  obtain ⟨h',x,k1,k2,k3,k4⟩ := d115_ok hN hok h0 hH
  obtain ⟨i,hi,hg⟩ := hE.e1 x (k2.subset (List.mem_cons_self ..))
  have hM' := hM.pop tp hg fun j y ys hj => by
   have := hlt_f.1 (k4 _ (hE.e2 j y ys hj))
   dsimp only at this
   have a1 := tp.anti y x.row
   have a2 := tp.anti x.row y
   exact ⟨by omega,fun hji => by
    by_cases e : ord ⟨l55,l56⟩ y x.row = 0
    ·have := this.2 e;omega
    ·omega⟩
  obtain ⟨p1,p2⟩ := hE.pop k2 hi hg
  have hl' := k2.length_eq
  rw [List.length_cons] at hl'
  have hlen' := hM'.sim.len tp
  rw [lap,lap,List.length_singleton] at hlen'
  rw [k1,ob]
  dsimp only
  rw [app_ok (by simp;omega) (by omega),ob]
  cases hr : x.rest with
  | nil =>
   rw [if_neg (by simp)]
   rw [hr] at hM'
   exact ⟨_,rfl,⟨rfl,rfl,_,p1 hr,k3,hM',by dsimp only;omega⟩,by dsimp only;rw [lap,List.length_singleton];omega⟩
  | cons z zs =>
   rw [if_pos (by simp),show idx (z :: zs) 0 = some z from rfl,ob,natI_one (by simp),ob,letv_eq]
   rw [hr] at hM'
   have hE2 := p2 z zs hr
   have hok2 : OKh ⟨l55,l56⟩ (h' ++ [⟨z,(i : Int),zs⟩]) := ⟨hc,by simp;omega,inE hE2 hM'.sim⟩
   obtain ⟨h2,m1,m2,m3⟩ := d116_ok hN hok2 k3
   rw [hi,show List.drop 1 (z :: zs) = zs from rfl,m1,ob]
   have hl2 := m2.length_eq
   rw [lap,List.length_singleton] at hl2
   exact ⟨_,rfl,⟨rfl,rfl,_,hE2.perm m2,m3,hM',by dsimp only;omega⟩,by dsimp only;rw [lap,List.length_singleton];omega⟩
end Go.Proofs.YtimkkjiplioohaaGreatDoor
end
section
namespace Go.Proofs.YtimkkjiplioohaaGreatDoor
open Option renaming bind_some → ob
open List renaming getElem?_eq_getElem → ge,length_append → lap
open Go.Ab Go.Rp Go.St
theorem rangeL_inv {α β ρ : Type} {step : α → β → Option (Out β ρ)} (I : Nat → β → Prop) : ∀ (cs : List α) (k0 : Nat),(∀ k x b,cs[k]? = some x → I (k0 + k) b → ∃ b',step x b = some (.go b') ∧ I (k0 + k + 1) b') → ∀ b,I k0 b → ∃ b',rangeL step cs b = some (.go b') ∧ I (k0 + cs.length) b'
 | [],k0,_,b,hb => ⟨b,rfl,hb⟩
 | x :: cs,k0,h,b,hb => by
  obtain ⟨b1,h1,h2⟩ := h 0 x b rfl hb
  obtain ⟨b2,h3,h4⟩ := rangeL_inv I cs (k0 + 1) (fun k y b hy hb => by
   obtain ⟨b',g1,g2⟩ := h (k + 1) y b (by simpa using hy) (by rw [show k0 + (k + 1) = k0 + 1 + k by omega];exact hb)
   exact ⟨b',g1,by rw [show k0 + 1 + k + 1 = k0 + (k + 1) + 1 by omega];exact g2⟩) b1 h2
  refine ⟨b2,?_,by rw [List.length_cons,show k0 + (cs.length + 1) = k0 + 1 + cs.length by omega];exact h4⟩
  rw [rangeL,h1]
  exact h3
theorem rangeL_ex {α β ρ : Type} {step : α → β → Option (Out β ρ)} {Post : Out β ρ → Prop} {cs : List α} {b : β} (I : Nat → β → Prop) (h : ∀ k x b,cs[k]? = some x → I k b → ∃ b',step x b = some (.go b') ∧ I (k + 1) b') (h0 : I 0 b) (hP : ∀ b',I cs.length b' → Post (.go b')) : ∃ o,rangeL step cs b = some o ∧ Post o := by
 obtain ⟨b',h1,h2⟩ := rangeL_inv I cs 0 (fun k x b hx hb => by rw [Nat.zero_add] at *;exact h k x b hx hb) b h0
 rw [Nat.zero_add] at h2
 exact ⟨_,h1,hP b' h2⟩
theorem chunksO_ok {α : Type} {m : Nat} {xs : List α} (h1 : 1 ≤ m) (h2 : m ≤ 1000) (h3 : xs.length ≤ 1000) : chunksO (m : Int) xs = some (chunksL m xs) := by
 unfold chunksO
 rw [if_pos (by omega),Int.toNat_natCast]
structure Val (l : List Row) (by_ : S65) (m : Nat) : Prop where
 l60 : l.length ≤ 600
 m2 : 2 ≤ m
 m64 : m ≤ 64
 d : by_.Descending.length ≤ by_.Columns.length
 c : by_.Columns.length ≤ 10
 i : ∀ k ∈ by_.Columns,0 ≤ k ∧ ∀ r ∈ l,k < r.length
 w : ∀ r ∈ l,r.length ≤ 1000
theorem Val.In {l : List Row} {by_ : S65} {m : Nat} (h : Val l by_ m) : ∀ r ∈ l,In by_.Columns r := fun r hr k hk => ⟨(h.i k hk).1,(h.i k hk).2 r hr⟩
theorem any_ok {N : Nat} {rows : List Row} (hN : 10000 ≤ N) (hl : rows.length ≤ 1000) (p : List S61 → Option Bool) (q : List S61 → Bool) (hp : ∀ r ∈ rows,p r = some (q r)) : d56 N rows p = some (rows.any q) := by
 have h : ∃ x,d98 N rows p = some x ∧ (x ≥ 0 ↔ rows.any q = true) := by
  unfold d98
  refine bindO_ex (P := fun o => match o with
   | .ret x => 0 ≤ x ∧ rows.any q = true
   | .go _ => rows.any q = false) ?_ (fun x hx => ⟨fun _ => hx.2,fun _ => hx.1⟩) fun _ hx => ⟨-1,rfl,⟨fun h => by omega,fun h => by rw [show rows.any q = false from hx] at h;cases h⟩⟩
  refine iter_post _ (fun s : Int => rows.length - s.toNat) (fun s : Int => ∃ j : Nat,s = j ∧ j ≤ rows.length ∧ (rows.take j).any q = false) _ ?_ N _ ⟨0,rfl,Nat.zero_le _,rfl⟩ (by omega)
  rintro s ⟨j,rfl,hj,ha⟩
  by_cases hlt : (j : Int) < (rows.length : Int)
  ·rw [if_pos hlt]
   have hx := ge (l := rows) (i := j) (by omega)
   have hm : rows[j] ∈ rows := List.getElem_mem _
   generalize rows[j] = x at hx hm
   rw [idx_nat hx,ob,hp x hm,ob]
   cases hq : q x with
   | true =>
    rw [ite_tt]
    exact .inr ⟨_,rfl,by omega,List.any_eq_true.2 ⟨x,hm,hq⟩⟩
   | false =>
    rw [ite_ft,chk_ok (by omega) (by omega),ob]
    exact .inl ⟨_,rfl,⟨j + 1,by simp,by omega,by rw [take_succ' hx,List.any_append,ha];simp [hq]⟩,by omega⟩
  ·rw [if_neg hlt]
   refine .inr ⟨_,rfl,?_⟩
   have : j = rows.length := by omega
   subst this
   rw [List.take_length] at ha
   exact ha
 obtain ⟨x,h1,h2⟩ := h
 unfold d56
 rw [h1,ob]
 congr 1
 cases hq : rows.any q with
 | true => exact decide_eq_true (h2.2 hq)
 | false => exact decide_eq_false fun h => by have := h2.1 h;rw [hq] at this;cases this
theorem cols_ok {N : Nat} {l : List Row} {cols : List Int} (hN : 10000 ≤ N) (hl : l.length ≤ 600) (hc : cols.length ≤ 10) :
  ∃ o,iterN (σ := Int) (ρ := (Out Unit Int)) (fun (v16 : Int) =>
   if v16 < (cols.length : Int) then (
    (idx cols v16).bind fun x39 =>
    Option.bind (α := Bool) (
     if x39 < 0 then (
      some true
     ) else
     (d56 N l (fun b0 => d73 N b0 x39)).bind fun r45 =>
     some r45
    ) fun (v43 : Bool) =>
    if v43 = true then (
     some (.inr (.ret 3))
    ) else
    (chkI (v16 + 1)).bind fun v47 =>
    some (.inl v47)
   ) else
   some (.inr (.go ()))
  ) N 0 = some o ∧ ((o = .ret 3 ∧ ¬ ∀ k ∈ cols,0 ≤ k ∧ ∀ r ∈ l,k < r.length) ∨ (o = .go () ∧ ∀ k ∈ cols,0 ≤ k ∧ ∀ r ∈ l,k < r.length)) := by
 refine iter_po _ (fun s : Int => cols.length - s.toNat) (fun s : Int => ∃ j : Nat,s = j ∧ j ≤ cols.length ∧ ∀ k ∈ cols.take j,0 ≤ k ∧ ∀ r ∈ l,k < r.length) _ ?_ N _ ⟨0,rfl,Nat.zero_le _,by simp⟩ (by omega)
 rintro s ⟨j,rfl,hj,ha⟩
 by_cases hlt : (j : Int) < (cols.length : Int)
 ·rw [if_pos hlt]
  have hx := ge (l := cols) (i := j) (by omega)
  have hm : cols[j] ∈ cols := List.getElem_mem _
  generalize cols[j] = x at hx hm
  rw [idx_nat hx,ob]
  by_cases h0 : x < 0
  ·rw [if_pos h0,ob,if_pos rfl]
   exact ⟨_,rfl,.inl ⟨rfl,fun h => by have := (h x hm).1;omega⟩⟩
  ·have hany : d56 N l (fun b0 => d73 N b0 x) = some (l.any fun r => decide (x ≥ (r.length : Int))) := any_ok hN (by omega) _ _ (fun r _ => rfl)
   rw [if_neg h0,hany,ob,ob]
   cases hq : l.any fun r => decide (x ≥ (r.length : Int)) with
   | true =>
    rw [ite_tt]
    refine ⟨_,rfl,.inl ⟨rfl,fun h => ?_⟩⟩
    obtain ⟨r,h1,h2⟩ := List.any_eq_true.1 hq
    have := (h x hm).2 r h1
    have := of_decide_eq_true h2
    omega
   | false =>
    rw [ite_ft,chk_ok (by omega) (by omega),ob]
    refine ⟨_,rfl,⟨j + 1,by simp,by omega,fun k hk => ?_⟩,by omega⟩
    rw [take_succ' hx] at hk
    rcases List.mem_append.1 hk with h | h
    ·exact ha k h
    ·obtain rfl := List.mem_singleton.1 h
     refine ⟨by omega,fun r hr => ?_⟩
     have := List.any_eq_false.1 hq r hr
     simp at this
     omega
 ·rw [if_neg hlt]
  have : j = cols.length := by omega
  subst this
  rw [List.take_length] at ha
  exact ⟨_,rfl,.inr ⟨rfl,ha⟩⟩
theorem d31_ok {N : Nat} {l : List Row} {by_ : S65} {m : Int} (hN : 10000 ≤ N) (hl : l.length ≤ 600) (hc : by_.Columns.length ≤ 10) :
  ∃ e,d31 N l by_ m = some e ∧ (e = 0 → 2 ≤ m ∧ m ≤ 64 ∧ by_.Descending.length ≤ by_.Columns.length ∧ ∀ k ∈ by_.Columns,0 ≤ k ∧ ∀ r ∈ l,k < r.length) ∧
   (2 ≤ m ∧ m ≤ 64 ∧ by_.Descending.length ≤ by_.Columns.length → (∀ k ∈ by_.Columns,0 ≤ k ∧ ∀ r ∈ l,k < r.length) → e = 0) := by
 unfold d31
 rw [if_neg (by omega)]
 by_cases h1 : m < 2
 ·rw [if_pos h1,ob,if_pos rfl]
  exact ⟨1,rfl,(fun h => by cases h),fun h => by omega⟩
 rw [if_neg h1,ob]
 by_cases h2 : m > 64
 ·rw [if_pos (decide_eq_true h2)]
  exact ⟨1,rfl,(fun h => by cases h),fun h => by omega⟩
 rw [if_neg (by rw [decide_eq_true_iff];exact h2)]
 by_cases h3 : (by_.Descending.length : Int) > by_.Columns.length
 ·rw [if_pos h3]
  exact ⟨3,rfl,(fun h => by cases h),fun h => by omega⟩
 rw [if_neg h3]
 obtain ⟨o,g1,g2⟩ := cols_ok (N := N) hN hl hc
 rw [g1]
 rcases g2 with ⟨rfl,g2⟩ | ⟨rfl,g2⟩
 ·exact ⟨3,rfl,(fun h => by cases h),fun _ h => absurd h g2⟩
 ·exact ⟨0,rfl,fun _ => ⟨by omega,by omega,by omega,g2⟩,fun _ _ => rfl⟩
section
variable {N : Nat} {l : List Row} {by_ : S65} {m : Nat}
theorem Val.ok (hN : 10000 ≤ N) (v : Val l by_ m) : d31 N l by_ m = some 0 := by
 obtain ⟨e,h1,_,h3⟩ := d31_ok (m := (m : Int)) hN v.l60 v.c
 rw [h1,h3 ⟨by have := v.m2;omega,by have := v.m64;omega,v.d⟩ v.i]
def itc (m : Nat) : Nat → Nat → Nat
 | 0,c => c
 | p + 1,c => (itc m p c + m - 1) / m
theorem ceil_le {c m : Nat} (hm : 1 ≤ m) : c ≤ (c + m - 1) / m * m := by
 have := Nat.div_add_mod (c + m - 1) m
 have h2 := Nat.mod_lt (c + m - 1) (show 0 < m by omega)
 rw [Nat.mul_comm] at this
 omega
theorem ceil_lt {c m : Nat} (hm : 2 ≤ m) (hc : 1 < c) : (c + m - 1) / m < c := by
 rw [Nat.div_lt_iff_lt_mul (by omega)]
 have : c * 2 ≤ c * m := Nat.mul_le_mul_left c hm
 have : (c - 2) * 2 ≤ (c - 2) * m := Nat.mul_le_mul_left _ hm
 have e : c * m = (c - 2) * m + 2 * m := by rw [← Nat.add_mul];congr 1;omega
 omega
theorem d84_ok (hN : 10000 ≤ N) (v : Val l by_ m) : ∃ R,d84 N l by_ m = some (R,0) ∧ R.length = (l.length + m - 1) / m ∧ (∀ r ∈ R,Srt (ord by_) r) ∧ Sim (ord by_) l R.flatten := by
 have tp := ord_tp by_
 have hl := v.l60
 have hm2 := v.m2
 have hm64 := v.m64
 have h : ∃ x,d84 N l by_ m = some x ∧ ∃ R,x = (R,0) ∧ R.length = (l.length + m - 1) / m ∧ (∀ r ∈ R,Srt (ord by_) r) ∧ Sim (ord by_) l R.flatten := by
  unfold d84
  rw [v.ok hN,ob,if_neg (by decide)]
  have : posG (m : Int) = some () := by unfold posG;rw [if_pos (by omega)]
  rw [this,ob]
  refine bindO_ex (P := fun o => ∃ R,o = .go R ∧ R.length = (l.length + m - 1) / m ∧ (∀ r ∈ R,Srt (ord by_) r) ∧ Sim (ord by_) l R.flatten) ?_ (fun x hx => by obtain ⟨R,h,_⟩ := hx;cases h) ?_
  ·rw [chunksO_ok (by omega) (by omega) (by omega),ob]
   refine rangeL_ex (fun k R => R.length = k ∧ (∀ r ∈ R,Srt (ord by_) r) ∧ Sim (ord by_) (l.take (k * m)) R.flatten) (fun k x R hx => ?_) ⟨rfl,by simp,by simp;exact .rfl⟩ fun R => ?_
   ·rintro ⟨h1,h2,h3⟩
    have ex := chunksL_get hx
    have hk := (List.getElem?_eq_some_iff.1 hx).1
    rw [chunksL_length] at hk
    have lx : x.length ≤ 600 := by rw [ex,List.length_take,List.length_drop];omega
    have hkm : k ≤ 600 := by
     have : (l.length + m - 1) / m ≤ l.length := by
      by_cases h : l.length ≤ 1
      ·rw [Nat.div_le_iff_le_mul_add_pred (by omega)]
       have : l.length ≤ m * l.length := Nat.le_mul_of_pos_left _ (by omega)
       omega
      ·have := ceil_lt hm2 (show 1 < l.length by omega);omega
     omega
    have gx : ∀ r ∈ x,In by_.Columns r := fun r hr => by
     rw [ex] at hr
     exact v.In r (List.mem_of_mem_drop (List.mem_of_mem_take hr))
    obtain ⟨X,k1,k2,k3⟩ := d110_ok tp (p := fun b0 b1 => d111 N b0 b1 by_) (G := In by_.Columns) (fun r s hr hs => d111_ok hr hs (by have := v.c;omega) hN) (N := N) gx (by omega) hN
    have hX := k3.len tp
    refine ⟨R ++ [X],?_,?_⟩
    ·have : d78 N x = some x := by
      unfold d78
      rw [if_pos (by unfold Rp.reach;omega)]
     rw [this,ob,k1,ob,lenG_ok hX.symm,ob,app_ok (by simp;omega) (by omega),ob]
    ·refine ⟨by simp;omega,fun r hr => ?_,?_⟩
     ·rcases List.mem_append.1 hr with hr | hr
      ·exact h2 r hr
      ·obtain rfl := List.mem_singleton.1 hr;exact k2
     ·rw [show (k + 1) * m = k * m + m by rw [Nat.add_mul,Nat.one_mul],List.take_add,← ex,List.flatten_append]
      simp only [List.flatten_cons,List.flatten_nil,List.append_nil]
      exact h3.app k3
   ·rintro ⟨g2,g3,g4⟩
    rw [chunksL_length] at g2 g4
    rw [List.take_of_length_le (ceil_le (by omega))] at g4
    exact ⟨R,rfl,g2,g3,g4⟩
  ·rintro R ⟨R',h,g⟩
   injection h with h
   subst h
   exact ⟨_,rfl,R,rfl,g⟩
 obtain ⟨x,h1,R,rfl,h2⟩ := h
 exact ⟨R,h1,h2⟩
theorem flat_part {R : List (List Row)} {a b : Nat} : ((R.drop a).take b).flatten.length ≤ R.flatten.length := by
 have e : R = R.take a ++ ((R.drop a).take b ++ (R.drop a).drop b) := by rw [List.take_append_drop,List.take_append_drop]
 have : R.flatten.length = (R.take a ++ ((R.drop a).take b ++ (R.drop a).drop b)).flatten.length := congrArg (fun x : List (List Row) => x.flatten.length) e
 rw [List.flatten_append,List.flatten_append,lap,lap] at this
 omega
theorem d40_ok (hN : 10000 ≤ N) (v : Val l by_ m) : ∃ X,∃ p : Nat,d40 N l by_ m = some (X,(p : Int),0) ∧ Srt (ord by_) X ∧ Sim (ord by_) l X ∧ itc m p ((l.length + m - 1) / m) ≤ 1 ∧ ∀ q,q < p → 1 < itc m q ((l.length + m - 1) / m) := by
 have tp := ord_tp by_
 have hl := v.l60
 have hm2 := v.m2
 have hm64 := v.m64
 obtain ⟨R0,a1,a2,a3,a4⟩ := d84_ok hN v
 have h : ∃ x,d40 N l by_ m = some x ∧ ∃ X,∃ p : Nat,x = (X,(p : Int),0) ∧ Srt (ord by_) X ∧ Sim (ord by_) l X ∧ itc m p ((l.length + m - 1) / m) ≤ 1 ∧ ∀ q,q < p → 1 < itc m q ((l.length + m - 1) / m) := by
  unfold d40
  rw [a1,ob,if_neg (show ¬ ((0 : Int) != 0) = true by decide)]
  dsimp only
  rw [← a2]
  have r0 : R0.length ≤ 600 := by
   rw [a2]
   by_cases h : l.length ≤ 1
   ·have : (l.length + m - 1) / m ≤ 1 := by
     rw [Nat.div_le_iff_le_mul_add_pred (by omega)];omega
    omega
   ·have := ceil_lt hm2 (show 1 < l.length by omega);omega
  have hp : ∀ p,(∀ q,q < p → 1 < itc m q R0.length) → itc m p R0.length + p ≤ R0.length := by
   intro p
   induction p with
   | zero => intro _;exact Nat.le_refl _
   | succ p ih =>
    intro h
    have h1 := ih fun q hq => h q (by omega)
    have h2 := ceil_lt hm2 (h p (by omega))
    rw [itc]
    omega
  refine bind_ex (P := fun s : List (List Row) × Int => ∃ p : Nat,s.2 = p ∧ (∀ r ∈ s.1,Srt (ord by_) r) ∧ Sim (ord by_) l s.1.flatten ∧ s.1.length ≤ 1 ∧ itc m p R0.length ≤ 1 ∧ ∀ q,q < p → 1 < itc m q R0.length) ?_ ?_
  ·refine iter_po _ (fun s : List (List Row) × Int => s.1.length) (fun s : List (List Row) × Int => ∃ p : Nat,s.2 = p ∧ (∀ r ∈ s.1,Srt (ord by_) r) ∧ Sim (ord by_) l s.1.flatten ∧ s.1.length = itc m p R0.length ∧ ∀ q,q < p → 1 < itc m q R0.length) _ ?_ N _ ⟨0,rfl,a3,a4,rfl,fun q hq => by omega⟩ (by dsimp only;omega)
   rintro ⟨R,vp⟩ ⟨p,hv,b1,b2,b3,b4⟩
   dsimp only at hv b1 b2 b3 b4 ⊢
   subst hv
   have hb := hp p b4
   have hflat := b2.len tp
   by_cases hc : (R.length : Int) > 1
   ·rw [if_pos hc]
    have : posG (m : Int) = some () := by unfold posG;rw [if_pos (by omega)]
    rw [this,ob]
    rw [chunksO_ok (by omega) (by omega) (by omega),ob]
    refine bindO_ex (P := fun o => ∃ R',o = .go R' ∧ R'.length = (R.length + m - 1) / m ∧ (∀ r ∈ R',Srt (ord by_) r) ∧ Sim (ord by_) R.flatten R'.flatten) (rangeL_ex (fun k S => S.length = k ∧ (∀ r ∈ S,Srt (ord by_) r) ∧ Sim (ord by_) (R.take (k * m)).flatten S.flatten) (fun k x S hx => ?_) ⟨rfl,by simp,by simp;exact .rfl⟩ fun R' => ?_) (fun x hx => by obtain ⟨_,h,_⟩ := hx;cases h) ?_
    ·rintro ⟨h1,h2,h3⟩
     have ex := chunksL_get hx
     have hk := (List.getElem?_eq_some_iff.1 hx).1
     rw [chunksL_length] at hk
     have := ceil_lt hm2 (show 1 < R.length by omega)
     have lx : x.length ≤ 64 := by rw [ex,List.length_take];omega
     have fx : x.flatten.length ≤ 600 := by
      have := flat_part (R := R) (a := k * m) (b := m)
      rw [ex];omega
     have mx : ∀ r ∈ x,r ∈ R := fun r hr => by rw [ex] at hr;exact List.mem_of_mem_drop (List.mem_of_mem_take hr)
     obtain ⟨X,k1,k2,k3⟩ := d86_ok (N := N) (by_ := by_) (R := x) hN (by have := v.c;omega) (by omega) (by omega) (fun r hr => b1 r (mx r hr)) (fun r hr => by
      obtain ⟨t,h1,h2⟩ := List.mem_flatten.1 hr
      exact v.In r (b2.symm.mem tp (List.mem_flatten.2 ⟨t,mx t h1,h2⟩)))
     refine ⟨S ++ [X],?_,?_⟩
     ·rw [k1,ob,app_ok (by simp;omega) (by omega),ob]
     ·refine ⟨by simp;omega,fun r hr => ?_,?_⟩
      ·rcases List.mem_append.1 hr with hr | hr
       ·exact h2 r hr
       ·obtain rfl := List.mem_singleton.1 hr;exact k2
      ·rw [show (k + 1) * m = k * m + m by rw [Nat.add_mul,Nat.one_mul],List.take_add,← ex,List.flatten_append,List.flatten_append]
       simp only [List.flatten_cons,List.flatten_nil,List.append_nil]
       exact h3.app k3
    ·rintro ⟨g2,g3,g4⟩
     rw [chunksL_length] at g2 g4
     rw [List.take_of_length_le (ceil_le (by omega))] at g4
     exact ⟨R',rfl,g2,g3,g4⟩
    rintro _ ⟨R',h,g2,g3,g4⟩
    injection h with h
    subst h
    rw [chk_ok (by omega) (by omega),ob]
    refine ⟨_,rfl,⟨p + 1,by simp,g3,b2.trans g4,by rw [itc,← b3];exact g2,fun q hq => ?_⟩,by dsimp only;rw [g2];exact ceil_lt hm2 (by omega)⟩
    by_cases e : q = p
    ·subst e;omega
    ·exact b4 q (by omega)
   ·rw [if_neg hc]
    exact ⟨_,rfl,p,rfl,b1,b2,by dsimp only;omega,by omega,b4⟩
  ·rintro ⟨R,vp⟩ ⟨p,hv,b1,b2,b3,b4,b5⟩
   dsimp only at hv b1 b2 b3 ⊢
   subst hv
   have hflat := b2.len tp
   refine bind_ex (P := fun X => X = R.flatten) ?_ ?_
   ·refine iter_po _ (fun s : List Row × Int => R.length - s.2.toNat) (fun s : List Row × Int => ∃ j : Nat,s.2 = j ∧ j ≤ R.length ∧ s.1 = (R.take j).flatten) _ ?_ N _ ⟨0,rfl,Nat.zero_le _,rfl⟩ (by dsimp only;omega)
    rintro ⟨o,w⟩ ⟨j,hw,hj,ho⟩
    dsimp only at hw ho ⊢
    subst hw ho
    by_cases hlt : (j : Int) < R.length
    ·rw [if_pos hlt]
     have gx := ge (l := R) (i := j) (by omega)
     generalize R[j] = r at gx
     have et := take_succ' gx
     have ef : (R.take (j + 1)).flatten = (R.take j).flatten ++ r := by rw [et,List.flatten_append];simp
     have fl : (R.take (j + 1)).flatten.length ≤ 600 := by
      have := flat_part (R := R) (a := 0) (b := j + 1)
      rw [List.drop_zero] at this
      omega
     rw [ef,lap] at fl
     rw [idx_nat gx,ob]
     refine bind_ex (P := fun X => X = (R.take j).flatten ++ r) ?_ ?_
     ·refine iter_po _ (fun s : List Row × Int => r.length - s.2.toNat) (fun s : List Row × Int => ∃ i : Nat,s.2 = i ∧ i ≤ r.length ∧ s.1 = (R.take j).flatten ++ r.take i) _ ?_ N _ ⟨0,rfl,Nat.zero_le _,by simp⟩ (by dsimp only;omega)
      rintro ⟨o,w⟩ ⟨i,hw,hi,ho⟩
      dsimp only at hw ho ⊢
      subst hw ho
      by_cases hlt : (i : Int) < r.length
      ·rw [if_pos hlt]
       have gy := ge (l := r) (i := i) (by omega)
       have my : r[i] ∈ r := List.getElem_mem _
       generalize r[i] = y at gy my
       have hy : y ∈ l := b2.symm.mem tp (List.mem_flatten.2 ⟨r,List.mem_of_getElem? gx,my⟩)
       have : d39 N y = some y := by
        unfold d39
        have := v.w y hy
        rw [if_pos (by unfold Rp.reach;omega)]
       rw [idx_nat gy,ob,this,ob,app_ok (by simp only [lap,List.length_take,List.length_singleton];omega) (by omega),ob,chk_ok (by omega) (by omega),ob]
       exact ⟨_,rfl,⟨i + 1,by simp,by omega,by rw [take_succ' gy];simp⟩,by dsimp only;omega⟩
      ·rw [if_neg hlt]
       obtain rfl : i = r.length := by omega
       rw [List.take_length]
       exact ⟨_,rfl,rfl⟩
     ·rintro X rfl
      rw [chk_ok (by omega) (by omega),ob]
      exact ⟨_,rfl,⟨j + 1,by simp,by omega,ef.symm⟩,by dsimp only;omega⟩
    ·rw [if_neg hlt]
     obtain rfl : j = R.length := by omega
     rw [List.take_length]
     exact ⟨_,rfl,rfl⟩
   ·rintro X rfl
    refine ⟨_,rfl,_,p,rfl,?_,b2,b4,b5⟩
    cases R with
    | nil => exact List.Pairwise.nil
    | cons r R =>
     rw [List.length_cons] at b3
     rw [List.eq_nil_of_length_eq_zero (show R.length = 0 by omega)]
     simp only [List.flatten_cons,List.flatten_nil,List.append_nil]
     exact b1 r (by simp)
 obtain ⟨x,h1,X,p,rfl,h2⟩ := h
 exact ⟨X,p,h1,h2⟩
end
end Go.Proofs.YtimkkjiplioohaaGreatDoor
end
section
namespace Go.Proofs.YtimkkjiplioohaaGreatDoor
open Option renaming bind_some → ob
open List renaming getElem?_eq_getElem → ge,length_append → lap
open Go.Ab Go.Rp Go.St
section
variable {N : Nat} {l : List Row} {by_ : S65} {m : Nat}
theorem d33_ok (hN : 10000 ≤ N) (v : Val l by_ m) : ∃ X,d33 N l by_ = some X ∧ Srt (ord by_) X ∧ Sim (ord by_) l X := by
 have tp := ord_tp by_
 have hl := v.l60
 have hc := v.c
 unfold d33
 have : d78 N l = some l := by
  unfold d78
  rw [if_pos (by unfold Rp.reach;omega)]
 rw [this,ob]
 refine bind_ex (P := fun X => Srt (ord by_) X ∧ Sim (ord by_) l X) ?_ fun X hX => ⟨X,rfl,hX⟩
 refine iter_po _ (fun s : List Row × List Row => s.1.length) (fun s : List Row × List Row => Srt (ord by_) s.2 ∧ (∀ a ∈ s.2,∀ b ∈ s.1,ord by_ a b ≤ 0) ∧ Sim (ord by_) l (s.2 ++ s.1)) _ ?_ N _ ⟨List.Pairwise.nil,by simp,.rfl⟩ (by dsimp only;omega)
 rintro ⟨rest,out⟩ ⟨h1,h2,h3⟩
 dsimp only at h1 h2 h3 ⊢
 have hlen := h3.len tp
 rw [lap] at hlen
 by_cases h0 : (rest.length : Int) > 0
 ·rw [if_pos h0]
  refine bind_ex (P := fun s : Int => ∃ b : Nat,s = b ∧ Least (ord by_) rest b) ?_ ?_
  ·refine iter_po _ (fun s : Int × Int => rest.length - s.2.toNat) (fun s : Int × Int => ∃ b j : Nat,s.1 = b ∧ s.2 = j ∧ j ≤ rest.length ∧ b ≤ j ∧ ∃ x,rest[b]? = some x ∧ (∀ y ∈ rest.take b,ord by_ x y < 0) ∧ ∀ y ∈ rest.take j,ord by_ x y ≤ 0) _ ?_ N _ ⟨0,0,rfl,rfl,Nat.zero_le _,Nat.le_refl _,rest[0]'(by omega),ge _,by simp,by simp⟩ (by dsimp only;omega)
   rintro ⟨w,u⟩ ⟨b,j,hw,hu,hj,hb,x,gx,f1,f2⟩
   dsimp only at hw hu ⊢
   subst hw hu
   by_cases hlt : (j : Int) < rest.length
   ·rw [if_pos hlt]
    have gy := ge (l := rest) (i := j) (by omega)
    generalize rest[j] = y at gy
    have iy := v.In y (h3.symm.mem tp (List.mem_append_right _ (List.mem_of_getElem? gy)))
    have ix := v.In x (h3.symm.mem tp (List.mem_append_right _ (List.mem_of_getElem? gx)))
    have hcmp : d79 N (kof by_.Columns y) (kof by_.Columns x) by_.Descending = some (decide (ord by_ y x < 0)) := d79_ok (by rw [kof_len,kof_len]) (by rw [kof_len];omega) hN
    rw [idx_nat gy,ob,d35_ok iy (by omega) hN,ob,idx_nat gx,ob,d35_ok ix (by omega) hN,ob,hcmp,ob]
    by_cases hc2 : ord by_ y x < 0
    ·rw [if_pos (decide_eq_true hc2),chk_ok (by omega) (by omega),ob]
     refine ⟨_,rfl,⟨j,j + 1,rfl,by simp,by omega,by omega,y,gy,fun z hz => tp.lt_le hc2 (f2 z hz),fun z hz => ?_⟩,by dsimp only;omega⟩
     rw [take_succ' gy] at hz
     rcases List.mem_append.1 hz with hz | hz
     ·have := tp.lt_le hc2 (f2 z hz);omega
     ·obtain rfl := List.mem_singleton.1 hz
      rw [tp.refl];omega
    ·rw [if_neg (by rw [decide_eq_true_iff];exact hc2),chk_ok (by omega) (by omega),ob]
     refine ⟨_,rfl,⟨b,j + 1,rfl,by simp,by omega,by omega,x,gx,f1,fun z hz => ?_⟩,by dsimp only;omega⟩
     rw [take_succ' gy] at hz
     rcases List.mem_append.1 hz with hz | hz
     ·exact f2 z hz
     ·obtain rfl := List.mem_singleton.1 hz
      exact tp.ge hc2
   ·rw [if_neg hlt]
    obtain rfl : j = rest.length := by omega
    rw [List.take_length] at f2
    exact ⟨_,rfl,b,rfl,x,gx,f1,f2⟩
  ·rintro _ ⟨b,rfl,hL⟩
   have hL' := hL
   obtain ⟨x,gx,_⟩ := hL'
   have hb := (List.getElem?_eq_some_iff.1 gx).1
   obtain ⟨k1,k2,k3⟩ := Least.step tp gx hL h1 h2 h3
   have hd : d80 N rest (b : Int) ((b : Int) + 1) = some (rest.eraseIdx b) := by
    unfold d80 delL
    rw [if_pos (by omega),List.eraseIdx_eq_take_drop_succ]
    congr 1
   rw [idx_nat gx,ob,app_ok (by simp;omega) (by omega),ob,chk_ok (by omega) (by omega),ob,hd,ob]
   exact ⟨_,rfl,⟨k1,k2,k3⟩,by dsimp only;rw [List.length_eraseIdx_of_lt hb];omega⟩
 ·rw [if_neg h0]
  have : rest = [] := List.eq_nil_of_length_eq_zero (by omega)
  subst this
  rw [List.append_nil] at h3
  exact ⟨_,rfl,h1,h3⟩
end
end Go.Proofs.YtimkkjiplioohaaGreatDoor
end
section
namespace Go.Proofs.YtimkkjiplioohaaGreatDoor
open Option renaming bind_some → ob
open List renaming getElem?_eq_getElem → ge,length_append → lap
open Go.Ab Go.Rp Go.St
abbrev bCount : ByteArray := ByteArray.mk #[99,111,117,110,116]
abbrev bSum : ByteArray := ByteArray.mk #[115,117,109]
abbrev bMin : ByteArray := ByteArray.mk #[109,105,110]
abbrev bMax : ByteArray := ByteArray.mk #[109,97,120]
def intS (n : Int) : S61 := if n < -1000000000000 ∨ n > 1000000000000 then ⟨0,0,⟨#[]⟩⟩ else ⟨1,n,⟨#[]⟩⟩
theorem d103_ok (N : Nat) (n : Int) : d103 N n = some (intS n) := by
 unfold d103 intS
 by_cases h1 : n < -1000000000000
 ·rw [if_pos h1,ob,if_pos rfl,if_pos (.inl h1)]
 ·rw [if_neg h1,ob]
  by_cases h2 : n > 1000000000000
  ·rw [if_pos (decide_eq_true h2),if_pos (.inr h2)]
  ·rw [if_neg (by rw [decide_eq_true_iff];exact h2),if_neg (by omega)]
theorem d108_ok (N : Nat) (n : Int) : d108 N n = some (intS n) := by
 unfold d108 intS
 by_cases h1 : n > 1000000000000
 ·rw [if_pos h1,ob,if_pos rfl,if_pos (.inr h1)]
 ·rw [if_neg h1,ob]
  by_cases h2 : n < -1000000000000
  ·rw [if_pos (decide_eq_true h2),if_pos (.inl h2)]
  ·rw [if_neg (by rw [decide_eq_true_iff];exact h2),if_neg (by omega)]
def better (f : ByteArray) (x b : S61) : Bool := if decide (f = bMin) = true then (if vlt x b = true then true else if decide (f = bMax) = true then vlt b x else false) else if decide (f = bMax) = true then vlt b x else false
def accS (f : ByteArray) (s : S61 × Int) (x : S61) : S61 × Int := (if better f x s.1 = true then x else s.1,s.2 + x.Int)
def foldS (f : ByteArray) (l : List S61) : S61 := if f = bCount then intS l.length else match l with
 | [] => ⟨0,0,⟨#[]⟩⟩
 | x :: r => if f = bSum then intS ((x :: r).foldl (accS f) (x,0)).2 else ((x :: r).foldl (accS f) (x,0)).1
def Small (v : S61) : Prop := -1000000000000 ≤ v.Int ∧ v.Int ≤ 1000000000000
theorem acc_small {f : ByteArray} : ∀ {l : List S61} {s : S61 × Int},(∀ v ∈ l,Small v) → -(1000000000000 * (l.length : Int)) ≤ (l.foldl (accS f) s).2 - s.2 ∧ (l.foldl (accS f) s).2 - s.2 ≤ 1000000000000 * (l.length : Int)
 | [],s,_ => by simp
 | x :: l,s,h => by
  have h1 := acc_small (f := f) (l := l) (s := accS f s x) fun v hv => h v (List.mem_cons_of_mem _ hv)
  have h2 := h x (List.mem_cons_self ..)
  rw [List.foldl_cons,List.length_cons]
  unfold Small at h2
  have e : (accS f s x).2 = s.2 + x.Int := rfl
  rw [e] at h1
  omega
theorem fold_step {f : ByteArray} {l : List S61} {j : Nat} {x : S61} {s : S61 × Int} (h : l[j]? = some x) : (l.take (j + 1)).foldl (accS f) s = accS f ((l.take j).foldl (accS f) s) x := by
 rw [take_succ' h,List.foldl_append];rfl
theorem better_ok1 (N : Nat) (f : ByteArray) (x b : S61) : (if decide (f = bMin) = true then ((d131 N x b).bind fun r120 => if r120 = true then some true else if decide (f = bMax) = true then ((d131 N b x).bind fun r123 => some r123) else some false) else if decide (f = bMax) = true then ((d131 N b x).bind fun r125 => some r125) else some false) = some (better f x b) := by
 unfold better
 rw [d131_ok,d131_ok]
 by_cases h1 : decide (f = bMin) = true
 ·rw [if_pos h1,if_pos h1,ob]
  cases vlt x b
  ·rw [ite_ft,ite_ft]
   by_cases h2 : decide (f = bMax) = true
   ·rw [if_pos h2,if_pos h2];rfl
   ·rw [if_neg h2,if_neg h2]
  ·rw [ite_tt,ite_tt]
 ·rw [if_neg h1,if_neg h1]
  by_cases h2 : decide (f = bMax) = true
  ·rw [if_pos h2,if_pos h2];rfl
  ·rw [if_neg h2,if_neg h2]
theorem better_ok2 (N : Nat) (f : ByteArray) (x b : S61) : (if decide (f = bMin) = true then ((d107 N x b).bind fun r120 => if r120 = true then some true else if decide (f = bMax) = true then ((d107 N b x).bind fun r123 => some r123) else some false) else if decide (f = bMax) = true then ((d107 N b x).bind fun r125 => some r125) else some false) = some (better f x b) := by
 rw [← better_ok1 N f x b]
 simp only [d107_ok,d131_ok]
section
variable {N : Nat} {f : ByteArray} {l : List S61}
theorem d104_ok (hN : 10000 ≤ N) (hl : l.length ≤ 1000) (hs : ∀ v ∈ l,Small v) : d104 N f l = some (foldS f l) := by
 unfold d104 foldS
 by_cases hc : f = bCount
 ·rw [if_pos (decide_eq_true hc),if_pos hc,d103_ok];rfl
 rw [if_neg (by rw [decide_eq_true_iff];exact hc),if_neg hc]
 cases l with
 | nil => rw [if_pos (by rfl)]
 | cons x0 r0 =>
  rw [if_neg (by simp;omega),show idx (x0 :: r0) 0 = some x0 from rfl,ob]
  dsimp only
  generalize hL : x0 :: r0 = l at *
  refine bind_to ((l.foldl (accS f) (x0,0)).1.Kind,(l.foldl (accS f) (x0,0)).1.Int,(l.foldl (accS f) (x0,0)).1.Text,(l.foldl (accS f) (x0,0)).2) (iter_po _ (fun s : Int × Int × ByteArray × Int × Int => (l.length - s.2.2.2.2).toNat) (fun s : Int × Int × ByteArray × Int × Int => ∃ j : Nat,s.2.2.2.2 = j ∧ j ≤ l.length ∧ s.1 = ((l.take j).foldl (accS f) (x0,0)).1.Kind ∧ s.2.1 = ((l.take j).foldl (accS f) (x0,0)).1.Int ∧ s.2.2.1 = ((l.take j).foldl (accS f) (x0,0)).1.Text ∧ s.2.2.2.1 = ((l.take j).foldl (accS f) (x0,0)).2) _ ?_ N _ ⟨0,rfl,Nat.zero_le _,rfl,rfl,rfl,rfl⟩ (by dsimp only;omega)) ?_
  ·rintro ⟨v49,v50,v51,v52,v53⟩ ⟨j,e5,hj,e1,e2,e3,e4⟩
   dsimp only at e1 e2 e3 e4 e5 ⊢
   subst e1 e2 e3 e4 e5
   by_cases hlt : (j : Int) < l.length
   ·rw [if_pos hlt]
    have hx := ge (l := l) (i := j) (by omega)
    have hm : l[j] ∈ l := List.getElem_mem _
    generalize l[j] = x at hx hm
    have fs := fold_step (f := f) (s := (x0,0)) hx
    have b1 := acc_small (f := f) (l := l.take (j + 1)) (s := (x0,0)) fun v hv => hs v (List.mem_of_mem_take hv)
    have l1 : (l.take (j + 1)).length = j + 1 := by rw [List.length_take];omega
    rw [l1] at b1
    have e2 : ((l.take (j + 1)).foldl (accS f) (x0,0)).2 = ((l.take j).foldl (accS f) (x0,0)).2 + x.Int := by rw [fs];rfl
    dsimp only at b1
    rw [e2] at b1
    rw [idx_nat hx,ob,chk_ok (by omega) (by omega),ob]
    have bo := better_ok1 N f x ((l.take j).foldl (accS f) (x0,0)).1
    have e1 : ((l.take (j + 1)).foldl (accS f) (x0,0)).1 = if better f x ((l.take j).foldl (accS f) (x0,0)).1 = true then x else ((l.take j).foldl (accS f) (x0,0)).1 := by rw [fs];rfl
    rw [show (S61.mk ((l.take j).foldl (accS f) (x0,0)).1.Kind ((l.take j).foldl (accS f) (x0,0)).1.Int ((l.take j).foldl (accS f) (x0,0)).1.Text) = ((l.take j).foldl (accS f) (x0,0)).1 from rfl,bo,ob]
    cases hb : better f x ((l.take j).foldl (accS f) (x0,0)).1
    ·rw [hb,ite_ft] at e1
     rw [ite_ft,chk_ok (by omega) (by omega),ob]
     exact ⟨_,rfl,⟨j + 1,by simp,by omega,by rw [e1],by rw [e1],by rw [e1],e2.symm⟩,by dsimp only;omega⟩
    ·rw [hb,ite_tt] at e1
     rw [ite_tt,chk_ok (by omega) (by omega),ob]
     exact ⟨_,rfl,⟨j + 1,by simp,by omega,by rw [e1],by rw [e1],by rw [e1],e2.symm⟩,by dsimp only;omega⟩
   ·rw [if_neg hlt]
    obtain rfl : j = l.length := by omega
    rw [List.take_length]
    exact ⟨_,rfl,rfl⟩
  dsimp only
  by_cases h2 : f = bSum
  ·rw [if_pos (decide_eq_true h2),if_pos h2,d103_ok];rfl
  ·rw [if_neg (by rw [decide_eq_true_iff];exact h2),if_neg h2]
theorem d81_ok (hN : 10000 ≤ N) (hl : l.length ≤ 1000) (hs : ∀ v ∈ l,Small v) : d81 N f l = some (foldS f l) := by
 unfold d81 foldS
 by_cases hc : f = bCount
 ·rw [if_pos (decide_eq_true hc),if_pos hc,d108_ok];rfl
 rw [if_neg (by rw [decide_eq_true_iff];exact hc),if_neg hc]
 cases l with
 | nil => rw [if_pos (by rfl)]
 | cons x0 r0 =>
  rw [if_neg (by simp;omega),show idx (x0 :: r0) 0 = some x0 from rfl,ob]
  dsimp only
  generalize hL : x0 :: r0 = l at *
  refine bind_to ((l.foldl (accS f) (x0,0)).2,(l.foldl (accS f) (x0,0)).1.Kind,(l.foldl (accS f) (x0,0)).1.Int,(l.foldl (accS f) (x0,0)).1.Text) (iter_po _ (fun s : Int × Int × Int × ByteArray × Int => (l.length - s.2.2.2.2).toNat) (fun s : Int × Int × Int × ByteArray × Int => ∃ j : Nat,s.2.2.2.2 = j ∧ j ≤ l.length ∧ s.2.1 = ((l.take j).foldl (accS f) (x0,0)).1.Kind ∧ s.2.2.1 = ((l.take j).foldl (accS f) (x0,0)).1.Int ∧ s.2.2.2.1 = ((l.take j).foldl (accS f) (x0,0)).1.Text ∧ s.1 = ((l.take j).foldl (accS f) (x0,0)).2) _ ?_ N _ ⟨0,rfl,Nat.zero_le _,rfl,rfl,rfl,rfl⟩ (by dsimp only;omega)) ?_
  ·rintro ⟨v49,v50,v51,v52,v53⟩ ⟨j,e5,hj,e1,e2,e3,e4⟩
   dsimp only at e1 e2 e3 e4 e5 ⊢
   subst e1 e2 e3 e4 e5
   by_cases hlt : (j : Int) < l.length
   ·rw [if_pos hlt]
    have hx := ge (l := l) (i := j) (by omega)
    have hm : l[j] ∈ l := List.getElem_mem _
    generalize l[j] = x at hx hm
    have fs := fold_step (f := f) (s := (x0,0)) hx
    have b1 := acc_small (f := f) (l := l.take (j + 1)) (s := (x0,0)) fun v hv => hs v (List.mem_of_mem_take hv)
    have l1 : (l.take (j + 1)).length = j + 1 := by rw [List.length_take];omega
    rw [l1] at b1
    have e2 : ((l.take (j + 1)).foldl (accS f) (x0,0)).2 = ((l.take j).foldl (accS f) (x0,0)).2 + x.Int := by rw [fs];rfl
    dsimp only at b1
    rw [e2] at b1
    rw [idx_nat hx,ob,chk_ok (by omega) (by omega),ob]
    have bo := better_ok2 N f x ((l.take j).foldl (accS f) (x0,0)).1
    have e1 : ((l.take (j + 1)).foldl (accS f) (x0,0)).1 = if better f x ((l.take j).foldl (accS f) (x0,0)).1 = true then x else ((l.take j).foldl (accS f) (x0,0)).1 := by rw [fs];rfl
    rw [show (S61.mk ((l.take j).foldl (accS f) (x0,0)).1.Kind ((l.take j).foldl (accS f) (x0,0)).1.Int ((l.take j).foldl (accS f) (x0,0)).1.Text) = ((l.take j).foldl (accS f) (x0,0)).1 from rfl,bo,ob]
    cases hb : better f x ((l.take j).foldl (accS f) (x0,0)).1
    ·rw [hb,ite_ft] at e1
     rw [ite_ft,chk_ok (by omega) (by omega),ob]
     exact ⟨_,rfl,⟨j + 1,by simp,by omega,by rw [e1],by rw [e1],by rw [e1],e2.symm⟩,by dsimp only;omega⟩
    ·rw [hb,ite_tt] at e1
     rw [ite_tt,chk_ok (by omega) (by omega),ob]
     exact ⟨_,rfl,⟨j + 1,by simp,by omega,by rw [e1],by rw [e1],by rw [e1],e2.symm⟩,by dsimp only;omega⟩
   ·rw [if_neg hlt]
    obtain rfl : j = l.length := by omega
    rw [List.take_length]
    exact ⟨_,rfl,rfl⟩
  dsimp only
  by_cases h2 : f = bSum
  ·rw [if_pos (decide_eq_true h2),if_pos h2,d108_ok];rfl
  ·rw [if_neg (by rw [decide_eq_true_iff];exact h2),if_neg h2]
end
end Go.Proofs.YtimkkjiplioohaaGreatDoor
end
section
namespace Go.Proofs.YtimkkjiplioohaaGreatDoor
open Option renaming bind_some → ob
open List renaming getElem?_eq_getElem → ge,length_append → lap
open Go.Ab Go.Rp Go.St
theorem anyV_ok {N : Nat} {vs : List S61} (hN : 10000 ≤ N) (hl : vs.length ≤ 1000) (p : S61 → Option Bool) (q : S61 → Bool) (hp : ∀ r ∈ vs,p r = some (q r)) : d66 N vs p = some (vs.any q) := by
 unfold d66
 refine bind_to (if vs.any q = true then (vs.findIdx q : Int) else -1) ?_ ?_
 ·unfold d100
  refine bindO_ex (P := fun o => match o with
   | .ret x => x = (vs.findIdx q : Int) ∧ vs.any q = true
   | .go _ => vs.any q = false) ?_ (fun x hx => by rw [if_pos hx.2];exact hx.1) fun _ hx => ⟨-1,rfl,by rw [if_neg (by rw [show vs.any q = false from hx];decide)]⟩
  refine iter_po _ (fun s : Int => vs.length - s.toNat) (fun s : Int => ∃ j : Nat,s = j ∧ j ≤ vs.length ∧ ∀ x ∈ vs.take j,q x = false) _ ?_ N _ ⟨0,rfl,Nat.zero_le _,by simp⟩ (by omega)
  rintro s ⟨j,rfl,hj,ha⟩
  by_cases hlt : (j : Int) < (vs.length : Int)
  ·rw [if_pos hlt]
   have hx := ge (l := vs) (i := j) (by omega)
   have hm : vs[j] ∈ vs := List.getElem_mem _
   generalize vs[j] = x at hx hm
   rw [idx_nat hx,ob,hp x hm,ob]
   cases hq : q x with
   | true =>
    rw [ite_tt]
    refine ⟨_,rfl,?_,List.any_eq_true.2 ⟨x,hm,hq⟩⟩
    have h1 : ¬ j < vs.findIdx q := fun h => by
     obtain ⟨g1,rfl⟩ := List.getElem?_eq_some_iff.1 hx
     have := List.not_of_lt_findIdx h
     rw [this] at hq;cases hq
    have h2 : ¬ vs.findIdx q < j := fun h => by
     have hlt := List.findIdx_lt_length_of_exists ⟨x,hm,hq⟩
     have h3 := List.findIdx_getElem (w := hlt)
     have : vs[vs.findIdx q] ∈ vs.take j := List.mem_take_iff_getElem.2 ⟨vs.findIdx q,by omega,rfl⟩
     rw [ha _ this] at h3;cases h3
    rw [show j = vs.findIdx q by omega]
   | false =>
    rw [ite_ft,chk_ok (by omega) (by omega),ob]
    refine ⟨_,rfl,⟨j + 1,by simp,by omega,fun y hy => ?_⟩,by omega⟩
    rw [take_succ' hx] at hy
    rcases List.mem_append.1 hy with hy | hy
    ·exact ha y hy
    ·obtain rfl := List.mem_singleton.1 hy;exact hq
  ·rw [if_neg hlt]
   obtain rfl : j = vs.length := by omega
   rw [List.take_length] at ha
   exact ⟨_,rfl,List.any_eq_false.2 fun x hx => by rw [ha x hx];decide⟩
 ·by_cases h : vs.any q = true
  ·rw [if_pos h,h,decide_eq_true (by omega)]
  ·rw [if_neg h,decide_eq_false (by omega)]
   rw [Bool.not_eq_true] at h
   rw [h]
theorem d68_ok {N : Nat} {v : S61} : ∃ b,d68 N v = some b ∧ (b = true → Small v) := by
 unfold d68 Small
 by_cases h0 : v.Kind = 0
 ·rw [if_pos (by simp [h0])]
  refine ⟨_,rfl,fun h => ?_⟩
  rw [(beqS61_iff _ _).1 h]
  decide
 rw [if_neg (by simp [h0])]
 by_cases h1 : v.Kind = 1
 ·rw [if_pos (by simp [h1])]
  by_cases h2 : decide (v.Text = ByteArray.mk #[]) = true
  ·rw [if_pos h2]
   by_cases h3 : v.Int ≥ -1000000000000
   ·rw [if_pos h3,ob]
    exact ⟨_,rfl,fun h => ⟨h3,of_decide_eq_true h⟩⟩
   ·rw [if_neg h3,ob]
    exact ⟨_,rfl,fun h => by cases h⟩
  ·rw [if_neg h2,ob]
   exact ⟨_,rfl,fun h => by cases h⟩
 rw [if_neg (by simp [h1])]
 by_cases h2 : v.Kind = 2
 ·rw [if_pos (by simp [h2])]
  by_cases h3 : decide (v.Text = ByteArray.mk #[]) = true
  ·rw [if_pos h3]
   by_cases h4 : v.Int = 0
   ·rw [if_pos (by simp [h4]),ob]
    exact ⟨_,rfl,fun _ => by omega⟩
   ·rw [if_neg (by simp [h4]),ob]
    exact ⟨_,rfl,fun h => by have : v.Int = 1 := (by simpa using h);omega⟩
  ·rw [if_neg h3,ob]
   exact ⟨_,rfl,fun h => by cases h⟩
 rw [if_neg (by simp [h2])]
 by_cases h3 : v.Kind = 3
 ·rw [if_pos (by simp [h3])]
  by_cases h4 : v.Int = 0
  ·rw [if_pos (by simp [h4]),ob]
   exact ⟨_,rfl,fun _ => by omega⟩
  ·rw [if_neg (by simp [h4]),ob]
   exact ⟨_,rfl,fun h => by cases h⟩
 ·rw [if_neg (by simp [h3])]
  exact ⟨_,rfl,fun h => by cases h⟩
theorem d29_ok {N : Nat} {l : List Row} (hN : 10000 ≤ N) (hl : l.length ≤ 60) (hw : ∀ r ∈ l,r.length ≤ 10) : ∃ b,d29 N l = some b ∧ (b = true → ∀ r ∈ l,∀ v ∈ r,Small v) := by
 have h68 : ∀ v : S61,d68 N v = some ((d68 N v).getD false) := fun v => by
  obtain ⟨b,h,_⟩ := d68_ok (N := N) (v := v)
  rw [h];rfl
 have h65 : ∀ r ∈ l,d65 N r = some (r.any fun v => !(d68 N v).getD false) := fun r hr => by
  unfold d65
  rw [anyV_ok hN (by have := hw r hr;omega) _ (fun v => !(d68 N v).getD false) (fun v _ => by unfold d67;rw [h68 v];rfl)]
  rfl
 unfold d29
 rw [any_ok hN (by omega) _ _ h65,ob]
 refine ⟨_,rfl,fun h r hr v hv => ?_⟩
 rw [Bool.not_eq_true'] at h
 have h1 := List.any_eq_false.1 h r hr
 rw [Bool.not_eq_true] at h1
 have h2 := List.any_eq_false.1 h1 v hv
 obtain ⟨b,h3,h4⟩ := d68_ok (N := N) (v := v)
 rw [h3] at h2
 exact h4 (by simpa using h2)
def known (f : ByteArray) : Prop := f = bCount ∨ f = bSum ∨ f = bMin ∨ f = bMax
theorem d76_ok {N : Nat} (hN : 10000 ≤ N) (f : ByteArray) : ∃ b,d76 N [bCount,bSum,bMin,bMax] f = some b ∧ (b = true ↔ known f) := by
 obtain ⟨M,rfl⟩ : ∃ M,N = M + 5 := ⟨N - 5,by omega⟩
 have k1 : chkI 1 = some 1 := chk_ok (by omega) (by omega)
 have k2 : chkI 2 = some 2 := chk_ok (by omega) (by omega)
 have k3 : chkI 3 = some 3 := chk_ok (by omega) (by omega)
 have k4 : chkI 4 = some 4 := chk_ok (by omega) (by omega)
 have i0 : idx [bCount,bSum,bMin,bMax] 0 = some bCount := rfl
 have i1 : idx [bCount,bSum,bMin,bMax] 1 = some bSum := rfl
 have i2 : idx [bCount,bSum,bMin,bMax] 2 = some bMin := rfl
 have i3 : idx [bCount,bSum,bMin,bMax] 3 = some bMax := rfl
 unfold d76 d106 known
 generalize bCount = A at *
 generalize bSum = B at *
 generalize bMin = C at *
 generalize bMax = D at *
 by_cases h1 : f = A
 ·refine ⟨true,?_,by simp [h1]⟩
  simp [iterN_succ,i0,h1]
 by_cases h2 : f = B
 ·refine ⟨true,?_,by simp [h2]⟩
  subst h2
  simp [iterN_succ,i0,i1,h1,k1]
 by_cases h3 : f = C
 ·refine ⟨true,?_,by simp [h3]⟩
  subst h3
  simp [iterN_succ,i0,i1,i2,h1,h2,k1,k2]
 by_cases h4 : f = D
 ·refine ⟨true,?_,by simp [h4]⟩
  subst h4
  simp [iterN_succ,i0,i1,i2,i3,h1,h2,h3,k1,k2,k3]
 ·refine ⟨false,?_,by simp [h1,h2,h3,h4]⟩
  simp [iterN_succ,i0,i1,i2,i3,h1,h2,h3,h4,k1,k2,k3,k4]
structure OKA (l : List Row) (x : S75) : Prop where
 k : known x.Function
 c : -1 ≤ x.Column
 o : x.Column = -1 → x.Function = bCount
 r : ∀ r ∈ l,x.Column < r.length
theorem test_ok {N : Nat} {l : List Row} (hN : 10000 ≤ N) (hl : l.length ≤ 60) (x : S75) (e : S75 → List S61 → Option Bool) (he : ∀ r ∈ l,e x r = some (decide (x.Column ≥ (r.length : Int)))) :
  ∃ b,(letv ([bCount,bSum,bMin,bMax] : List ByteArray) fun l80 =>
     (d76 N l80 x.Function).bind fun r81 =>
     if (!r81) = true then (
      some true
     ) else
     if x.Column < (-1) then (
      some true
     ) else
     if (x.Column == (-1)) then (
      if (!decide (x.Function = bCount)) = true then (
       some true
      ) else
      (d56 N l (fun b0 => e x b0)).bind fun r86 =>
      some r86
     ) else
     (d56 N l (fun b0 => e x b0)).bind fun r87 =>
     some r87) = some b ∧ (b = false ↔ OKA l x) := by
 obtain ⟨b,h1,h2⟩ := d76_ok hN x.Function
 have h56 := any_ok hN (show l.length ≤ 1000 by omega) (fun b0 => e x b0) (fun r => decide (x.Column ≥ (r.length : Int))) he
 rw [letv_eq,h1,ob]
 cases b with
 | false => exact ⟨true,rfl,by simp,fun h => by have := h2.2 h.k;cases this⟩
 | true =>
  have hk := h2.1 rfl
  rw [if_neg (by decide)]
  by_cases h3 : x.Column < -1
  ·rw [if_pos h3]
   exact ⟨true,rfl,by simp,fun h => by have := h.c;omega⟩
  rw [if_neg h3]
  have fin : ∃ b,((d56 N l (fun b0 => e x b0)).bind fun r86 => some r86) = some b ∧ (b = false ↔ ∀ r ∈ l,x.Column < r.length) := by
   rw [h56,ob]
   refine ⟨_,rfl,?_⟩
   rw [List.any_eq_false]
   exact ⟨fun h r hr => by have := h r hr;simp at this;omega,fun h r hr => by have := h r hr;simp;omega⟩
  obtain ⟨b,f1,f2⟩ := fin
  by_cases h4 : x.Column = -1
  ·rw [if_pos (by simp [h4])]
   by_cases h5 : x.Function = bCount
   ·rw [if_neg (by simp [h5]),f1]
    exact ⟨b,rfl,fun h => ⟨hk,by omega,fun _ => h5,f2.1 h⟩,fun h => f2.2 h.r⟩
   ·rw [if_pos (by simp [h5])]
    exact ⟨true,rfl,by simp,fun h => absurd (h.o h4) h5⟩
  ·rw [if_neg (by simp [h4]),f1]
   exact ⟨b,rfl,fun h => ⟨hk,by omega,fun h => absurd h h4,f2.1 h⟩,fun h => f2.2 h.r⟩
theorem d69_ok {N : Nat} {l : List Row} {a : List S75} (hN : 10000 ≤ N) (hl : l.length ≤ 60) (ha : a.length ≤ 10) : ∃ e,d69 N l a = some e ∧ ((e = 0 ∧ ∀ x ∈ a,OKA l x) ∨ (e = 3 ∧ ¬ ∀ x ∈ a,OKA l x)) := by
 unfold d69
 refine bindO_ex (P := fun o => match o with
  | .ret x => x = 3 ∧ ¬ ∀ x ∈ a,OKA l x
  | .go _ => ∀ x ∈ a,OKA l x) ?_ (fun x hx => .inr hx) fun _ hx => ⟨0,rfl,.inl ⟨rfl,hx⟩⟩
 refine iter_po _ (fun s : Int => a.length - s.toNat) (fun s : Int => ∃ j : Nat,s = j ∧ j ≤ a.length ∧ ∀ x ∈ a.take j,OKA l x) _ ?_ N _ ⟨0,rfl,Nat.zero_le _,by simp⟩ (by omega)
 rintro s ⟨j,rfl,hj,hp⟩
 by_cases hlt : (j : Int) < a.length
 ·rw [if_pos hlt]
  have hx := ge (l := a) (i := j) (by omega)
  have hm : a[j] ∈ a := List.getElem_mem _
  generalize a[j] = x at hx hm
  obtain ⟨b,t1,t2⟩ := test_ok hN hl x (fun x b0 => d101 N b0 x) (fun r _ => rfl)
  rw [idx_nat hx,ob,t1,ob]
  cases b with
  | true =>
   rw [ite_tt]
   exact ⟨_,rfl,rfl,fun h => by have := t2.2 (h x hm);cases this⟩
  | false =>
   rw [ite_ft,chk_ok (by omega) (by omega),ob]
   refine ⟨_,rfl,⟨j + 1,by simp,by omega,fun y hy => ?_⟩,by omega⟩
   rw [take_succ' hx] at hy
   rcases List.mem_append.1 hy with hy | hy
   ·exact hp y hy
   ·obtain rfl := List.mem_singleton.1 hy;exact t2.1 rfl
 ·rw [if_neg hlt]
  obtain rfl : j = a.length := by omega
  rw [List.take_length] at hp
  exact ⟨_,rfl,hp⟩
theorem d32_ok {N : Nat} {l : List Row} {a : List S75} (hN : 10000 ≤ N) (hl : l.length ≤ 60) (ha : a.length ≤ 10) : ∃ b,d32 N l a = some b ∧ (b = true ↔ ∀ x ∈ a,OKA l x) := by
 unfold d32 d74 d105
 refine bind_ex (P := fun b : Bool => b = true ↔ ¬ ∀ x ∈ a,OKA l x) ?_ fun b hb => ⟨_,rfl,by cases b <;> simp_all⟩
 refine bind_ex (P := fun n : Int => n ≥ 0 ↔ ¬ ∀ x ∈ a,OKA l x) ?_ fun n hn => ⟨_,rfl,by rw [decide_eq_true_iff];exact hn⟩
 refine bindO_ex (P := fun o => match o with
  | .ret x => x ≥ 0 ∧ ¬ ∀ x ∈ a,OKA l x
  | .go _ => ∀ x ∈ a,OKA l x) ?_ (fun x hx => ⟨fun _ => hx.2,fun _ => hx.1⟩) fun _ hx => ⟨-1,rfl,⟨fun h => by omega,fun h => absurd hx h⟩⟩
 refine iter_po _ (fun s : Int => a.length - s.toNat) (fun s : Int => ∃ j : Nat,s = j ∧ j ≤ a.length ∧ ∀ x ∈ a.take j,OKA l x) _ ?_ N _ ⟨0,rfl,Nat.zero_le _,by simp⟩ (by omega)
 rintro s ⟨j,rfl,hj,hp⟩
 by_cases hlt : (j : Int) < a.length
 ·rw [if_pos hlt]
  have hx := ge (l := a) (i := j) (by omega)
  have hm : a[j] ∈ a := List.getElem_mem _
  generalize a[j] = x at hx hm
  obtain ⟨b,t1,t2⟩ := test_ok hN hl x (fun x b0 => d77 N b0 x) (fun r _ => rfl)
  have t3 : d75 N x l = some b := by
   unfold d75
   rw [letv_eq] at t1 ⊢
   obtain ⟨c,h1,_⟩ := d76_ok hN x.Function
   rw [h1,ob] at t1 ⊢
   rw [t1];rfl
  rw [idx_nat hx,ob]
  dsimp only
  rw [t3,ob]
  cases b with
  | true =>
   rw [ite_tt]
   exact ⟨_,rfl,by omega,fun h => by have := t2.2 (h x hm);cases this⟩
  | false =>
   rw [ite_ft,chk_ok (by omega) (by omega),ob]
   refine ⟨_,rfl,⟨j + 1,by simp,by omega,fun y hy => ?_⟩,by omega⟩
   rw [take_succ' hx] at hy
   rcases List.mem_append.1 hy with hy | hy
   ·exact hp y hy
   ·obtain rfl := List.mem_singleton.1 hy;exact t2.1 rfl
 ·rw [if_neg hlt]
  obtain rfl : j = a.length := by omega
  rw [List.take_length] at hp
  exact ⟨_,rfl,hp⟩
def valsS (l : List Row) (k : Int) : List S61 := (l.map fun r => get r k).filter fun v => v.Kind != 0
def recS (l : List Row) (x : S75) : S61 := if x.Column < 0 then intS l.length else foldS x.Function (valsS l x.Column)
theorem get_mem {r : List S61} {i : Int} (h : 0 ≤ i ∧ i < r.length) : get r i ∈ r := by
 unfold get
 rw [List.getD_eq_getElem?_getD,ge (show i.toNat < r.length by omega)]
 exact List.getElem_mem _
theorem vals_small {l : List Row} {k : Int} (h0 : 0 ≤ k) (hk : ∀ r ∈ l,k < r.length) (hs : ∀ r ∈ l,∀ v ∈ r,Small v) : ∀ v ∈ valsS l k,Small v := fun v hv => by
 obtain ⟨r,hr,rfl⟩ := List.mem_map.1 (List.mem_filter.1 hv).1
 exact hs r hr _ (get_mem ⟨h0,hk r hr⟩)
theorem vals_len {l : List Row} {k : Int} : (valsS l k).length ≤ l.length := Nat.le_trans (List.length_filter_le _ _) (by simp)
theorem vals_step {l : List Row} {k : Int} {j : Nat} {r : Row} (h : l[j]? = some r) : valsS (l.take (j + 1)) k = if (get r k).Kind != 0 then valsS (l.take j) k ++ [get r k] else valsS (l.take j) k := by
 unfold valsS
 rw [take_succ' h,List.map_append,List.filter_append]
 by_cases hk : ((get r k).Kind != 0) = true
 ·rw [if_pos hk];congr 1;simp only [List.map_cons,List.map_nil,List.filter_cons,List.filter_nil];rw [if_pos hk]
 ·rw [if_neg hk];simp only [List.map_cons,List.map_nil,List.filter_cons,List.filter_nil];rw [if_neg hk,List.append_nil]
section
variable {N : Nat} {l : List Row} {x : S75}
theorem d72_ok (hN : 10000 ≤ N) (hl : l.length ≤ 60) (hx : OKA l x) (hs : ∀ r ∈ l,∀ v ∈ r,Small v) : d72 N l x = some (recS l x) := by
 unfold d72 recS
 by_cases h0 : x.Column < 0
 ·rw [if_pos h0,if_pos h0,d103_ok];rfl
 rw [if_neg h0,if_neg h0]
 refine bind_to (valsS l x.Column) (iter_po _ (fun s : List S61 × Int => l.length - s.2.toNat) (fun s : List S61 × Int => ∃ j : Nat,s.2 = j ∧ j ≤ l.length ∧ s.1 = valsS (l.take j) x.Column) _ ?_ N _ ⟨0,rfl,Nat.zero_le _,by simp [valsS]⟩ (by dsimp only;omega)) ?_
 ·rintro ⟨vs,w⟩ ⟨j,hw,hj,hv⟩
  dsimp only at hw hv ⊢
  subst hw hv
  by_cases hlt : (j : Int) < l.length
  ·rw [if_pos hlt]
   have hr := ge (l := l) (i := j) (by omega)
   have hm : l[j] ∈ l := List.getElem_mem _
   generalize l[j] = r at hr hm
   have st := vals_step (k := x.Column) hr
   have vl := vals_len (l := l.take j) (k := x.Column)
   rw [List.length_take] at vl
   rw [idx_nat hr,ob,idx_get ⟨by omega,hx.r r hm⟩,ob]
   by_cases hk : ((get r x.Column).Kind != 0) = true
   ·rw [if_pos hk] at st
    rw [if_pos hk,app_ok (by simp;omega) (by omega),ob,chk_ok (by omega) (by omega),ob]
    exact ⟨_,rfl,⟨j + 1,by simp,by omega,st.symm⟩,by dsimp only;omega⟩
   ·rw [if_neg hk] at st
    rw [if_neg hk,chk_ok (by omega) (by omega),ob]
    exact ⟨_,rfl,⟨j + 1,by simp,by omega,st.symm⟩,by dsimp only;omega⟩
  ·rw [if_neg hlt]
   obtain rfl : j = l.length := by omega
   rw [List.take_length]
   exact ⟨_,rfl,rfl⟩
 ·have := vals_len (l := l) (k := x.Column)
  rw [d104_ok hN (by omega) (vals_small (by omega) hx.r hs)]
  rfl
theorem d36_ok (hN : 10000 ≤ N) (hl : l.length ≤ 60) (hx : OKA l x) (hs : ∀ r ∈ l,∀ v ∈ r,Small v) : d36 N l x = some (recS l x) := by
 unfold d36 recS
 by_cases h0 : x.Column < 0
 ·rw [if_pos h0]
  refine bind_to (List.replicate l.length ⟨1,1,ByteArray.mk #[]⟩) (iter_po _ (fun s : List S61 × Int => l.length - s.2.toNat) (fun s : List S61 × Int => ∃ j : Nat,s.2 = j ∧ j ≤ l.length ∧ s.1 = List.replicate j ⟨1,1,ByteArray.mk #[]⟩) _ ?_ N _ ⟨0,rfl,Nat.zero_le _,rfl⟩ (by dsimp only;omega)) ?_
  ·rintro ⟨vs,w⟩ ⟨j,hw,hj,hv⟩
   dsimp only at hw hv ⊢
   subst hw hv
   by_cases hlt : (j : Int) < l.length
   ·rw [if_pos hlt]
    have hr := ge (l := l) (i := j) (by omega)
    rw [idx_nat hr,ob,if_pos h0,app_ok (by simp;omega) (by omega),ob,chk_ok (by omega) (by omega),ob]
    exact ⟨_,rfl,⟨j + 1,by simp,by omega,List.replicate_succ'.symm⟩,by dsimp only;omega⟩
   ·rw [if_neg hlt]
    obtain rfl : j = l.length := by omega
    exact ⟨_,rfl,rfl⟩
  ·rw [d81_ok hN (by simp;omega) (fun v hv => by rw [(List.mem_replicate.1 hv).2];unfold Small;decide),ob,hx.o (by have := hx.c;omega)]
   unfold foldS
   rw [if_pos rfl,List.length_replicate]
 rw [if_neg h0]
 refine bind_to (valsS l x.Column) (iter_po _ (fun s : List S61 × Int => l.length - s.2.toNat) (fun s : List S61 × Int => ∃ j : Nat,s.2 = j ∧ j ≤ l.length ∧ s.1 = valsS (l.take j) x.Column) _ ?_ N _ ⟨0,rfl,Nat.zero_le _,by simp [valsS]⟩ (by dsimp only;omega)) ?_
 ·rintro ⟨vs,w⟩ ⟨j,hw,hj,hv⟩
  dsimp only at hw hv ⊢
  subst hw hv
  by_cases hlt : (j : Int) < l.length
  ·rw [if_pos hlt]
   have hr := ge (l := l) (i := j) (by omega)
   have hm : l[j] ∈ l := List.getElem_mem _
   generalize l[j] = r at hr hm
   have st := vals_step (k := x.Column) hr
   have vl := vals_len (l := l.take j) (k := x.Column)
   rw [List.length_take] at vl
   rw [idx_nat hr,ob,if_neg h0,idx_get ⟨by omega,hx.r r hm⟩,ob]
   by_cases hk : ((get r x.Column).Kind != 0) = true
   ·rw [if_pos hk] at st
    rw [if_pos hk,app_ok (by simp;omega) (by omega),ob,chk_ok (by omega) (by omega),ob]
    exact ⟨_,rfl,⟨j + 1,by simp,by omega,st.symm⟩,by dsimp only;omega⟩
   ·rw [if_neg hk] at st
    rw [if_neg hk,chk_ok (by omega) (by omega),ob]
    exact ⟨_,rfl,⟨j + 1,by simp,by omega,st.symm⟩,by dsimp only;omega⟩
  ·rw [if_neg hlt]
   obtain rfl : j = l.length := by omega
   rw [List.take_length]
   exact ⟨_,rfl,rfl⟩
 ·have := vals_len (l := l) (k := x.Column)
  rw [d81_ok hN (by omega) (vals_small (by omega) hx.r hs)]
  rfl
end
end Go.Proofs.YtimkkjiplioohaaGreatDoor
end
section
namespace Go.Proofs.YtimkkjiplioohaaGreatDoor
open Option renaming bind_some → ob
open List renaming getElem?_eq_getElem → ge,length_append → lap
open Go.Ab Go.Rp Go.St
theorem d34_ok {N : Nat} {a b : List S61} (hN : 10000 ≤ N) (ha : a.length ≤ 1000) : d34 N a b = some (decide (a = b)) := by
 unfold d34
 by_cases hl : a.length = b.length
 ·rw [if_neg (by simp [hl])]
  have h : ∃ r,bindO (β := Unit) (ρ := Bool) (iterN (σ := Int) (ρ := (Out Unit Bool)) (fun (v7 : Int) => if v7 < (a.length : Int) then ((idx a v7).bind fun x22 => (idx b v7).bind fun x24 => if (!beqS61 x22 x24) = true then (some (.inr (.ret false))) else (chkI (v7 + 1)).bind fun v26 => some (.inl v26)) else some (.inr (.go ()))) N 0) (fun _ => some true) = some r ∧ r = decide (a = b) := by
   refine bindO_ex (P := fun o => match o with
    | .ret x => x = false ∧ a ≠ b
    | .go _ => a = b) ?_ (fun x hx => by rw [hx.1];simp [hx.2]) fun _ hx => ⟨true,rfl,by rw [show a = b from hx];simp⟩
   refine iter_po _ (fun s : Int => a.length - s.toNat) (fun s : Int => ∃ j : Nat,s = j ∧ j ≤ a.length ∧ a.take j = b.take j) _ ?_ N 0 ⟨0,rfl,Nat.zero_le _,rfl⟩ (by omega)
   rintro s ⟨j,rfl,hj,he⟩
   by_cases hlt : (j : Int) < (a.length : Int)
   ·rw [if_pos hlt]
    have hx := ge (l := a) (i := j) (by omega)
    have hy := ge (l := b) (i := j) (by omega)
    generalize a[j] = x at hx
    generalize b[j] = y at hy
    rw [idx_nat hx,ob,idx_nat hy,ob]
    by_cases hxy : x = y
    ·have : beqS61 x y = true := (beqS61_iff x y).2 hxy
     rw [this,if_neg (by simp),chk_ok (by omega) (by omega),ob]
     exact ⟨_,rfl,⟨j + 1,by simp,by omega,by rw [take_succ' hx,take_succ' hy,he,hxy]⟩,by omega⟩
    ·have : beqS61 x y = false := by rw [← Bool.not_eq_true];exact fun h => hxy ((beqS61_iff x y).1 h)
     rw [this,if_pos (show (!false) = true from rfl)]
     refine ⟨_,rfl,rfl,fun h => hxy ?_⟩
     rw [h,hy] at hx
     injection hx with hx
     exact hx.symm
   ·rw [if_neg hlt]
    refine ⟨_,rfl,?_⟩
    have : j = a.length := by omega
    subst this
    show a = b
    rw [List.take_length] at he
    rw [he,hl,List.take_length]
  obtain ⟨r,h1,h2⟩ := h
  rw [h1,h2]
 ·rw [if_pos (by simp;omega)]
  rw [decide_eq_false (fun h => hl (by rw [h]))]
theorem d28_refl {N : Nat} {l : List Row} (hN : 10000 ≤ N) (hl : l.length ≤ 1000) (hr : ∀ r ∈ l,r.length ≤ 1000) : d28 N l l = some true := by
 unfold d28
 rw [if_neg (by simp)]
 have h : ∃ r,bindO (β := Unit) (ρ := Bool) (iterN (σ := Int) (ρ := (Out Unit Bool)) (fun (v8 : Int) => if v8 < (l.length : Int) then ((idx l v8).bind fun x25 => (idx l v8).bind fun x27 => (d34 N x25 x27).bind fun r28 => if (!r28) = true then (some (.inr (.ret false))) else (chkI (v8 + 1)).bind fun v30 => some (.inl v30)) else some (.inr (.go ()))) N 0) (fun _ => some true) = some r ∧ r = true := by
  refine bindO_ex (P := fun o => match o with
   | .ret _ => False
   | .go _ => True) ?_ (fun x hx => hx.elim) fun _ _ => ⟨true,rfl,rfl⟩
  refine iter_post _ (fun s : Int => l.length - s.toNat) (fun s : Int => ∃ j : Nat,s = j ∧ j ≤ l.length) _ ?_ N 0 ⟨0,rfl,Nat.zero_le _⟩ (by omega)
  rintro s ⟨j,rfl,hj⟩
  by_cases hlt : (j : Int) < (l.length : Int)
  ·rw [if_pos hlt]
   have hx := ge (l := l) (i := j) (by omega)
   have hm := hr l[j] (List.getElem_mem _)
   generalize l[j] = x at hx hm
   rw [idx_nat hx,ob,ob,d34_ok hN (by omega),ob,if_neg (by simp),chk_ok (by omega) (by omega),ob]
   exact .inl ⟨_,rfl,⟨j + 1,by simp,by omega⟩,by omega⟩
  ·rw [if_neg hlt]
   exact .inr ⟨_,rfl,trivial⟩
 obtain ⟨r,h1,h2⟩ := h
 rw [h1,h2]
theorem d21_ok {N : Nat} (hN : 10000 ≤ N) (l : List Row) : ∃ b,d21 N [l] = some b ∧ (b = false → l.length ≤ 60 ∧ ∀ r ∈ l,r.length ≤ 10) := by
 unfold d21
 obtain ⟨M,rfl⟩ : ∃ M,N = M + 2 := ⟨N - 2,by omega⟩
 have i0 : idx [l] 0 = some l := rfl
 rw [iterN_succ,if_pos (by simp),i0,ob]
 by_cases h1 : (l.length : Int) > 60
 ·rw [if_pos h1,ob,if_pos rfl]
  exact ⟨true,rfl,by simp⟩
 ·have hany : d56 (M + 2) l (fun b0 => d57 (M + 2) b0) = some (l.any fun r => decide ((r.length : Int) > 10)) := any_ok hN (by omega) _ _ (fun r _ => rfl)
  rw [if_neg h1,hany,ob,ob]
  cases hq : l.any fun r => decide ((r.length : Int) > 10) with
  | true =>
   rw [ite_tt]
   exact ⟨true,rfl,by simp⟩
  | false =>
   rw [ite_ft,show chkI (0 + 1) = some 1 from chk_ok (by omega) (by omega),ob]
   show ∃ b,bindO (iterN _ (M + 1) 1) _ = some b ∧ _
   rw [iterN_succ,if_neg (by simp)]
   refine ⟨false,rfl,fun _ => ⟨by omega,fun r hr => ?_⟩⟩
   have := List.any_eq_false.1 hq r hr
   simp at this
   omega
def same (cols : List Int) (r s : Row) : Bool := decide (kof cols s = kof cols r)
section
variable {by_ : S65} {X : List Row}
theorem group_part (hs : Srt (ord by_) X) {j k : Nat} {r : Row} (hj : X[j]? = some r) (hjk : j < k) (hk : k ≤ X.length) (h : ∀ i y,j ≤ i → i < k → X[i]? = some y → kof by_.Columns y = kof by_.Columns r)
  (h0 : j = 0 ∨ ∃ q,X[j - 1]? = some q ∧ kof by_.Columns q ≠ kof by_.Columns r) (h1 : k = X.length ∨ ∃ q,X[k]? = some q ∧ kof by_.Columns q ≠ kof by_.Columns r) : X.filter (same by_.Columns r) = (X.take k).drop j := by
 have tp := ord_tp by_
 have e : X = X.take j ++ ((X.take k).drop j ++ X.drop k) := by
  have e1 : X.take j = (X.take k).take j := by rw [List.take_take,Nat.min_eq_left (by omega)]
  rw [e1,← List.append_assoc,List.take_append_drop,List.take_append_drop]
 conv => lhs;rw [e]
 rw [List.filter_append,List.filter_append]
 have f1 : (X.take j).filter (same by_.Columns r) = [] := by
  rw [List.filter_eq_nil_iff]
  intro y hy hy2
  have hy2 : kof by_.Columns y = kof by_.Columns r := of_decide_eq_true hy2
  obtain ⟨i,hi⟩ := List.getElem?_of_mem hy
  have hi' := (List.getElem?_eq_some_iff.1 hi).1
  rw [List.length_take] at hi'
  rw [List.getElem?_take_of_lt (by omega)] at hi
  rcases h0 with h0 | ⟨q,h2,h3⟩
  ·omega
  ·apply h3
   rw [← ord_zero]
   have a1 := hs.get tp hi h2 (by omega)
   have a2 := hs.get tp h2 hj (by omega)
   have a3 : ord by_ r y = 0 := ord_zero.2 hy2.symm
   have a4 := tp.trans r y q (by omega) a1
   have a5 := tp.anti q r
   have a6 := tp.anti r q
   omega
 have f2 : ((X.take k).drop j).filter (same by_.Columns r) = (X.take k).drop j := by
  rw [List.filter_eq_self]
  intro y hy
  obtain ⟨i,hi⟩ := List.getElem?_of_mem hy
  have hi' := (List.getElem?_eq_some_iff.1 hi).1
  rw [List.length_drop,List.length_take] at hi'
  rw [List.getElem?_drop,List.getElem?_take_of_lt (by omega)] at hi
  exact decide_eq_true (h _ y (by omega) (by omega) hi)
 have f3 : (X.drop k).filter (same by_.Columns r) = [] := by
  rw [List.filter_eq_nil_iff]
  intro y hy hy2
  have hy2 : kof by_.Columns y = kof by_.Columns r := of_decide_eq_true hy2
  obtain ⟨i,hi⟩ := List.getElem?_of_mem hy
  have hi' := (List.getElem?_eq_some_iff.1 hi).1
  rw [List.length_drop] at hi'
  rw [List.getElem?_drop] at hi
  rcases h1 with h1 | ⟨q,h2,h3⟩
  ·omega
  ·apply h3
   rw [← ord_zero]
   have a1 := hs.get tp h2 hi (by omega)
   have a2 := hs.get tp hj h2 (by omega)
   have a3 : ord by_ y r = 0 := ord_zero.2 hy2
   have a4 := tp.trans q y r a1 (by omega)
   have a5 := tp.anti q r
   have a6 := tp.anti r q
   omega
 rw [f1,f2,f3,List.append_nil,List.nil_append]
end
theorem OKA.sub {l m : List Row} {x : S75} (h : OKA l x) (hs : ∀ r ∈ m,r ∈ l) : OKA m x := ⟨h.k,h.c,h.o,fun r hr => h.r r (hs r hr)⟩
theorem sorted_ok {N : Nat} {l : List Row} {by_ : S65} {m : Nat} (hN : 10000 ≤ N) (v : Val l by_ m) : ∃ X,∃ p : Nat,d40 N l by_ m = some (X,(p : Int),0) ∧ d33 N l by_ = some X ∧ Srt (ord by_) X ∧ (∀ r ∈ X,r ∈ l) ∧ X.length = l.length := by
 have tp := ord_tp by_
 obtain ⟨X,p,x1,x2,x3,_⟩ := d40_ok hN v
 obtain ⟨W,w1,w2,w3⟩ := d33_ok hN v
 obtain rfl : X = W := Sim.uniq tp x2 w2 (x3.symm.trans w3)
 exact ⟨X,p,x1,w1,x2,fun r hr => x3.symm.mem tp hr,(x3.len tp).symm⟩
end Go.Proofs.YtimkkjiplioohaaGreatDoor
end
section
namespace Go.Proofs.YtimkkjiplioohaaGreatDoor
open Option renaming bind_some → ob
open List renaming getElem?_eq_getElem → ge,length_append → lap
open Go.Ab Go.Rp Go.St
theorem cmpK_pre : ∀ (a a' b b' : List S61) (d e : List Bool),a.length = a'.length → (∀ i,i < a.length → (d[i]?).getD false = (e[i]?).getD false) → cmpK a a' e = 0 ∧ cmpK (a ++ b) (a' ++ b') d = cmpK b b' (d.drop a.length) ∨ cmpK a a' e ≠ 0 ∧ cmpK (a ++ b) (a' ++ b') d = cmpK a a' e
 | [],[],b,b',d,e,_,_ => .inl ⟨rfl,rfl⟩
 | [],_ :: _,_,_,_,_,h,_ => by cases h
 | _ :: _,[],_,_,_,_,h,_ => by cases h
 | x :: a,y :: a',b,b',d,e,h,hd => by
  have h0 := hd 0 (by simp)
  have hh : d.headD false = e.headD false := by
   cases d <;> cases e <;> first | (simp; done) | simpa using h0
  rw [List.cons_append,List.cons_append,cmpK,cmpK,hh]
  by_cases hz : hv (e.headD false) x y = 0
  ·rw [if_pos hz,if_pos hz]
   have ih := cmpK_pre a a' b b' d.tail e.tail (by simpa using h) fun i hi => by
    have := hd (i + 1) (by simp;omega)
    cases d <;> cases e <;> first | (simp; done) | simpa using this
   have : d.drop (x :: a).length = d.tail.drop a.length := by cases d <;> simp
   rw [this]
   exact ih
  ·rw [if_neg hz,if_neg hz]
   exact .inr ⟨hz,rfl⟩
def both (w b : S65) : S65 := ⟨w.Columns ++ b.Columns,w.Descending ++ (List.replicate (w.Columns.length - w.Descending.length) false ++ b.Descending)⟩
theorem ord_both {w b : S65} (hw : w.Descending.length ≤ w.Columns.length) {r s : Row} (h : ord (both w b) r s ≤ 0) : ord w r s ≤ 0 := by
 unfold ord both at h
 unfold ord
 have e : ∀ x : Row,kof (w.Columns ++ b.Columns) x = kof w.Columns x ++ kof b.Columns x := fun x => by simp [kof]
 rw [e,e] at h
 have := cmpK_pre (kof w.Columns r) (kof w.Columns s) (kof b.Columns r) (kof b.Columns s) (w.Descending ++ (List.replicate (w.Columns.length - w.Descending.length) false ++ b.Descending)) w.Descending (by simp [kof]) fun i hi => by
  rw [kof_len] at hi
  by_cases hl : i < w.Descending.length
  ·rw [List.getElem?_append_left hl]
  ·rw [List.getElem?_append_right (by omega),List.getElem?_append_left (by rw [List.length_replicate];omega),List.getElem?_replicate,if_pos (by omega),List.getElem?_eq_none (by omega)]
   rfl
 rcases this with ⟨h1,_⟩ | ⟨_,h2⟩
 ·omega
 ·rw [h2] at h;exact h
theorem srt_both {w b : S65} (hw : w.Descending.length ≤ w.Columns.length) {X : List Row} (h : Srt (ord (both w b)) X) : Srt (ord w) X := List.Pairwise.imp (fun h => ord_both hw h) h
theorem d37_ok {N : Nat} (hN : 10000 ≤ N) {x y : List Int} (hx : x.length ≤ 50) (hy : y.length ≤ 50) : d37 N [x,y] = some (x ++ y) := by
 obtain ⟨M,rfl⟩ : ∃ M,N = M + 3 := ⟨N - 3,by omega⟩
 unfold d37
 have i0 : idx [x,y] 0 = some x := rfl
 have i1 : idx [x,y] 1 = some y := rfl
 have k1 : chkI 1 = some 1 := chk_ok (by omega) (by omega)
 have k2 : chkI 2 = some 2 := chk_ok (by omega) (by omega)
 have c1 : chkI (x.length : Int) = some (x.length : Int) := chk_ok (by omega) (by omega)
 have c2 : chkI ((x.length : Int) + (y.length : Int)) = some ((x.length : Int) + (y.length : Int)) := chk_ok (by omega) (by omega)
 have n1 : ¬ ((x.length : Int) < 0) := by omega
 have n2 : ¬ ((x.length : Int) + (y.length : Int) < 0) := by omega
 have a1 : appL 8 ([] : List Int) x = some x := by
  unfold appL;rw [if_pos (by unfold Rp.reach;simp only [List.length_nil];omega)];rfl
 have a2 : appL 8 x y = some (x ++ y) := by
  unfold appL;rw [if_pos (by unfold Rp.reach;omega)]
 have g : growL 8 ((x.length : Int) + (y.length : Int)) = some () := by
  unfold growL;rw [if_pos (by unfold Rp.reach;omega)]
 simp [iterN_succ,i0,i1,k1,k2,c1,c2,n1,n2,a1,a2,g]
theorem pad_ok {N : Nat} (hN : 10000 ≤ N) {w : S65} (hw : w.Descending.length ≤ w.Columns.length) (hc : w.Columns.length ≤ 10) : iterN (σ := List Bool) (ρ := List Bool) (fun (l6 : List Bool) =>
   if (l6.length : Int) < (w.Columns.length : Int) then (
    (appL 1 l6 [false]).bind fun _l14 =>
    some (.inl (l6 ++ [false]))
   ) else
   some (.inr l6)
  ) N w.Descending = some (w.Descending ++ List.replicate (w.Columns.length - w.Descending.length) false) := by
 have h : ∃ x,iterN (σ := List Bool) (ρ := List Bool) (fun (l6 : List Bool) =>
   if (l6.length : Int) < (w.Columns.length : Int) then (
    (appL 1 l6 [false]).bind fun l14 =>
    some (.inl (l6 ++ [false]))
   ) else
   some (.inr l6)
  ) N w.Descending = some x ∧ x = w.Descending ++ List.replicate (w.Columns.length - w.Descending.length) false := by
  refine iter_po _ (fun s : List Bool => w.Columns.length - s.length) (fun s : List Bool => ∃ j : Nat,s = w.Descending ++ List.replicate j false ∧ w.Descending.length + j ≤ w.Columns.length) _ ?_ N _ ⟨0,by simp,by omega⟩ (by omega)
  rintro _ ⟨j,rfl,hj⟩
  have hl : (w.Descending ++ List.replicate j false).length = w.Descending.length + j := by simp
  by_cases hlt : ((w.Descending ++ List.replicate j false).length : Int) < w.Columns.length
  ·rw [if_pos hlt,app_ok (by simp;omega) (by omega),ob]
   exact ⟨_,rfl,⟨j + 1,by rw [List.replicate_succ',List.append_assoc],by omega⟩,by rw [lap,List.length_singleton];omega⟩
  ·rw [if_neg hlt]
   obtain rfl : j = w.Columns.length - w.Descending.length := by omega
   exact ⟨_,rfl,rfl⟩
 obtain ⟨x,h1,rfl⟩ := h
 exact h1
def runS (w : S65) (a : List S75) (X : List Row) (j : Nat) (r : Row) : List S61 := r ++ a.map (recS ((X.take (j + 1)).filter (same w.Columns r)))
def outR (w : S65) (a : List S75) (X : List Row) : Nat → List (List S61)
 | 0 => []
 | j + 1 => match X[j]? with
  | none => outR w a X j
  | some r => outR w a X j ++ [runS w a X j r]
section
variable {w : S65} {a : List S75} {X : List Row}
theorem outR_succ {j : Nat} {r : Row} (h : X[j]? = some r) : outR w a X (j + 1) = outR w a X j ++ [runS w a X j r] := by rw [outR,h]
theorem outR_len {j : Nat} : (outR w a X j).length ≤ j := by
 induction j with
 | zero => exact Nat.le_refl _
 | succ j ih =>
  rw [outR]
  split
  ·omega
  ·simp;exact ih
theorem outR_row (hX : ∀ r ∈ X,r.length ≤ 10) {j : Nat} : ∀ r ∈ outR w a X j,r.length ≤ 10 + a.length := by
 induction j with
 | zero => intro r hr;simp [outR] at hr
 | succ j ih =>
  intro r hr
  rw [outR] at hr
  split at hr
  ·exact ih r hr
  ·rename_i s hs
   rcases List.mem_append.1 hr with hr | hr
   ·exact ih r hr
   ·obtain rfl := List.mem_singleton.1 hr
    have := hX s (List.mem_of_getElem? hs)
    simp [runS];omega
end
theorem d38_ok {N : Nat} {l X : List Row} {w b : S65} {a : List S75} {m : Nat} {p : Int} (hN : 10000 ≤ N) (hl : l.length ≤ 60) (hwl : ∀ r ∈ l,r.length ≤ 10) (hw : w.Descending.length ≤ w.Columns.length) (hcw : w.Columns.length ≤ 5) (hcb : b.Columns.length ≤ 5) (hdb : b.Descending.length ≤ b.Columns.length) (ha : a.length ≤ 10)
  (h40 : d40 N l (both w b) m = some (X,p,0)) (hX : ∀ r ∈ X,r ∈ l) (hXl : X.length = l.length) (hs : Srt (ord w) X) (hI : ∀ r ∈ l,In w.Columns r)
  (h69 : d69 N l a = some 0) (hA : ∀ x ∈ a,OKA l x) (hsm : ∀ r ∈ l,∀ v ∈ r,Small v) : d38 N l w b a m = some (outR w a X X.length,0) := by
 have tp := ord_tp w
 have h83 : d83 N w.Descending = some w.Descending := by
  unfold d83
  rw [if_pos (by unfold Rp.reach;omega)]
 unfold d38
 rw [if_neg (by omega),d37_ok hN (by omega) (by omega),ob,h83,ob,pad_ok hN hw (by omega),ob,app_ok (by simp;omega) (by omega),ob]
 rw [show S65.mk (w.Columns ++ b.Columns) (w.Descending ++ List.replicate (w.Columns.length - w.Descending.length) false ++ b.Descending) = both w b by unfold both;rw [List.append_assoc],h40,ob,if_neg (show ¬ ((0 : Int) != 0) = true by decide),h69,ob,if_neg (by decide)]
 dsimp only
 refine bind_to (outR w a X X.length) (iter_po _ (fun s : List (List S61) × Int × Int => X.length - s.2.2.toNat) (fun s : List (List S61) × Int × Int => ∃ f j : Nat,s.2.1 = f ∧ s.2.2 = j ∧ j ≤ X.length ∧ s.1 = outR w a X j ∧ (j = 0 ∧ f = 0 ∨ f < j ∧ ∃ q,X[f]? = some q ∧ (∀ i y,f ≤ i → i < j → X[i]? = some y → kof w.Columns y = kof w.Columns q) ∧ (f = 0 ∨ ∃ q',X[f - 1]? = some q' ∧ kof w.Columns q' ≠ kof w.Columns q))) _ ?_ N _ ⟨0,0,rfl,rfl,Nat.zero_le _,rfl,.inl ⟨rfl,rfl⟩⟩ (by dsimp only;omega)) rfl
 rintro ⟨out,v1,v2⟩ ⟨f,j,hf,hj0,hj,ho,hst⟩
 dsimp only at hf hj0 ho ⊢
 subst hf hj0 ho
 by_cases hlt : (j : Int) < X.length
 ·rw [if_pos hlt]
  have hr := ge (l := X) (i := j) (by omega)
  have hm : X[j] ∈ X := List.getElem_mem _
  generalize X[j] = r at hr hm
  have ir := hI r (hX r hm)
  have hq := ge (l := X) (i := f) (by omega)
  have mq : X[f] ∈ X := List.getElem_mem _
  generalize X[f] = q at hq mq
  have hr39 : d39 N r = some r := by
   unfold d39
   have := hwl r (hX r hm)
   rw [if_pos (by unfold Rp.reach;omega)]
  rw [idx_nat hr,ob,idx_nat hq,ob,d70_ok (hI q (hX q mq)) ir (by omega) hN,ob]
  refine bind_ex (P := fun v : Int => ∃ f' : Nat,v = f' ∧ f' ≤ j ∧ (∀ i y,f' ≤ i → i < j + 1 → X[i]? = some y → kof w.Columns y = kof w.Columns r) ∧ (f' = 0 ∨ ∃ q',X[f' - 1]? = some q' ∧ kof w.Columns q' ≠ kof w.Columns r)) ?_ ?_
  ·rcases hst with ⟨rfl,rfl⟩ | ⟨hfj,q2,hq2,hrun,h0⟩
   ·rw [hr] at hq;injection hq with hq;subst hq
    rw [if_neg (by rw [tp.refl];decide)]
    exact ⟨_,rfl,0,rfl,Nat.le_refl _,fun i y h1 h2 h3 => by
     obtain rfl : i = 0 := by omega
     rw [hr] at h3;injection h3 with h3;rw [h3],.inl rfl⟩
   ·rw [hq] at hq2;injection hq2 with hq2;subst hq2
    by_cases he : ord w q r = 0
    ·rw [if_neg (by simp [he])]
     have hk := ord_zero.1 he
     refine ⟨_,rfl,f,rfl,by omega,fun i y h1 h2 h3 => ?_,?_⟩
     ·by_cases e : i = j
      ·subst e;rw [hr] at h3;injection h3 with h3;rw [h3]
      ·rw [← hk];exact hrun i y h1 (by omega) h3
     ·rcases h0 with h0 | ⟨q',h1,h2⟩
      ·exact .inl h0
      ·exact .inr ⟨q',h1,by rw [← hk];exact h2⟩
    ·rw [if_pos (by simp [he])]
     refine ⟨_,rfl,j,rfl,Nat.le_refl _,fun i y h1 h2 h3 => ?_,.inr ?_⟩
     ·obtain rfl : i = j := by omega
      rw [hr] at h3;injection h3 with h3;rw [h3]
     ·have hp := ge (l := X) (i := j - 1) (by omega)
      exact ⟨_,hp,fun e => he (ord_zero.2 (by rw [← hrun _ _ (by omega) (by omega) hp];exact e))⟩
  ·rintro _ ⟨f',rfl,hf',hrun,h0⟩
   have hrt : (X.take (j + 1))[j]? = some r := by rw [List.getElem?_take_of_lt (by omega)];exact hr
   have gp : (X.take (j + 1)).filter (same w.Columns r) = (X.take (j + 1)).drop f' := by
    have hq' := ge (l := X) (i := f') (by omega)
    have e' := hrun _ _ (Nat.le_refl _) (by omega) hq'
    generalize X[f'] = z at hq' e'
    have := group_part (X := X.take (j + 1)) (by_ := w) (Srt.split hs (j + 1)).1 (j := f') (k := j + 1) (r := z) (by rw [List.getElem?_take_of_lt (by omega)];exact hq') (by omega) (by rw [List.length_take];omega) (fun i y h1 h2 h3 => by
     rw [List.getElem?_take_of_lt h2] at h3
     rw [e'];exact hrun i y h1 h2 h3) (by
     rcases h0 with h0 | ⟨q',h1,h2⟩
     ·exact .inl h0
     ·by_cases e0 : f' = 0
      ·exact .inl e0
      ·exact .inr ⟨q',by rw [List.getElem?_take_of_lt (by omega)];exact h1,by rw [e'];exact h2⟩) (.inl (by rw [List.length_take];omega))
    rw [List.take_take,Nat.min_self] at this
    rw [← this]
    unfold same
    rw [e']
   rw [hr39,ob]
   have gl : ((X.take (j + 1)).drop f').length ≤ 60 := by rw [List.length_drop,List.length_take];omega
   have gm : ∀ s ∈ (X.take (j + 1)).drop f',s ∈ l := fun s hs => hX s (List.mem_of_mem_take (List.mem_of_mem_drop hs))
   refine bind_ex (P := fun s : Int × List S61 => s = ((f' : Int),runS w a X j r)) ?_ ?_
   ·refine iter_po _ (fun s : Int × List S61 × Int => a.length - s.2.2.toNat) (fun s : Int × List S61 × Int => ∃ i : Nat,s = ((f' : Int),r ++ (a.take i).map (recS ((X.take (j + 1)).drop f')),(i : Int)) ∧ i ≤ a.length) _ ?_ N _ ⟨0,by simp,Nat.zero_le _⟩ (by dsimp only;omega)
    rintro _ ⟨i,rfl,hi⟩
    dsimp only
    by_cases hlt3 : (i : Int) < a.length
    ·rw [if_pos hlt3]
     have hx := ge (l := a) (i := i) (by omega)
     have mx : a[i] ∈ a := List.getElem_mem _
     generalize a[i] = x at hx mx
     have n1 : natI ((j : Int) + 1) X.length = some (j + 1) := by unfold natI;rw [if_pos (by omega)];rfl
     have n2 : natI (f' : Int) (j + 1) = some f' := by unfold natI;rw [if_pos (by omega)];rfl
     have lr := hwl r (hX r hm)
     rw [idx_nat hx,ob,chk_ok (by omega) (by omega),ob,n1,ob,n2,ob,letv_eq,d72_ok hN gl ((hA x mx).sub gm) (fun r hr => hsm r (gm r hr)),ob,app_ok (by simp;omega) (by omega),ob,chk_ok (by omega) (by omega),ob]
     exact ⟨_,rfl,⟨i + 1,by rw [take_succ' hx];simp,by omega⟩,by dsimp only;omega⟩
    ·rw [if_neg hlt3]
     obtain rfl : i = a.length := by omega
     refine ⟨_,rfl,?_⟩
     unfold runS
     rw [List.take_length,gp]
   ·rintro _ rfl
    have ol := outR_len (w := w) (a := a) (X := X) (j := j)
    dsimp only
    rw [app_ok (by simp;omega) (by omega),ob,chk_ok (by omega) (by omega),ob]
    have hq' := ge (l := X) (i := f') (by omega)
    have e' := hrun _ _ (Nat.le_refl _) (by omega) hq'
    refine ⟨_,rfl,⟨f',j + 1,rfl,by simp,by omega,(outR_succ hr).symm,.inr ⟨by omega,_,hq',fun i y h1 h2 h3 => by rw [e'];exact hrun i y h1 h2 h3,?_⟩⟩,by dsimp only;omega⟩
    rcases h0 with h0 | ⟨q',h1,h2⟩
    ·exact .inl h0
    ·exact .inr ⟨q',h1,by rw [e'];exact h2⟩
 ·rw [if_neg hlt]
  obtain rfl : j = X.length := by omega
  exact ⟨_,rfl,rfl⟩
theorem d7_ok {N : Nat} (hN : 10000 ≤ N) (l : List Row) (w b : S65) (a : List S75) (m : Int) : d7 N l w b a m = some true := by
 unfold d7 d9
 rw [ob,if_neg (by decide),letv_eq]
 obtain ⟨b0,g1,g2⟩ := d21_ok hN l
 rw [g1,ob]
 cases b0 with
 | true => rw [if_pos rfl,ob,if_pos rfl]
 | false =>
 obtain ⟨hl,hw⟩ := g2 rfl
 rw [ite_ft]
 by_cases hcb : (b.Columns.length : Int) > 5
 ·rw [if_pos hcb,ob,if_pos rfl]
 rw [if_neg hcb]
 by_cases hcw : (w.Columns.length : Int) > 5
 ·rw [if_pos hcw,ob,if_pos rfl]
 rw [if_neg hcw]
 by_cases ha : (a.length : Int) > 10
 ·rw [if_pos ha,ob,if_pos rfl]
 rw [if_neg ha]
 by_cases hdb : (b.Descending.length : Int) > b.Columns.length
 ·rw [if_pos hdb,ob,if_pos rfl]
 rw [if_neg hdb]
 by_cases hdw : (w.Descending.length : Int) > w.Columns.length
 ·rw [if_pos hdw,ob,if_pos rfl]
 rw [if_neg hdw]
 obtain ⟨b1,v1,v2⟩ := d29_ok hN hl hw
 rw [v1,ob,ob]
 cases b1 with
 | false => rw [if_pos (show (!false) = true from rfl)]
 | true =>
 rw [if_neg (by decide)]
 have hsm := v2 rfl
 have mk : mkL 1 ((w.Columns.length : Int) + b.Descending.length) (false : Bool) = some (List.replicate (w.Columns.length + b.Descending.length) false) := by
  unfold mkL
  rw [if_pos ⟨by omega,by unfold Rp.reach;omega⟩,show ((w.Columns.length : Int) + b.Descending.length).toNat = w.Columns.length + b.Descending.length by omega]
 have mn : Nat.min w.Descending.length (w.Columns.length + b.Descending.length) = w.Descending.length := Nat.min_eq_left (by omega)
 rw [d37_ok hN (by omega) (by omega),ob,chk_ok (by omega) (by omega),ob,mk,ob,letv_eq]
 simp only [List.length_replicate]
 rw [mn,List.take_length,List.drop_replicate]
 have len1 : (w.Descending ++ List.replicate (w.Columns.length + b.Descending.length - w.Descending.length) false).length = w.Columns.length + b.Descending.length := by rw [lap,List.length_replicate];omega
 have nat1 : natI (w.Columns.length : Int) (w.Descending ++ List.replicate (w.Columns.length + b.Descending.length - w.Descending.length) false).length = some w.Columns.length := by
  unfold natI
  rw [len1,if_pos (by omega)]
  rfl
 rw [nat1,ob,letv_eq,len1]
 have mn2 : Nat.min b.Descending.length (w.Columns.length + b.Descending.length - w.Columns.length) = b.Descending.length := Nat.min_eq_left (by omega)
 rw [mn2,List.take_length]
 have ebo : S65.mk (w.Columns ++ b.Columns) ((w.Descending ++ List.replicate (w.Columns.length + b.Descending.length - w.Descending.length) false).take w.Columns.length ++ (b.Descending ++ (w.Descending ++ List.replicate (w.Columns.length + b.Descending.length - w.Descending.length) false).drop (w.Columns.length + b.Descending.length))) = both w b := by
  unfold both
  congr 1
  rw [List.drop_eq_nil_of_le (by rw [len1];exact Nat.le_refl _),List.append_nil,List.take_append,List.take_of_length_le (by omega),List.take_replicate,Nat.min_eq_left (by omega),List.append_assoc]
 rw [ebo]
 obtain ⟨e,e1,e2,_⟩ := d31_ok (m := m) (l := l) (by_ := both w b) hN (by omega) (by unfold both;rw [lap];omega)
 have h83 : d83 N w.Descending = some w.Descending := by
  unfold d83
  rw [if_pos (by unfold Rp.reach;omega)]
 have pre : ∀ r : Option (List Row × Int × Int),d40 N l (both w b) m = r → ∀ x,(r.bind fun r16 => if (r16.2.2 != 0) = true then some (([] : List Row),r16.2.2) else (d69 N l a).bind fun r18 => if (r18 != 0) = true then some (([] : List Row),r18) else none) = some x → d38 N l w b a m = some x := by
  intro r hr x hx
  unfold d38
  rw [if_neg (by omega),d37_ok hN (by omega) (by omega),ob,h83,ob,pad_ok hN (by omega) (by omega),ob,app_ok (by simp;omega) (by omega),ob]
  rw [show S65.mk (w.Columns ++ b.Columns) (w.Descending ++ List.replicate (w.Columns.length - w.Descending.length) false ++ b.Descending) = both w b by unfold both;rw [List.append_assoc],hr]
  cases r with
  | none => cases hx
  | some r =>
   rw [ob] at hx ⊢
   by_cases h1 : (r.2.2 != 0) = true
   ·rw [if_pos h1] at hx ⊢;exact hx
   ·rw [if_neg h1] at hx ⊢
    cases h2 : d69 N l a with
    | none => rw [h2] at hx;cases hx
    | some y =>
     rw [h2,ob] at hx
     rw [ob]
     by_cases h3 : (y != 0) = true
     ·rw [if_pos h3] at hx ⊢;exact hx
     ·rw [if_neg h3] at hx;cases hx
 by_cases he : e = 0
 rotate_left
 ·have h84 : d84 N l (both w b) m = some ([],e) := by
   unfold d84
   rw [e1,ob,if_pos (by simp [he])]
  have h40 : d40 N l (both w b) m = some ([],0,e) := by
   unfold d40
   rw [h84,ob,if_pos (by simp [he])]
  have h38 := pre _ h40 ([],e) (by rw [ob,if_pos (by simp [he])])
  rw [h38,ob,e1,ob,if_neg (by simp [he]),ob,ite_ft,ob,if_pos (by simp [he]),if_pos (by simp),ob]
  rfl
 subst he
 obtain ⟨m1,m2,hd,hi⟩ := e2 rfl
 obtain ⟨m,rfl⟩ : ∃ q : Nat,m = q := ⟨m.toNat,by omega⟩
 have v : Val l (both w b) m := ⟨by omega,by omega,by omega,hd,by unfold both;rw [lap];omega,hi,fun r hr => by have := hw r hr;omega⟩
 obtain ⟨X,p,x1,x2,x3,x4,x5⟩ := sorted_ok hN v
 have hI : ∀ r ∈ l,In w.Columns r := fun r hr k hk => v.In r hr k (by unfold both;exact List.mem_append_left _ hk)
 obtain ⟨e,f1,f2⟩ := d69_ok hN hl (a := a) (by omega)
 obtain ⟨b2,k1,k2⟩ := d32_ok hN hl (a := a) (by omega)
 rcases f2 with ⟨rfl,hA⟩ | ⟨rfl,hA⟩
 rotate_left
 ·have h38 := pre _ x1 ([],3) (by rw [ob,if_neg (show ¬ ((0 : Int) != 0) = true by decide),f1,ob,if_pos (by decide)])
  obtain rfl : b2 = false := by
   cases b2 with
   | false => rfl
   | true => exact absurd (k2.1 rfl) hA
  rw [h38,ob,e1,ob,if_pos (by decide),k1,ob,ob,if_pos (by decide),ob,if_pos (by decide),if_pos (by decide),ob]
  rfl
 obtain rfl := k2.2 hA
 have h38 := d38_ok hN hl hw (by omega) (by omega) (by omega) (by omega) (by omega) x1 x4 x5 (srt_both (by omega) x3) hI f1 hA hsm
 rw [h38,ob,e1,ob,if_pos (by decide),k1,ob,ob,if_neg (by decide),ob,if_neg (by decide),x2,ob]
 refine bind_to (outR w a X X.length) (iter_po _ (fun s : List (List S61) × Int => X.length - s.2.toNat) (fun s : List (List S61) × Int => ∃ j : Nat,s.2 = j ∧ j ≤ X.length ∧ s.1 = outR w a X j) _ ?_ N _ ⟨0,rfl,Nat.zero_le _,rfl⟩ (by dsimp only;omega)) ?_
 ·rintro ⟨out,u⟩ ⟨j,hj0,hj,ho⟩
  dsimp only at hj0 ho ⊢
  subst hj0 ho
  by_cases hlt : (j : Int) < X.length
  ·rw [if_pos hlt]
   have hr := ge (l := X) (i := j) (by omega)
   have hm : X[j] ∈ X := List.getElem_mem _
   generalize X[j] = r at hr hm
   have lr := hw r (x4 r hm)
   have kd : ∀ s ∈ X,d35 N s w.Columns = some (kof w.Columns s) := fun s hs => d35_ok (hI s (x4 s hs)) (by omega) hN
   have ks : ∀ s t : Row,d34 N (kof w.Columns s) (kof w.Columns t) = some (decide (kof w.Columns s = kof w.Columns t)) := fun s t => d34_ok hN (by rw [kof_len];omega)
   have n1 : natI ((j : Int) + 1) X.length = some (j + 1) := by unfold natI;rw [if_pos (by omega)];rfl
   have hr39 : d39 N r = some r := by
    unfold d39
    rw [if_pos (by unfold Rp.reach;omega)]
   rw [idx_nat hr,ob,chk_ok (by omega) (by omega),ob,n1,ob,letv_eq]
   have tl : (X.take (j + 1)).length = j + 1 := by rw [List.length_take];omega
   have fl : ((X.take (j + 1)).filter (same w.Columns r)).length ≤ 60 := Nat.le_trans (List.length_filter_le _ _) (by omega)
   have fm : ∀ s ∈ (X.take (j + 1)).filter (same w.Columns r),s ∈ l := fun s hs => x4 s (List.mem_of_mem_take (List.mem_filter.1 hs).1)
   have tm : ∀ s ∈ X.take (j + 1),s ∈ X := fun s hs => List.mem_of_mem_take hs
   unfold runS at *
   generalize hT : X.take (j + 1) = T at *
   refine bind_ex (P := fun s => s = T.filter (same w.Columns r)) ?_ ?_
   ·refine iter_po _ (fun s : List Row × Int => T.length - s.2.toNat) (fun s : List Row × Int => ∃ i : Nat,s.2 = i ∧ i ≤ T.length ∧ s.1 = (T.take i).filter (same w.Columns r)) _ ?_ N _ ⟨0,rfl,Nat.zero_le _,by simp⟩ (by dsimp only;omega)
    rintro ⟨g,u⟩ ⟨i,hw2,hi,hg⟩
    dsimp only at hw2 hg ⊢
    subst hw2 hg
    by_cases hlt2 : (i : Int) < T.length
    ·rw [if_pos hlt2]
     have hy := ge (l := T) (i := i) (by omega)
     have my : T[i] ∈ T := List.getElem_mem _
     generalize T[i] = y at hy my
     have gl : ((T.take i).filter (same w.Columns r)).length ≤ 60 := Nat.le_trans (List.length_filter_le _ _) (by rw [List.length_take];omega)
     have st : (T.take (i + 1)).filter (same w.Columns r) = if kof w.Columns y = kof w.Columns r then (T.take i).filter (same w.Columns r) ++ [y] else (T.take i).filter (same w.Columns r) := by
      rw [take_succ' hy,List.filter_append]
      unfold same
      by_cases h : kof w.Columns y = kof w.Columns r
      ·rw [if_pos h];congr 1;simp [h]
      ·rw [if_neg h];simp [h]
     rw [idx_nat hy,ob,kd y (tm y my),ob,kd r hm,ob,ks,ob]
     by_cases h : kof w.Columns y = kof w.Columns r
     ·rw [if_pos h] at st
      rw [if_pos (decide_eq_true h),app_ok (by simp only [List.length_singleton];omega) (by omega),ob,chk_ok (by omega) (by omega),ob]
      exact ⟨_,rfl,⟨i + 1,by simp,by omega,st.symm⟩,by dsimp only;omega⟩
     ·rw [if_neg h] at st
      rw [if_neg (by rw [decide_eq_true_iff];exact h),chk_ok (by omega) (by omega),ob]
      exact ⟨_,rfl,⟨i + 1,by simp,by omega,st.symm⟩,by dsimp only;omega⟩
    ·rw [if_neg hlt2]
     obtain rfl : i = T.length := by omega
     rw [List.take_length]
     exact ⟨_,rfl,rfl⟩
   ·rintro _ rfl
    rw [hr39,ob]
    refine bind_ex (P := fun s => s = r ++ a.map (recS (T.filter (same w.Columns r)))) ?_ ?_
    ·refine iter_po _ (fun s : List S61 × Int => a.length - s.2.toNat) (fun s : List S61 × Int => ∃ i : Nat,s.2 = i ∧ i ≤ a.length ∧ s.1 = r ++ (a.take i).map (recS (T.filter (same w.Columns r)))) _ ?_ N _ ⟨0,rfl,Nat.zero_le _,by simp⟩ (by dsimp only;omega)
     rintro ⟨g,u⟩ ⟨i,hw2,hi,hg⟩
     dsimp only at hw2 hg ⊢
     subst hw2 hg
     by_cases hlt2 : (i : Int) < a.length
     ·rw [if_pos hlt2]
      have hx := ge (l := a) (i := i) (by omega)
      have mx : a[i] ∈ a := List.getElem_mem _
      generalize a[i] = x at hx mx
      rw [idx_nat hx,ob,d36_ok hN fl ((hA x mx).sub fm) (fun r hr => hsm r (fm r hr)),ob,app_ok (by simp;omega) (by omega),ob,chk_ok (by omega) (by omega),ob]
      exact ⟨_,rfl,⟨i + 1,by simp,by omega,by rw [take_succ' hx];simp⟩,by dsimp only;omega⟩
     ·rw [if_neg hlt2]
      obtain rfl : i = a.length := by omega
      rw [List.take_length]
      exact ⟨_,rfl,rfl⟩
    ·rintro _ rfl
     have ol := outR_len (w := w) (a := a) (X := X) (j := j)
     rw [app_ok (by simp;omega) (by omega),ob]
     refine ⟨_,rfl,⟨j + 1,by simp,by omega,?_⟩,by dsimp only;omega⟩
     rw [outR_succ hr]
     unfold runS
     rw [hT]
  ·rw [if_neg hlt]
   obtain rfl : j = X.length := by omega
   exact ⟨_,rfl,rfl⟩
 ·have ol := outR_len (w := w) (a := a) (X := X) (j := X.length)
  dsimp only
  rw [if_pos (by rfl),d28_refl hN (by omega) (fun r hr => by have := outR_row (fun r hr => hw r (x4 r hr)) r hr;omega)]
  rfl
end Go.Proofs.YtimkkjiplioohaaGreatDoor
end
section
namespace Go.Proofs.YtimkkjiplioohaaGreatDoor
open Option renaming bind_some → ob
open List renaming getElem?_eq_getElem → ge,length_append → lap
open Go.Ab Go.Rp
open Go.Ab.Enc (eC eV)
abbrev RVal := Rp.St (Int × Int × ByteArray × Unit)
abbrev RRow := List RVal
abbrev RRows := List RRow
abbrev ROn := Rp.St (List Int × List Bool × Unit)
abbrev RAg := Rp.St (ByteArray × Int × Unit)
abbrev RAgs := List RAg
def toV (v : RVal) : S61 := ⟨v.val.1,v.val.2.1,v.val.2.2.1⟩
def toRs (a : RRows) : List (List S61) := a.map fun r => r.map toV
def toOn (o : ROn) : S65 := ⟨o.val.1,o.val.2.1⟩
def toAg (o : RAg) : S75 := ⟨o.val.1,o.val.2.1⟩
theorem rows_enc (a : RRows) : (eV a : V) = .d (.sl ((toRs a).map (cL cS61))) := by
 show V.d (.sl (a.map eC)) = _
 unfold toRs
 rw [List.map_map]
 congr 2
 apply List.map_congr_left
 intro r _
 show [D.sl (r.map eC)] = [D.sl ((r.map toV).map cS61)]
 rw [List.map_map]
 rfl
theorem ags_enc (a : RAgs) : (eV a : V) = .d (.sl ((a.map toAg).map cS75)) := by
 show V.d (.sl (a.map eC)) = _
 rw [List.map_map]
 rfl
theorem ra_fun (a : RRows) (w o : ROn) (g : RAgs) (m : Int) : Fun Tryz.prog 7 [eV a,eV w,eV o,eV g,eV m] (fun r _ => r = .d (.lit (.bool true))) := by
 have h := p7 9223372036854775808 (toRs a) (toOn w) (toOn o) (g.map toAg) m true (d7_ok (by omega) _ _ _ _ _)
 have e1 : ∀ o : ROn,(eV o : V) = .agg [.d (.sl ((toOn o).Columns.map (cI .i64))),.d (.sl ((toOn o).Descending.map cB))] := fun _ => rfl
 rw [rows_enc a,e1,e1,ags_enc g]
 exact h.2.mono fun _ _ h => h.1
end Go.Proofs.YtimkkjiplioohaaGreatDoor
end
