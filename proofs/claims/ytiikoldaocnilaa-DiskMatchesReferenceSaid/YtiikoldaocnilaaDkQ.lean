/- A disk as a functional program: what its methods yield. A disk as a functional program: flushes, reads. A disk as a functional program: one step of the law. A disk as a functional program: the law. The law's arguments as the functional program takes them. -/
import Derived.Test.YtiikoldaocnilaaDk3
import Derived.Test.YtiikoldaocnilaaA2
section
namespace Go.Proofs.Ytiikoldaocnilaa
open Go.Ab Go.Rp

abbrev Blok := List Int
abbrev Wr := S66
def pad (x : Blok) : Blok := x ++ List.replicate (32 - x.length) 0
theorem pad_len {x : Blok} (h : x.length ≤ 32) : (pad x).length = 32 := by simp [pad]; omega

theorem iter_post {τ ρ : Type} (step : τ → Option (τ ⊕ ρ)) (μ : τ → Nat) (Inv : τ → Prop) (Post : ρ → Prop)
  (h : ∀ s, Inv s → (∃ s', step s = some (.inl s') ∧ Inv s' ∧ μ s' < μ s) ∨ ∃ r, step s = some (.inr r) ∧ Post r) :
  ∀ (n : Nat) (s : τ), Inv s → μ s < n → ∃ r, iterN step n s = some r ∧ Post r := by
 intro n
 induction n with
 | zero => intro s _ h; omega
 | succ n ih =>
  intro s hi hm
  rcases h s hi with ⟨s', h1, h2, h3⟩ | ⟨r, h1, h2⟩
  ·obtain ⟨r, h4, h5⟩ := ih s' h2 (by omega)
   exact ⟨r, by rw [iterN, h1]; exact h4, h5⟩
  ·exact ⟨r, by rw [iterN, h1], h2⟩
theorem get_of {α : Type} {l : List α} {k : Nat} (h : k < l.length) : ∃ a, l[k]? = some a := ⟨l[k], List.getElem?_eq_getElem h⟩

theorem mk32 : mkL 1 32 (0 : Int) = some (List.replicate 32 0) := by
 unfold mkL
 rw [if_pos (by unfold Rp.reach; decide)]
 rfl

theorem d9_tot (N : Nat) (l : List Int) (i : Int) (hi : 0 ≤ i) : ∃ r, d9 N l i = some r := by
 unfold d9
 by_cases h : i < (l.length : Int)
 ·obtain ⟨a, ha⟩ := get_of (l := l) (k := i.toNat) (by omega)
  rw [if_pos h, idx_toNat hi ha]
  exact ⟨a, rfl⟩
 ·rw [if_neg h]; exact ⟨0, rfl⟩
theorem u64_wrap (n : Int) : 0 ≤ IntKind.u64.wrap n := by
 simp only [IntKind.wrap, IntKind.signed, IntKind.bits]
 simp
 omega
theorem u64_len {n : Nat} (h : n ≤ 140737488355328) : IntKind.u64.wrap (n : Int) = (n : Int) := by
 simp only [IntKind.wrap, IntKind.signed, IntKind.bits]
 simp
 omega
theorem rem_lt {x : Int} {n : Nat} (hx : 0 ≤ x) (hn : n ≠ 0) : ∃ k : Nat, remI x (n : Int) = some (k : Int) ∧ k < n := by
 refine ⟨(x.toNat % n), ?_, Nat.mod_lt _ (by omega)⟩
 unfold remI
 rw [if_neg (by omega)]
 have : x = (x.toNat : Int) := (Int.toNat_of_nonneg hx).symm
 conv => lhs; rw [this]
 rfl
theorem d10_tot (N : Nat) (l : List Blok) (i : Int) (hl : l.length ≤ 140737488355328) : ∃ r, d10 N l i = some r := by
 unfold d10
 by_cases h : l.length = 0
 ·exact ⟨[], by rw [if_pos (by simp [h])]⟩
 ·obtain ⟨k, h1, h2⟩ := rem_lt (u64_wrap i) h
  obtain ⟨a, ha⟩ := get_of h2
  refine ⟨a, ?_⟩
  rw [if_neg (by simpa using h), letv_eq, letv_eq, u64_len hl, h1, Option.bind_some, chkI_of (by omega) (by omega), Option.bind_some, idx_nat ha]
  rfl
theorem d11_tot (N : Nat) (l : List (List Bool)) (i : Int) (hl : l.length ≤ 140737488355328) : ∃ r, d11 N l i = some r := by
 unfold d11
 by_cases h : l.length = 0
 ·exact ⟨[], by rw [if_pos (by simp [h])]⟩
 ·obtain ⟨k, h1, h2⟩ := rem_lt (u64_wrap i) h
  obtain ⟨a, ha⟩ := get_of h2
  refine ⟨a, ?_⟩
  rw [if_neg (by simpa using h), letv_eq, letv_eq, u64_len hl, h1, Option.bind_some, chkI_of (by omega) (by omega), Option.bind_some, idx_nat ha]
  rfl
theorem d15_same (N : Nat) (x : Blok) : d15 N x x = some true := by simp [d15]
theorem d16_of (N : Nat) {x : Blok} (h : x.length ≤ 32) : d16 N x = some x := by
 unfold d16
 rw [if_pos (by unfold Rp.reach; omega)]

/-- a write -/
theorem d6_eq (N : Nat) (dur : List Blok) (pend : List Wr) (s : Int) (x : Blok) (hp : pend.length ≤ 1000) :
  d6 N ⟨dur, pend⟩ s x = some (if s < 0 ∨ (dur.length : Int) ≤ s then (⟨dur, pend⟩, 1) else if 32 < x.length then (⟨dur, pend⟩, 2) else if pend.length = 1000 then (⟨dur, pend⟩, 18) else (⟨dur, pend ++ [⟨s, pad x⟩]⟩, 0)) := by
 unfold d6
 by_cases h1 : s < 0
 ·simp [h1]
 by_cases h2 : (dur.length : Int) ≤ s
 ·simp [h1, h2]
 by_cases h3 : 32 < x.length
 ·have h3' : (x.length : Int) > 32 := by omega
  simp [h1, h2, h3, h3', -gt_iff_lt]
 have h3' : ¬ (x.length : Int) > 32 := by omega
 by_cases h4 : pend.length = 1000
 ·simp [h1, h2, h3, h3', h4, -gt_iff_lt]
 have h4' : ¬ ((pend.length : Int) = 1000) := by omega
 have hp2 : appL 32 pend [(S66.mk s (pad x))] = some (pend ++ [(S66.mk s (pad x))]) := appL_of (by simp [Rp.reach]; omega)
 have hmin : Nat.min x.length 32 = x.length := Nat.min_eq_left (by omega)
 have hpad : x.take (Nat.min x.length (List.replicate 32 (0 : Int)).length) ++ (List.replicate 32 (0 : Int)).drop (Nat.min x.length (List.replicate 32 (0 : Int)).length) = pad x := by
  rw [List.length_replicate, hmin, List.take_length, List.drop_replicate]
  rfl
 have h2' : ¬ s ≥ (dur.length : Int) := by omega
 have h5 : ((pend.length : Int) == 1000) = false := by simpa using h4'
 simp only [h1, if_false, Option.bind_some, Bool.false_eq_true, h3', mk32, letv_eq, hpad, hp2, false_or, h2, h3, h4, h5]
 simp
end Go.Proofs.Ytiikoldaocnilaa
end
section
namespace Go.Proofs.Ytiikoldaocnilaa
open Go.Ab Go.Rp

def padW (w : Wr) : Wr := ⟨w.sector, pad w.data⟩
def Good (n : Nat) (w : Wr) : Prop := 0 ≤ w.sector ∧ w.sector < (n : Int) ∧ w.data.length ≤ 32
/-- the disk's sectors against the map -/
def Rel (n : Nat) (dur : List Blok) (m : List (Int × Blok)) : Prop := dur.length = n ∧ ∀ i : Nat, i < n → dur[i]? = some (pad ((mget m (i : Int)).getD [])) ∧ ((mget m (i : Int)).getD []).length ≤ 32

def foD (f : Nat → Bool) (k : Nat) (w : Wr) (s : List Blok) : List Blok := if f k then setI s w.sector w.data else s
def foM (f : Nat → Bool) (k : Nat) (w : Wr) (m : List (Int × Blok)) : List (Int × Blok) := if f k then mput m w.sector w.data else m

theorem rel_step {n : Nat} {dur : List Blok} {m : List (Int × Blok)} (h : Rel n dur m) {w : Wr} (hw : Good n w) : Rel n (setI dur w.sector (pad w.data)) (mput m w.sector w.data) := by
 obtain ⟨h1, h2, h3⟩ := hw
 obtain ⟨k, hk⟩ : ∃ k : Nat, w.sector = k := ⟨w.sector.toNat, by omega⟩
 refine ⟨by simp [setI, h.1], fun i hi => ?_⟩
 rw [mget_put, hk]
 have e : setI dur (k : Int) (pad w.data) = dur.set k (pad w.data) := by simp [setI]
 rw [e]
 by_cases hik : i = k
 ·subst hik
  rw [if_pos rfl, List.getElem?_set_self (by have := h.1; omega)]
  exact ⟨rfl, h3⟩
 ·rw [if_neg (by omega), List.getElem?_set_ne (by omega)]
  exact h.2 i hi
theorem rel_fold {n : Nat} (f : Nat → Bool) : ∀ (mp : List Wr) (k : Nat) (dur : List Blok) (m : List (Int × Blok)), Rel n dur m → (∀ x ∈ mp, Good n x) → Rel n (foldI (foD f) (mp.map padW) k dur) (foldI (foM f) mp k m)
 | [], _, _, _, h, _ => h
 | w :: mp, k, dur, m, h, hg => by
  rw [List.map_cons, foldI, foldI]
  refine rel_fold f mp (k + 1) _ _ ?_ (fun x hx => hg x (.tail _ hx))
  unfold foD foM
  cases f k
  ·exact h
  ·exact rel_step h (hg w (.head _))

theorem set_len (dur : List Blok) (s : Int) (x : Blok) : (setI dur s x).length = dur.length := by simp [setI]
theorem idx_in {dur : List Blok} {s : Int} (h0 : 0 ≤ s) (h1 : s < (dur.length : Int)) : ∃ x, idx dur s = some x := by
 obtain ⟨a, ha⟩ := get_of (l := dur) (k := s.toNat) (by omega)
 exact ⟨a, idx_toNat h0 ha⟩

theorem d12_eq {N : Nat} (hN : bigN N) {n : Nat} {dur : List Blok} {mp : List Wr} (hd : dur.length = n) (hg : ∀ x ∈ mp, Good n x) (hl : mp.length ≤ 1000) :
  d12 N ⟨dur, mp.map padW⟩ = some ⟨foldI (foD fun _ => true) (mp.map padW) 0 dur, []⟩ := by
 unfold d12
 have key := iter_listI (mp.map padW) (fun (s : List Blok) (v : Int) => (s, v)) (fun ((l7, v8) : ((List (List Int)) × Int)) =>
   if v8 < ((mp.map padW).length : Int) then (
    (idx (mp.map padW) v8).bind fun x27 =>
    (idx l7 x27.sector).bind fun x29 =>
    letv (setI l7 x27.sector x27.data) fun l31 =>
    (chkI (v8 + 1)).bind fun v32 =>
    some (.inl (l31, v32))
   ) else
   some (.inr l7)) (fun k w s => .inl (foD (fun _ => true) k w s)) (fun s => s) (fun _ s => s.length = n) ?_ ?_ ?_ (n := N) (by rw [List.length_map]; omega) dur hd
 ·simp only [key, Option.bind_some, listFor_fold]
 ·intro k w s hw hk hs
  have hgw : Good n w := by
   have := List.mem_of_getElem? hw
   obtain ⟨x, hx, rfl⟩ := List.mem_map.1 this
   obtain ⟨g1, g2, g3⟩ := hg x hx
   exact ⟨g1, g2, by simp only [padW]; rw [pad_len g3]; omega⟩
  obtain ⟨x, hx⟩ := idx_in (dur := s) hgw.1 (by have := hgw.2.1; omega)
  have hkl : k < 1000 := by rw [List.length_map] at hk; omega
  simp only []
  rw [if_pos (by omega), idx_nat hw, Option.bind_some, hx, Option.bind_some, letv_eq, chkI_of (by omega) (by omega)]
  rfl
 ·intro k w s s' _ _ hs he
  injection he with he
  rw [← he]
  simp only [foD, if_true, set_len]
  exact hs
 ·intro s _
  simp only []
  rw [if_neg (by omega)]

theorem d13_eq {N : Nat} (hN : bigN N) {n : Nat} {dur : List Blok} {mp : List Wr} (fl : List Bool) (hd : dur.length = n) (hg : ∀ x ∈ mp, Good n x) (hl : mp.length ≤ 1000) :
  d13 N ⟨dur, mp.map padW⟩ fl = some ⟨foldI (foD fun k => fl[k]?.getD false) (mp.map padW) 0 dur, []⟩ := by
 unfold d13
 have key := iter_listI (mp.map padW) (fun (s : List Blok) (v : Int) => (s, v)) (fun ((l14, v15) : ((List (List Int)) × Int)) =>
   if v15 < ((mp.map padW).length : Int) then (
    (idx (mp.map padW) v15).bind fun x48 =>
    Option.bind (α := Bool) (
     if v15 < (fl.length : Int) then (
      (idx fl v15).bind fun x54 =>
      some x54
     ) else
     some false
    ) fun (v52 : Bool) =>
    if v52 = true then (
     (idx l14 x48.sector).bind fun x56 =>
     letv (setI l14 x48.sector x48.data) fun l58 =>
     (chkI (v15 + 1)).bind fun v59 =>
     some (.inl (l58, v59))
    ) else
    (chkI (v15 + 1)).bind fun v60 =>
    some (.inl (l14, v60))
   ) else
   some (.inr l14)) (fun k w s => .inl (foD (fun k => fl[k]?.getD false) k w s)) (fun s => s) (fun _ s => s.length = n) ?_ ?_ ?_ (n := N) (by rw [List.length_map]; omega) dur hd
 ·simp only [key, Option.bind_some, listFor_fold]
 ·intro k w s hw hk hs
  have hgw : Good n w := by
   have := List.mem_of_getElem? hw
   obtain ⟨x, hx, rfl⟩ := List.mem_map.1 this
   obtain ⟨g1, g2, g3⟩ := hg x hx
   exact ⟨g1, g2, by simp only [padW]; rw [pad_len g3]; omega⟩
  obtain ⟨x, hx⟩ := idx_in (dur := s) hgw.1 (by have := hgw.2.1; omega)
  have hkl : k < 1000 := by rw [List.length_map] at hk; omega
  have hf : (if (k : Int) < (fl.length : Int) then ((idx fl (k : Int)).bind fun x54 => some x54) else some false) = some (fl[k]?.getD false) := by
   by_cases h : k < fl.length
   ·obtain ⟨b, hb⟩ := get_of h
    rw [if_pos (by omega), idx_nat hb, hb]; rfl
   ·rw [if_neg (by omega), List.getElem?_eq_none (by omega)]; rfl
  simp only []
  rw [if_pos (by omega), idx_nat hw, Option.bind_some, hf, Option.bind_some]
  have hfo : foD (fun k => fl[k]?.getD false) k w s = if fl[k]?.getD false then setI s w.sector w.data else s := rfl
  rw [hfo]
  generalize fl[k]?.getD false = bb
  cases bb
  ·simp [chkI_of (show (-9223372036854775808 : Int) ≤ (k : Int) + 1 by omega) (show (k : Int) + 1 ≤ 9223372036854775807 by omega)]
  ·simp [hx, chkI_of (show (-9223372036854775808 : Int) ≤ (k : Int) + 1 by omega) (show (k : Int) + 1 ≤ 9223372036854775807 by omega)]
 ·intro k w s s' _ _ hs he
  injection he with he
  rw [← he]
  simp only [foD]
  split
  ·rw [set_len]; exact hs
  ·exact hs
 ·intro s _
  simp only []
  rw [if_neg (by omega)]

/-- what the law's loop over its own list leaves -/
def foR (s : Int) (w : Wr) (d : Blok) : Blok := if w.sector == s then w.data else d
theorem last_find (s : Int) : ∀ (mp : List Wr) (d : Blok), mp.foldl (fun d w => foR s w d) d = match mp.reverse.find? (fun w => w.sector == s) with | some w => w.data | none => d
 | [], d => rfl
 | w :: mp, d => by
  rw [List.foldl_cons, last_find s mp, List.reverse_cons, List.find?_append]
  cases mp.reverse.find? (fun w => w.sector == s) with
  | some x => rfl
  | none =>
   unfold foR
   cases h : w.sector == s <;> simp [h]
theorem find_pad (s : Int) (mp : List Wr) : (mp.map padW).reverse.find? (fun w => w.sector == s) = (mp.reverse.find? (fun w => w.sector == s)).map padW := by
 rw [← List.map_reverse, List.find?_map]
 rfl

theorem rangeL_find {α ρ : Type} (p : α → Bool) (k : α → Option ρ) : ∀ (xs : List α), rangeL (fun (x : α) (_ : Unit) => if p x = true then (k x).bind (fun r => some (.ret r)) else some (.go ())) xs () = match xs.find? p with
  | some w => (k w).bind (fun r => some (.ret r))
  | none => some (.go ())
 | [] => rfl
 | x :: xs => by
  unfold rangeL
  by_cases h : p x = true
  ·rw [if_pos h, List.find?_cons_of_pos h]
   cases hk : k x <;> simp [hk]
  ·rw [if_neg h, List.find?_cons_of_neg h]
   exact rangeL_find p k xs
def d14g (a0 : S64) (a1 : Int) : Option (S64 × List Int × Int) := if a1 < 0 ∨ (a0.durable.length : Int) ≤ a1 then some (a0, [], 1) else
  match a0.pending.reverse.find? (fun w => w.sector == a1) with
  | some w => if w.data.length ≤ Rp.reach then some (a0, w.data, 0) else none
  | none => (idx a0.durable a1).bind fun x => if x.length ≤ Rp.reach then some (a0, x, 0) else none
theorem d14_is (N : Nat) (a0 : S64) (a1 : Int) : d14 N a0 a1 = d14g a0 a1 := by
 unfold d14g
 have h16 : ∀ x : List Int, (d16 N x).bind (fun r => some (Out.ret (β := Unit) (a0, r, (0 : Int)))) = ((if x.length ≤ Rp.reach then some (a0, x, (0 : Int)) else none).bind fun r => some (.ret r)) := fun x => by
  unfold d16
  simp only [Nat.mul_one]
  split <;> rfl
 have h16' : ∀ x : List Int, ((d16 N x).bind fun r => some (a0, r, (0 : Int))) = if x.length ≤ Rp.reach then some (a0, x, 0) else none := fun x => by
  unfold d16
  simp only [Nat.mul_one]
  split <;> rfl
 unfold d14
 by_cases h1 : a1 < 0
 ·rw [if_pos h1, if_pos (.inl h1)]; rfl
 ·rw [if_neg h1]
  by_cases h2 : (a0.durable.length : Int) ≤ a1
  ·rw [if_pos (.inr h2)]
   simp only [Option.bind_some, show a1 ≥ (a0.durable.length : Int) from h2, decide_true, if_true]
  ·rw [if_neg (by omega)]
   simp only [Option.bind_some, show ¬ a1 ≥ (a0.durable.length : Int) from h2, decide_false, Bool.false_eq_true, if_false, h16, h16']
   rw [rangeL_find (fun w : S66 => w.sector == a1) (fun w : S66 => if w.data.length ≤ Rp.reach then some (a0, w.data, (0 : Int)) else none)]
   cases hf : a0.pending.reverse.find? (fun w => w.sector == a1) with
   | none => rfl
   | some w =>
    simp only []
    by_cases h3 : w.data.length ≤ Rp.reach
    ·rw [if_pos h3]; rfl
    ·rw [if_neg h3]; rfl

/-- a read of a sector -/
theorem d14_eq (N : Nat) {n : Nat} {dur : List Blok} {mp : List Wr} {m : List (Int × Blok)} (hr : Rel n dur m) (hg : ∀ x ∈ mp, Good n x) {s : Nat} (hs : s < n) :
  d14 N ⟨dur, mp.map padW⟩ (s : Int) = some (⟨dur, mp.map padW⟩, pad (mp.foldl (fun d w => foR (s : Int) w d) ((mget m (s : Int)).getD [])), 0) ∧ (mp.foldl (fun d w => foR (s : Int) w d) ((mget m (s : Int)).getD [])).length ≤ 32 := by
 obtain ⟨h1, h2⟩ := hr
 obtain ⟨h3, h4⟩ := h2 s hs
 rw [last_find]
 rw [d14_is]; unfold d14g
 rw [if_neg (by simp only []; omega)]
 simp only [find_pad]
 cases hf : mp.reverse.find? (fun w => w.sector == (s : Int)) with
 | some w =>
  have hw : Good n w := hg w (by have := List.mem_of_find?_eq_some hf; simpa using this)
  have hl := pad_len hw.2.2
  refine ⟨?_, hw.2.2⟩
  simp only [Option.map_some, padW]
  rw [if_pos (by rw [hl]; unfold Rp.reach; omega)]
 | none =>
  have hl := pad_len h4
  refine ⟨?_, h4⟩
  simp only [Option.map_none]
  rw [idx_nat h3, Option.bind_some, if_pos (by rw [hl]; unfold Rp.reach; omega)]
end Go.Proofs.Ytiikoldaocnilaa
end
section
namespace Go.Proofs.Ytiikoldaocnilaa
open Go.Ab Go.Rp

abbrev DSt := (List (List Int)) × (List S66) × (List (Int × (List Int))) × (List S66)
abbrev LSt := (List (List Int)) × (List S66) × (List (Int × (List Int))) × (List S66) × Int
def opPart (N : Nat) (a2 : List (List Int)) (a3 : List (List Bool)) (x807 : List Int) (l290 : List (List Int)) (l291 : List S66) (m292 : List (Int × (List Int))) (l293 : List S66) (r809 r813 : Int) (v811 : Bool) : Option (Out DSt (LSt ⊕ (Out Unit Bool))) :=
  if (r813 == 1) then (
   (d9 N x807 2).bind fun r912 =>
   (d10 N a2 r912).bind fun r913 =>
   Option.bind (α := ((List S66) × Int)) (
    if (!v811) = true then (
     some (l293, 1)
    ) else
    if (r913.length : Int) > 32 then (
     some (l293, 2)
    ) else
    if (l293.length : Int) ≥ 1000 then (
     some (l293, 18)
    ) else
    (appL 32 l293 [(S66.mk r809 r913)]).bind fun _l923 =>
    some ((l293 ++ [(S66.mk r809 r913)]), 0)
   ) fun ((l918, v919) : ((List S66) × Int)) =>
   (d6 N (S64.mk l290 l291) r809 r913).bind fun r924 =>
   if (r924.2 != v919) then (
    some (.ret (.inr (.ret false)))
   ) else
   some (.go (r924.1.durable, r924.1.pending, m292, l918))
  ) else
  Option.bind (α := Bool) (
   if (r813 == 2) then (
    some true
   ) else
   some (r813 == 3)
  ) fun (v927 : Bool) =>
  if v927 = true then (
   (d9 N x807 2).bind fun r930 =>
   (d11 N a3 r930).bind fun r931 =>
   (d9 N x807 0).bind fun r932 =>
   Option.bind (α := ((List (List Int)) × (List S66) × Bool)) (
    if (r932 == 2) then (
     (d12 N (S64.mk l290 l291)).bind fun r940 =>
     some (r940.durable, r940.pending, true)
    ) else
    (d13 N (S64.mk l290 l291) r931).bind fun r941 =>
    some (r941.durable, r941.pending, false)
   ) fun ((l936, l937, v938) : ((List (List Int)) × (List S66) × Bool)) =>
   Option.bind (α := List (Int × (List Int))) (
    iterN (σ := ((List (Int × (List Int))) × Bool × Int)) (ρ := List (Int × (List Int))) (fun ((m955, v956, v957) : ((List (Int × (List Int))) × Bool × Int)) =>
     if v957 < (l293.length : Int) then (
      (idx l293 v957).bind fun x991 =>
      Option.bind (α := (Bool × Bool)) (
       if v956 = true then (
        some (true, true)
       ) else
       if v957 < (r931.length : Int) then (
        (idx r931 v957).bind fun x1000 =>
        some (false, x1000)
       ) else
       some (false, false)
      ) fun ((v996, v997) : (Bool × Bool)) =>
      if v997 = true then (
       (chkI (v957 + 1)).bind fun v1002 =>
       some (.inl ((mput m955 x991.sector x991.data), v996, v1002))
      ) else
      (chkI (v957 + 1)).bind fun v1003 =>
      some (.inl (m955, v996, v1003))
     ) else
     some (.inr m955)
    ) N (m292, v938, 0)
   ) fun (m989 : List (Int × (List Int))) =>
   some (.go (l936, l937, m989, ([] : List S66)))
  ) else
  some (.go (l290, l291, m292, l293))

def rdPart (N : Nat) (l907 : List (List Int)) (l908 : List S66) (m909 : List (Int × (List Int))) (l910 : List S66) (r809 : Int) (v811 : Bool) (v294 : Int) : Option (LSt ⊕ (Out Unit Bool)) :=
 (d14 N (S64.mk l907 l908) r809).bind fun r1004 =>
 if (!v811) = true then (
  Option.bind (α := Bool) (
   if (r1004.2.2 != 1) then (
    some true
   ) else
   some ((r1004.2.1.length : Int) != 0)
  ) fun (v1007 : Bool) =>
  if v1007 = true then (
   some (.inr (.ret false))
  ) else
  (d7 N r1004.1).bind fun r1010 =>
  if (r1010.2 != (l910.length : Int)) then (
   some (.inr (.ret false))
  ) else
  (chkI (v294 + 1)).bind fun v1012 =>
  some (.inl (r1010.1.durable, r1010.1.pending, m909, l910, v1012))
 ) else
 letv ((mget m909 r809).getD []) fun v1013 =>
 Option.bind (α := List Int) (
  iterN (σ := ((List Int) × Int)) (ρ := List Int) (fun ((l1019, v1020) : ((List Int) × Int)) =>
   if v1020 < (l910.length : Int) then (
    (idx l910 v1020).bind fun x1037 =>
    if (x1037.sector == r809) then (
     (chkI (v1020 + 1)).bind fun v1040 =>
     some (.inl (x1037.data, v1040))
    ) else
    (chkI (v1020 + 1)).bind fun v1041 =>
    some (.inl (l1019, v1041))
   ) else
   some (.inr l1019)
  ) N (v1013, 0)
 ) fun (l1035 : List Int) =>
 Option.bind (α := Bool) (
  if (r1004.2.2 != 0) then (
   some true
  ) else
  (d16 N l1035).bind fun r1050 =>
  (chkI (32 - (l1035.length : Int))).bind fun v1051 =>
  (natZ v1051).bind fun n1052 =>
  (appL 1 r1050 (List.replicate n1052 0)).bind fun _l1053 =>
  (d15 N r1004.2.1 (r1050 ++ List.replicate n1052 0)).bind fun r1054 =>
  some (!r1054)
 ) fun (v1048 : Bool) =>
 if v1048 = true then (
  some (.inr (.ret false))
 ) else
 (d7 N r1004.1).bind fun r1056 =>
 if (r1056.2 != (l910.length : Int)) then (
  some (.inr (.ret false))
 ) else
 (chkI (v294 + 1)).bind fun v1058 =>
 some (.inl (r1056.1.durable, r1056.1.pending, m909, l910, v1058))

structure Inv (n : Nat) (dur : List Blok) (pend : List Wr) (m : List (Int × Blok)) (mp : List Wr) : Prop where
 rel : Rel n dur m
 pe : pend = mp.map padW
 good : ∀ x ∈ mp, Good n x
 len : mp.length ≤ 1000

theorem mloop {N : Nat} (hN : bigN N) (fl : List Bool) (b : Bool) (mp : List Wr) (hl : mp.length ≤ 1000) (m : List (Int × Blok)) :
  iterN (σ := ((List (Int × (List Int))) × Bool × Int)) (ρ := List (Int × (List Int))) (fun ((m955, v956, v957) : ((List (Int × (List Int))) × Bool × Int)) =>
        if v957 < (mp.length : Int) then (
         (idx mp v957).bind fun x991 =>
         Option.bind (α := (Bool × Bool)) (
          if v956 = true then (
           some (true, true)
          ) else
          if v957 < (fl.length : Int) then (
           (idx fl v957).bind fun x1000 =>
           some (false, x1000)
          ) else
          some (false, false)
         ) fun ((v996, v997) : (Bool × Bool)) =>
         if v997 = true then (
          (chkI (v957 + 1)).bind fun v1002 =>
          some (.inl ((mput m955 x991.sector x991.data), v996, v1002))
         ) else
         (chkI (v957 + 1)).bind fun v1003 =>
         some (.inl (m955, v996, v1003))
        ) else
        some (.inr m955)
       ) N (m, b, 0) = some (foldI (foM fun k => if b then true else fl[k]?.getD false) mp 0 m) := by
 have key := iter_list mp (fun (s : List (Int × Blok)) (v : Int) => (s, b, v)) (fun ((m955, v956, v957) : ((List (Int × (List Int))) × Bool × Int)) =>
        if v957 < (mp.length : Int) then (
         (idx mp v957).bind fun x991 =>
         Option.bind (α := (Bool × Bool)) (
          if v956 = true then (
           some (true, true)
          ) else
          if v957 < (fl.length : Int) then (
           (idx fl v957).bind fun x1000 =>
           some (false, x1000)
          ) else
          some (false, false)
         ) fun ((v996, v997) : (Bool × Bool)) =>
         if v997 = true then (
          (chkI (v957 + 1)).bind fun v1002 =>
          some (.inl ((mput m955 x991.sector x991.data), v996, v1002))
         ) else
         (chkI (v957 + 1)).bind fun v1003 =>
         some (.inl (m955, v996, v1003))
        ) else
        some (.inr m955)
       ) (fun k w s => .inl (foM (fun k => if b then true else fl[k]?.getD false) k w s)) (fun s => s) ?_ ?_ (n := N) (by omega) m
 ·simp only [key, listFor_fold]
 ·intro k w s hw hk
  have hf : (if b = true then some (true, true) else if (k : Int) < (fl.length : Int) then ((idx fl (k : Int)).bind fun x54 => some (false, x54)) else some (false, false)) = some (b, if b then true else fl[k]?.getD false) := by
   cases b
   ·simp only [Bool.false_eq_true, if_false]
    by_cases h : k < fl.length
    ·obtain ⟨b, hb⟩ := get_of h
     rw [if_pos (by omega), idx_nat hb, hb]; rfl
    ·rw [if_neg (by omega), List.getElem?_eq_none (by omega)]; rfl
   ·rfl
  simp only []
  rw [if_pos (by omega), idx_nat hw, Option.bind_some, hf, Option.bind_some]
  have hfo : foM (fun k => if b then true else fl[k]?.getD false) k w s = if (if b then true else fl[k]?.getD false) then mput s w.sector w.data else s := rfl
  rw [hfo]
  generalize (if b then true else fl[k]?.getD false) = bb
  cases bb <;> simp [chkI_of (show (-9223372036854775808 : Int) ≤ (k : Int) + 1 by omega) (show (k : Int) + 1 ≤ 9223372036854775807 by omega)]
 ·intro s
  simp only []
  rw [if_neg (by omega)]

theorem op_tot {N : Nat} (hN : bigN N) {n : Nat} {dur : List Blok} {pend : List Wr} {m : List (Int × Blok)} {mp : List Wr} (hI : Inv n dur pend m mp) (a2 : List (List Int)) (a3 : List (List Bool)) (h2 : a2.length ≤ 140737488355328) (h3 : a3.length ≤ 140737488355328) (x : List Int) (s r813 : Int) (v : Bool) (hv : v = true ↔ 0 ≤ s ∧ s < (n : Int)) :
  ∃ dur' pend' m' mp', opPart N a2 a3 x dur pend m mp s r813 v = some (.go (dur', pend', m', mp')) ∧ Inv n dur' pend' m' mp' := by
 obtain ⟨⟨hd, hrel⟩, rfl, hg, hl⟩ := hI
 obtain ⟨r2, hr2⟩ := d9_tot N x 2 (by decide)
 obtain ⟨r0, hr0⟩ := d9_tot N x 0 (by decide)
 unfold opPart
 by_cases c1 : (r813 == 1) = true
 ·rw [if_pos c1]
  obtain ⟨b, hb⟩ := d10_tot N a2 r2 h2
  rw [hr2, Option.bind_some, hb, Option.bind_some]
  have h6 := d6_eq N dur (mp.map padW) s b (by rw [List.length_map]; exact hl)
  rw [List.length_map, hd] at h6
  by_cases hvv : v = true
  ·obtain ⟨g1, g2⟩ := hv.1 hvv
   rw [if_neg (by omega)] at h6
   rw [if_neg (by rw [hvv]; simp)]
   by_cases q1 : 32 < b.length
   ·rw [if_pos q1] at h6
    rw [if_pos (by omega), Option.bind_some]
    simp only []
    rw [h6, Option.bind_some]
    exact ⟨dur, mp.map padW, m, mp, rfl, ⟨hd, hrel⟩, rfl, hg, hl⟩
   ·rw [if_neg q1] at h6
    rw [if_neg (by omega)]
    by_cases q2 : mp.length = 1000
    ·rw [if_pos q2] at h6
     rw [if_pos (by omega), Option.bind_some]
     simp only []
     rw [h6, Option.bind_some]
     exact ⟨dur, mp.map padW, m, mp, rfl, ⟨hd, hrel⟩, rfl, hg, hl⟩
    ·rw [if_neg q2] at h6
     rw [if_neg (by omega), appL_of (by simp [Rp.reach]; omega), Option.bind_some, Option.bind_some]
     simp only []
     rw [h6, Option.bind_some]
     refine ⟨dur, mp.map padW ++ [⟨s, pad b⟩], m, mp ++ [⟨s, b⟩], rfl, ⟨hd, hrel⟩, by simp [padW], fun y hy => ?_, by simp; omega⟩
     rcases List.mem_append.1 hy with hy | hy
     ·exact hg y hy
     ·have : y = ⟨s, b⟩ := by simpa using hy
      subst this
      exact ⟨g1, g2, by simp only []; omega⟩
  ·have hvf : v = false := Bool.eq_false_iff.2 hvv
   have hns : s < 0 ∨ (n : Int) ≤ s := by
    have : ¬ (0 ≤ s ∧ s < (n : Int)) := fun h => hvv (hv.2 h)
    omega
   rw [if_pos hns] at h6
   rw [if_pos (by rw [hvf]; rfl), Option.bind_some]
   simp only []
   rw [h6, Option.bind_some]
   exact ⟨dur, mp.map padW, m, mp, rfl, ⟨hd, hrel⟩, rfl, hg, hl⟩
 ·rw [if_neg c1]
  have hgo : ∀ f : Nat → Bool, Inv n (foldI (foD f) (mp.map padW) 0 dur) [] (foldI (foM f) mp 0 m) [] := fun f => ⟨rel_fold f mp 0 dur m ⟨hd, hrel⟩ hg, rfl, fun x hx => (by cases hx), by simp⟩
  by_cases c2 : (r813 == 2 || r813 == 3) = true
  ·have hc : (if (r813 == 2) = true then some true else some (r813 == 3)) = some true := by
    cases h : r813 == 2
    ·rw [h, Bool.false_or] at c2
     simp [c2]
    ·rfl
   rw [hc, Option.bind_some, if_pos rfl, hr2, Option.bind_some]
   obtain ⟨fl, hfl⟩ := d11_tot N a3 r2 h3
   rw [hfl, Option.bind_some, hr0, Option.bind_some]
   by_cases c3 : (r0 == 2) = true
   ·rw [if_pos c3, d12_eq hN hd hg hl, Option.bind_some, Option.bind_some]
    simp only []
    rw [mloop hN fl true mp hl m, Option.bind_some]
    exact ⟨_, _, _, _, rfl, hgo _⟩
   ·rw [if_neg c3, d13_eq hN fl hd hg hl, Option.bind_some, Option.bind_some]
    simp only []
    rw [mloop hN fl false mp hl m, Option.bind_some]
    exact ⟨_, _, _, _, rfl, hgo _⟩
  ·have hc : (if (r813 == 2) = true then some true else some (r813 == 3)) = some false := by
    cases h : r813 == 2
    ·rw [h, Bool.false_or] at c2
     simp [c2]
    ·rw [h] at c2; simp at c2
   rw [hc, Option.bind_some, if_neg (by simp)]
   exact ⟨dur, mp.map padW, m, mp, rfl, ⟨hd, hrel⟩, rfl, hg, hl⟩

theorem rd_tot {N : Nat} (hN : bigN N) {n : Nat} {dur : List Blok} {pend : List Wr} {m : List (Int × Blok)} {mp : List Wr} (hI : Inv n dur pend m mp) (s : Int) (v : Bool) (hv : v = true ↔ 0 ≤ s ∧ s < (n : Int)) (k : Nat) (hk : k < 1000000000000000) :
  rdPart N dur pend m mp s v (k : Int) = some (.inl (dur, pend, m, mp, (k : Int) + 1)) := by
 obtain ⟨⟨hd, hrel⟩, rfl, hg, hl⟩ := hI
 unfold rdPart
 by_cases hvv : v = true
 ·obtain ⟨g1, g2⟩ := hv.1 hvv
  obtain ⟨q, rfl⟩ : ∃ q : Nat, s = q := ⟨s.toNat, by omega⟩
  obtain ⟨h14, hlen⟩ := d14_eq N ⟨hd, hrel⟩ hg (s := q) (by omega)
  have hloop : iterN (σ := ((List Int) × Int)) (ρ := List Int) (fun ((l1019, v1020) : ((List Int) × Int)) =>
   if v1020 < (mp.length : Int) then (
    (idx mp v1020).bind fun x1037 =>
    if (x1037.sector == (q : Int)) then (
     (chkI (v1020 + 1)).bind fun v1040 =>
     some (.inl (x1037.data, v1040))
    ) else
    (chkI (v1020 + 1)).bind fun v1041 =>
    some (.inl (l1019, v1041))
   ) else
   some (.inr l1019)
  ) N ((mget m (q : Int)).getD [], 0) = some (mp.foldl (fun d w => foR (q : Int) w d) ((mget m (q : Int)).getD [])) := by
   have key := iter_list mp (fun (s : Blok) (v : Int) => (s, v)) (fun ((l1019, v1020) : ((List Int) × Int)) =>
   if v1020 < (mp.length : Int) then (
    (idx mp v1020).bind fun x1037 =>
    if (x1037.sector == (q : Int)) then (
     (chkI (v1020 + 1)).bind fun v1040 =>
     some (.inl (x1037.data, v1040))
    ) else
    (chkI (v1020 + 1)).bind fun v1041 =>
    some (.inl (l1019, v1041))
   ) else
   some (.inr l1019)) (fun k w s => .inl ((fun (_ : Nat) w s => foR (q : Int) w s) k w s)) (fun s => s) ?_ ?_ (n := N) (by omega) ((mget m (q : Int)).getD [])
   ·rw [key, listFor_fold]
    have : ∀ (l : List Wr) (k : Nat) (d : Blok), foldI (fun (_ : Nat) w s => foR (q : Int) w s) l k d = l.foldl (fun d w => foR (q : Int) w d) d := by
     intro l
     induction l with
     | nil => intro k d; rfl
     | cons w l ih => intro k d; rw [foldI, List.foldl_cons, ih]
    rw [this]
   ·intro k w s hw hk
    simp only []
    rw [if_pos (by omega), idx_nat hw, Option.bind_some, chkI_of (by omega) (by omega)]
    unfold foR
    cases w.sector == (q : Int) <;> rfl
   ·intro s
    simp only []
    rw [if_neg (by omega)]
  rw [h14, Option.bind_some, if_neg (by rw [hvv]; simp), letv_eq, hloop, Option.bind_some]
  generalize mp.foldl (fun d w => foR (q : Int) w d) ((mget m (q : Int)).getD []) = z at hlen
  simp only []
  rw [if_neg (by simp), d16_of N hlen, Option.bind_some, chkI_of (by omega) (by omega), Option.bind_some]
  have hz : natZ (32 - (z.length : Int)) = some (32 - z.length) := by
   unfold natZ
   rw [if_pos (by omega)]
   congr 1
   omega
  have hp : z ++ List.replicate (32 - z.length) 0 = pad z := rfl
  rw [hz, Option.bind_some, appL_of (by simp [Rp.reach]; omega), Option.bind_some, hp, d15_same, Option.bind_some, Option.bind_some, if_neg (by simp)]
  unfold d7
  rw [Option.bind_some]
  simp only [List.length_map]
  rw [if_neg (by simp), chkI_of (by omega) (by omega)]
  rfl
 ·have hvf : v = false := Bool.eq_false_iff.2 hvv
  have hns : s < 0 ∨ (n : Int) ≤ s := by
   have : ¬ (0 ≤ s ∧ s < (n : Int)) := fun h => hvv (hv.2 h)
   omega
  have h14 : d14 N ⟨dur, mp.map padW⟩ s = some (⟨dur, mp.map padW⟩, [], 1) := by
   rw [d14_is]; unfold d14g
   rw [if_pos (by simp only []; rw [hd]; exact hns)]
  rw [h14, Option.bind_some, if_pos (by rw [hvf]; rfl)]
  simp only []
  rw [if_neg (by simp), Option.bind_some, if_neg (by simp)]
  unfold d7
  rw [Option.bind_some]
  simp only [List.length_map]
  rw [if_neg (by simp), chkI_of (by omega) (by omega)]
  rfl
end Go.Proofs.Ytiikoldaocnilaa
end
section
namespace Go.Proofs.Ytiikoldaocnilaa
open Go.Ab Go.Rp

abbrev zb : Blok := List.replicate 32 0
theorem d5_eq {N : Nat} (hN : bigN N) {n : Nat} (h1 : 1 ≤ n) (h2 : n ≤ 256) : d5 N (n : Int) = some (some ⟨List.replicate n zb, []⟩, 0) := by
 unfold d5
 have key2 := iter_post (fun ((l9, v10) : ((List (List Int)) × Int)) =>
   if v10 < (n : Int) then (
    (mkL 1 32 0).bind fun l23 =>
    (appL 24 l9 [l23]).bind fun l24 =>
    (chkI (v10 + 1)).bind fun v25 =>
    some (.inl ((l9 ++ [l23]), v25))
   ) else
   some (.inr l9)) (fun s => n - s.2.toNat) (fun s => ∃ k : Nat, s = (List.replicate k zb, (k : Int)) ∧ k ≤ n) (fun r => r = List.replicate n zb) ?_ N (([] : List (List Int)), 0) ⟨0, rfl, Nat.zero_le _⟩ (by simp; omega)
 ·obtain ⟨r, e1, rfl⟩ := key2
  have c1 : ¬ ((n : Int) < 1) := by omega
  have c2 : ¬ ((n : Int) > 256) := by omega
  rw [if_neg c1, Option.bind_some, if_neg (by rw [decide_eq_false c2]; simp), e1]
  rfl
 ·rintro s ⟨k, rfl, hk⟩
  simp only []
  by_cases hlt : k < n
  ·left
   rw [if_pos (by omega), mk32, Option.bind_some, appL_of (by simp [Rp.reach]; omega), Option.bind_some, chkI_of (by omega) (by omega), Option.bind_some]
   refine ⟨_, rfl, ⟨k + 1, ?_, by omega⟩, by simp; omega⟩
   rw [show List.replicate (k + 1) zb = List.replicate k zb ++ [zb] from List.replicate_succ']
   rfl
  ·right
   have : k = n := by omega
   subst this
   rw [if_neg (by omega)]
   exact ⟨_, rfl, rfl⟩
theorem d5_bad (N : Nat) {n : Int} (h : n < 1 ∨ 256 < n) : d5 N n = some (none, 1) := by
 unfold d5
 by_cases h1 : n < 1
 ·rw [if_pos h1]; rfl
 ·rw [if_neg h1, decide_eq_true (show n > 256 by omega)]; rfl

theorem rel_new (n : Nat) : Rel n (List.replicate n zb) [] := by
 refine ⟨by simp, fun i hi => ⟨?_, by simp [mget_nil]⟩⟩
 rw [List.getElem?_replicate, if_pos hi]
 rfl

/-- the law's loop -/
theorem law_loop {N : Nat} (hN : bigN N) {n : Nat} (a1 a2 : List (List Int)) (a3 : List (List Bool)) (h1 : a1.length ≤ 140737488355328) (h2 : a2.length ≤ 140737488355328) (h3 : a3.length ≤ 140737488355328) :
  iterN (σ := LSt) (ρ := (Out Unit Bool)) (fun ((l290, l291, m292, l293, v294) : LSt) =>
   if v294 < (a1.length : Int) then (
    (idx a1 v294).bind fun x807 =>
    (d9 N x807 1).bind fun r809 =>
    Option.bind (α := Bool) (
     if r809 ≥ 0 then (
      some (decide (r809 < (n : Int)))
     ) else
     some false
    ) fun (v811 : Bool) =>
    (d9 N x807 0).bind fun r813 =>
    bindO (β := DSt) (ρ := (LSt ⊕ (Out Unit Bool))) (opPart N a2 a3 x807 l290 l291 m292 l293 r809 r813 v811) fun ((l907, l908, m909, l910) : DSt) => rdPart N l907 l908 m909 l910 r809 v811 v294
   ) else
   some (.inr (.go ()))
  ) N (List.replicate n zb, ([] : List S66), ([] : List (Int × (List Int))), ([] : List S66), 0) = some (.go ()) := by
 have key := iter_post (fun ((l290, l291, m292, l293, v294) : LSt) =>
   if v294 < (a1.length : Int) then (
    (idx a1 v294).bind fun x807 =>
    (d9 N x807 1).bind fun r809 =>
    Option.bind (α := Bool) (
     if r809 ≥ 0 then (
      some (decide (r809 < (n : Int)))
     ) else
     some false
    ) fun (v811 : Bool) =>
    (d9 N x807 0).bind fun r813 =>
    bindO (β := DSt) (ρ := (LSt ⊕ (Out Unit Bool))) (opPart N a2 a3 x807 l290 l291 m292 l293 r809 r813 v811) fun ((l907, l908, m909, l910) : DSt) => rdPart N l907 l908 m909 l910 r809 v811 v294
   ) else
   some (.inr (.go () : Out Unit Bool))) (fun s => a1.length - s.2.2.2.2.toNat) (fun s => ∃ k : Nat, s.2.2.2.2 = (k : Int) ∧ k ≤ a1.length ∧ Inv n s.1 s.2.1 s.2.2.1 s.2.2.2.1) (fun r => r = .go ()) ?_ N (List.replicate n zb, ([] : List S66), ([] : List (Int × (List Int))), ([] : List S66), 0) ⟨0, rfl, Nat.zero_le _, rel_new n, rfl, fun x hx => (by cases hx), by simp⟩ (by simp; omega)
 ·obtain ⟨r, e1, rfl⟩ := key
  exact e1
 ·rintro ⟨dur, pend, m, mp, v⟩ ⟨k, hk, hkl, hI⟩
  simp only at hk hI ⊢
  subst hk
  by_cases hlt : k < a1.length
  ·left
   obtain ⟨x, hx⟩ := get_of hlt
   obtain ⟨s, hs⟩ := d9_tot N x 1 (by decide)
   obtain ⟨r0, hr0⟩ := d9_tot N x 0 (by decide)
   obtain ⟨b, hb, hb2⟩ : ∃ b, (if s ≥ 0 then some (decide (s < (n : Int))) else some false) = some b ∧ (b = true ↔ 0 ≤ s ∧ s < (n : Int)) := by
    by_cases g : s ≥ 0
    ·exact ⟨_, by rw [if_pos g], by simp; omega⟩
    ·exact ⟨false, by rw [if_neg g], by simp; omega⟩
   obtain ⟨dur', pend', m', mp', e1, hI'⟩ := op_tot hN hI a2 a3 h2 h3 x s r0 b hb2
   have e2 := rd_tot hN hI' s b hb2 k (by omega)
   rw [if_pos (by omega), idx_nat hx, Option.bind_some, hs, Option.bind_some, hb, Option.bind_some, hr0, Option.bind_some, e1]
   simp only [bindO]
   rw [e2]
   exact ⟨_, rfl, ⟨k + 1, by simp, by omega, hI'⟩, by simp; omega⟩
  ·right
   rw [if_neg (by omega)]
   exact ⟨_, rfl, rfl⟩

theorem d3_true {N : Nat} (hN : bigN N) (a0 : Int) (a1 a2 : List (List Int)) (a3 : List (List Bool)) (h1 : a1.length ≤ 140737488355328) (h2 : a2.length ≤ 140737488355328) (h3 : a3.length ≤ 140737488355328) : d3 N a0 a1 a2 a3 = some true := by
 have e2 : d5 N 2 = some (some ⟨List.replicate 2 zb, []⟩, 0) := d5_eq hN (n := 2) (by omega) (by omega)
 have e6 : d6 N ⟨List.replicate 2 zb, []⟩ 1 ([7] : List Int) = some (⟨List.replicate 2 zb, [⟨1, pad [7]⟩]⟩, 0) := by
  rw [d6_eq N _ _ _ _ (by simp)]
  simp
 unfold d3
 rw [e2, Option.bind_some]
 simp only [ocase]
 rw [if_neg (by simp), e6, Option.bind_some]
 simp only []
 rw [if_neg (by simp)]
 unfold d7
 rw [Option.bind_some]
 simp only []
 rw [Option.bind_some, if_neg (by simp)]
 by_cases hbad : a0 < 1 ∨ 256 < a0
 ·rw [d5_bad N hbad, Option.bind_some]
  simp only
  by_cases g : a0 < 1
  ·rw [if_pos g]; rfl
  ·rw [if_neg g, decide_eq_true (show a0 > 256 by omega)]; rfl
 ·obtain ⟨n, rfl⟩ : ∃ n : Nat, a0 = n := ⟨a0.toNat, by omega⟩
  have c1 : ¬ ((n : Int) < 1) := by omega
  have c2 : ¬ ((n : Int) > 256) := by omega
  rw [d5_eq hN (by omega) (by omega), Option.bind_some]
  simp only
  rw [if_neg c1, Option.bind_some, if_neg (by rw [decide_eq_false c2]; simp), if_neg (by simp)]
  unfold d8
  rw [Option.bind_some, Option.bind_some]
  simp only [List.length_replicate]
  rw [if_neg (by simp)]
  have hl := law_loop hN (n := n) a1 a2 a3 h1 h2 h3
  have hl2 : ∀ {A : Option (Out Unit Bool)}, A = some (.go ()) → bindO (β := Unit) (ρ := Bool) A (fun _ => some true) = some true := fun h => by rw [h]; rfl
  exact hl2 hl
end Go.Proofs.Ytiikoldaocnilaa
end
section
namespace Go.Proofs.Ytiikoldaocnilaa
open Go.Ab Go.Rp
open Go.Ab.Enc (eC eV)

def toB (x : List UInt8) : List Int := x.map fun b => (b.toNat : Int)
theorem eC_bytes (x : List UInt8) : (eC x : List D) = cL (cI .u8) (toB x) := by
 show [D.sl (x.map eC)] = [D.sl ((toB x).map (cI .u8))]
 unfold toB
 rw [List.map_map]
 rfl

theorem disk_fun (a0 : Int) (a1 : List (List Int)) (a2 : List (List UInt8)) (a3 : List (List Bool)) (h1 : a1.length * 24 ≤ reach) (h2 : a2.length * 24 ≤ reach) (h3 : a3.length * 24 ≤ reach) : Fun Try.prog 3 [eV a0, eV a1, eV a2, eV a3] (fun r _ => r = .d (.lit (.bool true))) := by
 have h := p3 9223372036854775808 a0 a1 (a2.map toB) a3 true (d3_true (Nat.le_refl _) a0 a1 (a2.map toB) a3 (by unfold reach at h1; omega) (by rw [List.length_map]; unfold reach at h2; omega) (by unfold reach at h3; omega))
 have e1 : (eV a1 : V) = .d (.sl (a1.map (cL (cI .i64)))) := rfl
 have e2 : (eV a2 : V) = .d (.sl ((a2.map toB).map (cL (cI .u8)))) := by
  show V.d (.sl (a2.map eC)) = _
  rw [List.map_map]
  congr 2
  exact List.map_congr_left fun x _ => eC_bytes x
 have e3 : (eV a3 : V) = .d (.sl (a3.map (cL cB))) := rfl
 have e0 : (eV a0 : V) = .d (.lit (.int .i64 a0)) := rfl
 rw [e0, e1, e2, e3]
 exact h.2.mono fun _ _ h => h.1
end Go.Proofs.Ytiikoldaocnilaa
end
