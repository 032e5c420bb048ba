/- Functions of the program as functional programs; the code computes them. -/
import Derived.Test.YtfdhaigfonolpaaBk6
namespace Go.Proofs.Ytfdhaigfonolpaa
set_option maxRecDepth 100000
set_option maxHeartbeats 4000000
open Go.Ab Go.Rp
attribute [-simp] List.all_eq_true Array.all_toList Array.all_eq_true
theorem bk_loop {σ τ ρ : Type} (len : Nat) (mkS : σ → Int → τ) (step : τ → Option (τ ⊕ ρ)) (Inv : Nat → σ → Prop) (Post : ρ → Prop)
  (hs : ∀ k s,k < len → Inv k s → (∃ s',step (mkS s k) = some (.inl (mkS s' ((k : Int) + 1))) ∧ Inv (k + 1) s') ∨ ∃ r,step (mkS s k) = some (.inr r) ∧ Post r)
  (he : ∀ s,Inv len s → ∃ r,step (mkS s len) = some (.inr r) ∧ Post r) (s0 : σ) (h0 : Inv 0 s0) {n : Nat} (hn : len < n) : ∃ r,iterN step n (mkS s0 0) = some r ∧ Post r := by
 have key : ∀ (m k : Nat) (s : σ),k ≤ len → len - k < m → Inv k s → ∃ r,iterN step m (mkS s k) = some r ∧ Post r := by
  intro m
  induction m with
  | zero => intro k s _ h;omega
  | succ m ih =>
   intro k s hk hm hi
   rw [iterN_succ]
   by_cases hlt : k < len
   ·rcases hs k s hlt hi with ⟨s',h1,h2⟩ | ⟨r,h1,h2⟩
    ·rw [h1]
     exact ih (k + 1) s' (by omega) (by omega) h2
    ·rw [h1];exact ⟨r,rfl,h2⟩
   ·obtain rfl : k = len := by omega
    obtain ⟨r,h1,h2⟩ := he s hi
    rw [h1]
    exact ⟨r,rfl,h2⟩
 exact key n 0 s0 (Nat.zero_le _) (by omega) h0
theorem bk_bindO {β ρ : Type} {d : Option (Out β ρ)} {k : β → Option ρ} {P : Out β ρ → Prop} {Q : ρ → Prop} (h : ∃ s,d = some s ∧ P s) (h1 : ∀ x,P (.ret x) → Q x) (h2 : ∀ b,P (.go b) → ∃ r,k b = some r ∧ Q r) : ∃ r,bindO d k = some r ∧ Q r := by
 obtain ⟨s,rfl,hp⟩ := h
 cases s with
 | go b => exact h2 b hp
 | ret x => exact ⟨x,rfl,h1 x hp⟩
def rowOK (N : Nat) (r : List S71) : Prop := r.length < N ∧ r.length ≤ 9223372036854775807
theorem d30_eq (N : Nat) (a b : List S71) (hb : rowOK N b) : ∃ r,d30 N a b = some r ∧ (r = true ↔ a = b) := by
 unfold d30
 by_cases hl : a.length = b.length
 ·rw [if_neg (by simp [hl])]
  refine bk_bindO (P := fun o => match o with | .ret r => r = false ∧ a ≠ b | .go _ => a = b) ?_ ?_ ?_
  ·refine bk_loop a.length (fun (_ : Unit) k => k) _ (fun k _ => a.take k = b.take k) _ ?_ ?_ () rfl (n := N) (by have := hb.1;omega)
   ·intro k _ hk hi
    have hkb : k < b.length := by omega
    show (∃ s' : Unit,_) ∨ _
    rw [if_pos (by omega),idx_nat (List.getElem?_eq_getElem hk),Option.bind_some,idx_nat (List.getElem?_eq_getElem hkb),Option.bind_some]
    by_cases hq : beqS71 a[k] b[k] = true
    ·left
     refine ⟨(),?_,?_⟩
     ·rw [if_neg (by simp [hq]),chkI_of (by omega) (by have := hb.2;omega)];rfl
     rw [List.take_add_one,List.take_add_one,hi,List.getElem?_eq_getElem hk,List.getElem?_eq_getElem hkb,(beqS71_iff _ _).1 hq]
    right
    refine ⟨.ret false,by rw [if_pos (by simp [hq])],?_⟩
    exact ⟨rfl,fun e => hq ((beqS71_iff _ _).2 (by subst e;rfl))⟩
   intro _ hi
   refine ⟨_,by rw [if_neg (by omega)],?_⟩
   rw [List.take_length,hl,List.take_length] at hi
   exact hi
  ·rintro x ⟨rfl,hne⟩
   exact ⟨fun h => (by cases h),fun h => absurd h hne⟩
  intro _ he
  exact ⟨_,rfl,fun _ => he,fun _ => rfl⟩
 rw [if_pos (by simp;omega)]
 exact ⟨_,rfl,fun h => (by cases h),fun h => absurd (by rw [h]) hl⟩
open Classical in
noncomputable def eqD (c : S46) (x : ByteArray × List S71) : Bool := decide (c.Key = x.1 ∧ c.Row = x.2)
theorem d46_eq (N : Nat) (c : S46) (x : ByteArray × List S71) (hx : rowOK N x.2) : d46 N c x.1 x.2 = some (eqD c x) := by
 unfold d46 eqD
 by_cases h : c.Key = x.1
 ·rw [if_pos (by simp [h])]
  obtain ⟨r,hr,h2⟩ := d30_eq N c.Row x.2 hx
  rw [hr]
  simp only [Option.bind_some,Option.some.injEq]
  by_cases e : c.Row = x.2
  ·rw [h2.2 e];simp [h,e]
  have : r = false := Bool.eq_false_iff.2 fun hh => e (h2.1 hh)
  rw [this];simp [e]
 rw [if_neg (by simp [h])];simp [h]
theorem d28_eq (N : Nat) (l : List S46) (p : S46 → Option Bool) (q : S46 → Bool) (hp : ∀ c,p c = some (q c)) (h1 : l.length < N) (h2 : l.length ≤ 9223372036854775807) : d28 N l p = some (l.any q) := by
 unfold d28 d34
 have loop : ∃ r,bindO (β := Unit) (ρ := Int) (
  iterN (σ := Int) (ρ := (Out Unit Int)) (fun (v6 : Int) =>
   if v6 < (l.length : Int) then (
    (idx l v6).bind fun x21 =>
    (p x21).bind fun r23 =>
    if r23 = true then (
     some (.inr (.ret v6))
    ) else
    (chkI (v6 + 1)).bind fun v25 =>
    some (.inl v25)
   ) else
   some (.inr (.go ()))
  ) N 0
 ) (fun (_ : Unit) =>
 some (-1)) = some r ∧ (r ≥ 0 ↔ l.any q = true) := by
  refine bk_bindO (P := fun o => match o with | .ret r => r ≥ 0 ∧ l.any q = true | .go _ => l.any q = false) ?_ ?_ ?_
  ·refine bk_loop l.length (fun (_ : Unit) k => k) _ (fun k _ => (l.take k).any q = false) _ ?_ ?_ () rfl (n := N) h1
   ·intro k _ hk hi
    show (∃ s' : Unit,_) ∨ _
    rw [if_pos (by omega),idx_nat (List.getElem?_eq_getElem hk),Option.bind_some,hp,Option.bind_some]
    by_cases hq : q l[k] = true
    ·right
     refine ⟨.ret (k : Int),by rw [if_pos hq],?_⟩
     exact ⟨by omega,List.any_eq_true.2 ⟨l[k],List.getElem_mem hk,hq⟩⟩
    ·left
     refine ⟨(),?_,?_⟩
     ·rw [if_neg hq,chkI_of (by omega) (by omega)];rfl
     ·rw [List.take_add_one,List.getElem?_eq_getElem hk]
      rw [List.any_append,hi];simp [hq]
   ·intro _ hi
    refine ⟨_,by rw [if_neg (by omega)],?_⟩
    rw [List.take_length] at hi
    exact hi
  ·rintro x ⟨h,hne⟩
   exact ⟨fun _ => hne,fun _ => h⟩
  ·intro _ he
   exact ⟨_,rfl,fun h => absurd h (by decide),fun h => by rw [he] at h;cases h⟩
 obtain ⟨r,hr,h3⟩ := loop
 rw [hr,Option.bind_some]
 congr 1
 by_cases h : l.any q = true
 ·rw [h];simp [h3.2 h]
 ·rw [Bool.eq_false_iff.2 h];simp;exact Int.not_le.1 fun hh => h (h3.1 hh)
noncomputable def addD (l : List S46) (x : ByteArray × List S71) : List S46 := if l.any (fun c => eqD c x) = true then l else l ++ [S46.mk 0 x.1 x.2]
theorem addD_len (l : List S46) (x : ByteArray × List S71) : (addD l x).length ≤ l.length + 1 := by
 unfold addD;split <;> simp
theorem any_perm {α : Type} {p : α → Bool} {l l' : List α} (h : l.Perm l') : l.any p = l'.any p := by
 rw [Bool.eq_iff_iff,List.any_eq_true,List.any_eq_true]
 exact ⟨fun ⟨x,hx,hp⟩ => ⟨x,h.mem_iff.1 hx,hp⟩,fun ⟨x,hx,hp⟩ => ⟨x,h.mem_iff.2 hx,hp⟩⟩
theorem addD_perm {l l' : List S46} (h : l.Perm l') (x : ByteArray × List S71) : (addD l x).Perm (addD l' x) := by
 unfold addD
 rw [any_perm h]
 split
 ·exact h
 exact h.append_right _
theorem eqD_iff (c : S46) (x : ByteArray × List S71) : eqD c x = true ↔ c.Key = x.1 ∧ c.Row = x.2 := by
 unfold eqD;simp
theorem addD_swap (l : List S46) (x y : ByteArray × List S71) : (addD (addD l x) y).Perm (addD (addD l y) x) := by
 have up : ∀ (l : List S46) (x y : ByteArray × List S71),l.any (fun c => eqD c x) = true → (addD l y).any (fun c => eqD c x) = true := by
  intro l x y h
  unfold addD;split
  ·exact h
  ·rw [List.any_append,h];rfl
 by_cases hx : l.any (fun c => eqD c x) = true
 ·have e1 : addD l x = l := if_pos hx
  have e2 : addD (addD l y) x = addD l y := if_pos (up l x y hx)
  rw [e1,e2]
 ·by_cases hy : l.any (fun c => eqD c y) = true
  ·have e1 : addD l y = l := if_pos hy
   have e2 : addD (addD l x) y = addD l x := if_pos (up l y x hy)
   rw [e1,e2]
  ·have e1 : addD l x = l ++ [S46.mk 0 x.1 x.2] := if_neg hx
   have e2 : addD l y = l ++ [S46.mk 0 y.1 y.2] := if_neg hy
   rw [e1,e2]
   by_cases e : x = y
   ·rw [e]
   ·have n1 : eqD (S46.mk 0 x.1 x.2) y = false := Bool.eq_false_iff.2 fun h => e (Prod.ext ((eqD_iff _ _).1 h).1 ((eqD_iff _ _).1 h).2)
    have n2 : eqD (S46.mk 0 y.1 y.2) x = false := Bool.eq_false_iff.2 fun h => e (Prod.ext ((eqD_iff _ _).1 h).1 ((eqD_iff _ _).1 h).2).symm
    unfold addD
    rw [if_neg (by simp only [List.any_append,List.any_cons,List.any_nil,n1,Bool.or_false];exact hy),if_neg (by simp only [List.any_append,List.any_cons,List.any_nil,n2,Bool.or_false];exact hx),List.append_assoc,List.append_assoc]
    exact List.Perm.append_left _ (List.Perm.swap _ _ _)
theorem fold_perm {xs ys : List (ByteArray × List S71)} (h : xs.Perm ys) : ∀ {l l' : List S46},l.Perm l' → (xs.foldl addD l).Perm (ys.foldl addD l') := by
 have same : ∀ (zs : List (ByteArray × List S71)) {l l' : List S46},l.Perm l' → (zs.foldl addD l).Perm (zs.foldl addD l') := by
  intro zs
  induction zs with
  | nil => intro l l' h;exact h
  | cons z zs ih => intro l l' h;exact ih (addD_perm h z)
 induction h with
 | nil => intro l l' h;exact h
 | cons x _ ih => intro l l' h;exact ih (addD_perm h x)
 | swap x y zs =>
  intro l l' h
  exact same zs (((addD_swap l y x)).trans (addD_perm (addD_perm h x) y))
 | trans _ _ ih1 ih2 => intro l l' h;exact (ih1 h).trans (ih2 (.refl _))
def stOK (N : Nat) (xs : List (ByteArray × List S71)) (l : List S46) : Prop := (l.length + xs.length) * 48 ≤ Rp.reach ∧ l.length + xs.length < N ∧ ∀ x ∈ xs,rowOK N x.2
open Classical in
noncomputable def addS (N : Nat) (xs : List (ByteArray × List S71)) (l : List S46) : Option (List S46) := if stOK N xs l then some (xs.foldl addD l) else none
theorem addS_some {N : Nat} {xs : List (ByteArray × List S71)} {l r : List S46} (h : addS N xs l = some r) : stOK N xs l ∧ xs.foldl addD l = r := by
 unfold addS at h
 split at h
 ·exact ⟨by assumption,Option.some.inj h⟩
 cases h
noncomputable def stepD {ρ : Type} (N : Nat) (x : ByteArray × List S71) (l : List S46) : Option (Out (List S46) ρ) :=
 (d28 N l (fun b0 => d46 N b0 x.1 x.2)).bind fun r65 =>
 if (!r65) = true then (
  (appL 48 l [(S46.mk 0 x.1 x.2)]).bind fun _ =>
  some (.go (l ++ [(S46.mk 0 x.1 x.2)]))
 ) else
 some (.go l)
theorem reach_lt : Rp.reach ≤ 9223372036854775807 := by unfold Rp.reach;decide
theorem stepD_all {ρ : Type} {N : Nat} : ∀ (xs : List (ByteArray × List S71)) (l : List S46),stOK N xs l → rangeL (stepD (ρ := ρ) N) xs l = some (.go (xs.foldl addD l))
 | [],l,_ => rfl
 | x :: xs,l,⟨h1,h2,h3⟩ => by
  have hr := reach_lt
  have hx := h3 x (by simp)
  rw [List.length_cons] at h1 h2
  have e : stepD (ρ := ρ) N x l = some (.go (addD l x)) := by
   unfold stepD addD
   rw [d28_eq N l _ (fun c => eqD c x) (fun c => d46_eq N c x hx) (by omega) (by omega),Option.bind_some]
   by_cases hy : l.any (fun c => eqD c x) = true
   ·rw [if_neg (by simp [hy]),if_pos hy]
   ·rw [if_pos (by simp [hy]),if_neg hy]
    unfold appL
    rw [if_pos (by rw [List.length_singleton];omega)];rfl
  have hl := addD_len l x
  rw [rangeL,e]
  exact stepD_all xs (addD l x) ⟨by omega,by omega,fun y hy => h3 y (List.mem_cons_of_mem _ hy)⟩
theorem stOK.perm {N : Nat} {xs ys : List (ByteArray × List S71)} {l l' : List S46} (h : stOK N xs l) (hx : ys.Perm xs) (hl : l'.Perm l) : stOK N ys l' := by
 obtain ⟨h1,h2,h3⟩ := h
 refine ⟨?_,?_,fun y hy => h3 y (hx.mem_iff.1 hy)⟩
 ·rw [hx.length_eq,hl.length_eq];exact h1
 rw [hx.length_eq,hl.length_eq];exact h2
theorem awLastK {P : Program} {x : Code} {S : St} {β : Type} {K : β → Prop} {Q : Exit → St → Prop} (J : β → St) (h1 : AW P x S (fun e S' => ∃ b,K b ∧ e = .normal ∧ Sub S' (J b))) (h2 : ∀ b,K b → Q .normal (J b)) : AW P x S Q :=
 AW.mono2 h1 fun e S' ⟨b,hb,he,hs⟩ => by
  subst he
  exact ⟨_,hs,h2 b hb⟩
noncomputable def d27 (N : Nat) (a0 : S39) : Option (S39 × (List S46)) :=
 Option.bind (α := List S46) (
  iterN (σ := ((List S46) × Int)) (ρ := List S46) (fun ((l16,v17) : ((List S46) × Int)) =>
   if v17 < (a0.Backups.length : Int) then (
    (idx a0.Backups v17).bind fun x54 =>
    (addS N x54.State l16).bind fun l60 =>
    (chkI (v17 + 1)).bind fun v68 =>
    some (.inl (l60,v68))
   ) else
   some (.inr l16)
  ) N (([] : List S46),0)
 ) fun (l52 : List S46) =>
 some (a0,l52)
theorem p27 (N : Nat) (a0 : S39) (gh1000 : List S35) (r : (S39 × (List S46))) (h : d27 N a0 = some r) : FunMP Try.prog 27 [.ptr 1000 0 0] [(1000,some (.box [.ref 25000 gh1000.length a0.Backups.length,.ref 25001 0 a0.Changes.length,.i a0.Earliest])),(25000,R35 (gh1000 ++ a0.Backups)),(25001,R46 a0.Changes)] [1000] (fun l : List S46 => l.Perm r.2) (fun l => .s46 l) ([(1000,(.box [.ref 25000 gh1000.length r.1.Backups.length,.ref 25001 0 r.1.Changes.length,.i r.1.Earliest])),(25000,(.arr 35 2 ((gh1000 ++ r.1.Backups).map cS35))),(25001,(.arr 46 3 (r.1.Changes.map cS46)))]) := by
 unfold d27 at h
 refine FunMP.enter 37 [(0,.ptr 1000 0 0)] Try.func27 rfl (of_decide_eq_true rfl) rfl rfl ?_
 refine .seqR ?_
 refine .rr 1 ?_
 refine .tt [(0,.ptr 1000 0 0)] [(1000,some (.box [.ref 25000 gh1000.length a0.Backups.length,.ref 25001 0 a0.Changes.length,.i a0.Earliest])),(25000,R35 (gh1000 ++ a0.Backups)),(25001,R46 a0.Changes)] (.nil (.seqR ?_))
 refine .rr 1 ?_
 refine .tt [(0,.ptr 1000 0 0),(3,.z)] [(1000,some (.box [.ref 25000 gh1000.length a0.Backups.length,.ref 25001 0 a0.Changes.length,.i a0.Earliest])),(25000,R35 (gh1000 ++ a0.Backups)),(25001,R46 a0.Changes)] (.nil (.seq (.seqR ?_)))
 refine .rr 6 ?_
 refine .tt [(3,.z),(11,.ref 25000 gh1000.length a0.Backups.length),(12,.i (a0.Backups.length : Int)),(13,.i 0)] [(1000,some (.box [.ref 25000 gh1000.length a0.Backups.length,.ref 25001 0 a0.Changes.length,.i a0.Earliest])),(25000,R35 (gh1000 ++ a0.Backups)),(25001,R46 a0.Changes)] (.nil ?_)
 refine .lastNG (γ := Reord S46) (fun (g : Reord S46) (l52 : List S46) => mk 37 [1000] [(3,.ref 34 0 (g.1 l52).length)] [(34,R46 (g.1 l52)),(1000,some (.box [.ref 25000 gh1000.length a0.Backups.length,.ref 25001 0 a0.Changes.length,.i a0.Earliest])),(25000,R35 (gh1000 ++ a0.Backups)),(25001,R46 a0.Changes)]) h ?_ ?_ <;> clear h
 ·intro o h
  refine .block ?_
  refine .iterG (γ := Reord S46) (fun (g : Reord S46) ((l16,v17) : ((List S46) × Int)) => mk 37 [1000] [(3,.ref 34 0 (g.1 l16).length),(11,.ref 25000 gh1000.length a0.Backups.length),(12,.i (a0.Backups.length : Int)),(13,.i v17)] [(34,R46 (g.1 l16)),(1000,some (.box [.ref 25000 gh1000.length a0.Backups.length,.ref 25001 0 a0.Changes.length,.i a0.Earliest])),(25000,R35 (gh1000 ++ a0.Backups)),(25001,R46 a0.Changes)]) h Reord.id (Sub.trans (Sub.nilOwn (t := 3) (id := 34) (T := 46) (n := 3) rfl rfl (by decide)) (by simp [Reord.id];exact Sub.table (by simp) (by simp))) ?_
  clear h
  rintro g ⟨l16c,v17⟩ x h
  dsimp only at h ⊢
  have hp16 : (g.1 l16c).Perm l16c := g.2 l16c
  generalize g.1 l16c = l16 at hp16 ⊢
  refine .seqR ?_
  refine .rr 1 ?_
  refine .tt (L29 l16.length gh1000.length a0.Backups.length v17 ++ [(14,.b (decide (v17 < (a0.Backups.length : Int))))]) [(34,R46 l16),(1000,some (.box [.ref 25000 gh1000.length a0.Backups.length,.ref 25001 0 a0.Changes.length,.i a0.Earliest])),(25000,R35 (gh1000 ++ a0.Backups)),(25001,R46 a0.Changes)] (.nil (.seq ?_))
  replace h := isome h;rcases h with ⟨c53,h⟩ | ⟨c53,h⟩
  ·have c53_ : decide (v17 < (a0.Backups.length : Int)) = true := decide_eq_true c53
   refine .condT rfl c53_ ?_
   refine .skip (thenQ_normal (.seq (.block (.seqR ?_))))
   replace h := xsome h;obtain ⟨x54,k55,hx54k,hx54,hx54a,hx54b,h⟩ := h
   refine .rk 4 fun K k => ?_;simp [hx54,hx54k,hx54a,hx54b];refine k ?_
   refine .tt [(3,.ref 34 0 l16.length),(5,.ptr 5 0 0),(11,.ref 25000 gh1000.length a0.Backups.length),(12,.i (a0.Backups.length : Int)),(13,.i v17)] [(5,some (.box [.i x54.Time,.d (.mpi .string false (x54.State.map (MKey.sk ∘ Prod.fst)) (x54.State.map ((cL cS71) ∘ Prod.snd)))])),(34,R46 l16),(1000,some (.box [.ref 25000 gh1000.length a0.Backups.length,.ref 25001 0 a0.Changes.length,.i a0.Earliest])),(25000,R35 (gh1000 ++ a0.Backups)),(25001,R46 a0.Changes)] (.nil ?_)
   replace h := bsome h;obtain ⟨l60c,hl60,h⟩ := h
   obtain ⟨hg,hl60⟩ := addS_some hl60
   refine awLastK (K := fun l : List S46 => l.Perm l60c) (fun (l60 : List S46) => mk 37 [1000] (L29 l60.length gh1000.length a0.Backups.length v17) [(34,R46 l60),(1000,some (.box [.ref 25000 gh1000.length a0.Backups.length,.ref 25001 0 a0.Changes.length,.i a0.Earliest])),(25000,R35 (gh1000 ++ a0.Backups)),(25001,R46 a0.Changes)]) ?_ ?_
   ·clear h
    refine (AW.mapL (ρ := Unit) (rr := ()) (Q := fun _ _ => False) (f := stepD N) (fun o' => ∃ l : List S46,o' = .go l ∧ l.Perm l60c) 2 (mk 37 [1000] (L29 l16.length gh1000.length a0.Backups.length v17 ++ [(18,.d (.mpi .string false (x54.State.map (MKey.sk ∘ Prod.fst)) (x54.State.map ((cL cS71) ∘ Prod.snd))))]) [(34,R46 l16),(1000,some (.box [.ref 25000 gh1000.length a0.Backups.length,.ref 25001 0 a0.Changes.length,.i a0.Earliest])),(25000,R35 (gh1000 ++ a0.Backups)),(25001,R46 a0.Changes)]) (fun (itr56 : Nat) (b : List S46) => mk 37 [1000] [(3,.ref 34 0 b.length),(11,.ref 25000 gh1000.length a0.Backups.length),(12,.i (a0.Backups.length : Int)),(13,.i v17),(19,.d (.lit (itv itr56)))] [(34,R46 b),(1000,some (.box [.ref 25000 gh1000.length a0.Backups.length,.ref 25001 0 a0.Changes.length,.i a0.Earliest])),(25000,R35 (gh1000 ++ a0.Backups)),(25001,R46 a0.Changes)]) (fun (l60 : List S46) => mk 37 [1000] (L29 l60.length gh1000.length a0.Backups.length v17) [(34,R46 l60),(1000,some (.box [.ref 25000 gh1000.length a0.Backups.length,.ref 25001 0 a0.Changes.length,.i a0.Earliest])),(25000,R35 (gh1000 ++ a0.Backups)),(25001,R46 a0.Changes)]) rfl ?_ rfl rfl rfl rfl ty33 rfl rfl rfl rfl rfl rfl rfl rfl rfl rfl (by intro r b;exact ⟨(by show 20 < 37;decide),(by show 21 < 37;decide),by decide,by decide,by decide⟩) (by intro r b;exact ⟨rfl,rfl,rfl⟩) (by intro r;simp;exact Sub.table (by simp) (by simp)) (by rintro r l60;exact Sub.table (by simp) (by simp)) (fun l' hl' => ⟨_,stepD_all l' l16 (hg.perm hl' hp16),_,rfl,by rw [← hl60];exact fold_perm hl' hp16⟩) ?_).mono fun e S' ⟨o',⟨l,ho,hp⟩,hs⟩ => by subst ho;exact ⟨l,hp,hs.1,hs.2⟩
    ·simp only [List.take_succ_cons,List.take_zero]
     refine .rr 2 ?_
     refine .tt (L29 l16.length gh1000.length a0.Backups.length v17 ++ [(18,.d (.mpi .string false (x54.State.map (MKey.sk ∘ Prod.fst)) (x54.State.map ((cL cS71) ∘ Prod.snd))))]) [(34,R46 l16),(1000,some (.box [.ref 25000 gh1000.length a0.Backups.length,.ref 25001 0 a0.Changes.length,.i a0.Earliest])),(25000,R35 (gh1000 ++ a0.Backups)),(25001,R46 a0.Changes)] ?_
     refine .nil (.refl _)
    clear hl60 hg
    rintro itr56 x56 l60 o' h
    unfold stepD at h
    try dsimp only at h ⊢
    refine .sub (S' := mk 37 [1000] (L29 l60.length gh1000.length a0.Backups.length v17 ++ [(19,.d (.lit (itv itr56))),(22,.tup [.s x56.1,.s71 x56.2])]) [(34,R46 l60),(1000,some (.box [.ref 25000 gh1000.length a0.Backups.length,.ref 25001 0 a0.Changes.length,.i a0.Earliest])),(25000,R35 (gh1000 ++ a0.Backups)),(25001,R46 a0.Changes)]) (by simp [MKey.enc];exact Sub.table (by simp) (by simp)) ?_
    refine .rr 6 ?_
    refine .tt (L30 l60.length gh1000.length a0.Backups.length v17 ++ [(19,.d (.lit (itv itr56)))]) [(6,some (.box [.s x56.1])),(7,some (.box [.s71 x56.2])),(34,R46 l60),(1000,some (.box [.ref 25000 gh1000.length a0.Backups.length,.ref 25001 0 a0.Changes.length,.i a0.Earliest])),(25000,R35 (gh1000 ++ a0.Backups)),(25001,R46 a0.Changes)] (.nil (.seqR ?_))
    refine .rr 2 ?_
    refine .tt (L30 l60.length gh1000.length a0.Backups.length v17 ++ [(19,.d (.lit (itv itr56))),(25,.ref 34 0 l60.length),(26,.fn (.func 46) [.ptr 6 0 0,.ptr 7 0 0])]) [(6,some (.box [.s x56.1])),(7,some (.box [.s71 x56.2])),(34,R46 l60),(1000,some (.box [.ref 25000 gh1000.length a0.Backups.length,.ref 25001 0 a0.Changes.length,.i a0.Earliest])),(25000,R35 (gh1000 ++ a0.Backups)),(25001,R46 a0.Changes)] ?_
    replace h := bsome h;obtain ⟨r65,hr65,h⟩ := h
    refine .callL (d := 27) (p28 N l60 46 [.pim [.lit (.string x56.1)],.pim [.sl (x56.2.map cS71)]] (fun b0 => d46 N b0 x56.1 x56.2) ent46 (fun b0 r h => p46 N b0 x56.1 x56.2 r h) r65 hr65) (by simp) rfl rfl (by simp <;> rfl) (by simp <;> rfl) ent28 (by simp <;> rfl) ?_
    refine .st (mk 37 [1000] (L30 l60.length gh1000.length a0.Backups.length v17 ++ [(19,.d (.lit (itv itr56))),(25,.ref 34 0 l60.length),(26,.fn (.func 46) [.ptr 6 0 0,.ptr 7 0 0]),(27,.b r65)]) [(6,some (.box [.s x56.1])),(7,some (.box [.s71 x56.2])),(34,R46 l60),(1000,some (.box [.ref 25000 gh1000.length a0.Backups.length,.ref 25001 0 a0.Changes.length,.i a0.Earliest])),(25000,R35 (gh1000 ++ a0.Backups)),(25001,R46 a0.Changes)]) ?_
    refine .rr 1 ?_
    refine .tt (L30 l60.length gh1000.length a0.Backups.length v17 ++ [(19,.d (.lit (itv itr56))),(28,.b (!r65))]) [(6,some (.box [.s x56.1])),(7,some (.box [.s71 x56.2])),(34,R46 l60),(1000,some (.box [.ref 25000 gh1000.length a0.Backups.length,.ref 25001 0 a0.Changes.length,.i a0.Earliest])),(25000,R35 (gh1000 ++ a0.Backups)),(25001,R46 a0.Changes)] (.nil ?_)
    replace h := isome h;rcases h with ⟨c66,h⟩ | ⟨c66,h⟩
    ·have c66_ : (!r65) = true := c66
     refine .condT rfl c66_ ?_
     refine .region ?_
     replace h := bsome h;obtain ⟨l67,hl67,h⟩ := h
     obtain ⟨hl67a,hl67⟩ := appL_some hl67
     subst hl67
     try simp only [List.length_cons,List.length_nil,Nat.zero_add] at hl67a
     refine .runK [33] 7 fun K k => ?_;simp [hl67a];refine k _ _ ?_;clear k K
     refine .tt [(3,.ref 34 0 ((l60 ++ [(S46.mk 0 x56.1 x56.2)]).length)),(11,.ref 25000 gh1000.length a0.Backups.length),(12,.i (a0.Backups.length : Int)),(13,.i v17),(19,.d (.lit (itv itr56)))] [(34,R46 (l60 ++ [(S46.mk 0 x56.1 x56.2)])),(1000,some (.box [.ref 25000 gh1000.length a0.Backups.length,.ref 25001 0 a0.Changes.length,.i a0.Earliest])),(25000,R35 (gh1000 ++ a0.Backups)),(25001,R46 a0.Changes)] (.nil ?_)
     cases h
     refine blockQ.normal ?_
     exact ⟨rfl,Sub.tt⟩
    have c66_ : (!r65) = false := Bool.eq_false_iff.2 c66
    refine .condF rfl c66_ ?_
    refine .skip ?_
    cases h
    refine blockQ.normal ?_
    exact ⟨rfl,Sub.tt⟩
   rintro l60 hp60
   refine blockQ.normal (thenQ_normal (.region ?_))
   replace h := csome h;obtain ⟨v68,hv68,h⟩ := h
   refine .rk 2 fun K k => ?_;simp [hv68];refine k ?_
   refine .tt (L29 l60.length gh1000.length a0.Backups.length v68) [(34,R46 l60),(1000,some (.box [.ref 25000 gh1000.length a0.Backups.length,.ref 25001 0 a0.Changes.length,.i a0.Earliest])),(25000,R35 (gh1000 ++ a0.Backups)),(25001,R46 a0.Changes)] (.nil ?_)
   cases h
   refine PostIG.next (Reord.at l60c l60 hp60) ?_
   try dsimp only
   rw [Reord.at_self]
   exact Sub.tt
  have c53_ : decide (v17 < (a0.Backups.length : Int)) = false := decide_eq_false c53
  refine .condF rfl c53_ ?_
  refine .exit ?_
  cases h
  refine thenQ_ps ?_
  refine PostIG.out (by simp) ?_
  rintro rfl
  refine blockQ.hit ?_
  refine PostNG.next (Reord.at l16c l16 hp16) ?_
  try dsimp only
  rw [Reord.at_self]
  exact Sub.tt
 rintro g l52c h
 have hp52 : (g.1 l52c).Perm l52c := g.2 l52c
 try dsimp only
 generalize g.1 l52c = l52 at hp52 ⊢
 refine thenQ_normal (.seqR ?_)
 refine .rr 2 ?_
 refine .tt [(2,.ref 34 0 l52.length)] [(34,R46 l52),(1000,some (.box [.ref 25000 gh1000.length a0.Backups.length,.ref 25001 0 a0.Changes.length,.i a0.Earliest])),(25000,R35 (gh1000 ++ a0.Backups)),(25001,R46 a0.Changes)] (.nil ?_)
 refine .sub (.freeze 34 rfl) ?_
 refine .st (mk 37 [1000] [(2,.s46 l52)] [(1000,some (.box [.ref 25000 gh1000.length a0.Backups.length,.ref 25001 0 a0.Changes.length,.i a0.Earliest])),(25000,R35 (gh1000 ++ a0.Backups)),(25001,R46 a0.Changes)]) (.ret ?_)
 cases h
 exact ⟨l52,hp52,FinF.ret (by simp) (by simp)⟩
def d29 (N : Nat) (a0 : S46) (a1 : ByteArray) (a2 : (List S71)) : Option Bool :=
 Option.bind (α := Bool) (
  if decide (a0.Key = a1) = true then (
   (d30 N a0.Row a2).bind fun r5 =>
   some r5
  ) else
  some false
 ) fun (v3 : Bool) =>
 some v3
theorem p29 (N : Nat) (a0 : S46) (a1 : ByteArray) (a2 : (List S71)) (r : Bool) (h : d29 N a0 a1 a2 = some r) : FunC Try.prog 29 [.agg [.i a0.Time,.s a0.Key,.s71 a0.Row],.d (.pim [.lit (.string a1)]),.d (.pim [.sl (a2.map cS71)])] (.b r) := by
 unfold d29 at h
 refine FunC.enter 15 [(0,.agg [.i a0.Time,.s a0.Key,.s71 a0.Row]),(1,.d (.pim [.lit (.string a1)])),(2,.d (.pim [.sl (a2.map cS71)]))] (by simp) Try.func29 rfl (of_decide_eq_true rfl) rfl rfl ?_
 refine .seqR ?_
 refine .rr 2 ?_
 refine .tt [(1,.d (.pim [.lit (.string a1)])),(2,.d (.pim [.sl (a2.map cS71)])),(3,.ptr 3 0 0)] (H8 a0) (.nil ?_)
 replace h := bsome h;obtain ⟨v3,hj,h⟩ := h
 refine .cutR (mk 15 [] [(4,.b v3)] []) ?_ ?_
 ·clear h;have h := hj;clear hj
  refine .rr 5 ?_
  refine .tt (L27 a2 ++ [(9,.b (decide (a0.Key = a1)))]) (H8 a0) ?_
  replace h := isome h;rcases h with ⟨c4,h⟩ | ⟨c4,h⟩
  ·have c4_ : decide (a0.Key = a1) = true := c4
   refine .sub (.bool 9 rfl c4_) ?_
   refine .st (mk 15 [] (L27 a2 ++ [(9,.b true)]) (H8 a0)) ?_
   refine .rr 3 ?_
   refine .tt (L28 a0.Row a2) [] ?_
   replace h := bsome h;obtain ⟨r5,hr5,h⟩ := h
   refine .callL (d := 13) (p30 N a0.Row a2 r5 hr5) (by simp) rfl rfl (by simp <;> rfl) (by simp <;> rfl) ent30 (by simp <;> rfl) ?_
   refine .st (mk 15 [] (L28 a0.Row a2 ++ [(13,.b r5)]) []) ?_
   refine .rr 2 ?_
   refine .tt [(4,.b r5)] [] ?_
   cases h
   exact .nil .tt
  have c4_ : decide (a0.Key = a1) = false := Bool.eq_false_iff.2 c4
  refine .sub (.bool 9 rfl c4_) ?_
  refine .st (mk 15 [] (L27 a2 ++ [(9,.b false)]) (H8 a0)) ?_
  refine .rr 6 ?_
  refine .tt [(4,.b false)] [] ?_
  cases h
  exact .nil .tt
 clear hj
 refine .ret ?_
 cases h
 exact FinC.rs
open Classical in
noncomputable def cntS (N : Nat) (l : List S46) (a1 : List (ByteArray × List S71)) : Option Int := if l.length < N ∧ l.length ≤ 9223372036854775807 ∧ a1.length ≤ 9223372036854775807 ∧ ∀ x ∈ a1,rowOK N x.2 then some ((a1.filter fun x => !(l.any fun c => eqD c x)).length : Int) else none
noncomputable def stepU {ρ : Type} (N : Nat) (l : List S46) (x2 : ByteArray × List S71) (v6 : Int) : Option (Out Int ρ) :=
 (d28 N l (fun b0 => d29 N b0 x2.1 x2.2)).bind fun r11 =>
 if (!r11) = true then (
  (chkI (v6 + 1)).bind fun v13 =>
  some (.go v13)
 ) else
 some (.go v6)
theorem stepU_all {ρ : Type} {N : Nat} {l : List S46} (h1 : l.length < N) (h2 : l.length ≤ 9223372036854775807) : ∀ (xs : List (ByteArray × List S71)) (n : Nat),n + xs.length ≤ 9223372036854775807 → (∀ x ∈ xs,rowOK N x.2) → rangeL (stepU (ρ := ρ) N l) xs (n : Int) = some (.go ((n + (xs.filter fun x => !(l.any fun c => eqD c x)).length : Nat) : Int))
 | [],n,_,_ => rfl
 | x :: xs,n,hn,hx => by
  rw [List.length_cons] at hn
  have e : stepU (ρ := ρ) N l x (n : Int) = some (.go ((if l.any (fun c => eqD c x) = true then n else n + 1 : Nat) : Int)) := by
   unfold stepU
   rw [d28_eq N l (fun b0 => d29 N b0 x.1 x.2) (fun c => eqD c x) (fun c => (show d29 N c x.1 x.2 = d46 N c x.1 x.2 from rfl).trans (d46_eq N c x (hx x (by simp)))) h1 h2,Option.bind_some]
   by_cases hy : l.any (fun c => eqD c x) = true
   ·rw [if_neg (by simp [hy]),if_pos hy]
   ·rw [if_pos (by simp [hy]),if_neg hy,chkI_of (by omega) (by omega)];rfl
  rw [rangeL,e]
  show rangeL _ xs _ = _
  rw [stepU_all h1 h2 xs _ (by split <;> omega) (fun y hy => hx y (List.mem_cons_of_mem _ hy)),List.filter_cons]
  congr 3
  by_cases hy : l.any (fun c => eqD c x) = true
  ·simp [hy]
  ·simp [hy];omega
theorem stepU_of {N : Nat} {l l1 : List S46} {a1 : List (ByteArray × List S71)} {s : S39} {r : S39 × Int} (hl : l1.Perm l) (h : ((cntS N l a1).bind fun v6 => some (s,v6)) = some r) :
  bindO (β := Int) (ρ := (S39 × Int)) (rangeM (κ := ByteArray × (List S71)) (β := Int) (ρ := (S39 × Int)) (stepU N l1) a1 0) (fun (v6 : Int) => some (s,v6)) = some r := by
 obtain ⟨v,hv,h⟩ := bsome h
 unfold cntS at hv
 split at hv
 case isFalse => cases hv
 case isTrue hg =>
  obtain ⟨g1,g2,g3,g4⟩ := hg
  have hv := Option.some.inj hv
  have e : rangeM (κ := ByteArray × (List S71)) (β := Int) (ρ := (S39 × Int)) (stepU N l1) a1 0 = some (.go v) := by
   refine rangeM_of fun l' hl' => ?_
   have := stepU_all (ρ := S39 × Int) (N := N) (l := l1) (by rw [hl.length_eq];exact g1) (by rw [hl.length_eq];exact g2) l' 0 (by rw [hl'.length_eq];omega) (fun y hy => g4 y (hl'.mem_iff.1 hy))
   refine this.trans ?_
   congr 2
   rw [← hv,Nat.zero_add,(hl'.filter _).length_eq]
   congr 3
   funext x
   rw [any_perm hl]
  rw [e]
  exact h
noncomputable def d13 (N : Nat) (a0 : S39) (a1 : (List (ByteArray × (List S71)))) : Option (S39 × Int) :=
 (d27 N a0).bind fun r1 =>
 (cntS N r1.2 a1).bind fun v6 =>
 some (r1.1,v6)
theorem p13 (N : Nat) (a0 : S39) (a1 : (List (ByteArray × (List S71)))) (gh1000 : List S35) (r : (S39 × Int)) (h : d13 N a0 a1 = some r) : FunM Try.prog 13 [.ptr 1000 0 0,.d (.mpi .string false (a1.map (MKey.sk ∘ Prod.fst)) (a1.map ((cL cS71) ∘ Prod.snd)))] [(1000,some (.box [.ref 25000 gh1000.length a0.Backups.length,.ref 25001 0 a0.Changes.length,.i a0.Earliest])),(25000,R35 (gh1000 ++ a0.Backups)),(25001,R46 a0.Changes)] [1000] (.i r.2) ([(1000,(.box [.ref 25000 gh1000.length r.1.Backups.length,.ref 25001 0 r.1.Changes.length,.i r.1.Earliest])),(25000,(.arr 35 2 ((gh1000 ++ r.1.Backups).map cS35))),(25001,(.arr 46 3 (r.1.Changes.map cS46)))]) := by
 unfold d13 at h
 refine FunM.enter 25 [(0,.ptr 1000 0 0),(1,.d (.mpi .string false (a1.map (MKey.sk ∘ Prod.fst)) (a1.map ((cL cS71) ∘ Prod.snd))))] Try.func13 rfl (of_decide_eq_true rfl) rfl rfl ?_
 refine .seqR ?_
 refine .rr 1 ?_
 refine .tt [(0,.ptr 1000 0 0),(1,.d (.mpi .string false (a1.map (MKey.sk ∘ Prod.fst)) (a1.map ((cL cS71) ∘ Prod.snd))))] [(1000,some (.box [.ref 25000 gh1000.length a0.Backups.length,.ref 25001 0 a0.Changes.length,.i a0.Earliest])),(25000,R35 (gh1000 ++ a0.Backups)),(25001,R46 a0.Changes)] (.nil (.seqR ?_))
 refine .rr 1 ?_
 refine .tt [(1,.d (.mpi .string false (a1.map (MKey.sk ∘ Prod.fst)) (a1.map ((cL cS71) ∘ Prod.snd)))),(9,.ptr 1000 0 0)] [(1000,some (.box [.ref 25000 gh1000.length a0.Backups.length,.ref 25001 0 a0.Changes.length,.i a0.Earliest])),(25000,R35 (gh1000 ++ a0.Backups)),(25001,R46 a0.Changes)] ?_
 replace h := bsome h;obtain ⟨r1,hr1,h⟩ := h
 refine .callFP (p27 N a0 gh1000 r1 hr1) [(1000,1000),(25000,25000),(25001,25001)] [1000] [(1000,1000),(25000,25000),(25001,25001)] [(1000,(.box [.ref 25000 gh1000.length r1.1.Backups.length,.ref 25001 0 r1.1.Changes.length,.d (.lit (.int .i64 r1.1.Earliest))])),(25000,(.arr 35 2 ((gh1000 ++ r1.1.Backups).map cS35))),(25001,(.arr 46 3 (r1.1.Changes.map cS46)))] (fun l => .s46 l) (by simp) rfl (by simp <;> rfl) (by simp) (by simp) (by simp) (by simp) (by simp) ent27 (by simp) (by simp) (by simp) (by simp) (by simp) (by intro l;simp) ?_
 intro l1 hl1
 replace h := stepU_of hl1 h
 refine .st (mk 25 [1000] [(1,.d (.mpi .string false (a1.map (MKey.sk ∘ Prod.fst)) (a1.map ((cL cS71) ∘ Prod.snd)))),(9,.ptr 1000 0 0),(10,.s46 l1)] [(1000,some (.box [.ref 25000 gh1000.length r1.1.Backups.length,.ref 25001 0 r1.1.Changes.length,.i r1.1.Earliest])),(25000,R35 (gh1000 ++ r1.1.Backups)),(25001,R46 r1.1.Changes)]) ?_
 refine .rr 1 ?_
 refine .tt [(1,.d (.mpi .string false (a1.map (MKey.sk ∘ Prod.fst)) (a1.map ((cL cS71) ∘ Prod.snd)))),(5,.s46 l1)] [(1000,some (.box [.ref 25000 gh1000.length r1.1.Backups.length,.ref 25001 0 r1.1.Changes.length,.i r1.1.Earliest])),(25000,R35 (gh1000 ++ r1.1.Backups)),(25001,R46 r1.1.Changes)] (.nil (.seqR ?_))
 refine .rr 1 ?_
 refine .tt [(1,.d (.mpi .string false (a1.map (MKey.sk ∘ Prod.fst)) (a1.map ((cL cS71) ∘ Prod.snd)))),(5,.s46 l1),(6,.i 0)] [(1000,some (.box [.ref 25000 gh1000.length r1.1.Backups.length,.ref 25001 0 r1.1.Changes.length,.i r1.1.Earliest])),(25000,R35 (gh1000 ++ r1.1.Backups)),(25001,R46 r1.1.Changes)] (.nil ?_)
 refine .seqJ (fun (v6 : Int) => mk 25 [1000] [(6,.i v6)] [(1000,some (.box [.ref 25000 gh1000.length r1.1.Backups.length,.ref 25001 0 r1.1.Changes.length,.i r1.1.Earliest])),(25000,R35 (gh1000 ++ r1.1.Backups)),(25001,R46 r1.1.Changes)]) h ?_ ?_ <;> clear h
 ·intro o h
  refine .mapR 1 (mk 25 [1000] [(5,.s46 l1),(6,.i 0),(11,.d (.mpi .string false (a1.map (MKey.sk ∘ Prod.fst)) (a1.map ((cL cS71) ∘ Prod.snd))))] [(1000,some (.box [.ref 25000 gh1000.length r1.1.Backups.length,.ref 25001 0 r1.1.Changes.length,.i r1.1.Earliest])),(25000,R35 (gh1000 ++ r1.1.Backups)),(25001,R46 r1.1.Changes)]) (fun (itr2 : Nat) (b : Int) => mk 25 [1000] [(5,.s46 l1),(6,.i b),(12,.d (.lit (itv itr2)))] [(1000,some (.box [.ref 25000 gh1000.length r1.1.Backups.length,.ref 25001 0 r1.1.Changes.length,.i r1.1.Earliest])),(25000,R35 (gh1000 ++ r1.1.Backups)),(25001,R46 r1.1.Changes)]) _ rfl ?_ rfl rfl rfl rfl ty33 rfl rfl rfl rfl rfl rfl rfl rfl rfl rfl (by intro r b;exact ⟨(by show 13 < 25;decide),(by show 14 < 25;decide),by decide,by decide,by decide⟩) (by intro r b;exact ⟨rfl,rfl,rfl⟩) (by intro r;simp;exact Sub.table (by simp) (by simp)) (by rintro r v6;exact Sub.table (by simp) (by simp)) h ?_
  ·simp only [List.take_succ_cons,List.take_zero]
   refine .rr 1 ?_
   refine .tt [(5,.s46 l1),(6,.i 0),(11,.d (.mpi .string false (a1.map (MKey.sk ∘ Prod.fst)) (a1.map ((cL cS71) ∘ Prod.snd))))] [(1000,some (.box [.ref 25000 gh1000.length r1.1.Backups.length,.ref 25001 0 r1.1.Changes.length,.i r1.1.Earliest])),(25000,R35 (gh1000 ++ r1.1.Backups)),(25001,R46 r1.1.Changes)] ?_
   refine .nil (.refl _)
  clear h
  rintro itr2 x2 v6 o' h
  unfold stepU at h
  try dsimp only at h ⊢
  refine .sub (S' := mk 25 [1000] [(5,.s46 l1),(6,.i v6),(12,.d (.lit (itv itr2))),(15,.tup [.s x2.1,.s71 x2.2])] [(1000,some (.box [.ref 25000 gh1000.length r1.1.Backups.length,.ref 25001 0 r1.1.Changes.length,.i r1.1.Earliest])),(25000,R35 (gh1000 ++ r1.1.Backups)),(25001,R46 r1.1.Changes)]) (by simp [MKey.enc];exact Sub.table (by simp) (by simp)) ?_
  refine .rr 6 ?_
  refine .tt [(5,.s46 l1),(6,.i v6),(7,.ptr 7 0 0),(8,.ptr 8 0 0),(12,.d (.lit (itv itr2)))] [(7,some (.box [.s x2.1])),(8,some (.box [.s71 x2.2])),(1000,some (.box [.ref 25000 gh1000.length r1.1.Backups.length,.ref 25001 0 r1.1.Changes.length,.i r1.1.Earliest])),(25000,R35 (gh1000 ++ r1.1.Backups)),(25001,R46 r1.1.Changes)] (.nil (.seqR ?_))
  refine .rr 2 ?_
  refine .tt [(5,.s46 l1),(6,.i v6),(12,.d (.lit (itv itr2))),(18,.s46 l1),(19,.fn (.func 29) [.ptr 7 0 0,.ptr 8 0 0])] [(7,some (.box [.s x2.1])),(8,some (.box [.s71 x2.2])),(1000,some (.box [.ref 25000 gh1000.length r1.1.Backups.length,.ref 25001 0 r1.1.Changes.length,.i r1.1.Earliest])),(25000,R35 (gh1000 ++ r1.1.Backups)),(25001,R46 r1.1.Changes)] ?_
  replace h := bsome h;obtain ⟨r11,hr11,h⟩ := h
  refine .callL (d := 20) (p28 N l1 29 [.pim [.lit (.string x2.1)],.pim [.sl (x2.2.map cS71)]] (fun b0 => d29 N b0 x2.1 x2.2) ent29 (fun b0 r h => p29 N b0 x2.1 x2.2 r h) r11 hr11) (by simp) rfl rfl (by simp <;> rfl) (by simp <;> rfl) ent28 (by simp <;> rfl) ?_
  refine .st (mk 25 [1000] [(5,.s46 l1),(6,.i v6),(12,.d (.lit (itv itr2))),(18,.s46 l1),(19,.fn (.func 29) [.ptr 7 0 0,.ptr 8 0 0]),(20,.b r11)] [(7,some (.box [.s x2.1])),(8,some (.box [.s71 x2.2])),(1000,some (.box [.ref 25000 gh1000.length r1.1.Backups.length,.ref 25001 0 r1.1.Changes.length,.i r1.1.Earliest])),(25000,R35 (gh1000 ++ r1.1.Backups)),(25001,R46 r1.1.Changes)]) ?_
  refine .rr 1 ?_
  refine .tt [(5,.s46 l1),(6,.i v6),(12,.d (.lit (itv itr2))),(21,.b (!r11))] [(1000,some (.box [.ref 25000 gh1000.length r1.1.Backups.length,.ref 25001 0 r1.1.Changes.length,.i r1.1.Earliest])),(25000,R35 (gh1000 ++ r1.1.Backups)),(25001,R46 r1.1.Changes)] (.nil ?_)
  replace h := isome h;rcases h with ⟨c12,h⟩ | ⟨c12,h⟩
  ·have c12_ : (!r11) = true := c12
   refine .condT rfl c12_ ?_
   refine .region ?_
   replace h := csome h;obtain ⟨v13,hv13,h⟩ := h
   refine .rk 3 fun K k => ?_;simp [hv13];refine k ?_
   refine .tt [(5,.s46 l1),(6,.i v13),(12,.d (.lit (itv itr2)))] [(1000,some (.box [.ref 25000 gh1000.length r1.1.Backups.length,.ref 25001 0 r1.1.Changes.length,.i r1.1.Earliest])),(25000,R35 (gh1000 ++ r1.1.Backups)),(25001,R46 r1.1.Changes)] (.nil ?_)
   cases h
   refine blockQ.normal ?_
   exact ⟨rfl,Sub.tt⟩
  have c12_ : (!r11) = false := Bool.eq_false_iff.2 c12
  refine .condF rfl c12_ ?_
  refine .skip ?_
  cases h
  refine blockQ.normal ?_
  exact ⟨rfl,Sub.tt⟩
 rintro v6 h
 refine .seqR ?_
 refine .rr 2 ?_
 refine .tt [(4,.i v6)] [(1000,some (.box [.ref 25000 gh1000.length r1.1.Backups.length,.ref 25001 0 r1.1.Changes.length,.i r1.1.Earliest])),(25000,R35 (gh1000 ++ r1.1.Backups)),(25001,R46 r1.1.Changes)] (.nil (.ret ?_))
 cases h
 exact FinF.ret (by simp) (by simp)
def d31 (_ : Nat) (a0 : (List S64)) : Option (List S64) := if a0.length * 32 ≤ Rp.reach then some a0 else none
theorem pq31 (N : Nat) (a0 : (List S64)) (n : Nat) (hn : n ≤ a0.length) (r : (List S64)) (h : d31 N (a0.drop n) = some r) : FunM Try.prog 31 [.ref 1000 n (a0.length - n)] [(1000,R64 a0)] [1000] (.ref 5 0 r.length) [(5,.arr 64 2 (r.map cS64)),(1000,.arr 64 2 (a0.map cS64))] := by
 obtain ⟨hz,h⟩ := gsome h
 cases h
 have hl : (a0.drop n).length = a0.length - n := List.length_drop
 have hm : ((a0.map cS64).drop n).take (a0.length - n) = (a0.drop n).map cS64 := by rw [List.map_drop,List.take_of_length_le (by simp)]
 rw [hl] at hz
 refine FunM.enter 8 [(0,.ref 1000 n (a0.length - n))] Try.func31 rfl (of_decide_eq_true rfl) rfl rfl ?_
 refine .goR [] 1 fun K k => ?_;simp;refine k _ ?_;clear k K
 refine .seq (.seqR ?_)
 refine .rr 1 ?_
 refine .eqNilRef (id := 1000) (off := n) (len := a0.length - n) (by simp) rfl ty65 rfl (by simp) (by simp) fun b hb => ?_
 refine .nil ?_
 cases b with
 | true =>
  have he : a0.length - n = 0 := by
   by_cases e : a0.length - n = 0
   ·exact e
   ·exact absurd (hb e) (by simp)
  have hd : a0.drop n = [] := List.eq_nil_of_length_eq_zero (hl.trans he)
  rw [hd]
  refine .condK fun K1 K2 k1 k2 => ?_;simp;refine k1 ?_;clear k1 k2 K1 K2
  refine .goR [] 1 fun K k => ?_;simp;refine k _ ?_;clear k K
  refine .sub (.nilOwn (t := 2) (id := 5) (T := 64) (n := 2) rfl rfl (by decide)) ?_
  refine .st (mk 8 [1000] [(2,.ref 5 0 0)] [(5,some (.arr 64 2 [])),(1000,R64 a0)]) (.ret ?_)
  exact thenQ_pass (by simp) (FinF.ret (by simp) (by simp))
 | false =>
  refine .condK fun K1 K2 k1 k2 => ?_;simp;refine k2 ?_;clear k1 k2 K1 K2
  refine .skip (thenQ_normal ?_)
  refine .goR [] 4 fun K k => ?_;simp [hz,hn];refine k _ ?_;clear k K
  refine .sub (S' := mk 8 [1000] [(2,.ref 5 0 (a0.drop n).length)] [(5,R64 (a0.drop n)),(1000,R64 a0)]) (Sub.table (by simp [hl]) (by simp)) ?_
  refine .ret ?_
  exact FinF.ret (by simp) (by simp)
def d33 (_N : Nat) (a0 : S73) (e : Int) : Option Bool := some (decide (a0.time ≤ e))
theorem p33 (N : Nat) (a0 : S73) (x0 : List S76) (x1 : List Int) (x2 : List S64) (e : Int) (j0 k0 j1 k1 j2 k2 : Nat) (x3 : List S73) (r : Bool) (h : d33 N a0 e = some r) : FunM Try.prog 33 [.agg [.i a0.time,.s a0.key,.s71 a0.row],.ptr 2000 0 0] [(1000,R73 x3),(2000,some (.box [.ptr 3000 0 0])),(3000,some (.box [.ref 65000 j0 k0,.ref 65001 j1 k1,.ref 65002 j2 k2,.ref 1000 0 x3.length,.i e])),(65000,R76 x0),(65001,R3 x1),(65002,R64 x2)] [1000,2000,3000] (.b r) [(1000,.arr 73 3 (x3.map cS73)),(2000,.box [.ptr 3000 0 0]),(3000,.box [.ref 65000 j0 k0,.ref 65001 j1 k1,.ref 65002 j2 k2,.ref 1000 0 x3.length,.i e]),(65000,.arr 76 2 (x0.map cS76)),(65001,.arr 3 1 (x1.map (cI .i64))),(65002,.arr 64 2 (x2.map cS64))] := by
 unfold d33 at h
 refine FunM.enter 11 [(0,.agg [.i a0.time,.s a0.key,.s71 a0.row]),(1,.ptr 2000 0 0)] Try.func33 rfl (of_decide_eq_true rfl) rfl rfl ?_
 refine .seqR ?_
 refine .rr 2 ?_
 refine .nil ?_
 refine .seqQ (by kernel_rfl) (by kernel_rfl) ?_
 refine .rq 8 fun K k => ?_;simp;refine k ?_
 refine .nil (.ret ?_)
 cases h
 exact FinF.ret (by simp) (by simp)
def d47 (N : Nat) (a0 : (List S73)) (p1 : S73 → Option Bool) : Option Int :=
 bindO (β := Unit) (ρ := Int) (
  iterN (σ := Int) (ρ := (Out Unit Int)) (fun (v6 : Int) =>
   if v6 < (a0.length : Int) then (
    (idx a0 v6).bind fun x21 =>
    (p1 x21).bind fun r23 =>
    if r23 = true then (
     some (.inr (.ret v6))
    ) else
    (chkI (v6 + 1)).bind fun v25 =>
    some (.inl v25)
   ) else
   some (.inr (.go ()))
  ) N 0
 ) fun (_ : Unit) =>
 some (-1)
theorem p47x (N : Nat) (a0 : (List S73)) (x0 : List S76) (x1 : List Int) (x2 : List S64) (e : Int) (j0 k0 j1 k1 j2 k2 : Nat) (r : Int) (h : d47 N a0 (fun b0 => d33 N b0 e) = some r) : FunM Try.prog 47 [.ref 1000 0 a0.length,.fn (.func 33) [.ptr 2000 0 0]] [(1000,R73 a0),(2000,some (.box [.ptr 3000 0 0])),(3000,some (.box [.ref 65000 j0 k0,.ref 65001 j1 k1,.ref 65002 j2 k2,.ref 1000 0 a0.length,.i e])),(65000,R76 x0),(65001,R3 x1),(65002,R64 x2)] [1000,2000,3000] (.i r) [(1000,.arr 73 3 (a0.map cS73)),(2000,.box [.ptr 3000 0 0]),(3000,.box [.ref 65000 j0 k0,.ref 65001 j1 k1,.ref 65002 j2 k2,.ref 1000 0 a0.length,.i e]),(65000,.arr 76 2 (x0.map cS76)),(65001,.arr 3 1 (x1.map (cI .i64))),(65002,.arr 64 2 (x2.map cS64))] := by
 unfold d47 at h
 refine FunM.enter 19 [(0,.ref 1000 0 a0.length),(1,.fn (.func 33) [.ptr 2000 0 0])] Try.func47 rfl (of_decide_eq_true rfl) rfl rfl ?_
 refine .seqR ?_
 refine .rr 1 ?_
 refine .tt (L31 a0.length) [(1000,R73 a0),(2000,some (.box [.ptr 3000 0 0])),(3000,some (.box [.ref 65000 j0 k0,.ref 65001 j1 k1,.ref 65002 j2 k2,.ref 1000 0 a0.length,.i e])),(65000,R76 x0),(65001,R3 x1),(65002,R64 x2)] (.nil (.seq (.seqR ?_)))
 refine .rr 3 ?_
 refine .tt (L31 a0.length ++ [(7,.i (a0.length : Int)),(8,.i 0)]) [(1000,R73 a0),(2000,some (.box [.ptr 3000 0 0])),(3000,some (.box [.ref 65000 j0 k0,.ref 65001 j1 k1,.ref 65002 j2 k2,.ref 1000 0 a0.length,.i e])),(65000,R76 x0),(65001,R3 x1),(65002,R64 x2)] (.nil ?_)
 refine .lastJ (fun (_ : Unit) => mk 19 [1000,2000,3000] [] [(1000,R73 a0),(2000,some (.box [.ptr 3000 0 0])),(3000,some (.box [.ref 65000 j0 k0,.ref 65001 j1 k1,.ref 65002 j2 k2,.ref 1000 0 a0.length,.i e])),(65000,R76 x0),(65001,R3 x1),(65002,R64 x2)]) h ?_ ?_ <;> clear h
 ·intro o h
  refine .block ?_
  refine .iter (fun (v6 : Int) => mk 19 [1000,2000,3000] (L32 a0.length v6) [(1000,R73 a0),(2000,some (.box [.ptr 3000 0 0])),(3000,some (.box [.ref 65000 j0 k0,.ref 65001 j1 k1,.ref 65002 j2 k2,.ref 1000 0 a0.length,.i e])),(65000,R76 x0),(65001,R3 x1),(65002,R64 x2)]) h Sub.tt ?_
  clear h
  rintro v6 x h
  refine .seqR ?_
  refine .rr 1 ?_
  refine .tt (L32 a0.length v6 ++ [(9,.b (decide (v6 < (a0.length : Int))))]) [(1000,R73 a0),(2000,some (.box [.ptr 3000 0 0])),(3000,some (.box [.ref 65000 j0 k0,.ref 65001 j1 k1,.ref 65002 j2 k2,.ref 1000 0 a0.length,.i e])),(65000,R76 x0),(65001,R3 x1),(65002,R64 x2)] (.nil (.seq ?_))
  replace h := isome h;rcases h with ⟨c20,h⟩ | ⟨c20,h⟩
  ·have c20_ : decide (v6 < (a0.length : Int)) = true := decide_eq_true c20
   refine .condT rfl c20_ ?_
   refine .skip (thenQ_normal (.seq (.block (.seqR ?_))))
   refine .rr 2 ?_
   refine .tt (L33 a0.length v6) [(1000,R73 a0),(2000,some (.box [.ptr 3000 0 0])),(3000,some (.box [.ref 65000 j0 k0,.ref 65001 j1 k1,.ref 65002 j2 k2,.ref 1000 0 a0.length,.i e])),(65000,R76 x0),(65001,R3 x1),(65002,R64 x2)] (.nil (.seqR ?_))
   replace h := xsome h;obtain ⟨x21,k22,hx21k,hx21,hx21a,hx21b,h⟩ := h
   refine .rk 5 fun K k => ?_;simp [hx21,hx21k,hx21a,hx21b];refine k ?_
   refine .tt (L33 a0.length v6 ++ [(11,.fn (.func 33) [.ptr 2000 0 0]),(15,.agg [.i x21.time,.s x21.key,.s71 x21.row])]) [(1000,R73 a0),(2000,some (.box [.ptr 3000 0 0])),(3000,some (.box [.ref 65000 j0 k0,.ref 65001 j1 k1,.ref 65002 j2 k2,.ref 1000 0 a0.length,.i e])),(65000,R76 x0),(65001,R3 x1),(65002,R64 x2)] ?_
   replace h := bsome h;obtain ⟨r23,hr23,h⟩ := h
   refine .callF (p33 N x21 x0 x1 x2 e j0 k0 j1 k1 j2 k2 a0 r23 hr23) [(1000,1000),(2000,2000),(3000,3000),(65000,65000),(65001,65001),(65002,65002)] [1000,2000,3000] [(1000,1000),(2000,2000),(3000,3000),(65000,65000),(65001,65001),(65002,65002)] [(1000,.arr 73 3 (a0.map cS73)),(2000,.box [.ptr 3000 0 0]),(3000,.box [.ref 65000 j0 k0,.ref 65001 j1 k1,.ref 65002 j2 k2,.ref 1000 0 a0.length,.d (.lit (.int .i64 e))]),(65000,.arr 76 2 (x0.map cS76)),(65001,.arr 3 1 (x1.map (cI .i64))),(65002,.arr 64 2 (x2.map cS64))] (.d (.lit (.bool r23))) (by simp) rfl (by simp <;> rfl) (by simp) (by simp) (by simp) (by simp) (by simp) ent33 (by simp) (by simp) (by simp) (by simp) (by simp) (by simp) ?_
   refine .st (mk 19 [1000,2000,3000] (L33 a0.length v6 ++ [(11,.fn (.func 33) [.ptr 2000 0 0]),(15,.agg [.i x21.time,.s x21.key,.s71 x21.row]),(16,.b r23)]) [(1000,R73 a0),(2000,some (.box [.ptr 3000 0 0])),(3000,some (.box [.ref 65000 j0 k0,.ref 65001 j1 k1,.ref 65002 j2 k2,.ref 1000 0 a0.length,.i e])),(65000,R76 x0),(65001,R3 x1),(65002,R64 x2)]) (.nil ?_)
   replace h := isome h;rcases h with ⟨c24,h⟩ | ⟨c24,h⟩
   ·have c24_ : r23 = true := c24
    refine .condT rfl c24_ ?_
    refine .seqR ?_
    refine .rr 2 ?_
    refine .tt [(4,.i v6)] [(1000,R73 a0),(2000,some (.box [.ptr 3000 0 0])),(3000,some (.box [.ref 65000 j0 k0,.ref 65001 j1 k1,.ref 65002 j2 k2,.ref 1000 0 a0.length,.i e])),(65000,R76 x0),(65001,R3 x1),(65002,R64 x2)] (.nil (.ret ?_))
    cases h
    refine blockQ.ret ?_
    refine thenQ_ps ?_
    refine PostI.os ?_
    rintro rfl
    refine blockQ.ret ?_
    refine PostJ.out (by simp) ?_
    rintro rfl
    refine thenQ_ps ?_
    exact FinF.ret (by simp) (by simp)
   have c24_ : r23 = false := Bool.eq_false_iff.2 c24
   refine .condF rfl c24_ ?_
   refine .skip (blockQ.normal (thenQ_normal (.region ?_)))
   replace h := csome h;obtain ⟨v25,hv25,h⟩ := h
   refine .rk 2 fun K k => ?_;simp [hv25];refine k ?_
   refine .tt (L32 a0.length v25) [(1000,R73 a0),(2000,some (.box [.ptr 3000 0 0])),(3000,some (.box [.ref 65000 j0 k0,.ref 65001 j1 k1,.ref 65002 j2 k2,.ref 1000 0 a0.length,.i e])),(65000,R76 x0),(65001,R3 x1),(65002,R64 x2)] (.nil ?_)
   cases h
   refine PostI.next ?_
   exact Sub.tt
  have c20_ : decide (v6 < (a0.length : Int)) = false := decide_eq_false c20
  refine .condF rfl c20_ ?_
  refine .exit ?_
  cases h
  refine thenQ_ps ?_
  refine PostI.os ?_
  rintro rfl
  refine blockQ.hit (PostJ.next ?_)
  exact Sub.tt
 rintro ⟨⟩ h
 refine thenQ_normal (.seqR ?_)
 refine .rr 1 ?_
 refine .tt [(4,.i (-1))] [(1000,R73 a0),(2000,some (.box [.ptr 3000 0 0])),(3000,some (.box [.ref 65000 j0 k0,.ref 65001 j1 k1,.ref 65002 j2 k2,.ref 1000 0 a0.length,.i e])),(65000,R76 x0),(65001,R3 x1),(65002,R64 x2)] (.nil (.ret ?_))
 cases h
 exact FinF.ret (by simp) (by simp)
end Go.Proofs.Ytfdhaigfonolpaa
