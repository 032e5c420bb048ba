/- Functions of the program as functional programs; the code computes them. -/
import Derived.Test.YtdiekinmoklonaaLk1
namespace Go.Proofs.Ytdiekinmoklonaa
open Go.Ab Go.Rp
attribute [-simp] List.all_eq_true Array.all_toList Array.all_eq_true

/-- slices.Concat[[]stemma/locks.Lock,stemma/locks.Lock] -/
def d40 (N : Nat) (a0 : (List (List S29))) : Option (List S29) :=
 Option.bind (α := Int) (
  iterN (σ := (Int × Int)) (ρ := Int) (fun ((v6, v7) : (Int × Int)) =>
   if v7 < (a0.length : Int) then (
    (idx a0 v7).bind fun x24 =>
    (chkI (v6 + (x24.length : Int))).bind fun v26 =>
    if v26 < 0 then (
     none
    ) else
    (chkI (v7 + 1)).bind fun v28 =>
    some (.inl (v26, v28))
   ) else
   some (.inr v6)
  ) N (0, 0)
 ) fun (v22 : Int) =>
 (growL 48 v22).bind fun _ =>
 Option.bind (α := List S29) (
  iterN (σ := ((List S29) × Int)) (ρ := List S29) (fun ((l34, v35) : ((List S29) × Int)) =>
   if v35 < (a0.length : Int) then (
    (idx a0 v35).bind fun x50 =>
    (appL 48 l34 x50).bind fun _l52 =>
    (chkI (v35 + 1)).bind fun v53 =>
    some (.inl ((l34 ++ x50), v53))
   ) else
   some (.inr l34)
  ) N (([] : List S29), 0)
 ) fun (l48 : List S29) =>
 some l48
set_option maxRecDepth 100000 in
set_option maxHeartbeats 4000000 in
theorem p40 (N : Nat) (a0 : (List (List S29))) (r : (List S29)) (h : d40 N a0 = some r) : FunO Try.prog 40 [.d (.sl (a0.map (cL cS29)))] (.ref 0 0 r.length) (.arr 29 4 (r.map cS29)) := by
 unfold d40 at h
 refine FunO.enter 36 [(0, .d (.sl (a0.map (cL cS29))))] Try.func40 rfl (of_decide_eq_true rfl) rfl rfl ?_
 refine AW.seqR ?_
 refine Chain.runK [] 1 fun K hK => ?_; simp; refine hK _ _ ?_; clear hK K
 refine Chain.sub (S' := mk 36 [] [(0, .d (.sl (a0.map (cL cS29))))] []) Sub.tt ?_
 refine Chain.nil ?_
 refine AW.seqR ?_
 refine Chain.runK [] 1 fun K hK => ?_; simp; refine hK _ _ ?_; clear hK K
 refine Chain.sub (S' := mk 36 [] [(0, .d (.sl (a0.map (cL cS29)))), (3, .i 0)] []) Sub.tt ?_
 refine Chain.nil ?_
 refine AW.seq ?_
 refine AW.seqR ?_
 refine Chain.runK [] 3 fun K hK => ?_; simp; refine hK _ _ ?_; clear hK K
 refine Chain.sub (S' := mk 36 [] [(0, .d (.sl (a0.map (cL cS29)))), (3, .i 0), (9, .d (.sl (a0.map (cL cS29)))), (10, .i (a0.length : Int)), (11, .i 0)] []) Sub.tt ?_
 refine Chain.nil ?_
 refine AW.lastN (fun (v22 : Int) => mk 36 [] [(0, .d (.sl (a0.map (cL cS29)))), (3, .i v22)] []) h ?_ ?_ <;> clear h
 ·intro o h
  refine AW.block ?_
  refine AW.iter (fun ((v6, v7) : (Int × Int)) => mk 36 [] [(0, .d (.sl (a0.map (cL cS29)))), (3, .i v6), (9, .d (.sl (a0.map (cL cS29)))), (10, .i (a0.length : Int)), (11, .i v7)] []) h Sub.tt ?_
  clear h
  rintro ⟨v6, v7⟩ x h
  dsimp only at h ⊢
  refine AW.seqR ?_
  refine Chain.runK [] 1 fun K hK => ?_; simp; refine hK _ _ ?_; clear hK K
  refine Chain.sub (S' := mk 36 [] [(0, .d (.sl (a0.map (cL cS29)))), (3, .i v6), (9, .d (.sl (a0.map (cL cS29)))), (10, .i (a0.length : Int)), (11, .i v7), (12, .b (decide (v7 < (a0.length : Int))))] []) Sub.tt ?_
  refine Chain.nil ?_
  refine AW.seq ?_
  replace h := isome h; rcases h with ⟨c23, h⟩ | ⟨c23, h⟩
  ·have c23_ : decide (v7 < (a0.length : Int)) = true := decide_eq_true c23
   refine AW.condT (b := decide (v7 < (a0.length : Int))) rfl c23_ ?_
   refine AW.sub (Sub.bool 12 (b := decide (v7 < (a0.length : Int))) rfl c23_) ?_
   refine AW.sub (S' := mk 36 [] [(0, .d (.sl (a0.map (cL cS29)))), (3, .i v6), (9, .d (.sl (a0.map (cL cS29)))), (10, .i (a0.length : Int)), (11, .i v7), (12, .b true)] []) (by simp; exact Sub.table (by simp) (by simp)) ?_
   refine AW.skip ?_
   refine thenQ_normal ?_
   refine AW.seq ?_
   refine AW.block ?_
   refine AW.seqR ?_
   replace h := bsome h; obtain ⟨x24, hx24, h⟩ := h
   obtain ⟨k25, hx24k, hx24, hx24a, hx24b⟩ := idx_some hx24
   refine Chain.runK [] 3 fun K hK => ?_; simp [hx24, hx24k, hx24a]; refine hK _ _ ?_; clear hK K
   refine Chain.sub (S' := mk 36 [] [(0, .d (.sl (a0.map (cL cS29)))), (3, .i v6), (5, .d (.sl (x24.map cS29))), (9, .d (.sl (a0.map (cL cS29)))), (10, .i (a0.length : Int)), (11, .i v7)] []) Sub.tt ?_
   refine Chain.nil ?_
   refine AW.seqR ?_
   replace h := bsome h; obtain ⟨v26, hv26, h⟩ := h
   have hv26 := chkI_some hv26
   refine Chain.runK [] 5 fun K hK => ?_; simp [hv26]; refine hK _ _ ?_; clear hK K
   refine Chain.sub (S' := mk 36 [] [(0, .d (.sl (a0.map (cL cS29)))), (3, .i v26), (9, .d (.sl (a0.map (cL cS29)))), (10, .i (a0.length : Int)), (11, .i v7)] []) Sub.tt ?_
   refine Chain.nil ?_
   refine AW.seqR ?_
   refine Chain.runK [] 2 fun K hK => ?_; simp; refine hK _ _ ?_; clear hK K
   refine Chain.sub (S' := mk 36 [] [(0, .d (.sl (a0.map (cL cS29)))), (3, .i v26), (9, .d (.sl (a0.map (cL cS29)))), (10, .i (a0.length : Int)), (11, .i v7), (20, .b (decide (v26 < 0)))] []) Sub.tt ?_
   refine Chain.nil ?_
   replace h := isome h; rcases h with ⟨c27, h⟩ | ⟨c27, h⟩
   ·have c27_ : decide (v26 < 0) = true := decide_eq_true c27
    refine AW.condT (b := decide (v26 < 0)) rfl c27_ ?_
    refine AW.sub (Sub.bool 20 (b := decide (v26 < 0)) rfl c27_) ?_
    refine AW.sub (S' := mk 36 [] [(0, .d (.sl (a0.map (cL cS29)))), (3, .i v26), (9, .d (.sl (a0.map (cL cS29)))), (10, .i (a0.length : Int)), (11, .i v7), (20, .b true)] []) (by simp; exact Sub.table (by simp) (by simp)) ?_
    cases h
   ·have c27_ : decide (v26 < 0) = false := decide_eq_false c27
    refine AW.condF (b := decide (v26 < 0)) rfl c27_ ?_
    refine AW.sub (Sub.bool 20 (b := decide (v26 < 0)) rfl c27_) ?_
    refine AW.sub (S' := mk 36 [] [(0, .d (.sl (a0.map (cL cS29)))), (3, .i v26), (9, .d (.sl (a0.map (cL cS29)))), (10, .i (a0.length : Int)), (11, .i v7), (20, .b false)] []) (by simp; exact Sub.table (by simp) (by simp)) ?_
    refine AW.skip ?_
    refine blockQ.normal ?_
    refine thenQ_normal ?_
    refine AW.region ?_
    replace h := bsome h; obtain ⟨v28, hv28, h⟩ := h
    have hv28 := chkI_some hv28
    refine Chain.runK [] 2 fun K hK => ?_; simp [hv28]; refine hK _ _ ?_; clear hK K
    refine Chain.sub (S' := mk 36 [] [(0, .d (.sl (a0.map (cL cS29)))), (3, .i v26), (9, .d (.sl (a0.map (cL cS29)))), (10, .i (a0.length : Int)), (11, .i v28)] []) Sub.tt ?_
    refine Chain.nil ?_
    cases h
    refine PostI.next ?_
    exact Sub.tt
  ·have c23_ : decide (v7 < (a0.length : Int)) = false := decide_eq_false c23
   refine AW.condF (b := decide (v7 < (a0.length : Int))) rfl c23_ ?_
   refine AW.sub (Sub.bool 12 (b := decide (v7 < (a0.length : Int))) rfl c23_) ?_
   refine AW.sub (S' := mk 36 [] [(0, .d (.sl (a0.map (cL cS29)))), (3, .i v6), (9, .d (.sl (a0.map (cL cS29)))), (10, .i (a0.length : Int)), (11, .i v7), (12, .b false)] []) (by simp; exact Sub.table (by simp) (by simp)) ?_
   refine AW.exit ?_
   cases h
   refine thenQ_pass (by simp) ?_
   refine PostI.out (by simp) ?_
   rintro rfl
   refine blockQ.hit ?_
   refine PostN.next ?_
   exact Sub.tt
 ·rintro v22 h
  refine thenQ_normal ?_
  refine AW.seqR ?_
  refine Chain.runK [] 1 fun K hK => ?_; simp; refine hK _ _ ?_; clear hK K
  refine Chain.sub (S' := mk 36 [] [(0, .d (.sl (a0.map (cL cS29)))), (23, .i v22)] []) Sub.tt ?_
  replace h := bsome h; obtain ⟨g29, hg29, h⟩ := h
  refine Chain.callO (d := 24) (p52 N v22 hg29) (by simp) rfl rfl (by simp <;> rfl) (by simp <;> rfl) ent52 (by simp) ⟨by simp, by simp⟩ ?_
  refine Chain.sub (S' := mk 36 [] [(0, .d (.sl (a0.map (cL cS29)))), (23, .i v22), (24, .ref 24 0 (([] : List S29).length))] [(24, R29 ([] : List S29))]) (by simp; exact Sub.table (by simp) (by simp)) ?_
  refine Chain.runK [] 1 fun K hK => ?_; simp; refine hK _ _ ?_; clear hK K
  refine Chain.sub (S' := mk 36 [] [(0, .d (.sl (a0.map (cL cS29)))), (6, .ref 24 0 (([] : List S29).length))] [(24, R29 ([] : List S29))]) Sub.tt ?_
  refine Chain.nil ?_
  refine AW.seq ?_
  refine AW.seqR ?_
  refine Chain.runK [] 3 fun K hK => ?_; simp; refine hK _ _ ?_; clear hK K
  refine Chain.sub (S' := mk 36 [] [(6, .ref 24 0 (([] : List S29).length)), (25, .d (.sl (a0.map (cL cS29)))), (26, .i (a0.length : Int)), (27, .i 0)] [(24, R29 ([] : List S29))]) Sub.tt ?_
  refine Chain.nil ?_
  refine AW.lastN (fun (l48 : List S29) => mk 36 [] [(6, .ref 24 0 l48.length)] [(24, R29 l48)]) h ?_ ?_ <;> clear h
  ·intro o h
   refine AW.block ?_
   refine AW.iter (fun ((l34, v35) : ((List S29) × Int)) => mk 36 [] [(6, .ref 24 0 l34.length), (25, .d (.sl (a0.map (cL cS29)))), (26, .i (a0.length : Int)), (27, .i v35)] [(24, R29 l34)]) h Sub.tt ?_
   clear h
   rintro ⟨l34, v35⟩ x h
   dsimp only at h ⊢
   refine AW.seqR ?_
   refine Chain.runK [] 1 fun K hK => ?_; simp; refine hK _ _ ?_; clear hK K
   refine Chain.sub (S' := mk 36 [] [(6, .ref 24 0 l34.length), (25, .d (.sl (a0.map (cL cS29)))), (26, .i (a0.length : Int)), (27, .i v35), (28, .b (decide (v35 < (a0.length : Int))))] [(24, R29 l34)]) Sub.tt ?_
   refine Chain.nil ?_
   refine AW.seq ?_
   replace h := isome h; rcases h with ⟨c49, h⟩ | ⟨c49, h⟩
   ·have c49_ : decide (v35 < (a0.length : Int)) = true := decide_eq_true c49
    refine AW.condT (b := decide (v35 < (a0.length : Int))) rfl c49_ ?_
    refine AW.sub (Sub.bool 28 (b := decide (v35 < (a0.length : Int))) rfl c49_) ?_
    refine AW.sub (S' := mk 36 [] [(6, .ref 24 0 l34.length), (25, .d (.sl (a0.map (cL cS29)))), (26, .i (a0.length : Int)), (27, .i v35), (28, .b true)] [(24, R29 l34)]) (by simp; exact Sub.table (by simp) (by simp)) ?_
    refine AW.skip ?_
    refine thenQ_normal ?_
    refine AW.seq ?_
    refine AW.block ?_
    refine AW.seqR ?_
    replace h := bsome h; obtain ⟨x50, hx50, h⟩ := h
    obtain ⟨k51, hx50k, hx50, hx50a, hx50b⟩ := idx_some hx50
    refine Chain.runK [] 3 fun K hK => ?_; simp [hx50, hx50k, hx50a]; refine hK _ _ ?_; clear hK K
    refine Chain.sub (S' := mk 36 [] [(6, .ref 24 0 l34.length), (8, .d (.sl (x50.map cS29))), (25, .d (.sl (a0.map (cL cS29)))), (26, .i (a0.length : Int)), (27, .i v35)] [(24, R29 l34)]) Sub.tt ?_
    refine Chain.nil ?_
    refine AW.region ?_
    replace h := bsome h; obtain ⟨l52, hl52, h⟩ := h
    obtain ⟨hl52a, hl52⟩ := appL_some hl52
    subst hl52
    try simp only [List.length_append, List.length_cons, List.length_nil, Nat.zero_add] at hl52a
    refine Chain.runK [] 4 fun K hK => ?_; simp [hl52a]; refine hK _ _ ?_; clear hK K
    refine Chain.sub (S' := mk 36 [] [(6, .ref 24 0 ((l34 ++ x50).length)), (25, .d (.sl (a0.map (cL cS29)))), (26, .i (a0.length : Int)), (27, .i v35)] [(24, R29 (l34 ++ x50))]) Sub.tt ?_
    refine Chain.nil ?_
    refine blockQ.normal ?_
    refine thenQ_normal ?_
    refine AW.region ?_
    replace h := bsome h; obtain ⟨v53, hv53, h⟩ := h
    have hv53 := chkI_some hv53
    refine Chain.runK [] 2 fun K hK => ?_; simp [hv53]; refine hK _ _ ?_; clear hK K
    refine Chain.sub (S' := mk 36 [] [(6, .ref 24 0 ((l34 ++ x50).length)), (25, .d (.sl (a0.map (cL cS29)))), (26, .i (a0.length : Int)), (27, .i v53)] [(24, R29 (l34 ++ x50))]) Sub.tt ?_
    refine Chain.nil ?_
    cases h
    refine PostI.next ?_
    exact Sub.tt
   ·have c49_ : decide (v35 < (a0.length : Int)) = false := decide_eq_false c49
    refine AW.condF (b := decide (v35 < (a0.length : Int))) rfl c49_ ?_
    refine AW.sub (Sub.bool 28 (b := decide (v35 < (a0.length : Int))) rfl c49_) ?_
    refine AW.sub (S' := mk 36 [] [(6, .ref 24 0 l34.length), (25, .d (.sl (a0.map (cL cS29)))), (26, .i (a0.length : Int)), (27, .i v35), (28, .b false)] [(24, R29 l34)]) (by simp; exact Sub.table (by simp) (by simp)) ?_
    refine AW.exit ?_
    cases h
    refine thenQ_pass (by simp) ?_
    refine PostI.out (by simp) ?_
    rintro rfl
    refine blockQ.hit ?_
    refine PostN.next ?_
    exact Sub.tt
  ·rintro l48 h
   refine thenQ_normal ?_
   refine AW.seqR ?_
   refine Chain.runK [] 2 fun K hK => ?_; simp; refine hK _ _ ?_; clear hK K
   refine Chain.sub (S' := mk 36 [] [(2, .ref 24 0 l48.length)] [(24, R29 l48)]) Sub.tt ?_
   refine Chain.nil ?_
   refine AW.ret ?_
   obtain rfl := Option.some.inj h
   exact FinO.ret (.ref 24 0 l48.length) 24 (by simp) (by simp) (by simp) (by simp) rfl

/-- stemma/locks.compatible -/
def d53 (_N : Nat) (a0 : Int) (a1 : Int) : Option Bool :=
 Option.bind (α := Bool) (
  if (a0 == 2) then (
   some true
  ) else
  some (a1 == 2)
 ) fun (v2 : Bool) =>
 if v2 = true then (
  some false
 ) else
 Option.bind (α := Bool) (
  if (a0 == 1) then (
   if (a1 == 4) then (
    some true
   ) else
   if (a0 == 4) then (
    some (a1 == 1)
   ) else
   some false
  ) else
  if (a0 == 4) then (
   some (a1 == 1)
  ) else
  some false
 ) fun (v9 : Bool) =>
 if v9 = true then (
  some false
 ) else
 some true
set_option maxRecDepth 100000 in
set_option maxHeartbeats 4000000 in
theorem p53 (N : Nat) (a0 : Int) (a1 : Int) (r : Bool) (h : d53 N a0 a1 = some r) : FunC Try.prog 53 [.i a0, .i a1] (.b r) := by
 unfold d53 at h
 refine FunC.enter 27 [(0, .i a0), (1, .i a1)] (by simp) Try.func53 rfl (of_decide_eq_true rfl) rfl rfl ?_
 refine AW.seqR ?_
 refine Chain.runK [] 1 fun K hK => ?_; simp; refine hK _ _ ?_; clear hK K
 refine Chain.sub (S' := mk 27 [] [(0, .i a0), (1, .i a1)] []) Sub.tt ?_
 refine Chain.nil ?_
 refine AW.seq ?_
 refine AW.block ?_
 replace h := bsome h; obtain ⟨v2, hj, h⟩ := h
 refine AW.cutR (mk 27 [] [(0, .i a0), (1, .i a1), (5, .b v2)] []) ?_ ?_
 ·clear h; have h := hj; clear hj
  refine Chain.runK [] 3 fun K hK => ?_; simp; refine hK _ _ ?_; clear hK K
  refine Chain.sub (S' := mk 27 [] [(0, .i a0), (1, .i a1), (8, .b (a0 == 2))] []) Sub.tt ?_
  replace h := isome h; rcases h with ⟨c3, h⟩ | ⟨c3, h⟩
  ·have c3_ : (a0 == 2) = true := c3
   refine Chain.sub (Sub.bool 8 (b := (a0 == 2)) rfl c3_) ?_
   refine Chain.sub (S' := mk 27 [] [(0, .i a0), (1, .i a1), (8, .b true)] []) (by simp; exact Sub.table (by simp) (by simp)) ?_
   refine Chain.runK [] 4 fun K hK => ?_; simp; refine hK _ _ ?_; clear hK K
   refine Chain.sub (S' := mk 27 [] [(0, .i a0), (1, .i a1), (5, .b true)] []) Sub.tt ?_
   cases h
   exact Chain.nil Sub.tt
  ·have c3_ : (a0 == 2) = false := Bool.eq_false_iff.2 c3
   refine Chain.sub (Sub.bool 8 (b := (a0 == 2)) rfl c3_) ?_
   refine Chain.sub (S' := mk 27 [] [(0, .i a0), (1, .i a1), (8, .b false)] []) (by simp; exact Sub.table (by simp) (by simp)) ?_
   refine Chain.runK [] 4 fun K hK => ?_; simp; refine hK _ _ ?_; clear hK K
   refine Chain.sub (S' := mk 27 [] [(0, .i a0), (1, .i a1), (5, .b (a1 == 2))] []) Sub.tt ?_
   cases h
   exact Chain.nil Sub.tt
 ·clear hj
  replace h := isome h; rcases h with ⟨c4, h⟩ | ⟨c4, h⟩
  ·have c4_ : v2 = true := c4
   refine AW.condT (b := v2) rfl c4_ ?_
   refine AW.sub (Sub.bool 5 (b := v2) rfl c4_) ?_
   refine AW.sub (S' := mk 27 [] [(0, .i a0), (1, .i a1), (5, .b true)] []) (by simp; exact Sub.table (by simp) (by simp)) ?_
   refine AW.seqR ?_
   refine Chain.runK [] 1 fun K hK => ?_; simp; refine hK _ _ ?_; clear hK K
   refine Chain.sub (S' := mk 27 [] [(4, .b false)] []) Sub.tt ?_
   refine Chain.nil ?_
   refine AW.ret ?_
   cases h
   refine blockQ.ret ?_
   refine thenQ_pass (by simp) ?_
   exact FinC.ret (by simp) (by simp)
  ·have c4_ : v2 = false := Bool.eq_false_iff.2 c4
   refine AW.condF (b := v2) rfl c4_ ?_
   refine AW.sub (Sub.bool 5 (b := v2) rfl c4_) ?_
   refine AW.sub (S' := mk 27 [] [(0, .i a0), (1, .i a1), (5, .b false)] []) (by simp; exact Sub.table (by simp) (by simp)) ?_
   replace h := bsome h; obtain ⟨v9, hj, h⟩ := h
   refine AW.cutR (mk 27 [] [(12, .b v9)] []) ?_ ?_
   ·clear h; have h := hj; clear hj
    refine Chain.runK [] 3 fun K hK => ?_; simp; refine hK _ _ ?_; clear hK K
    refine Chain.sub (S' := mk 27 [] [(0, .i a0), (1, .i a1), (15, .b (a0 == 1))] []) Sub.tt ?_
    replace h := isome h; rcases h with ⟨c10, h⟩ | ⟨c10, h⟩
    ·have c10_ : (a0 == 1) = true := c10
     refine Chain.sub (Sub.bool 15 (b := (a0 == 1)) rfl c10_) ?_
     refine Chain.sub (S' := mk 27 [] [(0, .i a0), (1, .i a1), (15, .b true)] []) (by simp; exact Sub.table (by simp) (by simp)) ?_
     refine Chain.runK [] 4 fun K hK => ?_; simp; refine hK _ _ ?_; clear hK K
     refine Chain.sub (S' := mk 27 [] [(0, .i a0), (1, .i a1), (19, .b (a1 == 4))] []) Sub.tt ?_
     replace h := isome h; rcases h with ⟨c11, h⟩ | ⟨c11, h⟩
     ·have c11_ : (a1 == 4) = true := c11
      refine Chain.sub (Sub.bool 19 (b := (a1 == 4)) rfl c11_) ?_
      refine Chain.sub (S' := mk 27 [] [(0, .i a0), (1, .i a1), (19, .b true)] []) (by simp; exact Sub.table (by simp) (by simp)) ?_
      refine Chain.runK [] 8 fun K hK => ?_; simp; refine hK _ _ ?_; clear hK K
      refine Chain.sub (S' := mk 27 [] [(12, .b true)] []) Sub.tt ?_
      cases h
      exact Chain.nil Sub.tt
     ·have c11_ : (a1 == 4) = false := Bool.eq_false_iff.2 c11
      refine Chain.sub (Sub.bool 19 (b := (a1 == 4)) rfl c11_) ?_
      refine Chain.sub (S' := mk 27 [] [(0, .i a0), (1, .i a1), (19, .b false)] []) (by simp; exact Sub.table (by simp) (by simp)) ?_
      refine Chain.runK [] 3 fun K hK => ?_; simp; refine hK _ _ ?_; clear hK K
      refine Chain.sub (S' := mk 27 [] [(1, .i a1), (19, .b false), (22, .b (a0 == 4))] []) Sub.tt ?_
      replace h := isome h; rcases h with ⟨c12, h⟩ | ⟨c12, h⟩
      ·have c12_ : (a0 == 4) = true := c12
       refine Chain.sub (Sub.bool 22 (b := (a0 == 4)) rfl c12_) ?_
       refine Chain.sub (S' := mk 27 [] [(1, .i a1), (19, .b false), (22, .b true)] []) (by simp; exact Sub.table (by simp) (by simp)) ?_
       refine Chain.runK [] 5 fun K hK => ?_; simp; refine hK _ _ ?_; clear hK K
       refine Chain.sub (S' := mk 27 [] [(12, .b (a1 == 1))] []) Sub.tt ?_
       cases h
       exact Chain.nil Sub.tt
      ·have c12_ : (a0 == 4) = false := Bool.eq_false_iff.2 c12
       refine Chain.sub (Sub.bool 22 (b := (a0 == 4)) rfl c12_) ?_
       refine Chain.sub (S' := mk 27 [] [(1, .i a1), (19, .b false), (22, .b false)] []) (by simp; exact Sub.table (by simp) (by simp)) ?_
       refine Chain.runK [] 5 fun K hK => ?_; simp; refine hK _ _ ?_; clear hK K
       refine Chain.sub (S' := mk 27 [] [(12, .b false)] []) Sub.tt ?_
       cases h
       exact Chain.nil Sub.tt
    ·have c10_ : (a0 == 1) = false := Bool.eq_false_iff.2 c10
     refine Chain.sub (Sub.bool 15 (b := (a0 == 1)) rfl c10_) ?_
     refine Chain.sub (S' := mk 27 [] [(0, .i a0), (1, .i a1), (15, .b false)] []) (by simp; exact Sub.table (by simp) (by simp)) ?_
     refine Chain.runK [] 7 fun K hK => ?_; simp; refine hK _ _ ?_; clear hK K
     refine Chain.sub (S' := mk 27 [] [(1, .i a1), (19, .b false), (22, .b (a0 == 4))] []) Sub.tt ?_
     replace h := isome h; rcases h with ⟨c13, h⟩ | ⟨c13, h⟩
     ·have c13_ : (a0 == 4) = true := c13
      refine Chain.sub (Sub.bool 22 (b := (a0 == 4)) rfl c13_) ?_
      refine Chain.sub (S' := mk 27 [] [(1, .i a1), (19, .b false), (22, .b true)] []) (by simp; exact Sub.table (by simp) (by simp)) ?_
      refine Chain.runK [] 5 fun K hK => ?_; simp; refine hK _ _ ?_; clear hK K
      refine Chain.sub (S' := mk 27 [] [(12, .b (a1 == 1))] []) Sub.tt ?_
      cases h
      exact Chain.nil Sub.tt
     ·have c13_ : (a0 == 4) = false := Bool.eq_false_iff.2 c13
      refine Chain.sub (Sub.bool 22 (b := (a0 == 4)) rfl c13_) ?_
      refine Chain.sub (S' := mk 27 [] [(1, .i a1), (19, .b false), (22, .b false)] []) (by simp; exact Sub.table (by simp) (by simp)) ?_
      refine Chain.runK [] 5 fun K hK => ?_; simp; refine hK _ _ ?_; clear hK K
      refine Chain.sub (S' := mk 27 [] [(12, .b false)] []) Sub.tt ?_
      cases h
      exact Chain.nil Sub.tt
   ·clear hj
    replace h := isome h; rcases h with ⟨c14, h⟩ | ⟨c14, h⟩
    ·have c14_ : v9 = true := c14
     refine AW.condT (b := v9) rfl c14_ ?_
     refine AW.sub (Sub.bool 12 (b := v9) rfl c14_) ?_
     refine AW.sub (S' := mk 27 [] [(12, .b true)] []) (by simp; exact Sub.table (by simp) (by simp)) ?_
     refine AW.seqR ?_
     refine Chain.runK [] 1 fun K hK => ?_; simp; refine hK _ _ ?_; clear hK K
     refine Chain.sub (S' := mk 27 [] [(4, .b false)] []) Sub.tt ?_
     refine Chain.nil ?_
     refine AW.ret ?_
     cases h
     refine blockQ.ret ?_
     refine thenQ_pass (by simp) ?_
     exact FinC.ret (by simp) (by simp)
    ·have c14_ : v9 = false := Bool.eq_false_iff.2 c14
     refine AW.condF (b := v9) rfl c14_ ?_
     refine AW.sub (Sub.bool 12 (b := v9) rfl c14_) ?_
     refine AW.sub (S' := mk 27 [] [(12, .b false)] []) (by simp; exact Sub.table (by simp) (by simp)) ?_
     refine AW.skip ?_
     refine blockQ.normal ?_
     refine thenQ_normal ?_
     refine AW.seqR ?_
     refine Chain.runK [] 1 fun K hK => ?_; simp; refine hK _ _ ?_; clear hK K
     refine Chain.sub (S' := mk 27 [] [(4, .b true)] []) Sub.tt ?_
     refine Chain.nil ?_
     refine AW.ret ?_
     cases h
     exact FinC.ret (by simp) (by simp)

/-- stemma/locks.conflicts -/
def d41 (N : Nat) (a0 : S29) (a1 : S29) : Option Bool :=
 Option.bind (α := Bool) (
  if (a0.Tx != a1.Tx) then (
   if decide (a0.Table = a1.Table) = true then (
    if decide (a0.Key = a1.Key) = true then (
     (d53 N a0.Mode a1.Mode).bind fun r9 =>
     some (!r9)
    ) else
    some false
   ) else
   some false
  ) else
  some false
 ) fun (v5 : Bool) =>
 some v5
set_option maxRecDepth 100000 in
set_option maxHeartbeats 4000000 in
theorem p41 (N : Nat) (a0 : S29) (a1 : S29) (r : Bool) (h : d41 N a0 a1 = some r) : FunC Try.prog 41 [.agg [.i a0.Tx, .d (.lit (.string a0.Table)), .d (.lit (.string a0.Key)), .i a0.Mode], .agg [.i a1.Tx, .d (.lit (.string a1.Table)), .d (.lit (.string a1.Key)), .i a1.Mode]] (.b r) := by
 unfold d41 at h
 refine FunC.enter 32 [(0, .agg [.i a0.Tx, .d (.lit (.string a0.Table)), .d (.lit (.string a0.Key)), .i a0.Mode]), (1, .agg [.i a1.Tx, .d (.lit (.string a1.Table)), .d (.lit (.string a1.Key)), .i a1.Mode])] (by simp) Try.func41 rfl (of_decide_eq_true rfl) rfl rfl ?_
 refine AW.seqR ?_
 refine Chain.runK [] 3 fun K hK => ?_; simp; refine hK _ _ ?_; clear hK K
 refine Chain.sub (S' := mk 32 [] [(2, .ptr 2 0 0), (3, .ptr 3 0 0)] [(2, some (.box [.i a0.Tx, .d (.lit (.string a0.Table)), .d (.lit (.string a0.Key)), .i a0.Mode])), (3, some (.box [.i a1.Tx, .d (.lit (.string a1.Table)), .d (.lit (.string a1.Key)), .i a1.Mode]))]) Sub.tt ?_
 refine Chain.nil ?_
 replace h := bsome h; obtain ⟨v5, hj, h⟩ := h
 refine AW.cutR (mk 32 [] [(4, .b v5)] []) ?_ ?_
 ·clear h; have h := hj; clear hj
  refine Chain.runK [] 6 fun K hK => ?_; simp; refine hK _ _ ?_; clear hK K
  refine Chain.sub (S' := mk 32 [] [(2, .ptr 2 0 0), (3, .ptr 3 0 0), (10, .b (a0.Tx != a1.Tx))] [(2, some (.box [.i a0.Tx, .d (.lit (.string a0.Table)), .d (.lit (.string a0.Key)), .i a0.Mode])), (3, some (.box [.i a1.Tx, .d (.lit (.string a1.Table)), .d (.lit (.string a1.Key)), .i a1.Mode]))]) Sub.tt ?_
  replace h := isome h; rcases h with ⟨c6, h⟩ | ⟨c6, h⟩
  ·have c6_ : (a0.Tx != a1.Tx) = true := c6
   refine Chain.sub (Sub.bool 10 (b := (a0.Tx != a1.Tx)) rfl c6_) ?_
   refine Chain.sub (S' := mk 32 [] [(2, .ptr 2 0 0), (3, .ptr 3 0 0), (10, .b true)] [(2, some (.box [.i a0.Tx, .d (.lit (.string a0.Table)), .d (.lit (.string a0.Key)), .i a0.Mode])), (3, some (.box [.i a1.Tx, .d (.lit (.string a1.Table)), .d (.lit (.string a1.Key)), .i a1.Mode]))]) (by simp; exact Sub.table (by simp) (by simp)) ?_
   refine Chain.runK [] 7 fun K hK => ?_; simp; refine hK _ _ ?_; clear hK K
   refine Chain.sub (S' := mk 32 [] [(2, .ptr 2 0 0), (3, .ptr 3 0 0), (17, .b (decide (a0.Table = a1.Table)))] [(2, some (.box [.i a0.Tx, .d (.lit (.string a0.Table)), .d (.lit (.string a0.Key)), .i a0.Mode])), (3, some (.box [.i a1.Tx, .d (.lit (.string a1.Table)), .d (.lit (.string a1.Key)), .i a1.Mode]))]) Sub.tt ?_
   replace h := isome h; rcases h with ⟨c7, h⟩ | ⟨c7, h⟩
   ·have c7_ : decide (a0.Table = a1.Table) = true := c7
    refine Chain.sub (Sub.bool 17 (b := decide (a0.Table = a1.Table)) rfl c7_) ?_
    refine Chain.sub (S' := mk 32 [] [(2, .ptr 2 0 0), (3, .ptr 3 0 0), (17, .b true)] [(2, some (.box [.i a0.Tx, .d (.lit (.string a0.Table)), .d (.lit (.string a0.Key)), .i a0.Mode])), (3, some (.box [.i a1.Tx, .d (.lit (.string a1.Table)), .d (.lit (.string a1.Key)), .i a1.Mode]))]) (by simp; exact Sub.table (by simp) (by simp)) ?_
    refine Chain.runK [] 7 fun K hK => ?_; simp; refine hK _ _ ?_; clear hK K
    refine Chain.sub (S' := mk 32 [] [(2, .ptr 2 0 0), (3, .ptr 3 0 0), (24, .b (decide (a0.Key = a1.Key)))] [(2, some (.box [.i a0.Tx, .d (.lit (.string a0.Table)), .d (.lit (.string a0.Key)), .i a0.Mode])), (3, some (.box [.i a1.Tx, .d (.lit (.string a1.Table)), .d (.lit (.string a1.Key)), .i a1.Mode]))]) Sub.tt ?_
    replace h := isome h; rcases h with ⟨c8, h⟩ | ⟨c8, h⟩
    ·have c8_ : decide (a0.Key = a1.Key) = true := c8
     refine Chain.sub (Sub.bool 24 (b := decide (a0.Key = a1.Key)) rfl c8_) ?_
     refine Chain.sub (S' := mk 32 [] [(2, .ptr 2 0 0), (3, .ptr 3 0 0), (24, .b true)] [(2, some (.box [.i a0.Tx, .d (.lit (.string a0.Table)), .d (.lit (.string a0.Key)), .i a0.Mode])), (3, some (.box [.i a1.Tx, .d (.lit (.string a1.Table)), .d (.lit (.string a1.Key)), .i a1.Mode]))]) (by simp; exact Sub.table (by simp) (by simp)) ?_
     refine Chain.runK [] 4 fun K hK => ?_; simp; refine hK _ _ ?_; clear hK K
     refine Chain.sub (S' := mk 32 [] [(24, .b true), (26, .i a0.Mode), (28, .i a1.Mode)] []) Sub.tt ?_
     replace h := bsome h; obtain ⟨r9, hr9, h⟩ := h
     refine Chain.callL (d := 29) (p53 N a0.Mode a1.Mode r9 hr9) (by simp) rfl rfl (by simp <;> rfl) (by simp <;> rfl) ent53 (by simp <;> rfl) ?_
     refine Chain.sub (S' := mk 32 [] [(24, .b true), (26, .i a0.Mode), (28, .i a1.Mode), (29, .b r9)] []) (by simp; exact Sub.table (by simp) (by simp)) ?_
     refine Chain.runK [] 3 fun K hK => ?_; simp; refine hK _ _ ?_; clear hK K
     refine Chain.sub (S' := mk 32 [] [(4, .b (!r9))] []) Sub.tt ?_
     cases h
     exact Chain.nil Sub.tt
    ·have c8_ : decide (a0.Key = a1.Key) = false := Bool.eq_false_iff.2 c8
     refine Chain.sub (Sub.bool 24 (b := decide (a0.Key = a1.Key)) rfl c8_) ?_
     refine Chain.sub (S' := mk 32 [] [(2, .ptr 2 0 0), (3, .ptr 3 0 0), (24, .b false)] [(2, some (.box [.i a0.Tx, .d (.lit (.string a0.Table)), .d (.lit (.string a0.Key)), .i a0.Mode])), (3, some (.box [.i a1.Tx, .d (.lit (.string a1.Table)), .d (.lit (.string a1.Key)), .i a1.Mode]))]) (by simp; exact Sub.table (by simp) (by simp)) ?_
     refine Chain.runK [] 8 fun K hK => ?_; simp; refine hK _ _ ?_; clear hK K
     refine Chain.sub (S' := mk 32 [] [(4, .b false)] []) Sub.tt ?_
     cases h
     exact Chain.nil Sub.tt
   ·have c7_ : decide (a0.Table = a1.Table) = false := Bool.eq_false_iff.2 c7
    refine Chain.sub (Sub.bool 17 (b := decide (a0.Table = a1.Table)) rfl c7_) ?_
    refine Chain.sub (S' := mk 32 [] [(2, .ptr 2 0 0), (3, .ptr 3 0 0), (17, .b false)] [(2, some (.box [.i a0.Tx, .d (.lit (.string a0.Table)), .d (.lit (.string a0.Key)), .i a0.Mode])), (3, some (.box [.i a1.Tx, .d (.lit (.string a1.Table)), .d (.lit (.string a1.Key)), .i a1.Mode]))]) (by simp; exact Sub.table (by simp) (by simp)) ?_
    refine Chain.runK [] 15 fun K hK => ?_; simp; refine hK _ _ ?_; clear hK K
    refine Chain.sub (S' := mk 32 [] [(4, .b false)] []) Sub.tt ?_
    cases h
    exact Chain.nil Sub.tt
  ·have c6_ : (a0.Tx != a1.Tx) = false := Bool.eq_false_iff.2 c6
   refine Chain.sub (Sub.bool 10 (b := (a0.Tx != a1.Tx)) rfl c6_) ?_
   refine Chain.sub (S' := mk 32 [] [(2, .ptr 2 0 0), (3, .ptr 3 0 0), (10, .b false)] [(2, some (.box [.i a0.Tx, .d (.lit (.string a0.Table)), .d (.lit (.string a0.Key)), .i a0.Mode])), (3, some (.box [.i a1.Tx, .d (.lit (.string a1.Table)), .d (.lit (.string a1.Key)), .i a1.Mode]))]) (by simp; exact Sub.table (by simp) (by simp)) ?_
   refine Chain.runK [] 22 fun K hK => ?_; simp; refine hK _ _ ?_; clear hK K
   refine Chain.sub (S' := mk 32 [] [(4, .b false)] []) Sub.tt ?_
   cases h
   exact Chain.nil Sub.tt
 ·clear hj
  refine AW.ret ?_
  cases h
  exact FinC.ret (by simp) (by simp)

/-- slices.Index[[]int,int] -/
def d54 (N : Nat) (a0 : (List Int)) (a1 : Int) : Option Int :=
 bindO (β := Unit) (ρ := Int) (
  iterN (σ := Int) (ρ := (Out Unit Int)) (fun (v5 : Int) =>
   if v5 < (a0.length : Int) then (
    (idx a0 v5).bind fun x18 =>
    if (a1 == x18) then (
     some (.inr (.ret v5))
    ) else
    (chkI (v5 + 1)).bind fun v21 =>
    some (.inl v21)
   ) else
   some (.inr (.go ()))
  ) N 0
 ) fun (_ : Unit) =>
 some (-1)
set_option maxRecDepth 100000 in
set_option maxHeartbeats 4000000 in
theorem p54 (N : Nat) (a0 : (List Int)) (a1 : Int) (r : Int) (h : d54 N a0 a1 = some r) : FunC Try.prog 54 [.d (.sl (a0.map (cI .i64))), .i a1] (.i r) := by
 unfold d54 at h
 refine FunC.enter 19 [(0, .d (.sl (a0.map (cI .i64)))), (1, .i a1)] (by simp) Try.func54 rfl (of_decide_eq_true rfl) rfl rfl ?_
 refine AW.seqR ?_
 refine Chain.runK [] 1 fun K hK => ?_; simp; refine hK _ _ ?_; clear hK K
 refine Chain.sub (S' := mk 19 [] [(0, .d (.sl (a0.map (cI .i64)))), (1, .i a1)] []) Sub.tt ?_
 refine Chain.nil ?_
 refine AW.seq ?_
 refine AW.seqR ?_
 refine Chain.runK [] 3 fun K hK => ?_; simp; refine hK _ _ ?_; clear hK K
 refine Chain.sub (S' := mk 19 [] [(0, .d (.sl (a0.map (cI .i64)))), (1, .i a1), (7, .i (a0.length : Int)), (8, .i 0)] []) Sub.tt ?_
 refine Chain.nil ?_
 refine AW.lastJ (fun (_ : Unit) => mk 19 [] [] []) h ?_ ?_ <;> clear h
 ·intro o h
  refine AW.block ?_
  refine AW.iter (fun (v5 : Int) => mk 19 [] [(0, .d (.sl (a0.map (cI .i64)))), (1, .i a1), (7, .i (a0.length : Int)), (8, .i v5)] []) h Sub.tt ?_
  clear h
  rintro v5 x h
  refine AW.seqR ?_
  refine Chain.runK [] 1 fun K hK => ?_; simp; refine hK _ _ ?_; clear hK K
  refine Chain.sub (S' := mk 19 [] [(0, .d (.sl (a0.map (cI .i64)))), (1, .i a1), (7, .i (a0.length : Int)), (8, .i v5), (9, .b (decide (v5 < (a0.length : Int))))] []) Sub.tt ?_
  refine Chain.nil ?_
  refine AW.seq ?_
  replace h := isome h; rcases h with ⟨c17, h⟩ | ⟨c17, h⟩
  ·have c17_ : decide (v5 < (a0.length : Int)) = true := decide_eq_true c17
   refine AW.condT (b := decide (v5 < (a0.length : Int))) rfl c17_ ?_
   refine AW.sub (Sub.bool 9 (b := decide (v5 < (a0.length : Int))) rfl c17_) ?_
   refine AW.sub (S' := mk 19 [] [(0, .d (.sl (a0.map (cI .i64)))), (1, .i a1), (7, .i (a0.length : Int)), (8, .i v5), (9, .b true)] []) (by simp; exact Sub.table (by simp) (by simp)) ?_
   refine AW.skip ?_
   refine thenQ_normal ?_
   refine AW.seq ?_
   refine AW.block ?_
   refine AW.seqR ?_
   refine Chain.runK [] 2 fun K hK => ?_; simp; refine hK _ _ ?_; clear hK K
   refine Chain.sub (S' := mk 19 [] [(0, .d (.sl (a0.map (cI .i64)))), (1, .i a1), (5, .i v5), (7, .i (a0.length : Int)), (8, .i v5)] []) Sub.tt ?_
   refine Chain.nil ?_
   refine AW.seqR ?_
   replace h := bsome h; obtain ⟨x18, hx18, h⟩ := h
   obtain ⟨k19, hx18k, hx18, hx18a, hx18b⟩ := idx_some hx18
   refine Chain.runK [] 6 fun K hK => ?_; simp [hx18, hx18k, hx18a]; refine hK _ _ ?_; clear hK K
   refine Chain.sub (S' := mk 19 [] [(0, .d (.sl (a0.map (cI .i64)))), (1, .i a1), (5, .i v5), (7, .i (a0.length : Int)), (8, .i v5), (16, .b (a1 == x18))] []) Sub.tt ?_
   refine Chain.nil ?_
   replace h := isome h; rcases h with ⟨c20, h⟩ | ⟨c20, h⟩
   ·have c20_ : (a1 == x18) = true := c20
    refine AW.condT (b := (a1 == x18)) rfl c20_ ?_
    refine AW.sub (Sub.bool 16 (b := (a1 == x18)) rfl c20_) ?_
    refine AW.sub (S' := mk 19 [] [(0, .d (.sl (a0.map (cI .i64)))), (1, .i a1), (5, .i v5), (7, .i (a0.length : Int)), (8, .i v5), (16, .b true)] []) (by simp; exact Sub.table (by simp) (by simp)) ?_
    refine AW.seqR ?_
    refine Chain.runK [] 2 fun K hK => ?_; simp; refine hK _ _ ?_; clear hK K
    refine Chain.sub (S' := mk 19 [] [(4, .i v5)] []) Sub.tt ?_
    refine Chain.nil ?_
    refine AW.ret ?_
    cases h
    refine blockQ.ret ?_
    refine thenQ_pass (by simp) ?_
    refine PostI.out (by simp) ?_
    rintro rfl
    refine blockQ.ret ?_
    refine PostJ.out (by simp) ?_
    rintro rfl
    refine thenQ_pass (by simp) ?_
    exact FinC.ret (by simp) (by simp)
   ·have c20_ : (a1 == x18) = false := Bool.eq_false_iff.2 c20
    refine AW.condF (b := (a1 == x18)) rfl c20_ ?_
    refine AW.sub (Sub.bool 16 (b := (a1 == x18)) rfl c20_) ?_
    refine AW.sub (S' := mk 19 [] [(0, .d (.sl (a0.map (cI .i64)))), (1, .i a1), (5, .i v5), (7, .i (a0.length : Int)), (8, .i v5), (16, .b false)] []) (by simp; exact Sub.table (by simp) (by simp)) ?_
    refine AW.skip ?_
    refine blockQ.normal ?_
    refine thenQ_normal ?_
    refine AW.region ?_
    replace h := bsome h; obtain ⟨v21, hv21, h⟩ := h
    have hv21 := chkI_some hv21
    refine Chain.runK [] 2 fun K hK => ?_; simp [hv21]; refine hK _ _ ?_; clear hK K
    refine Chain.sub (S' := mk 19 [] [(0, .d (.sl (a0.map (cI .i64)))), (1, .i a1), (7, .i (a0.length : Int)), (8, .i v21)] []) Sub.tt ?_
    refine Chain.nil ?_
    cases h
    refine PostI.next ?_
    exact Sub.tt
  ·have c17_ : decide (v5 < (a0.length : Int)) = false := decide_eq_false c17
   refine AW.condF (b := decide (v5 < (a0.length : Int))) rfl c17_ ?_
   refine AW.sub (Sub.bool 9 (b := decide (v5 < (a0.length : Int))) rfl c17_) ?_
   refine AW.sub (S' := mk 19 [] [(0, .d (.sl (a0.map (cI .i64)))), (1, .i a1), (7, .i (a0.length : Int)), (8, .i v5), (9, .b false)] []) (by simp; exact Sub.table (by simp) (by simp)) ?_
   refine AW.exit ?_
   cases h
   refine thenQ_pass (by simp) ?_
   refine PostI.out (by simp) ?_
   rintro rfl
   refine blockQ.hit ?_
   refine PostJ.next ?_
   exact Sub.tt
 ·rintro ⟨⟩ h
  refine thenQ_normal ?_
  refine AW.seqR ?_
  refine Chain.runK [] 1 fun K hK => ?_; simp; refine hK _ _ ?_; clear hK K
  refine Chain.sub (S' := mk 19 [] [(4, .i (-1))] []) Sub.tt ?_
  refine Chain.nil ?_
  refine AW.ret ?_
  cases h
  exact FinC.ret (by simp) (by simp)

/-- slices.Contains[[]int,int] -/
def d42 (N : Nat) (a0 : (List Int)) (a1 : Int) : Option Bool :=
 (d54 N a0 a1).bind fun r1 =>
 some (decide (r1 ≥ 0))
set_option maxRecDepth 100000 in
set_option maxHeartbeats 4000000 in
theorem p42 (N : Nat) (a0 : (List Int)) (a1 : Int) (r : Bool) (h : d42 N a0 a1 = some r) : FunC Try.prog 42 [.d (.sl (a0.map (cI .i64))), .i a1] (.b r) := by
 unfold d42 at h
 refine FunC.enter 9 [(0, .d (.sl (a0.map (cI .i64)))), (1, .i a1)] (by simp) Try.func42 rfl (of_decide_eq_true rfl) rfl rfl ?_
 refine AW.seqR ?_
 refine Chain.runK [] 1 fun K hK => ?_; simp; refine hK _ _ ?_; clear hK K
 refine Chain.sub (S' := mk 9 [] [(0, .d (.sl (a0.map (cI .i64)))), (1, .i a1)] []) Sub.tt ?_
 refine Chain.nil ?_
 refine AW.seqR ?_
 refine Chain.runK [] 2 fun K hK => ?_; simp; refine hK _ _ ?_; clear hK K
 refine Chain.sub (S' := mk 9 [] [(5, .d (.sl (a0.map (cI .i64)))), (6, .i a1)] []) Sub.tt ?_
 replace h := bsome h; obtain ⟨r1, hr1, h⟩ := h
 refine Chain.callL (d := 7) (p54 N a0 a1 r1 hr1) (by simp) rfl rfl (by simp <;> rfl) (by simp <;> rfl) ent54 (by simp <;> rfl) ?_
 refine Chain.sub (S' := mk 9 [] [(5, .d (.sl (a0.map (cI .i64)))), (6, .i a1), (7, .i r1)] []) (by simp; exact Sub.table (by simp) (by simp)) ?_
 refine Chain.runK [] 2 fun K hK => ?_; simp; refine hK _ _ ?_; clear hK K
 refine Chain.sub (S' := mk 9 [] [(4, .b (decide (r1 ≥ 0)))] []) Sub.tt ?_
 refine Chain.nil ?_
 refine AW.ret ?_
 cases h
 exact FinC.ret (by simp) (by simp)

def d43 (_N : Nat) (a0 : List Int) : Option (List Int) :=
 if a0.length < 4611686018427387904 then some (a0.mergeSort fun x y => decide (x ≤ y)) else none
theorem l43 (N : Nat) (a0 r : List Int) (h : d43 N a0 = some r) : r.length = a0.length := by
 unfold d43 at h
 split at h
 ·injection h with h; subst h; simp
 ·cases h
theorem p43 (N : Nat) (a0 : List Int) (r : List Int) (h : d43 N a0 = some r) : FunM Try.prog 43 [.ref 1000 0 a0.length] [(1000, R3 a0)] [1000] (.tup []) [(1000, .arr 3 1 (r.map (cI .i64)))] :=
 sortInt_funM Try.lays189 a0 r h

end Go.Proofs.Ytdiekinmoklonaa
