/- Functions of the program as functional programs; the code computes them. -/
import Derived.Test.YtimkkjiplioohaaGreatDoorJa0
import Derived.Test.YtimkkjiplioohaaGreatDoorJaI
import Derived.Test.YtimkkjiplioohaaGreatDoorA4
namespace Go.Proofs.YtimkkjiplioohaaGreatDoor
open Go.Ab Go.Rp
attribute [-simp] List.all_eq_true Array.all_toList Array.all_eq_true
/-- slices.IndexFunc[[]stemma/api.Row,stemma/api.Row] -/
def d98 (N : Nat) (a0 : (List (List S61))) (p1 : (List S61) → Option Bool) : Option Int :=
 bindO (β := Unit) (ρ := Int) (
  iterN (σ := Int) (ρ := (Out Unit Int)) (fun (v6 : Int) =>
   if v6 < (a0.length : Int) then (
    (idx a0 v6).bind fun x21 =>
    (p1 x21).bind fun r23 =>
    if r23 = true then (
     some (.inr (.ret v6))
    ) else
    (chkI (v6 + 1)).bind fun v25 =>
    some (.inl v25)
   ) else
   some (.inr (.go ()))
  ) N 0
 ) fun (_ : Unit) =>
 some (-1)
set_option maxRecDepth 100000 in
set_option maxHeartbeats 4000000 in
theorem p98 (N : Nat) (a0 : (List (List S61))) (g1 : Nat) (cs1 : List D) (p1 : (List S61) → Option Bool) (ent_1 : Rp.Enters Tryz.prog g1) (hp1 : ∀ a0 r, p1 a0 = some r → FunC Tryz.prog g1 ([.d (.sl (a0.map cS61))] ++ cs1.map .d) (.b r)) (r : Int) (h : d98 N a0 p1 = some r) : FunC Tryz.prog 98 [.d (.sl (a0.map (cL cS61))), .fn (.func g1) (cs1.map .d)] (.i r) := by
 unfold d98 at h
 refine FunC.enter 19 [(0, .d (.sl (a0.map (cL cS61)))), (1, .fn (.func g1) (cs1.map .d))] (by simp) Tryz.func98 rfl (of_decide_eq_true rfl) rfl rfl ?_
 refine AW.seqR ?_
 refine Chain.runK [] 1 fun K hK => ?_; simp; refine hK _ _ ?_; clear hK K
 refine Chain.sub (S' := mk 19 [] [(0, .d (.sl (a0.map (cL cS61)))), (1, .fn (.func g1) (cs1.map .d))] []) Sub.tt ?_
 refine Chain.nil ?_
 refine AW.seq ?_
 refine AW.seqR ?_
 refine Chain.runK [] 3 fun K hK => ?_; simp; refine hK _ _ ?_; clear hK K
 refine Chain.sub (S' := mk 19 [] [(0, .d (.sl (a0.map (cL cS61)))), (1, .fn (.func g1) (cs1.map .d)), (7, .i (a0.length : Int)), (8, .i 0)] []) Sub.tt ?_
 refine Chain.nil ?_
 refine AW.lastJ (fun (_ : Unit) => mk 19 [] [] []) h ?_ ?_ <;> clear h
 ·intro o h
  refine AW.block ?_
  refine AW.iter (fun (v6 : Int) => mk 19 [] [(0, .d (.sl (a0.map (cL cS61)))), (1, .fn (.func g1) (cs1.map .d)), (7, .i (a0.length : Int)), (8, .i v6)] []) h Sub.tt ?_
  clear h
  rintro v6 x h
  refine AW.seqR ?_
  refine Chain.runK [] 1 fun K hK => ?_; simp; refine hK _ _ ?_; clear hK K
  refine Chain.sub (S' := mk 19 [] [(0, .d (.sl (a0.map (cL cS61)))), (1, .fn (.func g1) (cs1.map .d)), (7, .i (a0.length : Int)), (8, .i v6), (9, .b (decide (v6 < (a0.length : Int))))] []) Sub.tt ?_
  refine Chain.nil ?_
  refine AW.seq ?_
  replace h := isome h; rcases h with ⟨c20, h⟩ | ⟨c20, h⟩
  ·have c20_ : decide (v6 < (a0.length : Int)) = true := decide_eq_true c20
   refine AW.condT (b := decide (v6 < (a0.length : Int))) rfl c20_ ?_
   refine AW.sub (Sub.bool 9 (b := decide (v6 < (a0.length : Int))) rfl c20_) ?_
   refine AW.sub (S' := mk 19 [] [(0, .d (.sl (a0.map (cL cS61)))), (1, .fn (.func g1) (cs1.map .d)), (7, .i (a0.length : Int)), (8, .i v6), (9, .b true)] []) (by simp; exact Sub.table (by simp) (by simp)) ?_
   refine AW.skip ?_
   refine thenQ_normal ?_
   refine AW.seq ?_
   refine AW.block ?_
   refine AW.seqR ?_
   refine Chain.runK [] 2 fun K hK => ?_; simp; refine hK _ _ ?_; clear hK K
   refine Chain.sub (S' := mk 19 [] [(0, .d (.sl (a0.map (cL cS61)))), (1, .fn (.func g1) (cs1.map .d)), (5, .i v6), (7, .i (a0.length : Int)), (8, .i v6)] []) Sub.tt ?_
   refine Chain.nil ?_
   refine AW.seqR ?_
   replace h := bsome h; obtain ⟨x21, hx21, h⟩ := h
   obtain ⟨k22, hx21k, hx21, hx21a, hx21b⟩ := idx_some hx21
   refine Chain.runK [] 5 fun K hK => ?_; simp [hx21, hx21k, hx21a]; refine hK _ _ ?_; clear hK K
   refine Chain.sub (S' := mk 19 [] [(0, .d (.sl (a0.map (cL cS61)))), (1, .fn (.func g1) (cs1.map .d)), (5, .i v6), (7, .i (a0.length : Int)), (8, .i v6), (11, .fn (.func g1) (cs1.map .d)), (15, .d (.sl (x21.map cS61)))] []) Sub.tt ?_
   replace h := bsome h; obtain ⟨r23, hr23, h⟩ := h
   refine Chain.callL (d := 16) (hp1 x21 r23 hr23) (by simp) rfl rfl (by simp <;> rfl) (by simp <;> rfl) ent_1 (by simp <;> rfl) ?_
   refine Chain.sub (S' := mk 19 [] [(0, .d (.sl (a0.map (cL cS61)))), (1, .fn (.func g1) (cs1.map .d)), (5, .i v6), (7, .i (a0.length : Int)), (8, .i v6), (11, .fn (.func g1) (cs1.map .d)), (15, .d (.sl (x21.map cS61))), (16, .b r23)] []) (by simp; exact Sub.table (by simp) (by simp)) ?_
   refine Chain.nil ?_
   replace h := isome h; rcases h with ⟨c24, h⟩ | ⟨c24, h⟩
   ·have c24_ : r23 = true := c24
    refine AW.condT (b := r23) rfl c24_ ?_
    refine AW.sub (Sub.bool 16 (b := r23) rfl c24_) ?_
    refine AW.sub (S' := mk 19 [] [(0, .d (.sl (a0.map (cL cS61)))), (1, .fn (.func g1) (cs1.map .d)), (5, .i v6), (7, .i (a0.length : Int)), (8, .i v6), (11, .fn (.func g1) (cs1.map .d)), (15, .d (.sl (x21.map cS61))), (16, .b true)] []) (by simp; exact Sub.table (by simp) (by simp)) ?_
    refine AW.seqR ?_
    refine Chain.runK [] 2 fun K hK => ?_; simp; refine hK _ _ ?_; clear hK K
    refine Chain.sub (S' := mk 19 [] [(4, .i v6)] []) Sub.tt ?_
    refine Chain.nil ?_
    refine AW.ret ?_
    cases h
    refine blockQ.ret ?_
    refine thenQ_pass (by simp) ?_
    refine PostI.out (by simp) ?_
    rintro rfl
    refine blockQ.ret ?_
    refine PostJ.out (by simp) ?_
    rintro rfl
    refine thenQ_pass (by simp) ?_
    exact FinC.ret (by simp) (by simp)
   ·have c24_ : r23 = false := Bool.eq_false_iff.2 c24
    refine AW.condF (b := r23) rfl c24_ ?_
    refine AW.sub (Sub.bool 16 (b := r23) rfl c24_) ?_
    refine AW.sub (S' := mk 19 [] [(0, .d (.sl (a0.map (cL cS61)))), (1, .fn (.func g1) (cs1.map .d)), (5, .i v6), (7, .i (a0.length : Int)), (8, .i v6), (11, .fn (.func g1) (cs1.map .d)), (15, .d (.sl (x21.map cS61))), (16, .b false)] []) (by simp; exact Sub.table (by simp) (by simp)) ?_
    refine AW.skip ?_
    refine blockQ.normal ?_
    refine thenQ_normal ?_
    refine AW.region ?_
    replace h := bsome h; obtain ⟨v25, hv25, h⟩ := h
    have hv25 := chkI_some hv25
    refine Chain.runK [] 2 fun K hK => ?_; simp [hv25]; refine hK _ _ ?_; clear hK K
    refine Chain.sub (S' := mk 19 [] [(0, .d (.sl (a0.map (cL cS61)))), (1, .fn (.func g1) (cs1.map .d)), (7, .i (a0.length : Int)), (8, .i v25)] []) Sub.tt ?_
    refine Chain.nil ?_
    cases h
    refine PostI.next ?_
    exact Sub.tt
  ·have c20_ : decide (v6 < (a0.length : Int)) = false := decide_eq_false c20
   refine AW.condF (b := decide (v6 < (a0.length : Int))) rfl c20_ ?_
   refine AW.sub (Sub.bool 9 (b := decide (v6 < (a0.length : Int))) rfl c20_) ?_
   refine AW.sub (S' := mk 19 [] [(0, .d (.sl (a0.map (cL cS61)))), (1, .fn (.func g1) (cs1.map .d)), (7, .i (a0.length : Int)), (8, .i v6), (9, .b false)] []) (by simp; exact Sub.table (by simp) (by simp)) ?_
   refine AW.exit ?_
   cases h
   refine thenQ_pass (by simp) ?_
   refine PostI.out (by simp) ?_
   rintro rfl
   refine blockQ.hit ?_
   refine PostJ.next ?_
   exact Sub.tt
 ·rintro ⟨⟩ h
  refine thenQ_normal ?_
  refine AW.seqR ?_
  refine Chain.runK [] 1 fun K hK => ?_; simp; refine hK _ _ ?_; clear hK K
  refine Chain.sub (S' := mk 19 [] [(4, .i (-1))] []) Sub.tt ?_
  refine Chain.nil ?_
  refine AW.ret ?_
  cases h
  exact FinC.ret (by simp) (by simp)

/-- slices.ContainsFunc[[]stemma/api.Row,stemma/api.Row] -/
def d56 (N : Nat) (a0 : (List (List S61))) (p1 : (List S61) → Option Bool) : Option Bool :=
 (d98 N a0 p1).bind fun r1 =>
 some (decide (r1 ≥ 0))
set_option maxRecDepth 100000 in
set_option maxHeartbeats 4000000 in
theorem p56 (N : Nat) (a0 : (List (List S61))) (g1 : Nat) (cs1 : List D) (p1 : (List S61) → Option Bool) (ent_1 : Rp.Enters Tryz.prog g1) (hp1 : ∀ a0 r, p1 a0 = some r → FunC Tryz.prog g1 ([.d (.sl (a0.map cS61))] ++ cs1.map .d) (.b r)) (r : Bool) (h : d56 N a0 p1 = some r) : FunC Tryz.prog 56 [.d (.sl (a0.map (cL cS61))), .fn (.func g1) (cs1.map .d)] (.b r) := by
 unfold d56 at h
 refine FunC.enter 9 [(0, .d (.sl (a0.map (cL cS61)))), (1, .fn (.func g1) (cs1.map .d))] (by simp) Tryz.func56 rfl (of_decide_eq_true rfl) rfl rfl ?_
 refine AW.seqR ?_
 refine Chain.runK [] 1 fun K hK => ?_; simp; refine hK _ _ ?_; clear hK K
 refine Chain.sub (S' := mk 9 [] [(0, .d (.sl (a0.map (cL cS61)))), (1, .fn (.func g1) (cs1.map .d))] []) Sub.tt ?_
 refine Chain.nil ?_
 refine AW.seqR ?_
 refine Chain.runK [] 2 fun K hK => ?_; simp; refine hK _ _ ?_; clear hK K
 refine Chain.sub (S' := mk 9 [] [(5, .d (.sl (a0.map (cL cS61)))), (6, .fn (.func g1) (cs1.map .d))] []) Sub.tt ?_
 replace h := bsome h; obtain ⟨r1, hr1, h⟩ := h
 refine Chain.callL (d := 7) (p98 N a0 g1 cs1 p1 ent_1 hp1 r1 hr1) (by simp) rfl rfl (by simp <;> rfl) (by simp <;> rfl) ent98 (by simp <;> rfl) ?_
 refine Chain.sub (S' := mk 9 [] [(5, .d (.sl (a0.map (cL cS61)))), (6, .fn (.func g1) (cs1.map .d)), (7, .i r1)] []) (by simp; exact Sub.table (by simp) (by simp)) ?_
 refine Chain.runK [] 2 fun K hK => ?_; simp; refine hK _ _ ?_; clear hK K
 refine Chain.sub (S' := mk 9 [] [(4, .b (decide (r1 ≥ 0)))] []) Sub.tt ?_
 refine Chain.nil ?_
 refine AW.ret ?_
 cases h
 exact FinC.ret (by simp) (by simp)

/-- stemma/stemlaw3.wide$1 -/
def d57 (_N : Nat) (a0 : (List S61)) : Option Bool :=
 some (decide ((a0.length : Int) > 10))
set_option maxRecDepth 100000 in
set_option maxHeartbeats 4000000 in
theorem p57 (N : Nat) (a0 : (List S61)) (r : Bool) (h : d57 N a0 = some r) : FunC Tryz.prog 57 [.d (.sl (a0.map cS61))] (.b r) := by
 unfold d57 at h
 refine FunC.enter 6 [(0, .d (.sl (a0.map cS61)))] (by simp) Tryz.func57 rfl (of_decide_eq_true rfl) rfl rfl ?_
 refine AW.seqR ?_
 refine Chain.runK [] 1 fun K hK => ?_; simp; refine hK _ _ ?_; clear hK K
 refine Chain.sub (S' := mk 6 [] [(0, .d (.sl (a0.map cS61)))] []) Sub.tt ?_
 refine Chain.nil ?_
 refine AW.seqR ?_
 refine Chain.runK [] 4 fun K hK => ?_; simp; refine hK _ _ ?_; clear hK K
 refine Chain.sub (S' := mk 6 [] [(2, .b (decide ((a0.length : Int) > 10)))] []) Sub.tt ?_
 refine Chain.nil ?_
 refine AW.ret ?_
 cases h
 exact FinC.ret (by simp) (by simp)

/-- stemma/stemlaw3.wide -/
def d21 (N : Nat) (a0 : (List (List (List S61)))) : Option Bool :=
 bindO (β := Unit) (ρ := Bool) (
  iterN (σ := Int) (ρ := (Out Unit Bool)) (fun (v10 : Int) =>
   if v10 < (a0.length : Int) then (
    (idx a0 v10).bind fun x33 =>
    Option.bind (α := Bool) (
     if (x33.length : Int) > 60 then (
      some true
     ) else
     (d56 N x33 (fun b0 => d57 N b0 )).bind fun r39 =>
     some r39
    ) fun (v37 : Bool) =>
    if v37 = true then (
     some (.inr (.ret true))
    ) else
    (chkI (v10 + 1)).bind fun v41 =>
    some (.inl v41)
   ) else
   some (.inr (.go ()))
  ) N 0
 ) fun (_ : Unit) =>
 some false
set_option maxRecDepth 100000 in
set_option maxHeartbeats 4000000 in
theorem p21 (N : Nat) (a0 : (List (List (List S61)))) (r : Bool) (h : d21 N a0 = some r) : FunC Tryz.prog 21 [.d (.sl (a0.map (cL (cL cS61))))] (.b r) := by
 unfold d21 at h
 refine FunC.enter 19 [(0, .d (.sl (a0.map (cL (cL cS61)))))] (by simp) Tryz.func21 rfl (of_decide_eq_true rfl) rfl rfl ?_
 refine AW.seqR ?_
 refine Chain.runK [] 1 fun K hK => ?_; simp; refine hK _ _ ?_; clear hK K
 refine Chain.sub (S' := mk 19 [] [(0, .d (.sl (a0.map (cL (cL cS61)))))] []) Sub.tt ?_
 refine Chain.nil ?_
 refine AW.seq ?_
 refine AW.seqR ?_
 refine Chain.runK [] 3 fun K hK => ?_; simp; refine hK _ _ ?_; clear hK K
 refine Chain.sub (S' := mk 19 [] [(5, .d (.sl (a0.map (cL (cL cS61))))), (6, .i (a0.length : Int)), (7, .i 0)] []) Sub.tt ?_
 refine Chain.nil ?_
 refine AW.lastJ (fun (_ : Unit) => mk 19 [] [] []) h ?_ ?_ <;> clear h
 ·intro o h
  refine AW.block ?_
  refine AW.iter (fun (v10 : Int) => mk 19 [] [(5, .d (.sl (a0.map (cL (cL cS61))))), (6, .i (a0.length : Int)), (7, .i v10)] []) h Sub.tt ?_
  clear h
  rintro v10 x h
  refine AW.seqR ?_
  refine Chain.runK [] 1 fun K hK => ?_; simp; refine hK _ _ ?_; clear hK K
  refine Chain.sub (S' := mk 19 [] [(5, .d (.sl (a0.map (cL (cL cS61))))), (6, .i (a0.length : Int)), (7, .i v10), (8, .b (decide (v10 < (a0.length : Int))))] []) Sub.tt ?_
  refine Chain.nil ?_
  refine AW.seq ?_
  replace h := isome h; rcases h with ⟨c32, h⟩ | ⟨c32, h⟩
  ·have c32_ : decide (v10 < (a0.length : Int)) = true := decide_eq_true c32
   refine AW.condT (b := decide (v10 < (a0.length : Int))) rfl c32_ ?_
   refine AW.sub (Sub.bool 8 (b := decide (v10 < (a0.length : Int))) rfl c32_) ?_
   refine AW.sub (S' := mk 19 [] [(5, .d (.sl (a0.map (cL (cL cS61))))), (6, .i (a0.length : Int)), (7, .i v10), (8, .b true)] []) (by simp; exact Sub.table (by simp) (by simp)) ?_
   refine AW.skip ?_
   refine thenQ_normal ?_
   refine AW.seq ?_
   refine AW.block ?_
   refine AW.seqR ?_
   replace h := bsome h; obtain ⟨x33, hx33, h⟩ := h
   obtain ⟨k34, hx33k, hx33, hx33a, hx33b⟩ := idx_some hx33
   refine Chain.runK [] 3 fun K hK => ?_; simp [hx33, hx33k, hx33a]; refine hK _ _ ?_; clear hK K
   refine Chain.sub (S' := mk 19 [] [(4, .d (.sl (x33.map (cL cS61)))), (5, .d (.sl (a0.map (cL (cL cS61))))), (6, .i (a0.length : Int)), (7, .i v10)] []) Sub.tt ?_
   refine Chain.nil ?_
   replace h := bsome h; obtain ⟨v37, hj, h⟩ := h
   refine AW.cutR (mk 19 [] [(5, .d (.sl (a0.map (cL (cL cS61))))), (6, .i (a0.length : Int)), (7, .i v10), (17, .b v37)] []) ?_ ?_
   ·clear h; have h := hj; clear hj
    refine Chain.runK [] 4 fun K hK => ?_; simp; refine hK _ _ ?_; clear hK K
    refine Chain.sub (S' := mk 19 [] [(4, .d (.sl (x33.map (cL cS61)))), (5, .d (.sl (a0.map (cL (cL cS61))))), (6, .i (a0.length : Int)), (7, .i v10), (14, .b (decide ((x33.length : Int) > 60)))] []) Sub.tt ?_
    replace h := isome h; rcases h with ⟨c38, h⟩ | ⟨c38, h⟩
    ·have c38_ : decide ((x33.length : Int) > 60) = true := decide_eq_true c38
     refine Chain.sub (Sub.bool 14 (b := decide ((x33.length : Int) > 60)) rfl c38_) ?_
     refine Chain.sub (S' := mk 19 [] [(4, .d (.sl (x33.map (cL cS61)))), (5, .d (.sl (a0.map (cL (cL cS61))))), (6, .i (a0.length : Int)), (7, .i v10), (14, .b true)] []) (by simp; exact Sub.table (by simp) (by simp)) ?_
     refine Chain.runK [] 3 fun K hK => ?_; simp; refine hK _ _ ?_; clear hK K
     refine Chain.sub (S' := mk 19 [] [(5, .d (.sl (a0.map (cL (cL cS61))))), (6, .i (a0.length : Int)), (7, .i v10), (15, .tup []), (16, .tup []), (17, .b true)] []) Sub.tt ?_
     cases h
     exact Chain.nil Sub.tt
    ·have c38_ : decide ((x33.length : Int) > 60) = false := decide_eq_false c38
     refine Chain.sub (Sub.bool 14 (b := decide ((x33.length : Int) > 60)) rfl c38_) ?_
     refine Chain.sub (S' := mk 19 [] [(4, .d (.sl (x33.map (cL cS61)))), (5, .d (.sl (a0.map (cL (cL cS61))))), (6, .i (a0.length : Int)), (7, .i v10), (14, .b false)] []) (by simp; exact Sub.table (by simp) (by simp)) ?_
     refine Chain.runK [] 1 fun K hK => ?_; simp; refine hK _ _ ?_; clear hK K
     refine Chain.sub (S' := mk 19 [] [(5, .d (.sl (a0.map (cL (cL cS61))))), (6, .i (a0.length : Int)), (7, .i v10), (14, .b false), (15, .d (.sl (x33.map (cL cS61))))] []) Sub.tt ?_
     replace h := bsome h; obtain ⟨r39, hr39, h⟩ := h
     refine Chain.callL (d := 16) (FunC.argsF (args := [.d (.sl (x33.map (cL cS61))), .d (.lit (.func (.func 57) #[] #[]))]) (p56 N x33 57 [] (fun b0 => d57 N b0 ) ent57 (fun b0 r h => p57 N b0  r h) r39 hr39) (by simp [V.wf]) rfl) (by simp) rfl rfl (by simp <;> rfl) (by simp <;> rfl) ent56 (by simp <;> rfl) ?_
     refine Chain.sub (S' := mk 19 [] [(5, .d (.sl (a0.map (cL (cL cS61))))), (6, .i (a0.length : Int)), (7, .i v10), (14, .b false), (15, .d (.sl (x33.map (cL cS61)))), (16, .b r39)] []) (by simp; exact Sub.table (by simp) (by simp)) ?_
     refine Chain.runK [] 1 fun K hK => ?_; simp; refine hK _ _ ?_; clear hK K
     refine Chain.sub (S' := mk 19 [] [(5, .d (.sl (a0.map (cL (cL cS61))))), (6, .i (a0.length : Int)), (7, .i v10), (15, .d (.sl (x33.map (cL cS61)))), (16, .b r39), (17, .b r39)] []) Sub.tt ?_
     cases h
     exact Chain.nil Sub.tt
   ·clear hj
    replace h := isome h; rcases h with ⟨c40, h⟩ | ⟨c40, h⟩
    ·have c40_ : v37 = true := c40
     refine AW.condT (b := v37) rfl c40_ ?_
     refine AW.sub (Sub.bool 17 (b := v37) rfl c40_) ?_
     refine AW.sub (S' := mk 19 [] [(5, .d (.sl (a0.map (cL (cL cS61))))), (6, .i (a0.length : Int)), (7, .i v10), (17, .b true)] []) (by simp; exact Sub.table (by simp) (by simp)) ?_
     refine AW.seqR ?_
     refine Chain.runK [] 1 fun K hK => ?_; simp; refine hK _ _ ?_; clear hK K
     refine Chain.sub (S' := mk 19 [] [(2, .b true)] []) Sub.tt ?_
     refine Chain.nil ?_
     refine AW.ret ?_
     cases h
     refine blockQ.ret ?_
     refine thenQ_pass (by simp) ?_
     refine PostI.out (by simp) ?_
     rintro rfl
     refine blockQ.ret ?_
     refine PostJ.out (by simp) ?_
     rintro rfl
     refine thenQ_pass (by simp) ?_
     exact FinC.ret (by simp) (by simp)
    ·have c40_ : v37 = false := Bool.eq_false_iff.2 c40
     refine AW.condF (b := v37) rfl c40_ ?_
     refine AW.sub (Sub.bool 17 (b := v37) rfl c40_) ?_
     refine AW.sub (S' := mk 19 [] [(5, .d (.sl (a0.map (cL (cL cS61))))), (6, .i (a0.length : Int)), (7, .i v10), (17, .b false)] []) (by simp; exact Sub.table (by simp) (by simp)) ?_
     refine AW.skip ?_
     refine blockQ.normal ?_
     refine thenQ_normal ?_
     refine AW.region ?_
     replace h := bsome h; obtain ⟨v41, hv41, h⟩ := h
     have hv41 := chkI_some hv41
     refine Chain.runK [] 2 fun K hK => ?_; simp [hv41]; refine hK _ _ ?_; clear hK K
     refine Chain.sub (S' := mk 19 [] [(5, .d (.sl (a0.map (cL (cL cS61))))), (6, .i (a0.length : Int)), (7, .i v41)] []) Sub.tt ?_
     refine Chain.nil ?_
     cases h
     refine PostI.next ?_
     exact Sub.tt
  ·have c32_ : decide (v10 < (a0.length : Int)) = false := decide_eq_false c32
   refine AW.condF (b := decide (v10 < (a0.length : Int))) rfl c32_ ?_
   refine AW.sub (Sub.bool 8 (b := decide (v10 < (a0.length : Int))) rfl c32_) ?_
   refine AW.sub (S' := mk 19 [] [(5, .d (.sl (a0.map (cL (cL cS61))))), (6, .i (a0.length : Int)), (7, .i v10), (8, .b false)] []) (by simp; exact Sub.table (by simp) (by simp)) ?_
   refine AW.exit ?_
   cases h
   refine thenQ_pass (by simp) ?_
   refine PostI.out (by simp) ?_
   rintro rfl
   refine blockQ.hit ?_
   refine PostJ.next ?_
   exact Sub.tt
 ·rintro ⟨⟩ h
  refine thenQ_normal ?_
  refine AW.seqR ?_
  refine Chain.runK [] 1 fun K hK => ?_; simp; refine hK _ _ ?_; clear hK K
  refine Chain.sub (S' := mk 19 [] [(2, .b false)] []) Sub.tt ?_
  refine Chain.nil ?_
  refine AW.ret ?_
  cases h
  exact FinC.ret (by simp) (by simp)

/-- stemma/joinalgo.Validate$1 -/
def d62 (_N : Nat) (a0 : (List S61)) (a1 : Int) : Option Bool :=
 some (decide (a1 ≥ (a0.length : Int)))
set_option maxRecDepth 100000 in
set_option maxHeartbeats 4000000 in
theorem p62 (N : Nat) (a0 : (List S61)) (a1 : Int) (r : Bool) (h : d62 N a0 a1 = some r) : FunC Tryz.prog 62 [.d (.sl (a0.map cS61)), .d (.pim [.lit (.int .i64 a1)])] (.b r) := by
 unfold d62 at h
 refine FunC.enter 8 [(0, .d (.sl (a0.map cS61))), (1, .d (.pim [.lit (.int .i64 a1)]))] (by simp) Tryz.func62 rfl (of_decide_eq_true rfl) rfl rfl ?_
 refine AW.seqR ?_
 refine Chain.runK [] 1 fun K hK => ?_; simp; refine hK _ _ ?_; clear hK K
 refine Chain.sub (S' := mk 8 [] [(0, .d (.sl (a0.map cS61))), (1, .d (.pim [.lit (.int .i64 a1)]))] []) Sub.tt ?_
 refine Chain.nil ?_
 refine AW.seqR ?_
 refine Chain.runK [] 5 fun K hK => ?_; simp; refine hK _ _ ?_; clear hK K
 refine Chain.sub (S' := mk 8 [] [(3, .b (decide (a1 ≥ (a0.length : Int))))] []) Sub.tt ?_
 refine Chain.nil ?_
 refine AW.ret ?_
 cases h
 exact FinC.ret (by simp) (by simp)

/-- stemma/joinalgo.Validate$2 -/
def d63 (_N : Nat) (a0 : (List S61)) (a1 : S50) : Option Bool :=
 some ((a0.length : Int) != a1.RightWidth)
set_option maxRecDepth 100000 in
set_option maxHeartbeats 4000000 in
theorem p63 (N : Nat) (a0 : (List S61)) (a1 : S50) (r : Bool) (h : d63 N a0 a1 = some r) : FunC Tryz.prog 63 [.d (.sl (a0.map cS61)), .d (.pim [.sl (a1.Left.map (cI .i64)), .sl (a1.Right.map (cI .i64)), .lit (.bool a1.Outer), .lit (.int .i64 a1.RightWidth)])] (.b r) := by
 unfold d63 at h
 refine FunC.enter 9 [(0, .d (.sl (a0.map cS61))), (1, .d (.pim [.sl (a1.Left.map (cI .i64)), .sl (a1.Right.map (cI .i64)), .lit (.bool a1.Outer), .lit (.int .i64 a1.RightWidth)]))] (by simp) Tryz.func63 rfl (of_decide_eq_true rfl) rfl rfl ?_
 refine AW.seqR ?_
 refine Chain.runK [] 1 fun K hK => ?_; simp; refine hK _ _ ?_; clear hK K
 refine Chain.sub (S' := mk 9 [] [(0, .d (.sl (a0.map cS61))), (1, .d (.pim [.sl (a1.Left.map (cI .i64)), .sl (a1.Right.map (cI .i64)), .lit (.bool a1.Outer), .lit (.int .i64 a1.RightWidth)]))] []) Sub.tt ?_
 refine Chain.nil ?_
 refine AW.seqR ?_
 refine Chain.runK [] 6 fun K hK => ?_; simp; refine hK _ _ ?_; clear hK K
 refine Chain.sub (S' := mk 9 [] [(3, .b ((a0.length : Int) != a1.RightWidth))] []) Sub.tt ?_
 refine Chain.nil ?_
 refine AW.ret ?_
 cases h
 exact FinC.ret (by simp) (by simp)

end Go.Proofs.YtimkkjiplioohaaGreatDoor
