/- Functions of the program as functional programs; the code computes them. -/
import Derived.Test.YtimkkjiplioohaaGreatDoorZd0
import Derived.Test.YtimkkjiplioohaaGreatDoorSm9
namespace Go.Proofs.YtimkkjiplioohaaGreatDoor
open Go.Ab Go.Rp
attribute [-simp] List.all_eq_true Array.all_toList Array.all_eq_true

def d9 (_N : Nat) : Option Bool := some true
theorem p9 (N : Nat) (r : Bool) (h : d9 N = some r) : FunC Tryz.prog 9 [] (.d (.lit (.bool r))) := by
 injection h with h; subst h; exact Tryz.sample_fun

/-- stemma/stemlaw3.treeNodes -/
def d10 : (N : Nat) → (a0 : S28) → (a1 : Int) → Option Int
 | 0, _, _ => none
 | N + 1, a0, a1 =>
  bindO (β := Int) (ρ := Int) (
   iterN (σ := (Int × Int)) (ρ := (Out Int Int)) (fun ((v7, v8) : (Int × Int)) =>
    if v8 < (a0.Children.length : Int) then (
     (idx a0.Children v8).bind fun x27 =>
     if v7 < 0 then (
      some (.inr (.ret (-1)))
     ) else
     (chkI (v7 - 1)).bind fun v30 =>
     (d10 N x27 v30).bind fun r31 =>
     (chkI (v8 + 1)).bind fun v32 =>
     some (.inl (r31, v32))
    ) else
    some (.inr (.go v7))
   ) N (a1, 0)
  ) fun (v25 : Int) =>
  some v25
set_option maxRecDepth 100000 in
set_option maxHeartbeats 4000000 in
theorem p10 (N : Nat) : ∀ (a0 : S28) (a1 : Int) (r : Int) (_ : d10 N a0 a1 = some r), FunC Tryz.prog 10 [.agg [.d (.lit (.int .i64 a0.Leaf)), .d (.sl (a0.Children.map cS28))], .d (.lit (.int .i64 a1))] (.d (.lit (.int .i64 r))) := by
 induction N with
 | zero => intro a0 a1 r h; cases h
 | succ N ih =>
 intro a0 a1 r h
 unfold d10 at h
 refine FunC.enter 22 [(0, .agg [.d (.lit (.int .i64 a0.Leaf)), .d (.sl (a0.Children.map cS28))]), (1, .d (.lit (.int .i64 a1)))] (by simp) Tryz.func10 rfl (of_decide_eq_true rfl) rfl rfl ?_
 refine AW.seqR ?_
 refine Chain.runK [] 2 fun K hK => ?_; simp; refine hK _ _ ?_; clear hK K
 refine Chain.sub (S' := mk 22 [] [(1, .d (.lit (.int .i64 a1))), (2, .ptr 2 0 0)] [(2, some (.box [.d (.lit (.int .i64 a0.Leaf)), .d (.sl (a0.Children.map cS28))]))]) Sub.tt ?_
 refine Chain.nil ?_
 refine AW.seq ?_
 refine AW.seqR ?_
 refine Chain.runK [] 4 fun K hK => ?_; simp; refine hK _ _ ?_; clear hK K
 refine Chain.sub (S' := mk 22 [] [(1, .d (.lit (.int .i64 a1))), (8, .d (.sl (a0.Children.map cS28))), (9, .d (.lit (.int .i64 (a0.Children.length : Int)))), (10, .d (.lit (.int .i64 0)))] []) Sub.tt ?_
 refine Chain.nil ?_
 refine AW.lastJ (fun (v25 : Int) => mk 22 [] [(1, .d (.lit (.int .i64 v25)))] []) h ?_ ?_ <;> clear h
 ·intro o h
  refine AW.block ?_
  refine AW.iter (fun ((v7, v8) : (Int × Int)) => mk 22 [] [(1, .d (.lit (.int .i64 v7))), (8, .d (.sl (a0.Children.map cS28))), (9, .d (.lit (.int .i64 (a0.Children.length : Int)))), (10, .d (.lit (.int .i64 v8)))] []) h Sub.tt ?_
  clear h
  rintro ⟨v7, v8⟩ x h
  dsimp only at h ⊢
  refine AW.seqR ?_
  refine Chain.runK [] 1 fun K hK => ?_; simp; refine hK _ _ ?_; clear hK K
  refine Chain.sub (S' := mk 22 [] [(1, .d (.lit (.int .i64 v7))), (8, .d (.sl (a0.Children.map cS28))), (9, .d (.lit (.int .i64 (a0.Children.length : Int)))), (10, .d (.lit (.int .i64 v8))), (11, .d (.lit (.bool (decide (v8 < (a0.Children.length : Int))))))] []) Sub.tt ?_
  refine Chain.nil ?_
  refine AW.seq ?_
  replace h := isome h; rcases h with ⟨c26, h⟩ | ⟨c26, h⟩
  ·have c26_ : decide (v8 < (a0.Children.length : Int)) = true := decide_eq_true c26
   refine AW.condT (b := decide (v8 < (a0.Children.length : Int))) rfl c26_ ?_
   refine AW.sub (Sub.bool 11 (b := decide (v8 < (a0.Children.length : Int))) rfl c26_) ?_
   refine AW.sub (S' := mk 22 [] [(1, .d (.lit (.int .i64 v7))), (8, .d (.sl (a0.Children.map cS28))), (9, .d (.lit (.int .i64 (a0.Children.length : Int)))), (10, .d (.lit (.int .i64 v8))), (11, .d (.lit (.bool true)))] []) (by simp; exact Sub.table (by simp) (by simp)) ?_
   refine AW.skip ?_
   refine thenQ_normal ?_
   refine AW.seq ?_
   refine AW.block ?_
   refine AW.seqR ?_
   replace h := bsome h; obtain ⟨x27, hx27, h⟩ := h
   obtain ⟨k28, hx27k, hx27, hx27a, hx27b⟩ := idx_some hx27
   refine Chain.runK [] 4 fun K hK => ?_; simp [hx27, hx27k, hx27a]; refine hK _ _ ?_; clear hK K
   refine Chain.sub (S' := mk 22 [] [(1, .d (.lit (.int .i64 v7))), (6, .ptr 6 0 0), (8, .d (.sl (a0.Children.map cS28))), (9, .d (.lit (.int .i64 (a0.Children.length : Int)))), (10, .d (.lit (.int .i64 v8)))] [(6, some (.box [.d (.lit (.int .i64 x27.Leaf)), .d (.sl (x27.Children.map cS28))]))]) Sub.tt ?_
   refine Chain.nil ?_
   refine AW.seq ?_
   refine AW.seqR ?_
   refine Chain.runK [] 2 fun K hK => ?_; simp; refine hK _ _ ?_; clear hK K
   refine Chain.sub (S' := mk 22 [] [(1, .d (.lit (.int .i64 v7))), (6, .ptr 6 0 0), (8, .d (.sl (a0.Children.map cS28))), (9, .d (.lit (.int .i64 (a0.Children.length : Int)))), (10, .d (.lit (.int .i64 v8))), (15, .d (.lit (.bool (decide (v7 < 0)))))] [(6, some (.box [.d (.lit (.int .i64 x27.Leaf)), .d (.sl (x27.Children.map cS28))]))]) Sub.tt ?_
   refine Chain.nil ?_
   replace h := isome h; rcases h with ⟨c29, h⟩ | ⟨c29, h⟩
   ·have c29_ : decide (v7 < 0) = true := decide_eq_true c29
    refine AW.condT (b := decide (v7 < 0)) rfl c29_ ?_
    refine AW.sub (Sub.bool 15 (b := decide (v7 < 0)) rfl c29_) ?_
    refine AW.sub (S' := mk 22 [] [(1, .d (.lit (.int .i64 v7))), (6, .ptr 6 0 0), (8, .d (.sl (a0.Children.map cS28))), (9, .d (.lit (.int .i64 (a0.Children.length : Int)))), (10, .d (.lit (.int .i64 v8))), (15, .d (.lit (.bool true)))] [(6, some (.box [.d (.lit (.int .i64 x27.Leaf)), .d (.sl (x27.Children.map cS28))]))]) (by simp; exact Sub.table (by simp) (by simp)) ?_
    refine AW.seqR ?_
    refine Chain.runK [] 1 fun K hK => ?_; simp; refine hK _ _ ?_; clear hK K
    refine Chain.sub (S' := mk 22 [] [(4, .d (.lit (.int .i64 (-1))))] []) Sub.tt ?_
    refine Chain.nil ?_
    refine AW.ret ?_
    cases h
    refine thenQ_pass (by simp) ?_
    refine blockQ.ret ?_
    refine thenQ_pass (by simp) ?_
    refine PostI.out (by simp) ?_
    rintro rfl
    refine blockQ.ret ?_
    refine PostJ.out (by simp) ?_
    rintro rfl
    refine thenQ_pass (by simp) ?_
    exact FinC.ret (by simp) (by simp)
   ·have c29_ : decide (v7 < 0) = false := decide_eq_false c29
    refine AW.condF (b := decide (v7 < 0)) rfl c29_ ?_
    refine AW.sub (Sub.bool 15 (b := decide (v7 < 0)) rfl c29_) ?_
    refine AW.sub (S' := mk 22 [] [(1, .d (.lit (.int .i64 v7))), (6, .ptr 6 0 0), (8, .d (.sl (a0.Children.map cS28))), (9, .d (.lit (.int .i64 (a0.Children.length : Int)))), (10, .d (.lit (.int .i64 v8))), (15, .d (.lit (.bool false)))] [(6, some (.box [.d (.lit (.int .i64 x27.Leaf)), .d (.sl (x27.Children.map cS28))]))]) (by simp; exact Sub.table (by simp) (by simp)) ?_
    refine AW.skip ?_
    refine thenQ_normal ?_
    refine AW.region ?_
    replace h := bsome h; obtain ⟨v30, hv30, h⟩ := h
    have hv30 := chkI_some hv30
    refine Chain.runK [] 3 fun K hK => ?_; simp [hv30]; refine hK _ _ ?_; clear hK K
    refine Chain.sub (S' := mk 22 [] [(8, .d (.sl (a0.Children.map cS28))), (9, .d (.lit (.int .i64 (a0.Children.length : Int)))), (10, .d (.lit (.int .i64 v8))), (16, .agg [.d (.lit (.int .i64 x27.Leaf)), .d (.sl (x27.Children.map cS28))]), (18, .d (.lit (.int .i64 v30)))] []) Sub.tt ?_
    replace h := bsome h; obtain ⟨r31, hr31, h⟩ := h
    refine Chain.callL (d := 19) (ih x27 v30 r31 hr31) (by simp) rfl rfl (by simp <;> rfl) (by simp <;> rfl) ent10 (by simp <;> rfl) ?_
    refine Chain.sub (S' := mk 22 [] [(8, .d (.sl (a0.Children.map cS28))), (9, .d (.lit (.int .i64 (a0.Children.length : Int)))), (10, .d (.lit (.int .i64 v8))), (16, .agg [.d (.lit (.int .i64 x27.Leaf)), .d (.sl (x27.Children.map cS28))]), (18, .d (.lit (.int .i64 v30))), (19, .d (.lit (.int .i64 r31)))] []) (by simp; exact Sub.table (by simp) (by simp)) ?_
    refine Chain.runK [] 1 fun K hK => ?_; simp; refine hK _ _ ?_; clear hK K
    refine Chain.sub (S' := mk 22 [] [(1, .d (.lit (.int .i64 r31))), (8, .d (.sl (a0.Children.map cS28))), (9, .d (.lit (.int .i64 (a0.Children.length : Int)))), (10, .d (.lit (.int .i64 v8)))] []) Sub.tt ?_
    refine Chain.nil ?_
    refine blockQ.normal ?_
    refine thenQ_normal ?_
    refine AW.region ?_
    replace h := bsome h; obtain ⟨v32, hv32, h⟩ := h
    have hv32 := chkI_some hv32
    refine Chain.runK [] 2 fun K hK => ?_; simp [hv32]; refine hK _ _ ?_; clear hK K
    refine Chain.sub (S' := mk 22 [] [(1, .d (.lit (.int .i64 r31))), (8, .d (.sl (a0.Children.map cS28))), (9, .d (.lit (.int .i64 (a0.Children.length : Int)))), (10, .d (.lit (.int .i64 v32)))] []) Sub.tt ?_
    refine Chain.nil ?_
    cases h
    refine PostI.next ?_
    exact Sub.tt
  ·have c26_ : decide (v8 < (a0.Children.length : Int)) = false := decide_eq_false c26
   refine AW.condF (b := decide (v8 < (a0.Children.length : Int))) rfl c26_ ?_
   refine AW.sub (Sub.bool 11 (b := decide (v8 < (a0.Children.length : Int))) rfl c26_) ?_
   refine AW.sub (S' := mk 22 [] [(1, .d (.lit (.int .i64 v7))), (8, .d (.sl (a0.Children.map cS28))), (9, .d (.lit (.int .i64 (a0.Children.length : Int)))), (10, .d (.lit (.int .i64 v8))), (11, .d (.lit (.bool false)))] []) (by simp; exact Sub.table (by simp) (by simp)) ?_
   refine AW.exit ?_
   cases h
   refine thenQ_pass (by simp) ?_
   refine PostI.out (by simp) ?_
   rintro rfl
   refine blockQ.hit ?_
   refine PostJ.next ?_
   exact Sub.tt
 ·rintro v25 h
  refine thenQ_normal ?_
  refine AW.seqR ?_
  refine Chain.runK [] 2 fun K hK => ?_; simp; refine hK _ _ ?_; clear hK K
  refine Chain.sub (S' := mk 22 [] [(4, .d (.lit (.int .i64 v25)))] []) Sub.tt ?_
  refine Chain.nil ?_
  refine AW.ret ?_
  cases h
  exact FinC.ret (by simp) (by simp)

/-- stemma/joinorder.Validate -/
def d12 (N : Nat) (a0 : S25) : Option Int :=
 Option.bind (α := Bool) (
  if (a0.Sizes.length : Int) < 1 then (
   some true
  ) else
  if (a0.Sizes.length : Int) > 8 then (
   some true
  ) else
  some (decide ((a0.Selectivities.length : Int) > 40))
 ) fun (v3 : Bool) =>
 if v3 = true then (
  some 2
 ) else
 bindO (β := Unit) (ρ := Int) (
  iterN (σ := Int) (ρ := (Out Unit Int)) (fun (v14 : Int) =>
   if v14 < (a0.Sizes.length : Int) then (
    (idx a0.Sizes v14).bind fun x33 =>
    Option.bind (α := Bool) (
     if x33 < 0 then (
      some true
     ) else
     some (decide (x33 > 1073741824))
    ) fun (v36 : Bool) =>
    if v36 = true then (
     some (.inr (.ret 1))
    ) else
    (chkI (v14 + 1)).bind fun v39 =>
    some (.inl v39)
   ) else
   some (.inr (.go ()))
  ) N 0
 ) fun (_ : Unit) =>
 bindO (β := Unit) (ρ := Int) (
  iterN (σ := Int) (ρ := (Out Unit Int)) (fun (v53 : Int) =>
   if v53 < (a0.Selectivities.length : Int) then (
    (idx a0.Selectivities v53).bind fun x84 =>
    Option.bind (α := Bool) (
     if x84.A < 0 then (
      some true
     ) else
     if x84.A ≥ x84.B then (
      some true
     ) else
     if x84.B ≥ (a0.Sizes.length : Int) then (
      some true
     ) else
     if x84.Divisor < 1 then (
      some true
     ) else
     some (decide (x84.Divisor > 1073741824))
    ) fun (v90 : Bool) =>
    if v90 = true then (
     some (.inr (.ret 1))
    ) else
    (chkI (v53 + 1)).bind fun v96 =>
    some (.inl v96)
   ) else
   some (.inr (.go ()))
  ) N 0
 ) fun (_ : Unit) =>
 some 0
set_option maxRecDepth 100000 in
set_option maxHeartbeats 4000000 in
theorem p12 (N : Nat) (a0 : S25) (r : Int) (h : d12 N a0 = some r) : FunC Tryz.prog 12 [.agg [.d (.sl (a0.Sizes.map (cI .i64))), .d (.sl (a0.Selectivities.map cS115))]] (.d (.lit (.int .i64 r))) := by
 unfold d12 at h
 refine FunC.enter 73 [(0, .agg [.d (.sl (a0.Sizes.map (cI .i64))), .d (.sl (a0.Selectivities.map cS115))])] (by simp) Tryz.func12 rfl (of_decide_eq_true rfl) rfl rfl ?_
 refine AW.seqR ?_
 refine Chain.runK [] 2 fun K hK => ?_; simp; refine hK _ _ ?_; clear hK K
 refine Chain.sub (S' := mk 73 [] [(1, .ptr 1 0 0)] [(1, some (.box [.d (.sl (a0.Sizes.map (cI .i64))), .d (.sl (a0.Selectivities.map cS115))]))]) Sub.tt ?_
 refine Chain.nil ?_
 refine AW.seq ?_
 replace h := bsome h; obtain ⟨v3, hj, h⟩ := h
 refine AW.cutR (mk 73 [] [(1, .ptr 1 0 0), (22, .d (.lit (.bool v3)))] [(1, some (.box [.d (.sl (a0.Sizes.map (cI .i64))), .d (.sl (a0.Selectivities.map cS115))]))]) ?_ ?_
 ·clear h; have h := hj; clear hj
  refine Chain.runK [] 5 fun K hK => ?_; simp; refine hK _ _ ?_; clear hK K
  refine Chain.sub (S' := mk 73 [] [(1, .ptr 1 0 0), (11, .d (.lit (.bool (decide ((a0.Sizes.length : Int) < 1)))))] [(1, some (.box [.d (.sl (a0.Sizes.map (cI .i64))), .d (.sl (a0.Selectivities.map cS115))]))]) Sub.tt ?_
  replace h := isome h; rcases h with ⟨c4, h⟩ | ⟨c4, h⟩
  ·have c4_ : decide ((a0.Sizes.length : Int) < 1) = true := decide_eq_true c4
   refine Chain.sub (Sub.bool 11 (b := decide ((a0.Sizes.length : Int) < 1)) rfl c4_) ?_
   refine Chain.sub (S' := mk 73 [] [(1, .ptr 1 0 0), (11, .d (.lit (.bool true)))] [(1, some (.box [.d (.sl (a0.Sizes.map (cI .i64))), .d (.sl (a0.Selectivities.map cS115))]))]) (by simp; exact Sub.table (by simp) (by simp)) ?_
   refine Chain.runK [] 11 fun K hK => ?_; simp; refine hK _ _ ?_; clear hK K
   refine Chain.sub (S' := mk 73 [] [(1, .ptr 1 0 0), (22, .d (.lit (.bool true)))] [(1, some (.box [.d (.sl (a0.Sizes.map (cI .i64))), .d (.sl (a0.Selectivities.map cS115))]))]) Sub.tt ?_
   cases h
   exact Chain.nil Sub.tt
  ·have c4_ : decide ((a0.Sizes.length : Int) < 1) = false := decide_eq_false c4
   refine Chain.sub (Sub.bool 11 (b := decide ((a0.Sizes.length : Int) < 1)) rfl c4_) ?_
   refine Chain.sub (S' := mk 73 [] [(1, .ptr 1 0 0), (11, .d (.lit (.bool false)))] [(1, some (.box [.d (.sl (a0.Sizes.map (cI .i64))), .d (.sl (a0.Selectivities.map cS115))]))]) (by simp; exact Sub.table (by simp) (by simp)) ?_
   refine Chain.runK [] 6 fun K hK => ?_; simp; refine hK _ _ ?_; clear hK K
   refine Chain.sub (S' := mk 73 [] [(1, .ptr 1 0 0), (17, .d (.lit (.bool (decide ((a0.Sizes.length : Int) > 8)))))] [(1, some (.box [.d (.sl (a0.Sizes.map (cI .i64))), .d (.sl (a0.Selectivities.map cS115))]))]) Sub.tt ?_
   replace h := isome h; rcases h with ⟨c5, h⟩ | ⟨c5, h⟩
   ·have c5_ : decide ((a0.Sizes.length : Int) > 8) = true := decide_eq_true c5
    refine Chain.sub (Sub.bool 17 (b := decide ((a0.Sizes.length : Int) > 8)) rfl c5_) ?_
    refine Chain.sub (S' := mk 73 [] [(1, .ptr 1 0 0), (17, .d (.lit (.bool true)))] [(1, some (.box [.d (.sl (a0.Sizes.map (cI .i64))), .d (.sl (a0.Selectivities.map cS115))]))]) (by simp; exact Sub.table (by simp) (by simp)) ?_
    refine Chain.runK [] 5 fun K hK => ?_; simp; refine hK _ _ ?_; clear hK K
    refine Chain.sub (S' := mk 73 [] [(1, .ptr 1 0 0), (22, .d (.lit (.bool true)))] [(1, some (.box [.d (.sl (a0.Sizes.map (cI .i64))), .d (.sl (a0.Selectivities.map cS115))]))]) Sub.tt ?_
    cases h
    exact Chain.nil Sub.tt
   ·have c5_ : decide ((a0.Sizes.length : Int) > 8) = false := decide_eq_false c5
    refine Chain.sub (Sub.bool 17 (b := decide ((a0.Sizes.length : Int) > 8)) rfl c5_) ?_
    refine Chain.sub (S' := mk 73 [] [(1, .ptr 1 0 0), (17, .d (.lit (.bool false)))] [(1, some (.box [.d (.sl (a0.Sizes.map (cI .i64))), .d (.sl (a0.Selectivities.map cS115))]))]) (by simp; exact Sub.table (by simp) (by simp)) ?_
    refine Chain.runK [] 5 fun K hK => ?_; simp; refine hK _ _ ?_; clear hK K
    refine Chain.sub (S' := mk 73 [] [(1, .ptr 1 0 0), (22, .d (.lit (.bool (decide ((a0.Selectivities.length : Int) > 40)))))] [(1, some (.box [.d (.sl (a0.Sizes.map (cI .i64))), .d (.sl (a0.Selectivities.map cS115))]))]) Sub.tt ?_
    cases h
    exact Chain.nil Sub.tt
 ·clear hj
  replace h := isome h; rcases h with ⟨c6, h⟩ | ⟨c6, h⟩
  ·have c6_ : v3 = true := c6
   refine AW.condT (b := v3) rfl c6_ ?_
   refine AW.sub (Sub.bool 22 (b := v3) rfl c6_) ?_
   refine AW.sub (S' := mk 73 [] [(1, .ptr 1 0 0), (22, .d (.lit (.bool true)))] [(1, some (.box [.d (.sl (a0.Sizes.map (cI .i64))), .d (.sl (a0.Selectivities.map cS115))]))]) (by simp; exact Sub.table (by simp) (by simp)) ?_
   refine AW.seqR ?_
   refine Chain.runK [] 1 fun K hK => ?_; simp; refine hK _ _ ?_; clear hK K
   refine Chain.sub (S' := mk 73 [] [(2, .d (.lit (.int .i64 2)))] []) Sub.tt ?_
   refine Chain.nil ?_
   refine AW.ret ?_
   cases h
   refine thenQ_pass (by simp) ?_
   exact FinC.ret (by simp) (by simp)
  ·have c6_ : v3 = false := Bool.eq_false_iff.2 c6
   refine AW.condF (b := v3) rfl c6_ ?_
   refine AW.sub (Sub.bool 22 (b := v3) rfl c6_) ?_
   refine AW.sub (S' := mk 73 [] [(1, .ptr 1 0 0), (22, .d (.lit (.bool false)))] [(1, some (.box [.d (.sl (a0.Sizes.map (cI .i64))), .d (.sl (a0.Selectivities.map cS115))]))]) (by simp; exact Sub.table (by simp) (by simp)) ?_
   refine AW.skip ?_
   refine thenQ_normal ?_
   refine AW.seq ?_
   refine AW.seqR ?_
   refine Chain.runK [] 4 fun K hK => ?_; simp; refine hK _ _ ?_; clear hK K
   refine Chain.sub (S' := mk 73 [] [(1, .ptr 1 0 0), (24, .d (.sl (a0.Sizes.map (cI .i64)))), (25, .d (.lit (.int .i64 (a0.Sizes.length : Int)))), (26, .d (.lit (.int .i64 0)))] [(1, some (.box [.d (.sl (a0.Sizes.map (cI .i64))), .d (.sl (a0.Selectivities.map cS115))]))]) Sub.tt ?_
   refine Chain.nil ?_
   refine AW.lastJ (fun (_ : Unit) => mk 73 [] [(1, .ptr 1 0 0)] [(1, some (.box [.d (.sl (a0.Sizes.map (cI .i64))), .d (.sl (a0.Selectivities.map cS115))]))]) h ?_ ?_ <;> clear h
   ·intro o h
    refine AW.block ?_
    refine AW.iter (fun (v14 : Int) => mk 73 [] [(1, .ptr 1 0 0), (24, .d (.sl (a0.Sizes.map (cI .i64)))), (25, .d (.lit (.int .i64 (a0.Sizes.length : Int)))), (26, .d (.lit (.int .i64 v14)))] [(1, some (.box [.d (.sl (a0.Sizes.map (cI .i64))), .d (.sl (a0.Selectivities.map cS115))]))]) h Sub.tt ?_
    clear h
    rintro v14 x h
    refine AW.seqR ?_
    refine Chain.runK [] 1 fun K hK => ?_; simp; refine hK _ _ ?_; clear hK K
    refine Chain.sub (S' := mk 73 [] [(1, .ptr 1 0 0), (24, .d (.sl (a0.Sizes.map (cI .i64)))), (25, .d (.lit (.int .i64 (a0.Sizes.length : Int)))), (26, .d (.lit (.int .i64 v14))), (27, .d (.lit (.bool (decide (v14 < (a0.Sizes.length : Int))))))] [(1, some (.box [.d (.sl (a0.Sizes.map (cI .i64))), .d (.sl (a0.Selectivities.map cS115))]))]) Sub.tt ?_
    refine Chain.nil ?_
    refine AW.seq ?_
    replace h := isome h; rcases h with ⟨c32, h⟩ | ⟨c32, h⟩
    ·have c32_ : decide (v14 < (a0.Sizes.length : Int)) = true := decide_eq_true c32
     refine AW.condT (b := decide (v14 < (a0.Sizes.length : Int))) rfl c32_ ?_
     refine AW.sub (Sub.bool 27 (b := decide (v14 < (a0.Sizes.length : Int))) rfl c32_) ?_
     refine AW.sub (S' := mk 73 [] [(1, .ptr 1 0 0), (24, .d (.sl (a0.Sizes.map (cI .i64)))), (25, .d (.lit (.int .i64 (a0.Sizes.length : Int)))), (26, .d (.lit (.int .i64 v14))), (27, .d (.lit (.bool true)))] [(1, some (.box [.d (.sl (a0.Sizes.map (cI .i64))), .d (.sl (a0.Selectivities.map cS115))]))]) (by simp; exact Sub.table (by simp) (by simp)) ?_
     refine AW.skip ?_
     refine thenQ_normal ?_
     refine AW.seq ?_
     refine AW.block ?_
     refine AW.seqR ?_
     replace h := bsome h; obtain ⟨x33, hx33, h⟩ := h
     obtain ⟨k34, hx33k, hx33, hx33a, hx33b⟩ := idx_some hx33
     refine Chain.runK [] 3 fun K hK => ?_; simp [hx33, hx33k, hx33a]; refine hK _ _ ?_; clear hK K
     refine Chain.sub (S' := mk 73 [] [(1, .ptr 1 0 0), (4, .d (.lit (.int .i64 x33))), (24, .d (.sl (a0.Sizes.map (cI .i64)))), (25, .d (.lit (.int .i64 (a0.Sizes.length : Int)))), (26, .d (.lit (.int .i64 v14)))] [(1, some (.box [.d (.sl (a0.Sizes.map (cI .i64))), .d (.sl (a0.Selectivities.map cS115))]))]) Sub.tt ?_
     refine Chain.nil ?_
     replace h := bsome h; obtain ⟨v36, hj, h⟩ := h
     refine AW.cutR (mk 73 [] [(1, .ptr 1 0 0), (24, .d (.sl (a0.Sizes.map (cI .i64)))), (25, .d (.lit (.int .i64 (a0.Sizes.length : Int)))), (26, .d (.lit (.int .i64 v14))), (35, .d (.lit (.bool v36)))] [(1, some (.box [.d (.sl (a0.Sizes.map (cI .i64))), .d (.sl (a0.Selectivities.map cS115))]))]) ?_ ?_
     ·clear h; have h := hj; clear hj
      refine Chain.runK [] 3 fun K hK => ?_; simp; refine hK _ _ ?_; clear hK K
      refine Chain.sub (S' := mk 73 [] [(1, .ptr 1 0 0), (4, .d (.lit (.int .i64 x33))), (24, .d (.sl (a0.Sizes.map (cI .i64)))), (25, .d (.lit (.int .i64 (a0.Sizes.length : Int)))), (26, .d (.lit (.int .i64 v14))), (32, .d (.lit (.bool (decide (x33 < 0)))))] [(1, some (.box [.d (.sl (a0.Sizes.map (cI .i64))), .d (.sl (a0.Selectivities.map cS115))]))]) Sub.tt ?_
      replace h := isome h; rcases h with ⟨c37, h⟩ | ⟨c37, h⟩
      ·have c37_ : decide (x33 < 0) = true := decide_eq_true c37
       refine Chain.sub (Sub.bool 32 (b := decide (x33 < 0)) rfl c37_) ?_
       refine Chain.sub (S' := mk 73 [] [(1, .ptr 1 0 0), (4, .d (.lit (.int .i64 x33))), (24, .d (.sl (a0.Sizes.map (cI .i64)))), (25, .d (.lit (.int .i64 (a0.Sizes.length : Int)))), (26, .d (.lit (.int .i64 v14))), (32, .d (.lit (.bool true)))] [(1, some (.box [.d (.sl (a0.Sizes.map (cI .i64))), .d (.sl (a0.Selectivities.map cS115))]))]) (by simp; exact Sub.table (by simp) (by simp)) ?_
       refine Chain.runK [] 3 fun K hK => ?_; simp; refine hK _ _ ?_; clear hK K
       refine Chain.sub (S' := mk 73 [] [(1, .ptr 1 0 0), (24, .d (.sl (a0.Sizes.map (cI .i64)))), (25, .d (.lit (.int .i64 (a0.Sizes.length : Int)))), (26, .d (.lit (.int .i64 v14))), (33, .tup []), (34, .tup []), (35, .d (.lit (.bool true)))] [(1, some (.box [.d (.sl (a0.Sizes.map (cI .i64))), .d (.sl (a0.Selectivities.map cS115))]))]) Sub.tt ?_
       cases h
       exact Chain.nil Sub.tt
      ·have c37_ : decide (x33 < 0) = false := decide_eq_false c37
       refine Chain.sub (Sub.bool 32 (b := decide (x33 < 0)) rfl c37_) ?_
       refine Chain.sub (S' := mk 73 [] [(1, .ptr 1 0 0), (4, .d (.lit (.int .i64 x33))), (24, .d (.sl (a0.Sizes.map (cI .i64)))), (25, .d (.lit (.int .i64 (a0.Sizes.length : Int)))), (26, .d (.lit (.int .i64 v14))), (32, .d (.lit (.bool false)))] [(1, some (.box [.d (.sl (a0.Sizes.map (cI .i64))), .d (.sl (a0.Selectivities.map cS115))]))]) (by simp; exact Sub.table (by simp) (by simp)) ?_
       refine Chain.runK [] 3 fun K hK => ?_; simp; refine hK _ _ ?_; clear hK K
       refine Chain.sub (S' := mk 73 [] [(1, .ptr 1 0 0), (24, .d (.sl (a0.Sizes.map (cI .i64)))), (25, .d (.lit (.int .i64 (a0.Sizes.length : Int)))), (26, .d (.lit (.int .i64 v14))), (33, .d (.lit (.int .i64 x33))), (34, .d (.lit (.bool (decide (x33 > 1073741824))))), (35, .d (.lit (.bool (decide (x33 > 1073741824)))))] [(1, some (.box [.d (.sl (a0.Sizes.map (cI .i64))), .d (.sl (a0.Selectivities.map cS115))]))]) Sub.tt ?_
       cases h
       exact Chain.nil Sub.tt
     ·clear hj
      replace h := isome h; rcases h with ⟨c38, h⟩ | ⟨c38, h⟩
      ·have c38_ : v36 = true := c38
       refine AW.condT (b := v36) rfl c38_ ?_
       refine AW.sub (Sub.bool 35 (b := v36) rfl c38_) ?_
       refine AW.sub (S' := mk 73 [] [(1, .ptr 1 0 0), (24, .d (.sl (a0.Sizes.map (cI .i64)))), (25, .d (.lit (.int .i64 (a0.Sizes.length : Int)))), (26, .d (.lit (.int .i64 v14))), (35, .d (.lit (.bool true)))] [(1, some (.box [.d (.sl (a0.Sizes.map (cI .i64))), .d (.sl (a0.Selectivities.map cS115))]))]) (by simp; exact Sub.table (by simp) (by simp)) ?_
       refine AW.seqR ?_
       refine Chain.runK [] 1 fun K hK => ?_; simp; refine hK _ _ ?_; clear hK K
       refine Chain.sub (S' := mk 73 [] [(2, .d (.lit (.int .i64 1)))] []) Sub.tt ?_
       refine Chain.nil ?_
       refine AW.ret ?_
       cases h
       refine blockQ.ret ?_
       refine thenQ_pass (by simp) ?_
       refine PostI.out (by simp) ?_
       rintro rfl
       refine blockQ.ret ?_
       refine PostJ.out (by simp) ?_
       rintro rfl
       refine thenQ_pass (by simp) ?_
       exact FinC.ret (by simp) (by simp)
      ·have c38_ : v36 = false := Bool.eq_false_iff.2 c38
       refine AW.condF (b := v36) rfl c38_ ?_
       refine AW.sub (Sub.bool 35 (b := v36) rfl c38_) ?_
       refine AW.sub (S' := mk 73 [] [(1, .ptr 1 0 0), (24, .d (.sl (a0.Sizes.map (cI .i64)))), (25, .d (.lit (.int .i64 (a0.Sizes.length : Int)))), (26, .d (.lit (.int .i64 v14))), (35, .d (.lit (.bool false)))] [(1, some (.box [.d (.sl (a0.Sizes.map (cI .i64))), .d (.sl (a0.Selectivities.map cS115))]))]) (by simp; exact Sub.table (by simp) (by simp)) ?_
       refine AW.skip ?_
       refine blockQ.normal ?_
       refine thenQ_normal ?_
       refine AW.region ?_
       replace h := bsome h; obtain ⟨v39, hv39, h⟩ := h
       have hv39 := chkI_some hv39
       refine Chain.runK [] 2 fun K hK => ?_; simp [hv39]; refine hK _ _ ?_; clear hK K
       refine Chain.sub (S' := mk 73 [] [(1, .ptr 1 0 0), (24, .d (.sl (a0.Sizes.map (cI .i64)))), (25, .d (.lit (.int .i64 (a0.Sizes.length : Int)))), (26, .d (.lit (.int .i64 v39)))] [(1, some (.box [.d (.sl (a0.Sizes.map (cI .i64))), .d (.sl (a0.Selectivities.map cS115))]))]) Sub.tt ?_
       refine Chain.nil ?_
       cases h
       refine PostI.next ?_
       exact Sub.tt
    ·have c32_ : decide (v14 < (a0.Sizes.length : Int)) = false := decide_eq_false c32
     refine AW.condF (b := decide (v14 < (a0.Sizes.length : Int))) rfl c32_ ?_
     refine AW.sub (Sub.bool 27 (b := decide (v14 < (a0.Sizes.length : Int))) rfl c32_) ?_
     refine AW.sub (S' := mk 73 [] [(1, .ptr 1 0 0), (24, .d (.sl (a0.Sizes.map (cI .i64)))), (25, .d (.lit (.int .i64 (a0.Sizes.length : Int)))), (26, .d (.lit (.int .i64 v14))), (27, .d (.lit (.bool false)))] [(1, some (.box [.d (.sl (a0.Sizes.map (cI .i64))), .d (.sl (a0.Selectivities.map cS115))]))]) (by simp; exact Sub.table (by simp) (by simp)) ?_
     refine AW.exit ?_
     cases h
     refine thenQ_pass (by simp) ?_
     refine PostI.out (by simp) ?_
     rintro rfl
     refine blockQ.hit ?_
     refine PostJ.next ?_
     exact Sub.tt
   ·rintro ⟨⟩ h
    refine thenQ_normal ?_
    refine AW.seq ?_
    refine AW.seqR ?_
    refine Chain.runK [] 4 fun K hK => ?_; simp; refine hK _ _ ?_; clear hK K
    refine Chain.sub (S' := mk 73 [] [(1, .ptr 1 0 0), (38, .d (.sl (a0.Selectivities.map cS115))), (39, .d (.lit (.int .i64 (a0.Selectivities.length : Int)))), (40, .d (.lit (.int .i64 0)))] [(1, some (.box [.d (.sl (a0.Sizes.map (cI .i64))), .d (.sl (a0.Selectivities.map cS115))]))]) Sub.tt ?_
    refine Chain.nil ?_
    refine AW.lastJ (fun (_ : Unit) => mk 73 [] [] []) h ?_ ?_ <;> clear h
    ·intro o h
     refine AW.block ?_
     refine AW.iter (fun (v53 : Int) => mk 73 [] [(1, .ptr 1 0 0), (38, .d (.sl (a0.Selectivities.map cS115))), (39, .d (.lit (.int .i64 (a0.Selectivities.length : Int)))), (40, .d (.lit (.int .i64 v53)))] [(1, some (.box [.d (.sl (a0.Sizes.map (cI .i64))), .d (.sl (a0.Selectivities.map cS115))]))]) h Sub.tt ?_
     clear h
     rintro v53 x h
     refine AW.seqR ?_
     refine Chain.runK [] 1 fun K hK => ?_; simp; refine hK _ _ ?_; clear hK K
     refine Chain.sub (S' := mk 73 [] [(1, .ptr 1 0 0), (38, .d (.sl (a0.Selectivities.map cS115))), (39, .d (.lit (.int .i64 (a0.Selectivities.length : Int)))), (40, .d (.lit (.int .i64 v53))), (41, .d (.lit (.bool (decide (v53 < (a0.Selectivities.length : Int))))))] [(1, some (.box [.d (.sl (a0.Sizes.map (cI .i64))), .d (.sl (a0.Selectivities.map cS115))]))]) Sub.tt ?_
     refine Chain.nil ?_
     refine AW.seq ?_
     replace h := isome h; rcases h with ⟨c83, h⟩ | ⟨c83, h⟩
     ·have c83_ : decide (v53 < (a0.Selectivities.length : Int)) = true := decide_eq_true c83
      refine AW.condT (b := decide (v53 < (a0.Selectivities.length : Int))) rfl c83_ ?_
      refine AW.sub (Sub.bool 41 (b := decide (v53 < (a0.Selectivities.length : Int))) rfl c83_) ?_
      refine AW.sub (S' := mk 73 [] [(1, .ptr 1 0 0), (38, .d (.sl (a0.Selectivities.map cS115))), (39, .d (.lit (.int .i64 (a0.Selectivities.length : Int)))), (40, .d (.lit (.int .i64 v53))), (41, .d (.lit (.bool true)))] [(1, some (.box [.d (.sl (a0.Sizes.map (cI .i64))), .d (.sl (a0.Selectivities.map cS115))]))]) (by simp; exact Sub.table (by simp) (by simp)) ?_
      refine AW.skip ?_
      refine thenQ_normal ?_
      refine AW.seq ?_
      refine AW.block ?_
      refine AW.seqR ?_
      replace h := bsome h; obtain ⟨x84, hx84, h⟩ := h
      obtain ⟨k85, hx84k, hx84, hx84a, hx84b⟩ := idx_some hx84
      refine Chain.runK [] 4 fun K hK => ?_; simp [hx84, hx84k, hx84a]; refine hK _ _ ?_; clear hK K
      refine Chain.sub (S' := mk 73 [] [(1, .ptr 1 0 0), (6, .ptr 6 0 0), (38, .d (.sl (a0.Selectivities.map cS115))), (39, .d (.lit (.int .i64 (a0.Selectivities.length : Int)))), (40, .d (.lit (.int .i64 v53)))] [(1, some (.box [.d (.sl (a0.Sizes.map (cI .i64))), .d (.sl (a0.Selectivities.map cS115))])), (6, some (.box [.d (.lit (.int .i64 x84.A)), .d (.lit (.int .i64 x84.B)), .d (.lit (.int .i64 x84.Divisor))]))]) Sub.tt ?_
      refine Chain.nil ?_
      replace h := bsome h; obtain ⟨v90, hj, h⟩ := h
      refine AW.cutR (mk 73 [] [(1, .ptr 1 0 0), (38, .d (.sl (a0.Selectivities.map cS115))), (39, .d (.lit (.int .i64 (a0.Selectivities.length : Int)))), (40, .d (.lit (.int .i64 v53))), (71, .d (.lit (.bool v90)))] [(1, some (.box [.d (.sl (a0.Sizes.map (cI .i64))), .d (.sl (a0.Selectivities.map cS115))]))]) ?_ ?_
      ·clear h; have h := hj; clear hj
       refine Chain.runK [] 4 fun K hK => ?_; simp; refine hK _ _ ?_; clear hK K
       refine Chain.sub (S' := mk 73 [] [(1, .ptr 1 0 0), (6, .ptr 6 0 0), (38, .d (.sl (a0.Selectivities.map cS115))), (39, .d (.lit (.int .i64 (a0.Selectivities.length : Int)))), (40, .d (.lit (.int .i64 v53))), (47, .d (.lit (.bool (decide (x84.A < 0)))))] [(1, some (.box [.d (.sl (a0.Sizes.map (cI .i64))), .d (.sl (a0.Selectivities.map cS115))])), (6, some (.box [.d (.lit (.int .i64 x84.A)), .d (.lit (.int .i64 x84.B)), .d (.lit (.int .i64 x84.Divisor))]))]) Sub.tt ?_
       replace h := isome h; rcases h with ⟨c91, h⟩ | ⟨c91, h⟩
       ·have c91_ : decide (x84.A < 0) = true := decide_eq_true c91
        refine Chain.sub (Sub.bool 47 (b := decide (x84.A < 0)) rfl c91_) ?_
        refine Chain.sub (S' := mk 73 [] [(1, .ptr 1 0 0), (6, .ptr 6 0 0), (38, .d (.sl (a0.Selectivities.map cS115))), (39, .d (.lit (.int .i64 (a0.Selectivities.length : Int)))), (40, .d (.lit (.int .i64 v53))), (47, .d (.lit (.bool true)))] [(1, some (.box [.d (.sl (a0.Sizes.map (cI .i64))), .d (.sl (a0.Selectivities.map cS115))])), (6, some (.box [.d (.lit (.int .i64 x84.A)), .d (.lit (.int .i64 x84.B)), .d (.lit (.int .i64 x84.Divisor))]))]) (by simp; exact Sub.table (by simp) (by simp)) ?_
        refine Chain.runK [] 24 fun K hK => ?_; simp; refine hK _ _ ?_; clear hK K
        refine Chain.sub (S' := mk 73 [] [(1, .ptr 1 0 0), (38, .d (.sl (a0.Selectivities.map cS115))), (39, .d (.lit (.int .i64 (a0.Selectivities.length : Int)))), (40, .d (.lit (.int .i64 v53))), (48, .tup []), (49, .tup []), (50, .tup []), (51, .tup []), (52, .tup []), (55, .tup []), (56, .tup []), (57, .tup []), (58, .tup []), (59, .tup []), (60, .tup []), (63, .tup []), (64, .tup []), (65, .tup []), (68, .tup []), (69, .tup []), (70, .tup []), (71, .d (.lit (.bool true)))] [(1, some (.box [.d (.sl (a0.Sizes.map (cI .i64))), .d (.sl (a0.Selectivities.map cS115))]))]) Sub.tt ?_
        cases h
        exact Chain.nil Sub.tt
       ·have c91_ : decide (x84.A < 0) = false := decide_eq_false c91
        refine Chain.sub (Sub.bool 47 (b := decide (x84.A < 0)) rfl c91_) ?_
        refine Chain.sub (S' := mk 73 [] [(1, .ptr 1 0 0), (6, .ptr 6 0 0), (38, .d (.sl (a0.Selectivities.map cS115))), (39, .d (.lit (.int .i64 (a0.Selectivities.length : Int)))), (40, .d (.lit (.int .i64 v53))), (47, .d (.lit (.bool false)))] [(1, some (.box [.d (.sl (a0.Sizes.map (cI .i64))), .d (.sl (a0.Selectivities.map cS115))])), (6, some (.box [.d (.lit (.int .i64 x84.A)), .d (.lit (.int .i64 x84.B)), .d (.lit (.int .i64 x84.Divisor))]))]) (by simp; exact Sub.table (by simp) (by simp)) ?_
        refine Chain.runK [] 7 fun K hK => ?_; simp; refine hK _ _ ?_; clear hK K
        refine Chain.sub (S' := mk 73 [] [(1, .ptr 1 0 0), (6, .ptr 6 0 0), (38, .d (.sl (a0.Selectivities.map cS115))), (39, .d (.lit (.int .i64 (a0.Selectivities.length : Int)))), (40, .d (.lit (.int .i64 v53))), (48, .ptr 6 0 0), (49, .d (.lit (.int .i64 x84.A))), (50, .ptr 6 0 1), (51, .d (.lit (.int .i64 x84.B))), (52, .d (.lit (.bool (decide (x84.A ≥ x84.B))))), (54, .d (.lit (.bool (decide (x84.A ≥ x84.B)))))] [(1, some (.box [.d (.sl (a0.Sizes.map (cI .i64))), .d (.sl (a0.Selectivities.map cS115))])), (6, some (.box [.d (.lit (.int .i64 x84.A)), .d (.lit (.int .i64 x84.B)), .d (.lit (.int .i64 x84.Divisor))]))]) Sub.tt ?_
        replace h := isome h; rcases h with ⟨c92, h⟩ | ⟨c92, h⟩
        ·have c92_ : decide (x84.A ≥ x84.B) = true := decide_eq_true c92
         refine Chain.sub (Sub.bool 52 (b := decide (x84.A ≥ x84.B)) rfl c92_) ?_
         refine Chain.sub (Sub.bool 54 (b := decide (x84.A ≥ x84.B)) rfl c92_) ?_
         refine Chain.sub (S' := mk 73 [] [(1, .ptr 1 0 0), (6, .ptr 6 0 0), (38, .d (.sl (a0.Selectivities.map cS115))), (39, .d (.lit (.int .i64 (a0.Selectivities.length : Int)))), (40, .d (.lit (.int .i64 v53))), (48, .ptr 6 0 0), (49, .d (.lit (.int .i64 x84.A))), (50, .ptr 6 0 1), (51, .d (.lit (.int .i64 x84.B))), (52, .d (.lit (.bool true))), (54, .d (.lit (.bool true)))] [(1, some (.box [.d (.sl (a0.Sizes.map (cI .i64))), .d (.sl (a0.Selectivities.map cS115))])), (6, some (.box [.d (.lit (.int .i64 x84.A)), .d (.lit (.int .i64 x84.B)), .d (.lit (.int .i64 x84.Divisor))]))]) (by simp; exact Sub.table (by simp) (by simp)) ?_
         refine Chain.runK [] 17 fun K hK => ?_; simp; refine hK _ _ ?_; clear hK K
         refine Chain.sub (S' := mk 73 [] [(1, .ptr 1 0 0), (38, .d (.sl (a0.Selectivities.map cS115))), (39, .d (.lit (.int .i64 (a0.Selectivities.length : Int)))), (40, .d (.lit (.int .i64 v53))), (48, .ptr 6 0 0), (49, .d (.lit (.int .i64 x84.A))), (50, .ptr 6 0 1), (51, .d (.lit (.int .i64 x84.B))), (52, .d (.lit (.bool true))), (55, .tup []), (56, .tup []), (57, .tup []), (58, .tup []), (59, .tup []), (60, .tup []), (63, .tup []), (64, .tup []), (65, .tup []), (68, .tup []), (69, .tup []), (70, .tup []), (71, .d (.lit (.bool true)))] [(1, some (.box [.d (.sl (a0.Sizes.map (cI .i64))), .d (.sl (a0.Selectivities.map cS115))])), (6, some (.box [.d (.lit (.int .i64 x84.A)), .d (.lit (.int .i64 x84.B)), .d (.lit (.int .i64 x84.Divisor))]))]) Sub.tt ?_
         cases h
         exact Chain.nil Sub.tt
        ·have c92_ : decide (x84.A ≥ x84.B) = false := decide_eq_false c92
         refine Chain.sub (Sub.bool 52 (b := decide (x84.A ≥ x84.B)) rfl c92_) ?_
         refine Chain.sub (Sub.bool 54 (b := decide (x84.A ≥ x84.B)) rfl c92_) ?_
         refine Chain.sub (S' := mk 73 [] [(1, .ptr 1 0 0), (6, .ptr 6 0 0), (38, .d (.sl (a0.Selectivities.map cS115))), (39, .d (.lit (.int .i64 (a0.Selectivities.length : Int)))), (40, .d (.lit (.int .i64 v53))), (48, .ptr 6 0 0), (49, .d (.lit (.int .i64 x84.A))), (50, .ptr 6 0 1), (51, .d (.lit (.int .i64 x84.B))), (52, .d (.lit (.bool false))), (54, .d (.lit (.bool false)))] [(1, some (.box [.d (.sl (a0.Sizes.map (cI .i64))), .d (.sl (a0.Selectivities.map cS115))])), (6, some (.box [.d (.lit (.int .i64 x84.A)), .d (.lit (.int .i64 x84.B)), .d (.lit (.int .i64 x84.Divisor))]))]) (by simp; exact Sub.table (by simp) (by simp)) ?_
         refine Chain.runK [] 8 fun K hK => ?_; simp; refine hK _ _ ?_; clear hK K
         refine Chain.sub (S' := mk 73 [] [(1, .ptr 1 0 0), (6, .ptr 6 0 0), (38, .d (.sl (a0.Selectivities.map cS115))), (39, .d (.lit (.int .i64 (a0.Selectivities.length : Int)))), (40, .d (.lit (.int .i64 v53))), (48, .ptr 6 0 0), (49, .d (.lit (.int .i64 x84.A))), (50, .ptr 6 0 1), (51, .d (.lit (.int .i64 x84.B))), (52, .d (.lit (.bool false))), (55, .ptr 6 0 1), (56, .d (.lit (.int .i64 x84.B))), (57, .ptr 1 0 0), (58, .d (.sl (a0.Sizes.map (cI .i64)))), (59, .d (.lit (.int .i64 (a0.Sizes.length : Int)))), (60, .d (.lit (.bool (decide (x84.B ≥ (a0.Sizes.length : Int)))))), (62, .d (.lit (.bool (decide (x84.B ≥ (a0.Sizes.length : Int))))))] [(1, some (.box [.d (.sl (a0.Sizes.map (cI .i64))), .d (.sl (a0.Selectivities.map cS115))])), (6, some (.box [.d (.lit (.int .i64 x84.A)), .d (.lit (.int .i64 x84.B)), .d (.lit (.int .i64 x84.Divisor))]))]) Sub.tt ?_
         replace h := isome h; rcases h with ⟨c93, h⟩ | ⟨c93, h⟩
         ·have c93_ : decide (x84.B ≥ (a0.Sizes.length : Int)) = true := decide_eq_true c93
          refine Chain.sub (Sub.bool 60 (b := decide (x84.B ≥ (a0.Sizes.length : Int))) rfl c93_) ?_
          refine Chain.sub (Sub.bool 62 (b := decide (x84.B ≥ (a0.Sizes.length : Int))) rfl c93_) ?_
          refine Chain.sub (S' := mk 73 [] [(1, .ptr 1 0 0), (6, .ptr 6 0 0), (38, .d (.sl (a0.Selectivities.map cS115))), (39, .d (.lit (.int .i64 (a0.Selectivities.length : Int)))), (40, .d (.lit (.int .i64 v53))), (48, .ptr 6 0 0), (49, .d (.lit (.int .i64 x84.A))), (50, .ptr 6 0 1), (51, .d (.lit (.int .i64 x84.B))), (52, .d (.lit (.bool false))), (55, .ptr 6 0 1), (56, .d (.lit (.int .i64 x84.B))), (57, .ptr 1 0 0), (58, .d (.sl (a0.Sizes.map (cI .i64)))), (59, .d (.lit (.int .i64 (a0.Sizes.length : Int)))), (60, .d (.lit (.bool true))), (62, .d (.lit (.bool true)))] [(1, some (.box [.d (.sl (a0.Sizes.map (cI .i64))), .d (.sl (a0.Selectivities.map cS115))])), (6, some (.box [.d (.lit (.int .i64 x84.A)), .d (.lit (.int .i64 x84.B)), .d (.lit (.int .i64 x84.Divisor))]))]) (by simp; exact Sub.table (by simp) (by simp)) ?_
          refine Chain.runK [] 9 fun K hK => ?_; simp; refine hK _ _ ?_; clear hK K
          refine Chain.sub (S' := mk 73 [] [(1, .ptr 1 0 0), (38, .d (.sl (a0.Selectivities.map cS115))), (39, .d (.lit (.int .i64 (a0.Selectivities.length : Int)))), (40, .d (.lit (.int .i64 v53))), (48, .ptr 6 0 0), (49, .d (.lit (.int .i64 x84.A))), (50, .ptr 6 0 1), (51, .d (.lit (.int .i64 x84.B))), (52, .d (.lit (.bool false))), (55, .ptr 6 0 1), (56, .d (.lit (.int .i64 x84.B))), (57, .ptr 1 0 0), (58, .d (.sl (a0.Sizes.map (cI .i64)))), (59, .d (.lit (.int .i64 (a0.Sizes.length : Int)))), (60, .d (.lit (.bool true))), (63, .tup []), (64, .tup []), (65, .tup []), (68, .tup []), (69, .tup []), (70, .tup []), (71, .d (.lit (.bool true)))] [(1, some (.box [.d (.sl (a0.Sizes.map (cI .i64))), .d (.sl (a0.Selectivities.map cS115))])), (6, some (.box [.d (.lit (.int .i64 x84.A)), .d (.lit (.int .i64 x84.B)), .d (.lit (.int .i64 x84.Divisor))]))]) Sub.tt ?_
          cases h
          exact Chain.nil Sub.tt
         ·have c93_ : decide (x84.B ≥ (a0.Sizes.length : Int)) = false := decide_eq_false c93
          refine Chain.sub (Sub.bool 60 (b := decide (x84.B ≥ (a0.Sizes.length : Int))) rfl c93_) ?_
          refine Chain.sub (Sub.bool 62 (b := decide (x84.B ≥ (a0.Sizes.length : Int))) rfl c93_) ?_
          refine Chain.sub (S' := mk 73 [] [(1, .ptr 1 0 0), (6, .ptr 6 0 0), (38, .d (.sl (a0.Selectivities.map cS115))), (39, .d (.lit (.int .i64 (a0.Selectivities.length : Int)))), (40, .d (.lit (.int .i64 v53))), (48, .ptr 6 0 0), (49, .d (.lit (.int .i64 x84.A))), (50, .ptr 6 0 1), (51, .d (.lit (.int .i64 x84.B))), (52, .d (.lit (.bool false))), (55, .ptr 6 0 1), (56, .d (.lit (.int .i64 x84.B))), (57, .ptr 1 0 0), (58, .d (.sl (a0.Sizes.map (cI .i64)))), (59, .d (.lit (.int .i64 (a0.Sizes.length : Int)))), (60, .d (.lit (.bool false))), (62, .d (.lit (.bool false)))] [(1, some (.box [.d (.sl (a0.Sizes.map (cI .i64))), .d (.sl (a0.Selectivities.map cS115))])), (6, some (.box [.d (.lit (.int .i64 x84.A)), .d (.lit (.int .i64 x84.B)), .d (.lit (.int .i64 x84.Divisor))]))]) (by simp; exact Sub.table (by simp) (by simp)) ?_
          refine Chain.runK [] 5 fun K hK => ?_; simp; refine hK _ _ ?_; clear hK K
          refine Chain.sub (S' := mk 73 [] [(1, .ptr 1 0 0), (6, .ptr 6 0 0), (38, .d (.sl (a0.Selectivities.map cS115))), (39, .d (.lit (.int .i64 (a0.Selectivities.length : Int)))), (40, .d (.lit (.int .i64 v53))), (48, .ptr 6 0 0), (49, .d (.lit (.int .i64 x84.A))), (50, .ptr 6 0 1), (51, .d (.lit (.int .i64 x84.B))), (52, .d (.lit (.bool false))), (55, .ptr 6 0 1), (56, .d (.lit (.int .i64 x84.B))), (57, .ptr 1 0 0), (58, .d (.sl (a0.Sizes.map (cI .i64)))), (59, .d (.lit (.int .i64 (a0.Sizes.length : Int)))), (60, .d (.lit (.bool false))), (63, .ptr 6 0 2), (64, .d (.lit (.int .i64 x84.Divisor))), (65, .d (.lit (.bool (decide (x84.Divisor < 1))))), (67, .d (.lit (.bool (decide (x84.Divisor < 1)))))] [(1, some (.box [.d (.sl (a0.Sizes.map (cI .i64))), .d (.sl (a0.Selectivities.map cS115))])), (6, some (.box [.d (.lit (.int .i64 x84.A)), .d (.lit (.int .i64 x84.B)), .d (.lit (.int .i64 x84.Divisor))]))]) Sub.tt ?_
          replace h := isome h; rcases h with ⟨c94, h⟩ | ⟨c94, h⟩
          ·have c94_ : decide (x84.Divisor < 1) = true := decide_eq_true c94
           refine Chain.sub (Sub.bool 65 (b := decide (x84.Divisor < 1)) rfl c94_) ?_
           refine Chain.sub (Sub.bool 67 (b := decide (x84.Divisor < 1)) rfl c94_) ?_
           refine Chain.sub (S' := mk 73 [] [(1, .ptr 1 0 0), (6, .ptr 6 0 0), (38, .d (.sl (a0.Selectivities.map cS115))), (39, .d (.lit (.int .i64 (a0.Selectivities.length : Int)))), (40, .d (.lit (.int .i64 v53))), (48, .ptr 6 0 0), (49, .d (.lit (.int .i64 x84.A))), (50, .ptr 6 0 1), (51, .d (.lit (.int .i64 x84.B))), (52, .d (.lit (.bool false))), (55, .ptr 6 0 1), (56, .d (.lit (.int .i64 x84.B))), (57, .ptr 1 0 0), (58, .d (.sl (a0.Sizes.map (cI .i64)))), (59, .d (.lit (.int .i64 (a0.Sizes.length : Int)))), (60, .d (.lit (.bool false))), (63, .ptr 6 0 2), (64, .d (.lit (.int .i64 x84.Divisor))), (65, .d (.lit (.bool true))), (67, .d (.lit (.bool true)))] [(1, some (.box [.d (.sl (a0.Sizes.map (cI .i64))), .d (.sl (a0.Selectivities.map cS115))])), (6, some (.box [.d (.lit (.int .i64 x84.A)), .d (.lit (.int .i64 x84.B)), .d (.lit (.int .i64 x84.Divisor))]))]) (by simp; exact Sub.table (by simp) (by simp)) ?_
           refine Chain.runK [] 4 fun K hK => ?_; simp; refine hK _ _ ?_; clear hK K
           refine Chain.sub (S' := mk 73 [] [(1, .ptr 1 0 0), (38, .d (.sl (a0.Selectivities.map cS115))), (39, .d (.lit (.int .i64 (a0.Selectivities.length : Int)))), (40, .d (.lit (.int .i64 v53))), (48, .ptr 6 0 0), (49, .d (.lit (.int .i64 x84.A))), (50, .ptr 6 0 1), (51, .d (.lit (.int .i64 x84.B))), (52, .d (.lit (.bool false))), (55, .ptr 6 0 1), (56, .d (.lit (.int .i64 x84.B))), (57, .ptr 1 0 0), (58, .d (.sl (a0.Sizes.map (cI .i64)))), (59, .d (.lit (.int .i64 (a0.Sizes.length : Int)))), (60, .d (.lit (.bool false))), (63, .ptr 6 0 2), (64, .d (.lit (.int .i64 x84.Divisor))), (65, .d (.lit (.bool true))), (68, .tup []), (69, .tup []), (70, .tup []), (71, .d (.lit (.bool true)))] [(1, some (.box [.d (.sl (a0.Sizes.map (cI .i64))), .d (.sl (a0.Selectivities.map cS115))])), (6, some (.box [.d (.lit (.int .i64 x84.A)), .d (.lit (.int .i64 x84.B)), .d (.lit (.int .i64 x84.Divisor))]))]) Sub.tt ?_
           cases h
           exact Chain.nil Sub.tt
          ·have c94_ : decide (x84.Divisor < 1) = false := decide_eq_false c94
           refine Chain.sub (Sub.bool 65 (b := decide (x84.Divisor < 1)) rfl c94_) ?_
           refine Chain.sub (Sub.bool 67 (b := decide (x84.Divisor < 1)) rfl c94_) ?_
           refine Chain.sub (S' := mk 73 [] [(1, .ptr 1 0 0), (6, .ptr 6 0 0), (38, .d (.sl (a0.Selectivities.map cS115))), (39, .d (.lit (.int .i64 (a0.Selectivities.length : Int)))), (40, .d (.lit (.int .i64 v53))), (48, .ptr 6 0 0), (49, .d (.lit (.int .i64 x84.A))), (50, .ptr 6 0 1), (51, .d (.lit (.int .i64 x84.B))), (52, .d (.lit (.bool false))), (55, .ptr 6 0 1), (56, .d (.lit (.int .i64 x84.B))), (57, .ptr 1 0 0), (58, .d (.sl (a0.Sizes.map (cI .i64)))), (59, .d (.lit (.int .i64 (a0.Sizes.length : Int)))), (60, .d (.lit (.bool false))), (63, .ptr 6 0 2), (64, .d (.lit (.int .i64 x84.Divisor))), (65, .d (.lit (.bool false))), (67, .d (.lit (.bool false)))] [(1, some (.box [.d (.sl (a0.Sizes.map (cI .i64))), .d (.sl (a0.Selectivities.map cS115))])), (6, some (.box [.d (.lit (.int .i64 x84.A)), .d (.lit (.int .i64 x84.B)), .d (.lit (.int .i64 x84.Divisor))]))]) (by simp; exact Sub.table (by simp) (by simp)) ?_
           refine Chain.runK [] 4 fun K hK => ?_; simp; refine hK _ _ ?_; clear hK K
           refine Chain.sub (S' := mk 73 [] [(1, .ptr 1 0 0), (38, .d (.sl (a0.Selectivities.map cS115))), (39, .d (.lit (.int .i64 (a0.Selectivities.length : Int)))), (40, .d (.lit (.int .i64 v53))), (48, .ptr 6 0 0), (49, .d (.lit (.int .i64 x84.A))), (50, .ptr 6 0 1), (51, .d (.lit (.int .i64 x84.B))), (52, .d (.lit (.bool false))), (55, .ptr 6 0 1), (56, .d (.lit (.int .i64 x84.B))), (57, .ptr 1 0 0), (58, .d (.sl (a0.Sizes.map (cI .i64)))), (59, .d (.lit (.int .i64 (a0.Sizes.length : Int)))), (60, .d (.lit (.bool false))), (63, .ptr 6 0 2), (64, .d (.lit (.int .i64 x84.Divisor))), (65, .d (.lit (.bool false))), (68, .ptr 6 0 2), (69, .d (.lit (.int .i64 x84.Divisor))), (70, .d (.lit (.bool (decide (x84.Divisor > 1073741824))))), (71, .d (.lit (.bool (decide (x84.Divisor > 1073741824)))))] [(1, some (.box [.d (.sl (a0.Sizes.map (cI .i64))), .d (.sl (a0.Selectivities.map cS115))])), (6, some (.box [.d (.lit (.int .i64 x84.A)), .d (.lit (.int .i64 x84.B)), .d (.lit (.int .i64 x84.Divisor))]))]) Sub.tt ?_
           cases h
           exact Chain.nil Sub.tt
      ·clear hj
       replace h := isome h; rcases h with ⟨c95, h⟩ | ⟨c95, h⟩
       ·have c95_ : v90 = true := c95
        refine AW.condT (b := v90) rfl c95_ ?_
        refine AW.sub (Sub.bool 71 (b := v90) rfl c95_) ?_
        refine AW.sub (S' := mk 73 [] [(1, .ptr 1 0 0), (38, .d (.sl (a0.Selectivities.map cS115))), (39, .d (.lit (.int .i64 (a0.Selectivities.length : Int)))), (40, .d (.lit (.int .i64 v53))), (71, .d (.lit (.bool true)))] [(1, some (.box [.d (.sl (a0.Sizes.map (cI .i64))), .d (.sl (a0.Selectivities.map cS115))]))]) (by simp; exact Sub.table (by simp) (by simp)) ?_
        refine AW.seqR ?_
        refine Chain.runK [] 1 fun K hK => ?_; simp; refine hK _ _ ?_; clear hK K
        refine Chain.sub (S' := mk 73 [] [(2, .d (.lit (.int .i64 1)))] []) Sub.tt ?_
        refine Chain.nil ?_
        refine AW.ret ?_
        cases h
        refine blockQ.ret ?_
        refine thenQ_pass (by simp) ?_
        refine PostI.out (by simp) ?_
        rintro rfl
        refine blockQ.ret ?_
        refine PostJ.out (by simp) ?_
        rintro rfl
        refine thenQ_pass (by simp) ?_
        exact FinC.ret (by simp) (by simp)
       ·have c95_ : v90 = false := Bool.eq_false_iff.2 c95
        refine AW.condF (b := v90) rfl c95_ ?_
        refine AW.sub (Sub.bool 71 (b := v90) rfl c95_) ?_
        refine AW.sub (S' := mk 73 [] [(1, .ptr 1 0 0), (38, .d (.sl (a0.Selectivities.map cS115))), (39, .d (.lit (.int .i64 (a0.Selectivities.length : Int)))), (40, .d (.lit (.int .i64 v53))), (71, .d (.lit (.bool false)))] [(1, some (.box [.d (.sl (a0.Sizes.map (cI .i64))), .d (.sl (a0.Selectivities.map cS115))]))]) (by simp; exact Sub.table (by simp) (by simp)) ?_
        refine AW.skip ?_
        refine blockQ.normal ?_
        refine thenQ_normal ?_
        refine AW.region ?_
        replace h := bsome h; obtain ⟨v96, hv96, h⟩ := h
        have hv96 := chkI_some hv96
        refine Chain.runK [] 2 fun K hK => ?_; simp [hv96]; refine hK _ _ ?_; clear hK K
        refine Chain.sub (S' := mk 73 [] [(1, .ptr 1 0 0), (38, .d (.sl (a0.Selectivities.map cS115))), (39, .d (.lit (.int .i64 (a0.Selectivities.length : Int)))), (40, .d (.lit (.int .i64 v96)))] [(1, some (.box [.d (.sl (a0.Sizes.map (cI .i64))), .d (.sl (a0.Selectivities.map cS115))]))]) Sub.tt ?_
        refine Chain.nil ?_
        cases h
        refine PostI.next ?_
        exact Sub.tt
     ·have c83_ : decide (v53 < (a0.Selectivities.length : Int)) = false := decide_eq_false c83
      refine AW.condF (b := decide (v53 < (a0.Selectivities.length : Int))) rfl c83_ ?_
      refine AW.sub (Sub.bool 41 (b := decide (v53 < (a0.Selectivities.length : Int))) rfl c83_) ?_
      refine AW.sub (S' := mk 73 [] [(1, .ptr 1 0 0), (38, .d (.sl (a0.Selectivities.map cS115))), (39, .d (.lit (.int .i64 (a0.Selectivities.length : Int)))), (40, .d (.lit (.int .i64 v53))), (41, .d (.lit (.bool false)))] [(1, some (.box [.d (.sl (a0.Sizes.map (cI .i64))), .d (.sl (a0.Selectivities.map cS115))]))]) (by simp; exact Sub.table (by simp) (by simp)) ?_
      refine AW.exit ?_
      cases h
      refine thenQ_pass (by simp) ?_
      refine PostI.out (by simp) ?_
      rintro rfl
      refine blockQ.hit ?_
      refine PostJ.next ?_
      exact Sub.tt
    ·rintro ⟨⟩ h
     refine thenQ_normal ?_
     refine AW.seqR ?_
     refine Chain.runK [] 1 fun K hK => ?_; simp; refine hK _ _ ?_; clear hK K
     refine Chain.sub (S' := mk 73 [] [(2, .d (.lit (.int .i64 0)))] []) Sub.tt ?_
     refine Chain.nil ?_
     refine AW.ret ?_
     cases h
     exact FinC.ret (by simp) (by simp)

end Go.Proofs.YtimkkjiplioohaaGreatDoor
