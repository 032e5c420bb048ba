/- Functions of the program as functional programs; the code computes them. -/
import Derived.Test.YtimkkjiplioohaaGreatDoorZd1
namespace Go.Proofs.YtimkkjiplioohaaGreatDoor
open Go.Ab Go.Rp
attribute [-simp] List.all_eq_true Array.all_toList Array.all_eq_true

/-- stemma/joinorder.LeafSet -/
def d15 : (N : Nat) → (a0 : S25) → (a1 : S28) → Option (Int × Bool)
 | 0, _, _ => none
 | N + 1, a0, a1 =>
  if ((a1.Children.length : Int) == 0) then (
   Option.bind (α := (Int × Bool)) (
    letv (minI a1.Leaf 8) fun v8 =>
    letv (maxI 0 v8) fun v9 =>
    (shiftB .i64 v9).bind fun _ =>
    letv (shlI .i64 1 v9) fun v10 =>
    if a1.Leaf ≥ 0 then (
     some (v10, decide (a1.Leaf < (a0.Sizes.length : Int)))
    ) else
    some (v10, false)
   ) fun ((v6, v7) : (Int × Bool)) =>
   some (v6, v7)
  ) else
  Option.bind (α := Bool) (
   if ((a1.Children.length : Int) != 2) then (
    some true
   ) else
   some (a1.Leaf != 0)
  ) fun (v13 : Bool) =>
  if v13 = true then (
   some (0, false)
  ) else
  (idx a1.Children 0).bind fun x16 =>
  (d15 N a0 x16).bind fun r17 =>
  (idx a1.Children 1).bind fun x18 =>
  (d15 N a0 x18).bind fun r19 =>
  Option.bind (α := (Int × Bool)) (
   letv (bitI .or .i64 r17.1 r19.1) fun v26 =>
   if r17.2 = true then (
    if r19.2 = true then (
     letv (bitI .and .i64 r17.1 r19.1) fun v29 =>
     some (v26, (v29 == 0))
    ) else
    some (v26, false)
   ) else
   some (v26, false)
  ) fun ((v24, v25) : (Int × Bool)) =>
  some (v24, v25)
set_option maxRecDepth 100000 in
set_option maxHeartbeats 4000000 in
theorem p15 (N : Nat) : ∀ (a0 : S25) (a1 : S28) (r : (Int × Bool)) (_ : d15 N a0 a1 = some r), FunC Tryz.prog 15 [.agg [.d (.sl (a0.Sizes.map (cI .i64))), .d (.sl (a0.Selectivities.map cS115))], .agg [.d (.lit (.int .i64 a1.Leaf)), .d (.sl (a1.Children.map cS28))]] (.tup [.d (.lit (.int .i64 r.1)), .d (.lit (.bool r.2))]) := by
 induction N with
 | zero => intro a0 a1 r h; cases h
 | succ N ih =>
 intro a0 a1 r h
 unfold d15 at h
 refine FunC.enter 70 [(0, .agg [.d (.sl (a0.Sizes.map (cI .i64))), .d (.sl (a0.Selectivities.map cS115))]), (1, .agg [.d (.lit (.int .i64 a1.Leaf)), .d (.sl (a1.Children.map cS28))])] (by simp) Tryz.func15 rfl (of_decide_eq_true rfl) rfl rfl ?_
 refine AW.seqR ?_
 refine Chain.runK [] 4 fun K hK => ?_; simp; refine hK _ _ ?_; clear hK K
 refine Chain.sub (S' := mk 70 [] [(2, .ptr 2 0 0), (3, .ptr 3 0 0)] [(2, some (.box [.d (.sl (a0.Sizes.map (cI .i64))), .d (.sl (a0.Selectivities.map cS115))])), (3, some (.box [.d (.lit (.int .i64 a1.Leaf)), .d (.sl (a1.Children.map cS28))]))]) Sub.tt ?_
 refine Chain.nil ?_
 refine AW.seq ?_
 refine AW.seqR ?_
 refine Chain.runK [] 4 fun K hK => ?_; simp; refine hK _ _ ?_; clear hK K
 refine Chain.sub (S' := mk 70 [] [(2, .ptr 2 0 0), (3, .ptr 3 0 0), (13, .d (.lit (.bool ((a1.Children.length : Int) == 0))))] [(2, some (.box [.d (.sl (a0.Sizes.map (cI .i64))), .d (.sl (a0.Selectivities.map cS115))])), (3, some (.box [.d (.lit (.int .i64 a1.Leaf)), .d (.sl (a1.Children.map cS28))]))]) Sub.tt ?_
 refine Chain.nil ?_
 replace h := isome h; rcases h with ⟨c1, h⟩ | ⟨c1, h⟩
 ·have c1_ : ((a1.Children.length : Int) == 0) = true := c1
  refine AW.condT (b := ((a1.Children.length : Int) == 0)) rfl c1_ ?_
  refine AW.sub (Sub.bool 13 (b := ((a1.Children.length : Int) == 0)) rfl c1_) ?_
  refine AW.sub (S' := mk 70 [] [(2, .ptr 2 0 0), (3, .ptr 3 0 0), (13, .d (.lit (.bool true)))] [(2, some (.box [.d (.sl (a0.Sizes.map (cI .i64))), .d (.sl (a0.Selectivities.map cS115))])), (3, some (.box [.d (.lit (.int .i64 a1.Leaf)), .d (.sl (a1.Children.map cS28))]))]) (by simp; exact Sub.table (by simp) (by simp)) ?_
  replace h := bsome h; obtain ⟨⟨v6, v7⟩, hj, h⟩ := h
  dsimp only at h
  refine AW.cutQ (by kernel_rfl) (by kernel_rfl) (mk 70 [] [(4, .d (.lit (.int .i64 v6))), (5, .d (.lit (.bool v7)))] []) ?_ ?_
  ·clear h; have h := hj; clear hj
   replace h := lsome h; obtain ⟨v8, hv8, h⟩ := h
   unfold minI at hv8
   replace h := lsome h; obtain ⟨v9, hv9, h⟩ := h
   unfold maxI at hv9
   replace h := bsome h; obtain ⟨_, gv10, h⟩ := h
   have hv10a := shiftB_some gv10
   try simp at hv10a
   replace h := lsome h; obtain ⟨v10, hv10, h⟩ := h
   refine Chain.runQ 9 fun K hK => ?_; simp [hv8, hv9, hv10a, hv10]; refine hK _ _ ?_; clear hK K
   refine Chain.sub (S' := mk 70 [] [(2, .ptr 2 0 0), (3, .ptr 3 0 0), (18, .d (.lit (.int .i64 v10))), (22, .d (.lit (.bool (decide (a1.Leaf ≥ 0)))))] [(2, some (.box [.d (.sl (a0.Sizes.map (cI .i64))), .d (.sl (a0.Selectivities.map cS115))])), (3, some (.box [.d (.lit (.int .i64 a1.Leaf)), .d (.sl (a1.Children.map cS28))]))]) Sub.tt ?_
   replace h := isome h; rcases h with ⟨c11, h⟩ | ⟨c11, h⟩
   ·have c11_ : decide (a1.Leaf ≥ 0) = true := decide_eq_true c11
    refine Chain.sub (Sub.bool 22 (b := decide (a1.Leaf ≥ 0)) rfl c11_) ?_
    refine Chain.sub (S' := mk 70 [] [(2, .ptr 2 0 0), (3, .ptr 3 0 0), (18, .d (.lit (.int .i64 v10))), (22, .d (.lit (.bool true)))] [(2, some (.box [.d (.sl (a0.Sizes.map (cI .i64))), .d (.sl (a0.Selectivities.map cS115))])), (3, some (.box [.d (.lit (.int .i64 a1.Leaf)), .d (.sl (a1.Children.map cS28))]))]) (by simp; exact Sub.table (by simp) (by simp)) ?_
    refine Chain.runQ 9 fun K hK => ?_; simp; refine hK _ _ ?_; clear hK K
    refine Chain.sub (S' := mk 70 [] [(4, .d (.lit (.int .i64 v10))), (5, .d (.lit (.bool (decide (a1.Leaf < (a0.Sizes.length : Int))))))] []) Sub.tt ?_
    cases h
    exact Chain.nil Sub.tt
   ·have c11_ : decide (a1.Leaf ≥ 0) = false := decide_eq_false c11
    refine Chain.sub (Sub.bool 22 (b := decide (a1.Leaf ≥ 0)) rfl c11_) ?_
    refine Chain.sub (S' := mk 70 [] [(2, .ptr 2 0 0), (3, .ptr 3 0 0), (18, .d (.lit (.int .i64 v10))), (22, .d (.lit (.bool false)))] [(2, some (.box [.d (.sl (a0.Sizes.map (cI .i64))), .d (.sl (a0.Selectivities.map cS115))])), (3, some (.box [.d (.lit (.int .i64 a1.Leaf)), .d (.sl (a1.Children.map cS28))]))]) (by simp; exact Sub.table (by simp) (by simp)) ?_
    refine Chain.runQ 9 fun K hK => ?_; simp; refine hK _ _ ?_; clear hK K
    refine Chain.sub (S' := mk 70 [] [(4, .d (.lit (.int .i64 v10))), (5, .d (.lit (.bool false)))] []) Sub.tt ?_
    cases h
    exact Chain.nil Sub.tt
  ·clear hj
   refine AW.ret ?_
   cases h
   refine thenQ_pass (by simp) ?_
   exact FinC.ret (by simp) (by simp)
 ·have c1_ : ((a1.Children.length : Int) == 0) = false := Bool.eq_false_iff.2 c1
  refine AW.condF (b := ((a1.Children.length : Int) == 0)) rfl c1_ ?_
  refine AW.sub (Sub.bool 13 (b := ((a1.Children.length : Int) == 0)) rfl c1_) ?_
  refine AW.sub (S' := mk 70 [] [(2, .ptr 2 0 0), (3, .ptr 3 0 0), (13, .d (.lit (.bool false)))] [(2, some (.box [.d (.sl (a0.Sizes.map (cI .i64))), .d (.sl (a0.Selectivities.map cS115))])), (3, some (.box [.d (.lit (.int .i64 a1.Leaf)), .d (.sl (a1.Children.map cS28))]))]) (by simp; exact Sub.table (by simp) (by simp)) ?_
  refine AW.skip ?_
  refine thenQ_normal ?_
  refine AW.seq ?_
  replace h := bsome h; obtain ⟨v13, hj, h⟩ := h
  refine AW.cutR (mk 70 [] [(2, .ptr 2 0 0), (3, .ptr 3 0 0), (38, .d (.lit (.bool v13)))] [(2, some (.box [.d (.sl (a0.Sizes.map (cI .i64))), .d (.sl (a0.Selectivities.map cS115))])), (3, some (.box [.d (.lit (.int .i64 a1.Leaf)), .d (.sl (a1.Children.map cS28))]))]) ?_ ?_
  ·clear h; have h := hj; clear hj
   refine Chain.runK [] 5 fun K hK => ?_; simp; refine hK _ _ ?_; clear hK K
   refine Chain.sub (S' := mk 70 [] [(2, .ptr 2 0 0), (3, .ptr 3 0 0), (34, .d (.lit (.bool ((a1.Children.length : Int) != 2))))] [(2, some (.box [.d (.sl (a0.Sizes.map (cI .i64))), .d (.sl (a0.Selectivities.map cS115))])), (3, some (.box [.d (.lit (.int .i64 a1.Leaf)), .d (.sl (a1.Children.map cS28))]))]) Sub.tt ?_
   replace h := isome h; rcases h with ⟨c14, h⟩ | ⟨c14, h⟩
   ·have c14_ : ((a1.Children.length : Int) != 2) = true := c14
    refine Chain.sub (Sub.bool 34 (b := ((a1.Children.length : Int) != 2)) rfl c14_) ?_
    refine Chain.sub (S' := mk 70 [] [(2, .ptr 2 0 0), (3, .ptr 3 0 0), (34, .d (.lit (.bool true)))] [(2, some (.box [.d (.sl (a0.Sizes.map (cI .i64))), .d (.sl (a0.Selectivities.map cS115))])), (3, some (.box [.d (.lit (.int .i64 a1.Leaf)), .d (.sl (a1.Children.map cS28))]))]) (by simp; exact Sub.table (by simp) (by simp)) ?_
    refine Chain.runK [] 4 fun K hK => ?_; simp; refine hK _ _ ?_; clear hK K
    refine Chain.sub (S' := mk 70 [] [(2, .ptr 2 0 0), (3, .ptr 3 0 0), (38, .d (.lit (.bool true)))] [(2, some (.box [.d (.sl (a0.Sizes.map (cI .i64))), .d (.sl (a0.Selectivities.map cS115))])), (3, some (.box [.d (.lit (.int .i64 a1.Leaf)), .d (.sl (a1.Children.map cS28))]))]) Sub.tt ?_
    cases h
    exact Chain.nil Sub.tt
   ·have c14_ : ((a1.Children.length : Int) != 2) = false := Bool.eq_false_iff.2 c14
    refine Chain.sub (Sub.bool 34 (b := ((a1.Children.length : Int) != 2)) rfl c14_) ?_
    refine Chain.sub (S' := mk 70 [] [(2, .ptr 2 0 0), (3, .ptr 3 0 0), (34, .d (.lit (.bool false)))] [(2, some (.box [.d (.sl (a0.Sizes.map (cI .i64))), .d (.sl (a0.Selectivities.map cS115))])), (3, some (.box [.d (.lit (.int .i64 a1.Leaf)), .d (.sl (a1.Children.map cS28))]))]) (by simp; exact Sub.table (by simp) (by simp)) ?_
    refine Chain.runK [] 4 fun K hK => ?_; simp; refine hK _ _ ?_; clear hK K
    refine Chain.sub (S' := mk 70 [] [(2, .ptr 2 0 0), (3, .ptr 3 0 0), (38, .d (.lit (.bool (a1.Leaf != 0))))] [(2, some (.box [.d (.sl (a0.Sizes.map (cI .i64))), .d (.sl (a0.Selectivities.map cS115))])), (3, some (.box [.d (.lit (.int .i64 a1.Leaf)), .d (.sl (a1.Children.map cS28))]))]) Sub.tt ?_
    cases h
    exact Chain.nil Sub.tt
  ·clear hj
   replace h := isome h; rcases h with ⟨c15, h⟩ | ⟨c15, h⟩
   ·have c15_ : v13 = true := c15
    refine AW.condT (b := v13) rfl c15_ ?_
    refine AW.sub (Sub.bool 38 (b := v13) rfl c15_) ?_
    refine AW.sub (S' := mk 70 [] [(2, .ptr 2 0 0), (3, .ptr 3 0 0), (38, .d (.lit (.bool true)))] [(2, some (.box [.d (.sl (a0.Sizes.map (cI .i64))), .d (.sl (a0.Selectivities.map cS115))])), (3, some (.box [.d (.lit (.int .i64 a1.Leaf)), .d (.sl (a1.Children.map cS28))]))]) (by simp; exact Sub.table (by simp) (by simp)) ?_
    refine AW.seqR ?_
    refine Chain.runK [] 2 fun K hK => ?_; simp; refine hK _ _ ?_; clear hK K
    refine Chain.sub (S' := mk 70 [] [(4, .d (.lit (.int .i64 0))), (5, .d (.lit (.bool false)))] []) Sub.tt ?_
    refine Chain.nil ?_
    refine AW.ret ?_
    cases h
    refine thenQ_pass (by simp) ?_
    exact FinC.ret (by simp) (by simp)
   ·have c15_ : v13 = false := Bool.eq_false_iff.2 c15
    refine AW.condF (b := v13) rfl c15_ ?_
    refine AW.sub (Sub.bool 38 (b := v13) rfl c15_) ?_
    refine AW.sub (S' := mk 70 [] [(2, .ptr 2 0 0), (3, .ptr 3 0 0), (38, .d (.lit (.bool false)))] [(2, some (.box [.d (.sl (a0.Sizes.map (cI .i64))), .d (.sl (a0.Selectivities.map cS115))])), (3, some (.box [.d (.lit (.int .i64 a1.Leaf)), .d (.sl (a1.Children.map cS28))]))]) (by simp; exact Sub.table (by simp) (by simp)) ?_
    refine AW.skip ?_
    refine thenQ_normal ?_
    refine AW.seqQ (by kernel_rfl) (by kernel_rfl) ?_
    replace h := bsome h; obtain ⟨x16, hx16, h⟩ := h
    obtain ⟨hx16, hx16b, hx16c⟩ := idx_someN (n := 0) hx16
    refine Chain.runQ 5 fun K hK => ?_; simp [hx16]; refine hK _ _ ?_; clear hK K
    refine Chain.sub (S' := mk 70 [] [(2, .ptr 2 0 0), (3, .ptr 3 0 0), (40, .agg [.d (.sl (a0.Sizes.map (cI .i64))), .d (.sl (a0.Selectivities.map cS115))]), (44, .agg [.d (.lit (.int .i64 x16.Leaf)), .d (.sl (x16.Children.map cS28))])] [(2, some (.box [.d (.sl (a0.Sizes.map (cI .i64))), .d (.sl (a0.Selectivities.map cS115))])), (3, some (.box [.d (.lit (.int .i64 a1.Leaf)), .d (.sl (a1.Children.map cS28))]))]) Sub.tt ?_
    replace h := bsome h; obtain ⟨r17, hr17, h⟩ := h
    refine Chain.callL (d := 45) (ih a0 x16 r17 hr17) (by simp) rfl rfl (by simp <;> rfl) (by simp <;> rfl) ent15 (by simp <;> rfl) ?_
    refine Chain.sub (S' := mk 70 [] [(2, .ptr 2 0 0), (3, .ptr 3 0 0), (40, .agg [.d (.sl (a0.Sizes.map (cI .i64))), .d (.sl (a0.Selectivities.map cS115))]), (44, .agg [.d (.lit (.int .i64 x16.Leaf)), .d (.sl (x16.Children.map cS28))]), (45, .tup [.d (.lit (.int .i64 r17.1)), .d (.lit (.bool r17.2))])] [(2, some (.box [.d (.sl (a0.Sizes.map (cI .i64))), .d (.sl (a0.Selectivities.map cS115))])), (3, some (.box [.d (.lit (.int .i64 a1.Leaf)), .d (.sl (a1.Children.map cS28))]))]) (by simp; exact Sub.table (by simp) (by simp)) ?_
    refine Chain.runQ 5 fun K hK => ?_; simp; refine hK _ _ ?_; clear hK K
    refine Chain.sub (S' := mk 70 [] [(2, .ptr 2 0 0), (3, .ptr 3 0 0), (6, .d (.lit (.int .i64 r17.1))), (7, .d (.lit (.bool r17.2)))] [(2, some (.box [.d (.sl (a0.Sizes.map (cI .i64))), .d (.sl (a0.Selectivities.map cS115))])), (3, some (.box [.d (.lit (.int .i64 a1.Leaf)), .d (.sl (a1.Children.map cS28))]))]) Sub.tt ?_
    refine Chain.nil ?_
    refine AW.seqQ (by kernel_rfl) (by kernel_rfl) ?_
    replace h := bsome h; obtain ⟨x18, hx18, h⟩ := h
    obtain ⟨hx18, hx18b, hx18c⟩ := idx_someN (n := 1) hx18
    refine Chain.runQ 5 fun K hK => ?_; simp [hx18]; refine hK _ _ ?_; clear hK K
    refine Chain.sub (S' := mk 70 [] [(6, .d (.lit (.int .i64 r17.1))), (7, .d (.lit (.bool r17.2))), (49, .agg [.d (.sl (a0.Sizes.map (cI .i64))), .d (.sl (a0.Selectivities.map cS115))]), (53, .agg [.d (.lit (.int .i64 x18.Leaf)), .d (.sl (x18.Children.map cS28))])] []) Sub.tt ?_
    replace h := bsome h; obtain ⟨r19, hr19, h⟩ := h
    refine Chain.callL (d := 54) (ih a0 x18 r19 hr19) (by simp) rfl rfl (by simp <;> rfl) (by simp <;> rfl) ent15 (by simp <;> rfl) ?_
    refine Chain.sub (S' := mk 70 [] [(6, .d (.lit (.int .i64 r17.1))), (7, .d (.lit (.bool r17.2))), (49, .agg [.d (.sl (a0.Sizes.map (cI .i64))), .d (.sl (a0.Selectivities.map cS115))]), (53, .agg [.d (.lit (.int .i64 x18.Leaf)), .d (.sl (x18.Children.map cS28))]), (54, .tup [.d (.lit (.int .i64 r19.1)), .d (.lit (.bool r19.2))])] []) (by simp; exact Sub.table (by simp) (by simp)) ?_
    refine Chain.runQ 5 fun K hK => ?_; simp; refine hK _ _ ?_; clear hK K
    refine Chain.sub (S' := mk 70 [] [(6, .d (.lit (.int .i64 r17.1))), (7, .d (.lit (.bool r17.2))), (8, .d (.lit (.int .i64 r19.1))), (9, .d (.lit (.bool r19.2)))] []) Sub.tt ?_
    refine Chain.nil ?_
    replace h := bsome h; obtain ⟨⟨v24, v25⟩, hj, h⟩ := h
    dsimp only at h
    refine AW.cutR (mk 70 [] [(4, .d (.lit (.int .i64 v24))), (5, .d (.lit (.bool v25)))] []) ?_ ?_
    ·clear h; have h := hj; clear hj
     replace h := lsome h; obtain ⟨v26, hv26, h⟩ := h
     refine Chain.runK [] 5 fun K hK => ?_; simp [hv26]; refine hK _ _ ?_; clear hK K
     refine Chain.sub (S' := mk 70 [] [(6, .d (.lit (.int .i64 r17.1))), (8, .d (.lit (.int .i64 r19.1))), (9, .d (.lit (.bool r19.2))), (59, .d (.lit (.int .i64 v26))), (61, .d (.lit (.bool r17.2)))] []) Sub.tt ?_
     replace h := isome h; rcases h with ⟨c27, h⟩ | ⟨c27, h⟩
     ·have c27_ : r17.2 = true := c27
      refine Chain.sub (Sub.bool 61 (b := r17.2) rfl c27_) ?_
      refine Chain.sub (S' := mk 70 [] [(6, .d (.lit (.int .i64 r17.1))), (8, .d (.lit (.int .i64 r19.1))), (9, .d (.lit (.bool r19.2))), (59, .d (.lit (.int .i64 v26))), (61, .d (.lit (.bool true)))] []) (by simp; exact Sub.table (by simp) (by simp)) ?_
      refine Chain.runK [] 3 fun K hK => ?_; simp; refine hK _ _ ?_; clear hK K
      refine Chain.sub (S' := mk 70 [] [(6, .d (.lit (.int .i64 r17.1))), (8, .d (.lit (.int .i64 r19.1))), (59, .d (.lit (.int .i64 v26))), (64, .d (.lit (.bool r19.2)))] []) Sub.tt ?_
      replace h := isome h; rcases h with ⟨c28, h⟩ | ⟨c28, h⟩
      ·have c28_ : r19.2 = true := c28
       refine Chain.sub (Sub.bool 64 (b := r19.2) rfl c28_) ?_
       refine Chain.sub (S' := mk 70 [] [(6, .d (.lit (.int .i64 r17.1))), (8, .d (.lit (.int .i64 r19.1))), (59, .d (.lit (.int .i64 v26))), (64, .d (.lit (.bool true)))] []) (by simp; exact Sub.table (by simp) (by simp)) ?_
       replace h := lsome h; obtain ⟨v29, hv29, h⟩ := h
       refine Chain.runK [] 7 fun K hK => ?_; simp [hv29]; refine hK _ _ ?_; clear hK K
       refine Chain.sub (S' := mk 70 [] [(4, .d (.lit (.int .i64 v26))), (5, .d (.lit (.bool (v29 == 0))))] []) Sub.tt ?_
       cases h
       exact Chain.nil Sub.tt
      ·have c28_ : r19.2 = false := Bool.eq_false_iff.2 c28
       refine Chain.sub (Sub.bool 64 (b := r19.2) rfl c28_) ?_
       refine Chain.sub (S' := mk 70 [] [(6, .d (.lit (.int .i64 r17.1))), (8, .d (.lit (.int .i64 r19.1))), (59, .d (.lit (.int .i64 v26))), (64, .d (.lit (.bool false)))] []) (by simp; exact Sub.table (by simp) (by simp)) ?_
       refine Chain.runK [] 7 fun K hK => ?_; simp; refine hK _ _ ?_; clear hK K
       refine Chain.sub (S' := mk 70 [] [(4, .d (.lit (.int .i64 v26))), (5, .d (.lit (.bool false)))] []) Sub.tt ?_
       cases h
       exact Chain.nil Sub.tt
     ·have c27_ : r17.2 = false := Bool.eq_false_iff.2 c27
      refine Chain.sub (Sub.bool 61 (b := r17.2) rfl c27_) ?_
      refine Chain.sub (S' := mk 70 [] [(6, .d (.lit (.int .i64 r17.1))), (8, .d (.lit (.int .i64 r19.1))), (9, .d (.lit (.bool r19.2))), (59, .d (.lit (.int .i64 v26))), (61, .d (.lit (.bool false)))] []) (by simp; exact Sub.table (by simp) (by simp)) ?_
      refine Chain.runK [] 10 fun K hK => ?_; simp; refine hK _ _ ?_; clear hK K
      refine Chain.sub (S' := mk 70 [] [(4, .d (.lit (.int .i64 v26))), (5, .d (.lit (.bool false)))] []) Sub.tt ?_
      cases h
      exact Chain.nil Sub.tt
    ·clear hj
     refine AW.ret ?_
     cases h
     exact FinC.ret (by simp) (by simp)

/-- stemma/joinorder.size -/
def d53 (N : Nat) (a0 : S25) (a1 : Int) : Option Int :=
 Option.bind (α := Int) (
  iterN (σ := (Int × Int)) (ρ := Int) (fun ((v152, v153) : (Int × Int)) =>
   if v153 < (a0.Sizes.length : Int) then (
    Option.bind (α := Int) (
     (idx a0.Sizes v153).bind fun x540 =>
     (shiftB .i64 v153).bind fun _ =>
     letv (shrI a1 v153) fun v542 =>
     letv (bitI .and .i64 v542 1) fun v543 =>
     if (v543 == 0) then (
      some v152
     ) else
     (chkI (v152 * x540)).bind fun v545 =>
     letv (minI 1073741824 v545) fun v546 =>
     Option.bind (α := Int) (
      iterN (σ := (Int × Int)) (ρ := Int) (fun ((v562, v563) : (Int × Int)) =>
       if v563 < (a0.Selectivities.length : Int) then (
        (idx a0.Selectivities v563).bind fun x600 =>
        Option.bind (α := Bool) (
         if (x600.B == v153) then (
          (shiftB .i64 x600.A).bind fun _ =>
          letv (shrI a1 x600.A) fun v607 =>
          letv (bitI .and .i64 v607 1) fun v608 =>
          some (v608 == 1)
         ) else
         some false
        ) fun (v605 : Bool) =>
        if v605 = true then (
         (chkI (v562 + x600.Divisor)).bind fun v610 =>
         (chkI (v610 - 1)).bind fun v611 =>
         (quoI v611 x600.Divisor).bind fun v612 =>
         (chkI (v563 + 1)).bind fun v613 =>
         some (.inl (v612, v613))
        ) else
        (chkI (v563 + 1)).bind fun v614 =>
        some (.inl (v562, v614))
       ) else
       some (.inr v562)
      ) N (v546, 0)
     ) fun (v598 : Int) =>
     some v598
    ) fun (v539 : Int) =>
    (chkI (v153 + 1)).bind fun v615 =>
    some (.inl (v539, v615))
   ) else
   some (.inr v152)
  ) N (1, 0)
 ) fun (v462 : Int) =>
 some v462
set_option maxRecDepth 100000 in
set_option maxHeartbeats 4000000 in
theorem p53 (N : Nat) (a0 : S25) (a1 : Int) (r : Int) (h : d53 N a0 a1 = some r) : FunC Tryz.prog 53 [.agg [.d (.sl (a0.Sizes.map (cI .i64))), .d (.sl (a0.Selectivities.map cS115))], .d (.lit (.int .i64 a1))] (.d (.lit (.int .i64 r))) := by
 unfold d53 at h
 refine FunC.enter 57 [(0, .agg [.d (.sl (a0.Sizes.map (cI .i64))), .d (.sl (a0.Selectivities.map cS115))]), (1, .d (.lit (.int .i64 a1)))] (by simp) Tryz.func53 rfl (of_decide_eq_true rfl) rfl rfl ?_
 refine AW.seqR ?_
 refine Chain.runK [] 2 fun K hK => ?_; simp; refine hK _ _ ?_; clear hK K
 refine Chain.sub (S' := mk 57 [] [(1, .d (.lit (.int .i64 a1))), (2, .ptr 2 0 0)] [(2, some (.box [.d (.sl (a0.Sizes.map (cI .i64))), .d (.sl (a0.Selectivities.map cS115))]))]) Sub.tt ?_
 refine Chain.nil ?_
 refine AW.seqR ?_
 refine Chain.runK [] 1 fun K hK => ?_; simp; refine hK _ _ ?_; clear hK K
 refine Chain.sub (S' := mk 57 [] [(1, .d (.lit (.int .i64 a1))), (2, .ptr 2 0 0), (5, .d (.lit (.int .i64 1)))] [(2, some (.box [.d (.sl (a0.Sizes.map (cI .i64))), .d (.sl (a0.Selectivities.map cS115))]))]) Sub.tt ?_
 refine Chain.nil ?_
 refine AW.seq ?_
 refine AW.seqR ?_
 refine Chain.runK [] 4 fun K hK => ?_; simp; refine hK _ _ ?_; clear hK K
 refine Chain.sub (S' := mk 57 [] [(1, .d (.lit (.int .i64 a1))), (2, .ptr 2 0 0), (5, .d (.lit (.int .i64 1))), (11, .d (.sl (a0.Sizes.map (cI .i64)))), (12, .d (.lit (.int .i64 (a0.Sizes.length : Int)))), (13, .d (.lit (.int .i64 0)))] [(2, some (.box [.d (.sl (a0.Sizes.map (cI .i64))), .d (.sl (a0.Selectivities.map cS115))]))]) Sub.tt ?_
 refine Chain.nil ?_
 refine AW.lastN (fun (v462 : Int) => mk 57 [] [(5, .d (.lit (.int .i64 v462)))] []) h ?_ ?_ <;> clear h
 ·intro o h
  refine AW.block ?_
  refine AW.iter (fun ((v152, v153) : (Int × Int)) => mk 57 [] [(1, .d (.lit (.int .i64 a1))), (2, .ptr 2 0 0), (5, .d (.lit (.int .i64 v152))), (11, .d (.sl (a0.Sizes.map (cI .i64)))), (12, .d (.lit (.int .i64 (a0.Sizes.length : Int)))), (13, .d (.lit (.int .i64 v153)))] [(2, some (.box [.d (.sl (a0.Sizes.map (cI .i64))), .d (.sl (a0.Selectivities.map cS115))]))]) h Sub.tt ?_
  clear h
  rintro ⟨v152, v153⟩ x h
  dsimp only at h ⊢
  refine AW.seqR ?_
  refine Chain.runK [] 1 fun K hK => ?_; simp; refine hK _ _ ?_; clear hK K
  refine Chain.sub (S' := mk 57 [] [(1, .d (.lit (.int .i64 a1))), (2, .ptr 2 0 0), (5, .d (.lit (.int .i64 v152))), (11, .d (.sl (a0.Sizes.map (cI .i64)))), (12, .d (.lit (.int .i64 (a0.Sizes.length : Int)))), (13, .d (.lit (.int .i64 v153))), (14, .d (.lit (.bool (decide (v153 < (a0.Sizes.length : Int))))))] [(2, some (.box [.d (.sl (a0.Sizes.map (cI .i64))), .d (.sl (a0.Selectivities.map cS115))]))]) Sub.tt ?_
  refine Chain.nil ?_
  refine AW.seq ?_
  replace h := isome h; rcases h with ⟨c463, h⟩ | ⟨c463, h⟩
  ·have c463_ : decide (v153 < (a0.Sizes.length : Int)) = true := decide_eq_true c463
   refine AW.condT (b := decide (v153 < (a0.Sizes.length : Int))) rfl c463_ ?_
   refine AW.sub (Sub.bool 14 (b := decide (v153 < (a0.Sizes.length : Int))) rfl c463_) ?_
   refine AW.sub (S' := mk 57 [] [(1, .d (.lit (.int .i64 a1))), (2, .ptr 2 0 0), (5, .d (.lit (.int .i64 v152))), (11, .d (.sl (a0.Sizes.map (cI .i64)))), (12, .d (.lit (.int .i64 (a0.Sizes.length : Int)))), (13, .d (.lit (.int .i64 v153))), (14, .d (.lit (.bool true)))] [(2, some (.box [.d (.sl (a0.Sizes.map (cI .i64))), .d (.sl (a0.Selectivities.map cS115))]))]) (by simp; exact Sub.table (by simp) (by simp)) ?_
   refine AW.skip ?_
   refine thenQ_normal ?_
   refine AW.seqN (fun (v539 : Int) => mk 57 [] [(1, .d (.lit (.int .i64 a1))), (2, .ptr 2 0 0), (5, .d (.lit (.int .i64 v539))), (11, .d (.sl (a0.Sizes.map (cI .i64)))), (12, .d (.lit (.int .i64 (a0.Sizes.length : Int)))), (13, .d (.lit (.int .i64 v153)))] [(2, some (.box [.d (.sl (a0.Sizes.map (cI .i64))), .d (.sl (a0.Selectivities.map cS115))]))]) h ?_ ?_ <;> clear h
   ·intro o h
    refine AW.block ?_
    refine AW.seqR ?_
    replace h := bsome h; obtain ⟨x540, hx540, h⟩ := h
    obtain ⟨k541, hx540k, hx540, hx540a, hx540b⟩ := idx_some hx540
    refine Chain.runK [] 5 fun K hK => ?_; simp [hx540, hx540k, hx540a]; refine hK _ _ ?_; clear hK K
    refine Chain.sub (S' := mk 57 [] [(1, .d (.lit (.int .i64 a1))), (2, .ptr 2 0 0), (5, .d (.lit (.int .i64 v152))), (6, .d (.lit (.int .i64 v153))), (7, .d (.lit (.int .i64 x540))), (11, .d (.sl (a0.Sizes.map (cI .i64)))), (12, .d (.lit (.int .i64 (a0.Sizes.length : Int)))), (13, .d (.lit (.int .i64 v153)))] [(2, some (.box [.d (.sl (a0.Sizes.map (cI .i64))), .d (.sl (a0.Selectivities.map cS115))]))]) Sub.tt ?_
    refine Chain.nil ?_
    refine AW.seq ?_
    refine AW.seqR ?_
    replace h := bsome h; obtain ⟨_, gv542, h⟩ := h
    have hv542a := shiftB_some gv542
    try simp at hv542a
    replace h := lsome h; obtain ⟨v542, hv542, h⟩ := h
    replace h := lsome h; obtain ⟨v543, hv543, h⟩ := h
    refine Chain.runK [] 5 fun K hK => ?_; simp [hv542a, hv542, hv543]; refine hK _ _ ?_; clear hK K
    refine Chain.sub (S' := mk 57 [] [(1, .d (.lit (.int .i64 a1))), (2, .ptr 2 0 0), (5, .d (.lit (.int .i64 v152))), (6, .d (.lit (.int .i64 v153))), (7, .d (.lit (.int .i64 x540))), (11, .d (.sl (a0.Sizes.map (cI .i64)))), (12, .d (.lit (.int .i64 (a0.Sizes.length : Int)))), (13, .d (.lit (.int .i64 v153))), (22, .d (.lit (.bool (v543 == 0))))] [(2, some (.box [.d (.sl (a0.Sizes.map (cI .i64))), .d (.sl (a0.Selectivities.map cS115))]))]) Sub.tt ?_
    refine Chain.nil ?_
    replace h := isome h; rcases h with ⟨c544, h⟩ | ⟨c544, h⟩
    ·have c544_ : (v543 == 0) = true := c544
     refine AW.condT (b := (v543 == 0)) rfl c544_ ?_
     refine AW.sub (Sub.bool 22 (b := (v543 == 0)) rfl c544_) ?_
     refine AW.sub (S' := mk 57 [] [(1, .d (.lit (.int .i64 a1))), (2, .ptr 2 0 0), (5, .d (.lit (.int .i64 v152))), (6, .d (.lit (.int .i64 v153))), (7, .d (.lit (.int .i64 x540))), (11, .d (.sl (a0.Sizes.map (cI .i64)))), (12, .d (.lit (.int .i64 (a0.Sizes.length : Int)))), (13, .d (.lit (.int .i64 v153))), (22, .d (.lit (.bool true)))] [(2, some (.box [.d (.sl (a0.Sizes.map (cI .i64))), .d (.sl (a0.Selectivities.map cS115))]))]) (by simp; exact Sub.table (by simp) (by simp)) ?_
     refine AW.exit ?_
     cases h
     refine thenQ_pass (by simp) ?_
     refine blockQ.hit ?_
     refine PostN.next ?_
     exact Sub.tt
    ·have c544_ : (v543 == 0) = false := Bool.eq_false_iff.2 c544
     refine AW.condF (b := (v543 == 0)) rfl c544_ ?_
     refine AW.sub (Sub.bool 22 (b := (v543 == 0)) rfl c544_) ?_
     refine AW.sub (S' := mk 57 [] [(1, .d (.lit (.int .i64 a1))), (2, .ptr 2 0 0), (5, .d (.lit (.int .i64 v152))), (6, .d (.lit (.int .i64 v153))), (7, .d (.lit (.int .i64 x540))), (11, .d (.sl (a0.Sizes.map (cI .i64)))), (12, .d (.lit (.int .i64 (a0.Sizes.length : Int)))), (13, .d (.lit (.int .i64 v153))), (22, .d (.lit (.bool false)))] [(2, some (.box [.d (.sl (a0.Sizes.map (cI .i64))), .d (.sl (a0.Selectivities.map cS115))]))]) (by simp; exact Sub.table (by simp) (by simp)) ?_
     refine AW.skip ?_
     refine thenQ_normal ?_
     refine AW.seqR ?_
     replace h := bsome h; obtain ⟨v545, hv545, h⟩ := h
     have hv545 := chkI_some hv545
     replace h := lsome h; obtain ⟨v546, hv546, h⟩ := h
     unfold minI at hv546
     refine Chain.runK [] 5 fun K hK => ?_; simp [hv545, hv546]; refine hK _ _ ?_; clear hK K
     refine Chain.sub (S' := mk 57 [] [(1, .d (.lit (.int .i64 a1))), (2, .ptr 2 0 0), (5, .d (.lit (.int .i64 v546))), (6, .d (.lit (.int .i64 v153))), (11, .d (.sl (a0.Sizes.map (cI .i64)))), (12, .d (.lit (.int .i64 (a0.Sizes.length : Int)))), (13, .d (.lit (.int .i64 v153)))] [(2, some (.box [.d (.sl (a0.Sizes.map (cI .i64))), .d (.sl (a0.Selectivities.map cS115))]))]) Sub.tt ?_
     refine Chain.nil ?_
     refine AW.seqR ?_
     refine Chain.runK [] 4 fun K hK => ?_; simp; refine hK _ _ ?_; clear hK K
     refine Chain.sub (S' := mk 57 [] [(1, .d (.lit (.int .i64 a1))), (2, .ptr 2 0 0), (5, .d (.lit (.int .i64 v546))), (6, .d (.lit (.int .i64 v153))), (11, .d (.sl (a0.Sizes.map (cI .i64)))), (12, .d (.lit (.int .i64 (a0.Sizes.length : Int)))), (13, .d (.lit (.int .i64 v153))), (28, .d (.sl (a0.Selectivities.map cS115))), (29, .d (.lit (.int .i64 (a0.Selectivities.length : Int)))), (30, .d (.lit (.int .i64 0)))] [(2, some (.box [.d (.sl (a0.Sizes.map (cI .i64))), .d (.sl (a0.Selectivities.map cS115))]))]) Sub.tt ?_
     refine Chain.nil ?_
     refine AW.lastN (fun (v598 : Int) => mk 57 [] [(1, .d (.lit (.int .i64 a1))), (2, .ptr 2 0 0), (5, .d (.lit (.int .i64 v598))), (11, .d (.sl (a0.Sizes.map (cI .i64)))), (12, .d (.lit (.int .i64 (a0.Sizes.length : Int)))), (13, .d (.lit (.int .i64 v153)))] [(2, some (.box [.d (.sl (a0.Sizes.map (cI .i64))), .d (.sl (a0.Selectivities.map cS115))]))]) h ?_ ?_ <;> clear h
     ·intro o h
      refine AW.block ?_
      refine AW.iter (fun ((v562, v563) : (Int × Int)) => mk 57 [] [(1, .d (.lit (.int .i64 a1))), (2, .ptr 2 0 0), (5, .d (.lit (.int .i64 v562))), (6, .d (.lit (.int .i64 v153))), (11, .d (.sl (a0.Sizes.map (cI .i64)))), (12, .d (.lit (.int .i64 (a0.Sizes.length : Int)))), (13, .d (.lit (.int .i64 v153))), (28, .d (.sl (a0.Selectivities.map cS115))), (29, .d (.lit (.int .i64 (a0.Selectivities.length : Int)))), (30, .d (.lit (.int .i64 v563)))] [(2, some (.box [.d (.sl (a0.Sizes.map (cI .i64))), .d (.sl (a0.Selectivities.map cS115))]))]) h Sub.tt ?_
      clear h
      rintro ⟨v562, v563⟩ x h
      dsimp only at h ⊢
      refine AW.seqR ?_
      refine Chain.runK [] 1 fun K hK => ?_; simp; refine hK _ _ ?_; clear hK K
      refine Chain.sub (S' := mk 57 [] [(1, .d (.lit (.int .i64 a1))), (2, .ptr 2 0 0), (5, .d (.lit (.int .i64 v562))), (6, .d (.lit (.int .i64 v153))), (11, .d (.sl (a0.Sizes.map (cI .i64)))), (12, .d (.lit (.int .i64 (a0.Sizes.length : Int)))), (13, .d (.lit (.int .i64 v153))), (28, .d (.sl (a0.Selectivities.map cS115))), (29, .d (.lit (.int .i64 (a0.Selectivities.length : Int)))), (30, .d (.lit (.int .i64 v563))), (31, .d (.lit (.bool (decide (v563 < (a0.Selectivities.length : Int))))))] [(2, some (.box [.d (.sl (a0.Sizes.map (cI .i64))), .d (.sl (a0.Selectivities.map cS115))]))]) Sub.tt ?_
      refine Chain.nil ?_
      refine AW.seq ?_
      replace h := isome h; rcases h with ⟨c599, h⟩ | ⟨c599, h⟩
      ·have c599_ : decide (v563 < (a0.Selectivities.length : Int)) = true := decide_eq_true c599
       refine AW.condT (b := decide (v563 < (a0.Selectivities.length : Int))) rfl c599_ ?_
       refine AW.sub (Sub.bool 31 (b := decide (v563 < (a0.Selectivities.length : Int))) rfl c599_) ?_
       refine AW.sub (S' := mk 57 [] [(1, .d (.lit (.int .i64 a1))), (2, .ptr 2 0 0), (5, .d (.lit (.int .i64 v562))), (6, .d (.lit (.int .i64 v153))), (11, .d (.sl (a0.Sizes.map (cI .i64)))), (12, .d (.lit (.int .i64 (a0.Sizes.length : Int)))), (13, .d (.lit (.int .i64 v153))), (28, .d (.sl (a0.Selectivities.map cS115))), (29, .d (.lit (.int .i64 (a0.Selectivities.length : Int)))), (30, .d (.lit (.int .i64 v563))), (31, .d (.lit (.bool true)))] [(2, some (.box [.d (.sl (a0.Sizes.map (cI .i64))), .d (.sl (a0.Selectivities.map cS115))]))]) (by simp; exact Sub.table (by simp) (by simp)) ?_
       refine AW.skip ?_
       refine thenQ_normal ?_
       refine AW.seq ?_
       refine AW.block ?_
       refine AW.seqR ?_
       replace h := bsome h; obtain ⟨x600, hx600, h⟩ := h
       obtain ⟨k601, hx600k, hx600, hx600a, hx600b⟩ := idx_some hx600
       refine Chain.runK [] 4 fun K hK => ?_; simp [hx600, hx600k, hx600a]; refine hK _ _ ?_; clear hK K
       refine Chain.sub (S' := mk 57 [] [(1, .d (.lit (.int .i64 a1))), (2, .ptr 2 0 0), (5, .d (.lit (.int .i64 v562))), (6, .d (.lit (.int .i64 v153))), (9, .ptr 9 0 0), (11, .d (.sl (a0.Sizes.map (cI .i64)))), (12, .d (.lit (.int .i64 (a0.Sizes.length : Int)))), (13, .d (.lit (.int .i64 v153))), (28, .d (.sl (a0.Selectivities.map cS115))), (29, .d (.lit (.int .i64 (a0.Selectivities.length : Int)))), (30, .d (.lit (.int .i64 v563)))] [(2, some (.box [.d (.sl (a0.Sizes.map (cI .i64))), .d (.sl (a0.Selectivities.map cS115))])), (9, some (.box [.d (.lit (.int .i64 x600.A)), .d (.lit (.int .i64 x600.B)), .d (.lit (.int .i64 x600.Divisor))]))]) Sub.tt ?_
       refine Chain.nil ?_
       replace h := bsome h; obtain ⟨v605, hj, h⟩ := h
       refine AW.cutR (mk 57 [] [(1, .d (.lit (.int .i64 a1))), (2, .ptr 2 0 0), (5, .d (.lit (.int .i64 v562))), (6, .d (.lit (.int .i64 v153))), (9, .ptr 9 0 0), (11, .d (.sl (a0.Sizes.map (cI .i64)))), (12, .d (.lit (.int .i64 (a0.Sizes.length : Int)))), (13, .d (.lit (.int .i64 v153))), (28, .d (.sl (a0.Selectivities.map cS115))), (29, .d (.lit (.int .i64 (a0.Selectivities.length : Int)))), (30, .d (.lit (.int .i64 v563))), (45, .d (.lit (.bool v605)))] [(2, some (.box [.d (.sl (a0.Sizes.map (cI .i64))), .d (.sl (a0.Selectivities.map cS115))])), (9, some (.box [.d (.lit (.int .i64 x600.A)), .d (.lit (.int .i64 x600.B)), .d (.lit (.int .i64 x600.Divisor))]))]) ?_ ?_
       ·clear h; have h := hj; clear hj
        refine Chain.runK [] 5 fun K hK => ?_; simp; refine hK _ _ ?_; clear hK K
        refine Chain.sub (S' := mk 57 [] [(1, .d (.lit (.int .i64 a1))), (2, .ptr 2 0 0), (5, .d (.lit (.int .i64 v562))), (6, .d (.lit (.int .i64 v153))), (9, .ptr 9 0 0), (11, .d (.sl (a0.Sizes.map (cI .i64)))), (12, .d (.lit (.int .i64 (a0.Sizes.length : Int)))), (13, .d (.lit (.int .i64 v153))), (28, .d (.sl (a0.Selectivities.map cS115))), (29, .d (.lit (.int .i64 (a0.Selectivities.length : Int)))), (30, .d (.lit (.int .i64 v563))), (38, .d (.lit (.bool (x600.B == v153))))] [(2, some (.box [.d (.sl (a0.Sizes.map (cI .i64))), .d (.sl (a0.Selectivities.map cS115))])), (9, some (.box [.d (.lit (.int .i64 x600.A)), .d (.lit (.int .i64 x600.B)), .d (.lit (.int .i64 x600.Divisor))]))]) Sub.tt ?_
        replace h := isome h; rcases h with ⟨c606, h⟩ | ⟨c606, h⟩
        ·have c606_ : (x600.B == v153) = true := c606
         refine Chain.sub (Sub.bool 38 (b := (x600.B == v153)) rfl c606_) ?_
         refine Chain.sub (S' := mk 57 [] [(1, .d (.lit (.int .i64 a1))), (2, .ptr 2 0 0), (5, .d (.lit (.int .i64 v562))), (6, .d (.lit (.int .i64 v153))), (9, .ptr 9 0 0), (11, .d (.sl (a0.Sizes.map (cI .i64)))), (12, .d (.lit (.int .i64 (a0.Sizes.length : Int)))), (13, .d (.lit (.int .i64 v153))), (28, .d (.sl (a0.Selectivities.map cS115))), (29, .d (.lit (.int .i64 (a0.Selectivities.length : Int)))), (30, .d (.lit (.int .i64 v563))), (38, .d (.lit (.bool true)))] [(2, some (.box [.d (.sl (a0.Sizes.map (cI .i64))), .d (.sl (a0.Selectivities.map cS115))])), (9, some (.box [.d (.lit (.int .i64 x600.A)), .d (.lit (.int .i64 x600.B)), .d (.lit (.int .i64 x600.Divisor))]))]) (by simp; exact Sub.table (by simp) (by simp)) ?_
         replace h := bsome h; obtain ⟨_, gv607, h⟩ := h
         have hv607a := shiftB_some gv607
         try simp at hv607a
         replace h := lsome h; obtain ⟨v607, hv607, h⟩ := h
         replace h := lsome h; obtain ⟨v608, hv608, h⟩ := h
         refine Chain.runK [] 7 fun K hK => ?_; simp [hv607a, hv607, hv608]; refine hK _ _ ?_; clear hK K
         refine Chain.sub (S' := mk 57 [] [(1, .d (.lit (.int .i64 a1))), (2, .ptr 2 0 0), (5, .d (.lit (.int .i64 v562))), (6, .d (.lit (.int .i64 v153))), (9, .ptr 9 0 0), (11, .d (.sl (a0.Sizes.map (cI .i64)))), (12, .d (.lit (.int .i64 (a0.Sizes.length : Int)))), (13, .d (.lit (.int .i64 v153))), (28, .d (.sl (a0.Selectivities.map cS115))), (29, .d (.lit (.int .i64 (a0.Selectivities.length : Int)))), (30, .d (.lit (.int .i64 v563))), (39, .d (.lit (.int .i64 a1))), (40, .ptr 9 0 0), (41, .d (.lit (.int .i64 x600.A))), (42, .d (.lit (.int .i64 v607))), (43, .d (.lit (.int .i64 v608))), (44, .d (.lit (.bool (v608 == 1)))), (45, .d (.lit (.bool (v608 == 1))))] [(2, some (.box [.d (.sl (a0.Sizes.map (cI .i64))), .d (.sl (a0.Selectivities.map cS115))])), (9, some (.box [.d (.lit (.int .i64 x600.A)), .d (.lit (.int .i64 x600.B)), .d (.lit (.int .i64 x600.Divisor))]))]) Sub.tt ?_
         cases h
         exact Chain.nil Sub.tt
        ·have c606_ : (x600.B == v153) = false := Bool.eq_false_iff.2 c606
         refine Chain.sub (Sub.bool 38 (b := (x600.B == v153)) rfl c606_) ?_
         refine Chain.sub (S' := mk 57 [] [(1, .d (.lit (.int .i64 a1))), (2, .ptr 2 0 0), (5, .d (.lit (.int .i64 v562))), (6, .d (.lit (.int .i64 v153))), (9, .ptr 9 0 0), (11, .d (.sl (a0.Sizes.map (cI .i64)))), (12, .d (.lit (.int .i64 (a0.Sizes.length : Int)))), (13, .d (.lit (.int .i64 v153))), (28, .d (.sl (a0.Selectivities.map cS115))), (29, .d (.lit (.int .i64 (a0.Selectivities.length : Int)))), (30, .d (.lit (.int .i64 v563))), (38, .d (.lit (.bool false)))] [(2, some (.box [.d (.sl (a0.Sizes.map (cI .i64))), .d (.sl (a0.Selectivities.map cS115))])), (9, some (.box [.d (.lit (.int .i64 x600.A)), .d (.lit (.int .i64 x600.B)), .d (.lit (.int .i64 x600.Divisor))]))]) (by simp; exact Sub.table (by simp) (by simp)) ?_
         refine Chain.runK [] 7 fun K hK => ?_; simp; refine hK _ _ ?_; clear hK K
         refine Chain.sub (S' := mk 57 [] [(1, .d (.lit (.int .i64 a1))), (2, .ptr 2 0 0), (5, .d (.lit (.int .i64 v562))), (6, .d (.lit (.int .i64 v153))), (9, .ptr 9 0 0), (11, .d (.sl (a0.Sizes.map (cI .i64)))), (12, .d (.lit (.int .i64 (a0.Sizes.length : Int)))), (13, .d (.lit (.int .i64 v153))), (28, .d (.sl (a0.Selectivities.map cS115))), (29, .d (.lit (.int .i64 (a0.Selectivities.length : Int)))), (30, .d (.lit (.int .i64 v563))), (39, .tup []), (40, .tup []), (41, .tup []), (42, .tup []), (43, .tup []), (44, .tup []), (45, .d (.lit (.bool false)))] [(2, some (.box [.d (.sl (a0.Sizes.map (cI .i64))), .d (.sl (a0.Selectivities.map cS115))])), (9, some (.box [.d (.lit (.int .i64 x600.A)), .d (.lit (.int .i64 x600.B)), .d (.lit (.int .i64 x600.Divisor))]))]) Sub.tt ?_
         cases h
         exact Chain.nil Sub.tt
       ·clear hj
        replace h := isome h; rcases h with ⟨c609, h⟩ | ⟨c609, h⟩
        ·have c609_ : v605 = true := c609
         refine AW.condT (b := v605) rfl c609_ ?_
         refine AW.sub (Sub.bool 45 (b := v605) rfl c609_) ?_
         refine AW.sub (S' := mk 57 [] [(1, .d (.lit (.int .i64 a1))), (2, .ptr 2 0 0), (5, .d (.lit (.int .i64 v562))), (6, .d (.lit (.int .i64 v153))), (9, .ptr 9 0 0), (11, .d (.sl (a0.Sizes.map (cI .i64)))), (12, .d (.lit (.int .i64 (a0.Sizes.length : Int)))), (13, .d (.lit (.int .i64 v153))), (28, .d (.sl (a0.Selectivities.map cS115))), (29, .d (.lit (.int .i64 (a0.Selectivities.length : Int)))), (30, .d (.lit (.int .i64 v563))), (45, .d (.lit (.bool true)))] [(2, some (.box [.d (.sl (a0.Sizes.map (cI .i64))), .d (.sl (a0.Selectivities.map cS115))])), (9, some (.box [.d (.lit (.int .i64 x600.A)), .d (.lit (.int .i64 x600.B)), .d (.lit (.int .i64 x600.Divisor))]))]) (by simp; exact Sub.table (by simp) (by simp)) ?_
         refine AW.region ?_
         replace h := bsome h; obtain ⟨v610, hv610, h⟩ := h
         have hv610 := chkI_some hv610
         replace h := bsome h; obtain ⟨v611, hv611, h⟩ := h
         have hv611 := chkI_some hv611
         replace h := bsome h; obtain ⟨v612, hv612, h⟩ := h
         obtain ⟨hv612a, hv612⟩ := quoI_some hv612
         refine Chain.runK [] 9 fun K hK => ?_; simp [hv610, hv611, hv612, hv612a]; refine hK _ _ ?_; clear hK K
         refine Chain.sub (S' := mk 57 [] [(1, .d (.lit (.int .i64 a1))), (2, .ptr 2 0 0), (5, .d (.lit (.int .i64 v612))), (6, .d (.lit (.int .i64 v153))), (11, .d (.sl (a0.Sizes.map (cI .i64)))), (12, .d (.lit (.int .i64 (a0.Sizes.length : Int)))), (13, .d (.lit (.int .i64 v153))), (28, .d (.sl (a0.Selectivities.map cS115))), (29, .d (.lit (.int .i64 (a0.Selectivities.length : Int)))), (30, .d (.lit (.int .i64 v563)))] [(2, some (.box [.d (.sl (a0.Sizes.map (cI .i64))), .d (.sl (a0.Selectivities.map cS115))]))]) Sub.tt ?_
         refine Chain.nil ?_
         refine blockQ.normal ?_
         refine thenQ_normal ?_
         refine AW.region ?_
         replace h := bsome h; obtain ⟨v613, hv613, h⟩ := h
         have hv613 := chkI_some hv613
         refine Chain.runK [] 2 fun K hK => ?_; simp [hv613]; refine hK _ _ ?_; clear hK K
         refine Chain.sub (S' := mk 57 [] [(1, .d (.lit (.int .i64 a1))), (2, .ptr 2 0 0), (5, .d (.lit (.int .i64 v612))), (6, .d (.lit (.int .i64 v153))), (11, .d (.sl (a0.Sizes.map (cI .i64)))), (12, .d (.lit (.int .i64 (a0.Sizes.length : Int)))), (13, .d (.lit (.int .i64 v153))), (28, .d (.sl (a0.Selectivities.map cS115))), (29, .d (.lit (.int .i64 (a0.Selectivities.length : Int)))), (30, .d (.lit (.int .i64 v613)))] [(2, some (.box [.d (.sl (a0.Sizes.map (cI .i64))), .d (.sl (a0.Selectivities.map cS115))]))]) Sub.tt ?_
         refine Chain.nil ?_
         cases h
         refine PostI.next ?_
         exact Sub.tt
        ·have c609_ : v605 = false := Bool.eq_false_iff.2 c609
         refine AW.condF (b := v605) rfl c609_ ?_
         refine AW.sub (Sub.bool 45 (b := v605) rfl c609_) ?_
         refine AW.sub (S' := mk 57 [] [(1, .d (.lit (.int .i64 a1))), (2, .ptr 2 0 0), (5, .d (.lit (.int .i64 v562))), (6, .d (.lit (.int .i64 v153))), (9, .ptr 9 0 0), (11, .d (.sl (a0.Sizes.map (cI .i64)))), (12, .d (.lit (.int .i64 (a0.Sizes.length : Int)))), (13, .d (.lit (.int .i64 v153))), (28, .d (.sl (a0.Selectivities.map cS115))), (29, .d (.lit (.int .i64 (a0.Selectivities.length : Int)))), (30, .d (.lit (.int .i64 v563))), (45, .d (.lit (.bool false)))] [(2, some (.box [.d (.sl (a0.Sizes.map (cI .i64))), .d (.sl (a0.Selectivities.map cS115))])), (9, some (.box [.d (.lit (.int .i64 x600.A)), .d (.lit (.int .i64 x600.B)), .d (.lit (.int .i64 x600.Divisor))]))]) (by simp; exact Sub.table (by simp) (by simp)) ?_
         refine AW.skip ?_
         refine blockQ.normal ?_
         refine thenQ_normal ?_
         refine AW.region ?_
         replace h := bsome h; obtain ⟨v614, hv614, h⟩ := h
         have hv614 := chkI_some hv614
         refine Chain.runK [] 2 fun K hK => ?_; simp [hv614]; refine hK _ _ ?_; clear hK K
         refine Chain.sub (S' := mk 57 [] [(1, .d (.lit (.int .i64 a1))), (2, .ptr 2 0 0), (5, .d (.lit (.int .i64 v562))), (6, .d (.lit (.int .i64 v153))), (11, .d (.sl (a0.Sizes.map (cI .i64)))), (12, .d (.lit (.int .i64 (a0.Sizes.length : Int)))), (13, .d (.lit (.int .i64 v153))), (28, .d (.sl (a0.Selectivities.map cS115))), (29, .d (.lit (.int .i64 (a0.Selectivities.length : Int)))), (30, .d (.lit (.int .i64 v614)))] [(2, some (.box [.d (.sl (a0.Sizes.map (cI .i64))), .d (.sl (a0.Selectivities.map cS115))]))]) Sub.tt ?_
         refine Chain.nil ?_
         cases h
         refine PostI.next ?_
         exact Sub.tt
      ·have c599_ : decide (v563 < (a0.Selectivities.length : Int)) = false := decide_eq_false c599
       refine AW.condF (b := decide (v563 < (a0.Selectivities.length : Int))) rfl c599_ ?_
       refine AW.sub (Sub.bool 31 (b := decide (v563 < (a0.Selectivities.length : Int))) rfl c599_) ?_
       refine AW.sub (S' := mk 57 [] [(1, .d (.lit (.int .i64 a1))), (2, .ptr 2 0 0), (5, .d (.lit (.int .i64 v562))), (6, .d (.lit (.int .i64 v153))), (11, .d (.sl (a0.Sizes.map (cI .i64)))), (12, .d (.lit (.int .i64 (a0.Sizes.length : Int)))), (13, .d (.lit (.int .i64 v153))), (28, .d (.sl (a0.Selectivities.map cS115))), (29, .d (.lit (.int .i64 (a0.Selectivities.length : Int)))), (30, .d (.lit (.int .i64 v563))), (31, .d (.lit (.bool false)))] [(2, some (.box [.d (.sl (a0.Sizes.map (cI .i64))), .d (.sl (a0.Selectivities.map cS115))]))]) (by simp; exact Sub.table (by simp) (by simp)) ?_
       refine AW.exit ?_
       cases h
       refine thenQ_pass (by simp) ?_
       refine PostI.out (by simp) ?_
       rintro rfl
       refine blockQ.hit ?_
       refine PostN.next ?_
       exact Sub.tt
     ·rintro v598 h
      cases h
      refine blockQ.normal ?_
      refine PostN.next ?_
      exact Sub.tt
   ·rintro v539 h
    refine AW.region ?_
    replace h := bsome h; obtain ⟨v615, hv615, h⟩ := h
    have hv615 := chkI_some hv615
    refine Chain.runK [] 2 fun K hK => ?_; simp [hv615]; refine hK _ _ ?_; clear hK K
    refine Chain.sub (S' := mk 57 [] [(1, .d (.lit (.int .i64 a1))), (2, .ptr 2 0 0), (5, .d (.lit (.int .i64 v539))), (11, .d (.sl (a0.Sizes.map (cI .i64)))), (12, .d (.lit (.int .i64 (a0.Sizes.length : Int)))), (13, .d (.lit (.int .i64 v615)))] [(2, some (.box [.d (.sl (a0.Sizes.map (cI .i64))), .d (.sl (a0.Selectivities.map cS115))]))]) Sub.tt ?_
    refine Chain.nil ?_
    cases h
    refine PostI.next ?_
    exact Sub.tt
  ·have c463_ : decide (v153 < (a0.Sizes.length : Int)) = false := decide_eq_false c463
   refine AW.condF (b := decide (v153 < (a0.Sizes.length : Int))) rfl c463_ ?_
   refine AW.sub (Sub.bool 14 (b := decide (v153 < (a0.Sizes.length : Int))) rfl c463_) ?_
   refine AW.sub (S' := mk 57 [] [(1, .d (.lit (.int .i64 a1))), (2, .ptr 2 0 0), (5, .d (.lit (.int .i64 v152))), (11, .d (.sl (a0.Sizes.map (cI .i64)))), (12, .d (.lit (.int .i64 (a0.Sizes.length : Int)))), (13, .d (.lit (.int .i64 v153))), (14, .d (.lit (.bool false)))] [(2, some (.box [.d (.sl (a0.Sizes.map (cI .i64))), .d (.sl (a0.Selectivities.map cS115))]))]) (by simp; exact Sub.table (by simp) (by simp)) ?_
   refine AW.exit ?_
   cases h
   refine thenQ_pass (by simp) ?_
   refine PostI.out (by simp) ?_
   rintro rfl
   refine blockQ.hit ?_
   refine PostN.next ?_
   exact Sub.tt
 ·rintro v462 h
  refine thenQ_normal ?_
  refine AW.seqR ?_
  refine Chain.runK [] 2 fun K hK => ?_; simp; refine hK _ _ ?_; clear hK K
  refine Chain.sub (S' := mk 57 [] [(4, .d (.lit (.int .i64 v462)))] []) Sub.tt ?_
  refine Chain.nil ?_
  refine AW.ret ?_
  cases h
  exact FinC.ret (by simp) (by simp)

/-- stemma/joinorder.cost -/
def d48 : (N : Nat) → (a0 : S25) → (a1 : S28) → Option Int
 | 0, _, _ => none
 | N + 1, a0, a1 =>
  if ((a1.Children.length : Int) == 0) then (
   some 0
  ) else
  (d15 N a0 a1).bind fun r2 =>
  (idx a1.Children 0).bind fun x3 =>
  (d48 N a0 x3).bind fun r4 =>
  (idx a1.Children 1).bind fun x5 =>
  (d48 N a0 x5).bind fun r6 =>
  (chkI (r4 + r6)).bind fun v7 =>
  (d53 N a0 r2.1).bind fun r8 =>
  (chkI (v7 + r8)).bind fun v9 =>
  some v9
set_option maxRecDepth 100000 in
set_option maxHeartbeats 4000000 in
theorem p48 (N : Nat) : ∀ (a0 : S25) (a1 : S28) (r : Int) (_ : d48 N a0 a1 = some r), FunC Tryz.prog 48 [.agg [.d (.sl (a0.Sizes.map (cI .i64))), .d (.sl (a0.Selectivities.map cS115))], .agg [.d (.lit (.int .i64 a1.Leaf)), .d (.sl (a1.Children.map cS28))]] (.d (.lit (.int .i64 r))) := by
 induction N with
 | zero => intro a0 a1 r h; cases h
 | succ N ih =>
 intro a0 a1 r h
 unfold d48 at h
 refine FunC.enter 34 [(0, .agg [.d (.sl (a0.Sizes.map (cI .i64))), .d (.sl (a0.Selectivities.map cS115))]), (1, .agg [.d (.lit (.int .i64 a1.Leaf)), .d (.sl (a1.Children.map cS28))])] (by simp) Tryz.func48 rfl (of_decide_eq_true rfl) rfl rfl ?_
 refine AW.seqR ?_
 refine Chain.runK [] 3 fun K hK => ?_; simp; refine hK _ _ ?_; clear hK K
 refine Chain.sub (S' := mk 34 [] [(2, .ptr 2 0 0), (3, .ptr 3 0 0)] [(2, some (.box [.d (.sl (a0.Sizes.map (cI .i64))), .d (.sl (a0.Selectivities.map cS115))])), (3, some (.box [.d (.lit (.int .i64 a1.Leaf)), .d (.sl (a1.Children.map cS28))]))]) Sub.tt ?_
 refine Chain.nil ?_
 refine AW.seq ?_
 refine AW.seqR ?_
 refine Chain.runK [] 4 fun K hK => ?_; simp; refine hK _ _ ?_; clear hK K
 refine Chain.sub (S' := mk 34 [] [(2, .ptr 2 0 0), (3, .ptr 3 0 0), (10, .d (.lit (.bool ((a1.Children.length : Int) == 0))))] [(2, some (.box [.d (.sl (a0.Sizes.map (cI .i64))), .d (.sl (a0.Selectivities.map cS115))])), (3, some (.box [.d (.lit (.int .i64 a1.Leaf)), .d (.sl (a1.Children.map cS28))]))]) Sub.tt ?_
 refine Chain.nil ?_
 replace h := isome h; rcases h with ⟨c1, h⟩ | ⟨c1, h⟩
 ·have c1_ : ((a1.Children.length : Int) == 0) = true := c1
  refine AW.condT (b := ((a1.Children.length : Int) == 0)) rfl c1_ ?_
  refine AW.sub (Sub.bool 10 (b := ((a1.Children.length : Int) == 0)) rfl c1_) ?_
  refine AW.sub (S' := mk 34 [] [(2, .ptr 2 0 0), (3, .ptr 3 0 0), (10, .d (.lit (.bool true)))] [(2, some (.box [.d (.sl (a0.Sizes.map (cI .i64))), .d (.sl (a0.Selectivities.map cS115))])), (3, some (.box [.d (.lit (.int .i64 a1.Leaf)), .d (.sl (a1.Children.map cS28))]))]) (by simp; exact Sub.table (by simp) (by simp)) ?_
  refine AW.seqR ?_
  refine Chain.runK [] 1 fun K hK => ?_; simp; refine hK _ _ ?_; clear hK K
  refine Chain.sub (S' := mk 34 [] [(4, .d (.lit (.int .i64 0)))] []) Sub.tt ?_
  refine Chain.nil ?_
  refine AW.ret ?_
  cases h
  refine thenQ_pass (by simp) ?_
  exact FinC.ret (by simp) (by simp)
 ·have c1_ : ((a1.Children.length : Int) == 0) = false := Bool.eq_false_iff.2 c1
  refine AW.condF (b := ((a1.Children.length : Int) == 0)) rfl c1_ ?_
  refine AW.sub (Sub.bool 10 (b := ((a1.Children.length : Int) == 0)) rfl c1_) ?_
  refine AW.sub (S' := mk 34 [] [(2, .ptr 2 0 0), (3, .ptr 3 0 0), (10, .d (.lit (.bool false)))] [(2, some (.box [.d (.sl (a0.Sizes.map (cI .i64))), .d (.sl (a0.Selectivities.map cS115))])), (3, some (.box [.d (.lit (.int .i64 a1.Leaf)), .d (.sl (a1.Children.map cS28))]))]) (by simp; exact Sub.table (by simp) (by simp)) ?_
  refine AW.skip ?_
  refine thenQ_normal ?_
  refine AW.seqR ?_
  refine Chain.runK [] 2 fun K hK => ?_; simp; refine hK _ _ ?_; clear hK K
  refine Chain.sub (S' := mk 34 [] [(2, .ptr 2 0 0), (3, .ptr 3 0 0), (12, .agg [.d (.sl (a0.Sizes.map (cI .i64))), .d (.sl (a0.Selectivities.map cS115))]), (13, .agg [.d (.lit (.int .i64 a1.Leaf)), .d (.sl (a1.Children.map cS28))])] [(2, some (.box [.d (.sl (a0.Sizes.map (cI .i64))), .d (.sl (a0.Selectivities.map cS115))])), (3, some (.box [.d (.lit (.int .i64 a1.Leaf)), .d (.sl (a1.Children.map cS28))]))]) Sub.tt ?_
  replace h := bsome h; obtain ⟨r2, hr2, h⟩ := h
  refine Chain.callL (d := 14) (p15 N a0 a1 r2 hr2) (by simp) rfl rfl (by simp <;> rfl) (by simp <;> rfl) ent15 (by simp <;> rfl) ?_
  refine Chain.sub (S' := mk 34 [] [(2, .ptr 2 0 0), (3, .ptr 3 0 0), (12, .agg [.d (.sl (a0.Sizes.map (cI .i64))), .d (.sl (a0.Selectivities.map cS115))]), (13, .agg [.d (.lit (.int .i64 a1.Leaf)), .d (.sl (a1.Children.map cS28))]), (14, .tup [.d (.lit (.int .i64 r2.1)), .d (.lit (.bool r2.2))])] [(2, some (.box [.d (.sl (a0.Sizes.map (cI .i64))), .d (.sl (a0.Selectivities.map cS115))])), (3, some (.box [.d (.lit (.int .i64 a1.Leaf)), .d (.sl (a1.Children.map cS28))]))]) (by simp; exact Sub.table (by simp) (by simp)) ?_
  refine Chain.runK [] 5 fun K hK => ?_; simp; refine hK _ _ ?_; clear hK K
  refine Chain.sub (S' := mk 34 [] [(2, .ptr 2 0 0), (3, .ptr 3 0 0), (5, .d (.lit (.int .i64 r2.1)))] [(2, some (.box [.d (.sl (a0.Sizes.map (cI .i64))), .d (.sl (a0.Selectivities.map cS115))])), (3, some (.box [.d (.lit (.int .i64 a1.Leaf)), .d (.sl (a1.Children.map cS28))]))]) Sub.tt ?_
  refine Chain.nil ?_
  refine AW.seqQ (by kernel_rfl) (by kernel_rfl) ?_
  replace h := bsome h; obtain ⟨x3, hx3, h⟩ := h
  obtain ⟨hx3, hx3b, hx3c⟩ := idx_someN (n := 0) hx3
  refine Chain.runQ 5 fun K hK => ?_; simp [hx3]; refine hK _ _ ?_; clear hK K
  refine Chain.sub (S' := mk 34 [] [(2, .ptr 2 0 0), (3, .ptr 3 0 0), (5, .d (.lit (.int .i64 r2.1))), (17, .agg [.d (.sl (a0.Sizes.map (cI .i64))), .d (.sl (a0.Selectivities.map cS115))]), (21, .agg [.d (.lit (.int .i64 x3.Leaf)), .d (.sl (x3.Children.map cS28))])] [(2, some (.box [.d (.sl (a0.Sizes.map (cI .i64))), .d (.sl (a0.Selectivities.map cS115))])), (3, some (.box [.d (.lit (.int .i64 a1.Leaf)), .d (.sl (a1.Children.map cS28))]))]) Sub.tt ?_
  replace h := bsome h; obtain ⟨r4, hr4, h⟩ := h
  refine Chain.callL (d := 22) (ih a0 x3 r4 hr4) (by simp) rfl rfl (by simp <;> rfl) (by simp <;> rfl) ent48 (by simp <;> rfl) ?_
  refine Chain.sub (S' := mk 34 [] [(2, .ptr 2 0 0), (3, .ptr 3 0 0), (5, .d (.lit (.int .i64 r2.1))), (17, .agg [.d (.sl (a0.Sizes.map (cI .i64))), .d (.sl (a0.Selectivities.map cS115))]), (21, .agg [.d (.lit (.int .i64 x3.Leaf)), .d (.sl (x3.Children.map cS28))]), (22, .d (.lit (.int .i64 r4)))] [(2, some (.box [.d (.sl (a0.Sizes.map (cI .i64))), .d (.sl (a0.Selectivities.map cS115))])), (3, some (.box [.d (.lit (.int .i64 a1.Leaf)), .d (.sl (a1.Children.map cS28))]))]) (by simp; exact Sub.table (by simp) (by simp)) ?_
  replace h := bsome h; obtain ⟨x5, hx5, h⟩ := h
  obtain ⟨hx5, hx5b, hx5c⟩ := idx_someN (n := 1) hx5
  refine Chain.runQ 5 fun K hK => ?_; simp [hx5]; refine hK _ _ ?_; clear hK K
  refine Chain.sub (S' := mk 34 [] [(2, .ptr 2 0 0), (5, .d (.lit (.int .i64 r2.1))), (22, .d (.lit (.int .i64 r4))), (23, .agg [.d (.sl (a0.Sizes.map (cI .i64))), .d (.sl (a0.Selectivities.map cS115))]), (27, .agg [.d (.lit (.int .i64 x5.Leaf)), .d (.sl (x5.Children.map cS28))])] [(2, some (.box [.d (.sl (a0.Sizes.map (cI .i64))), .d (.sl (a0.Selectivities.map cS115))]))]) Sub.tt ?_
  replace h := bsome h; obtain ⟨r6, hr6, h⟩ := h
  refine Chain.callL (d := 28) (ih a0 x5 r6 hr6) (by simp) rfl rfl (by simp <;> rfl) (by simp <;> rfl) ent48 (by simp <;> rfl) ?_
  refine Chain.sub (S' := mk 34 [] [(2, .ptr 2 0 0), (5, .d (.lit (.int .i64 r2.1))), (22, .d (.lit (.int .i64 r4))), (23, .agg [.d (.sl (a0.Sizes.map (cI .i64))), .d (.sl (a0.Selectivities.map cS115))]), (27, .agg [.d (.lit (.int .i64 x5.Leaf)), .d (.sl (x5.Children.map cS28))]), (28, .d (.lit (.int .i64 r6)))] [(2, some (.box [.d (.sl (a0.Sizes.map (cI .i64))), .d (.sl (a0.Selectivities.map cS115))]))]) (by simp; exact Sub.table (by simp) (by simp)) ?_
  replace h := bsome h; obtain ⟨v7, hv7, h⟩ := h
  have hv7 := chkI_some hv7
  refine Chain.runQ 3 fun K hK => ?_; simp [hv7]; refine hK _ _ ?_; clear hK K
  refine Chain.sub (S' := mk 34 [] [(29, .d (.lit (.int .i64 v7))), (30, .agg [.d (.sl (a0.Sizes.map (cI .i64))), .d (.sl (a0.Selectivities.map cS115))]), (31, .d (.lit (.int .i64 r2.1)))] []) Sub.tt ?_
  replace h := bsome h; obtain ⟨r8, hr8, h⟩ := h
  refine Chain.callL (d := 32) (p53 N a0 r2.1 r8 hr8) (by simp) rfl rfl (by simp <;> rfl) (by simp <;> rfl) ent53 (by simp <;> rfl) ?_
  refine Chain.sub (S' := mk 34 [] [(29, .d (.lit (.int .i64 v7))), (30, .agg [.d (.sl (a0.Sizes.map (cI .i64))), .d (.sl (a0.Selectivities.map cS115))]), (31, .d (.lit (.int .i64 r2.1))), (32, .d (.lit (.int .i64 r8)))] []) (by simp; exact Sub.table (by simp) (by simp)) ?_
  replace h := bsome h; obtain ⟨v9, hv9, h⟩ := h
  have hv9 := chkI_some hv9
  refine Chain.runQ 2 fun K hK => ?_; simp [hv9]; refine hK _ _ ?_; clear hK K
  refine Chain.sub (S' := mk 34 [] [(4, .d (.lit (.int .i64 v9)))] []) Sub.tt ?_
  refine Chain.nil ?_
  refine AW.ret ?_
  cases h
  exact FinC.ret (by simp) (by simp)

/-- stemma/joinorder.Cost -/
def d11 (N : Nat) (a0 : S25) (a1 : S28) : Option (Int × Int) :=
 (d12 N a0).bind fun r1 =>
 if (r1 != 0) then (
  some (0, r1)
 ) else
 (d15 N a0 a1).bind fun r3 =>
 Option.bind (α := Bool) (
  if (!r3.2) = true then (
   some true
  ) else
  (shiftB .i64 (a0.Sizes.length : Int)).bind fun _ =>
  letv (shlI .i64 1 (a0.Sizes.length : Int)) fun v9 =>
  (chkI (v9 - 1)).bind fun v10 =>
  some (r3.1 != v10)
 ) fun (v7 : Bool) =>
 if v7 = true then (
  some (0, 3)
 ) else
 (d48 N a0 a1).bind fun r12 =>
 some (r12, 0)
set_option maxRecDepth 100000 in
set_option maxHeartbeats 4000000 in
theorem p11 (N : Nat) (a0 : S25) (a1 : S28) (r : (Int × Int)) (h : d11 N a0 a1 = some r) : FunC Tryz.prog 11 [.agg [.d (.sl (a0.Sizes.map (cI .i64))), .d (.sl (a0.Selectivities.map cS115))], .agg [.d (.lit (.int .i64 a1.Leaf)), .d (.sl (a1.Children.map cS28))]] (.tup [.d (.lit (.int .i64 r.1)), .d (.lit (.int .i64 r.2))]) := by
 unfold d11 at h
 refine FunC.enter 34 [(0, .agg [.d (.sl (a0.Sizes.map (cI .i64))), .d (.sl (a0.Selectivities.map cS115))]), (1, .agg [.d (.lit (.int .i64 a1.Leaf)), .d (.sl (a1.Children.map cS28))])] (by simp) Tryz.func11 rfl (of_decide_eq_true rfl) rfl rfl ?_
 refine AW.seqR ?_
 refine Chain.runK [] 4 fun K hK => ?_; simp; refine hK _ _ ?_; clear hK K
 refine Chain.sub (S' := mk 34 [] [(2, .ptr 2 0 0), (3, .ptr 3 0 0)] [(2, some (.box [.d (.sl (a0.Sizes.map (cI .i64))), .d (.sl (a0.Selectivities.map cS115))])), (3, some (.box [.d (.lit (.int .i64 a1.Leaf)), .d (.sl (a1.Children.map cS28))]))]) Sub.tt ?_
 refine Chain.nil ?_
 refine AW.seq ?_
 refine AW.seqR ?_
 refine Chain.runK [] 1 fun K hK => ?_; simp; refine hK _ _ ?_; clear hK K
 refine Chain.sub (S' := mk 34 [] [(2, .ptr 2 0 0), (3, .ptr 3 0 0), (9, .agg [.d (.sl (a0.Sizes.map (cI .i64))), .d (.sl (a0.Selectivities.map cS115))])] [(2, some (.box [.d (.sl (a0.Sizes.map (cI .i64))), .d (.sl (a0.Selectivities.map cS115))])), (3, some (.box [.d (.lit (.int .i64 a1.Leaf)), .d (.sl (a1.Children.map cS28))]))]) Sub.tt ?_
 replace h := bsome h; obtain ⟨r1, hr1, h⟩ := h
 refine Chain.callL (d := 10) (p12 N a0 r1 hr1) (by simp) rfl rfl (by simp <;> rfl) (by simp <;> rfl) ent12 (by simp <;> rfl) ?_
 refine Chain.sub (S' := mk 34 [] [(2, .ptr 2 0 0), (3, .ptr 3 0 0), (9, .agg [.d (.sl (a0.Sizes.map (cI .i64))), .d (.sl (a0.Selectivities.map cS115))]), (10, .d (.lit (.int .i64 r1)))] [(2, some (.box [.d (.sl (a0.Sizes.map (cI .i64))), .d (.sl (a0.Selectivities.map cS115))])), (3, some (.box [.d (.lit (.int .i64 a1.Leaf)), .d (.sl (a1.Children.map cS28))]))]) (by simp; exact Sub.table (by simp) (by simp)) ?_
 refine Chain.runK [] 1 fun K hK => ?_; simp; refine hK _ _ ?_; clear hK K
 refine Chain.sub (S' := mk 34 [] [(2, .ptr 2 0 0), (3, .ptr 3 0 0), (6, .d (.lit (.int .i64 r1)))] [(2, some (.box [.d (.sl (a0.Sizes.map (cI .i64))), .d (.sl (a0.Selectivities.map cS115))])), (3, some (.box [.d (.lit (.int .i64 a1.Leaf)), .d (.sl (a1.Children.map cS28))]))]) Sub.tt ?_
 refine Chain.nil ?_
 refine AW.seqR ?_
 refine Chain.runK [] 2 fun K hK => ?_; simp; refine hK _ _ ?_; clear hK K
 refine Chain.sub (S' := mk 34 [] [(2, .ptr 2 0 0), (3, .ptr 3 0 0), (6, .d (.lit (.int .i64 r1))), (12, .d (.lit (.bool (r1 != 0))))] [(2, some (.box [.d (.sl (a0.Sizes.map (cI .i64))), .d (.sl (a0.Selectivities.map cS115))])), (3, some (.box [.d (.lit (.int .i64 a1.Leaf)), .d (.sl (a1.Children.map cS28))]))]) Sub.tt ?_
 refine Chain.nil ?_
 replace h := isome h; rcases h with ⟨c2, h⟩ | ⟨c2, h⟩
 ·have c2_ : (r1 != 0) = true := c2
  refine AW.condT (b := (r1 != 0)) rfl c2_ ?_
  refine AW.sub (Sub.bool 12 (b := (r1 != 0)) rfl c2_) ?_
  refine AW.sub (S' := mk 34 [] [(2, .ptr 2 0 0), (3, .ptr 3 0 0), (6, .d (.lit (.int .i64 r1))), (12, .d (.lit (.bool true)))] [(2, some (.box [.d (.sl (a0.Sizes.map (cI .i64))), .d (.sl (a0.Selectivities.map cS115))])), (3, some (.box [.d (.lit (.int .i64 a1.Leaf)), .d (.sl (a1.Children.map cS28))]))]) (by simp; exact Sub.table (by simp) (by simp)) ?_
  refine AW.seqR ?_
  refine Chain.runK [] 3 fun K hK => ?_; simp; refine hK _ _ ?_; clear hK K
  refine Chain.sub (S' := mk 34 [] [(4, .d (.lit (.int .i64 0))), (5, .d (.lit (.int .i64 r1)))] []) Sub.tt ?_
  refine Chain.nil ?_
  refine AW.ret ?_
  cases h
  refine thenQ_pass (by simp) ?_
  exact FinC.ret (by simp) (by simp)
 ·have c2_ : (r1 != 0) = false := Bool.eq_false_iff.2 c2
  refine AW.condF (b := (r1 != 0)) rfl c2_ ?_
  refine AW.sub (Sub.bool 12 (b := (r1 != 0)) rfl c2_) ?_
  refine AW.sub (S' := mk 34 [] [(2, .ptr 2 0 0), (3, .ptr 3 0 0), (6, .d (.lit (.int .i64 r1))), (12, .d (.lit (.bool false)))] [(2, some (.box [.d (.sl (a0.Sizes.map (cI .i64))), .d (.sl (a0.Selectivities.map cS115))])), (3, some (.box [.d (.lit (.int .i64 a1.Leaf)), .d (.sl (a1.Children.map cS28))]))]) (by simp; exact Sub.table (by simp) (by simp)) ?_
  refine AW.skip ?_
  refine thenQ_normal ?_
  refine AW.seqR ?_
  refine Chain.runK [] 2 fun K hK => ?_; simp; refine hK _ _ ?_; clear hK K
  refine Chain.sub (S' := mk 34 [] [(2, .ptr 2 0 0), (3, .ptr 3 0 0), (15, .agg [.d (.sl (a0.Sizes.map (cI .i64))), .d (.sl (a0.Selectivities.map cS115))]), (16, .agg [.d (.lit (.int .i64 a1.Leaf)), .d (.sl (a1.Children.map cS28))])] [(2, some (.box [.d (.sl (a0.Sizes.map (cI .i64))), .d (.sl (a0.Selectivities.map cS115))])), (3, some (.box [.d (.lit (.int .i64 a1.Leaf)), .d (.sl (a1.Children.map cS28))]))]) Sub.tt ?_
  replace h := bsome h; obtain ⟨r3, hr3, h⟩ := h
  refine Chain.callL (d := 17) (p15 N a0 a1 r3 hr3) (by simp) rfl rfl (by simp <;> rfl) (by simp <;> rfl) ent15 (by simp <;> rfl) ?_
  refine Chain.sub (S' := mk 34 [] [(2, .ptr 2 0 0), (3, .ptr 3 0 0), (15, .agg [.d (.sl (a0.Sizes.map (cI .i64))), .d (.sl (a0.Selectivities.map cS115))]), (16, .agg [.d (.lit (.int .i64 a1.Leaf)), .d (.sl (a1.Children.map cS28))]), (17, .tup [.d (.lit (.int .i64 r3.1)), .d (.lit (.bool r3.2))])] [(2, some (.box [.d (.sl (a0.Sizes.map (cI .i64))), .d (.sl (a0.Selectivities.map cS115))])), (3, some (.box [.d (.lit (.int .i64 a1.Leaf)), .d (.sl (a1.Children.map cS28))]))]) (by simp; exact Sub.table (by simp) (by simp)) ?_
  refine Chain.runK [] 5 fun K hK => ?_; simp; refine hK _ _ ?_; clear hK K
  refine Chain.sub (S' := mk 34 [] [(2, .ptr 2 0 0), (3, .ptr 3 0 0), (7, .d (.lit (.int .i64 r3.1))), (8, .d (.lit (.bool r3.2)))] [(2, some (.box [.d (.sl (a0.Sizes.map (cI .i64))), .d (.sl (a0.Selectivities.map cS115))])), (3, some (.box [.d (.lit (.int .i64 a1.Leaf)), .d (.sl (a1.Children.map cS28))]))]) Sub.tt ?_
  refine Chain.nil ?_
  refine AW.seq ?_
  replace h := bsome h; obtain ⟨v7, hj, h⟩ := h
  refine AW.cutR (mk 34 [] [(2, .ptr 2 0 0), (3, .ptr 3 0 0), (30, .d (.lit (.bool v7)))] [(2, some (.box [.d (.sl (a0.Sizes.map (cI .i64))), .d (.sl (a0.Selectivities.map cS115))])), (3, some (.box [.d (.lit (.int .i64 a1.Leaf)), .d (.sl (a1.Children.map cS28))]))]) ?_ ?_
  ·clear h; have h := hj; clear hj
   refine Chain.runK [] 3 fun K hK => ?_; simp; refine hK _ _ ?_; clear hK K
   refine Chain.sub (S' := mk 34 [] [(2, .ptr 2 0 0), (3, .ptr 3 0 0), (7, .d (.lit (.int .i64 r3.1))), (22, .d (.lit (.bool (!r3.2))))] [(2, some (.box [.d (.sl (a0.Sizes.map (cI .i64))), .d (.sl (a0.Selectivities.map cS115))])), (3, some (.box [.d (.lit (.int .i64 a1.Leaf)), .d (.sl (a1.Children.map cS28))]))]) Sub.tt ?_
   replace h := isome h; rcases h with ⟨c8, h⟩ | ⟨c8, h⟩
   ·have c8_ : (!r3.2) = true := c8
    refine Chain.sub (Sub.bool 22 (b := (!r3.2)) rfl c8_) ?_
    refine Chain.sub (S' := mk 34 [] [(2, .ptr 2 0 0), (3, .ptr 3 0 0), (7, .d (.lit (.int .i64 r3.1))), (22, .d (.lit (.bool true)))] [(2, some (.box [.d (.sl (a0.Sizes.map (cI .i64))), .d (.sl (a0.Selectivities.map cS115))])), (3, some (.box [.d (.lit (.int .i64 a1.Leaf)), .d (.sl (a1.Children.map cS28))]))]) (by simp; exact Sub.table (by simp) (by simp)) ?_
    refine Chain.runK [] 8 fun K hK => ?_; simp; refine hK _ _ ?_; clear hK K
    refine Chain.sub (S' := mk 34 [] [(2, .ptr 2 0 0), (3, .ptr 3 0 0), (30, .d (.lit (.bool true)))] [(2, some (.box [.d (.sl (a0.Sizes.map (cI .i64))), .d (.sl (a0.Selectivities.map cS115))])), (3, some (.box [.d (.lit (.int .i64 a1.Leaf)), .d (.sl (a1.Children.map cS28))]))]) Sub.tt ?_
    cases h
    exact Chain.nil Sub.tt
   ·have c8_ : (!r3.2) = false := Bool.eq_false_iff.2 c8
    refine Chain.sub (Sub.bool 22 (b := (!r3.2)) rfl c8_) ?_
    refine Chain.sub (S' := mk 34 [] [(2, .ptr 2 0 0), (3, .ptr 3 0 0), (7, .d (.lit (.int .i64 r3.1))), (22, .d (.lit (.bool false)))] [(2, some (.box [.d (.sl (a0.Sizes.map (cI .i64))), .d (.sl (a0.Selectivities.map cS115))])), (3, some (.box [.d (.lit (.int .i64 a1.Leaf)), .d (.sl (a1.Children.map cS28))]))]) (by simp; exact Sub.table (by simp) (by simp)) ?_
    replace h := bsome h; obtain ⟨_, gv9, h⟩ := h
    have hv9a := shiftB_some gv9
    try simp at hv9a
    replace h := lsome h; obtain ⟨v9, hv9, h⟩ := h
    replace h := bsome h; obtain ⟨v10, hv10, h⟩ := h
    have hv10 := chkI_some hv10
    refine Chain.runK [] 8 fun K hK => ?_; simp [hv9a, hv9, hv10]; refine hK _ _ ?_; clear hK K
    refine Chain.sub (S' := mk 34 [] [(2, .ptr 2 0 0), (3, .ptr 3 0 0), (30, .d (.lit (.bool (r3.1 != v10))))] [(2, some (.box [.d (.sl (a0.Sizes.map (cI .i64))), .d (.sl (a0.Selectivities.map cS115))])), (3, some (.box [.d (.lit (.int .i64 a1.Leaf)), .d (.sl (a1.Children.map cS28))]))]) Sub.tt ?_
    cases h
    exact Chain.nil Sub.tt
  ·clear hj
   replace h := isome h; rcases h with ⟨c11, h⟩ | ⟨c11, h⟩
   ·have c11_ : v7 = true := c11
    refine AW.condT (b := v7) rfl c11_ ?_
    refine AW.sub (Sub.bool 30 (b := v7) rfl c11_) ?_
    refine AW.sub (S' := mk 34 [] [(2, .ptr 2 0 0), (3, .ptr 3 0 0), (30, .d (.lit (.bool true)))] [(2, some (.box [.d (.sl (a0.Sizes.map (cI .i64))), .d (.sl (a0.Selectivities.map cS115))])), (3, some (.box [.d (.lit (.int .i64 a1.Leaf)), .d (.sl (a1.Children.map cS28))]))]) (by simp; exact Sub.table (by simp) (by simp)) ?_
    refine AW.seqR ?_
    refine Chain.runK [] 2 fun K hK => ?_; simp; refine hK _ _ ?_; clear hK K
    refine Chain.sub (S' := mk 34 [] [(4, .d (.lit (.int .i64 0))), (5, .d (.lit (.int .i64 3)))] []) Sub.tt ?_
    refine Chain.nil ?_
    refine AW.ret ?_
    cases h
    refine thenQ_pass (by simp) ?_
    exact FinC.ret (by simp) (by simp)
   ·have c11_ : v7 = false := Bool.eq_false_iff.2 c11
    refine AW.condF (b := v7) rfl c11_ ?_
    refine AW.sub (Sub.bool 30 (b := v7) rfl c11_) ?_
    refine AW.sub (S' := mk 34 [] [(2, .ptr 2 0 0), (3, .ptr 3 0 0), (30, .d (.lit (.bool false)))] [(2, some (.box [.d (.sl (a0.Sizes.map (cI .i64))), .d (.sl (a0.Selectivities.map cS115))])), (3, some (.box [.d (.lit (.int .i64 a1.Leaf)), .d (.sl (a1.Children.map cS28))]))]) (by simp; exact Sub.table (by simp) (by simp)) ?_
    refine AW.skip ?_
    refine thenQ_normal ?_
    refine AW.seqR ?_
    refine Chain.runK [] 2 fun K hK => ?_; simp; refine hK _ _ ?_; clear hK K
    refine Chain.sub (S' := mk 34 [] [(31, .agg [.d (.sl (a0.Sizes.map (cI .i64))), .d (.sl (a0.Selectivities.map cS115))]), (32, .agg [.d (.lit (.int .i64 a1.Leaf)), .d (.sl (a1.Children.map cS28))])] []) Sub.tt ?_
    replace h := bsome h; obtain ⟨r12, hr12, h⟩ := h
    refine Chain.callL (d := 33) (p48 N a0 a1 r12 hr12) (by simp) rfl rfl (by simp <;> rfl) (by simp <;> rfl) ent48 (by simp <;> rfl) ?_
    refine Chain.sub (S' := mk 34 [] [(31, .agg [.d (.sl (a0.Sizes.map (cI .i64))), .d (.sl (a0.Selectivities.map cS115))]), (32, .agg [.d (.lit (.int .i64 a1.Leaf)), .d (.sl (a1.Children.map cS28))]), (33, .d (.lit (.int .i64 r12)))] []) (by simp; exact Sub.table (by simp) (by simp)) ?_
    refine Chain.runK [] 2 fun K hK => ?_; simp; refine hK _ _ ?_; clear hK K
    refine Chain.sub (S' := mk 34 [] [(4, .d (.lit (.int .i64 r12))), (5, .d (.lit (.int .i64 0)))] []) Sub.tt ?_
    refine Chain.nil ?_
    refine AW.ret ?_
    cases h
    exact FinC.ret (by simp) (by simp)

end Go.Proofs.YtimkkjiplioohaaGreatDoor
