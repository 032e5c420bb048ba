/- Functions of the program as functional programs; the code computes them. -/
import Derived.Test.YtimkkjiplioohaaGreatDoorZd3
namespace Go.Proofs.YtimkkjiplioohaaGreatDoor
open Go.Ab Go.Rp
attribute [-simp] List.all_eq_true Array.all_toList Array.all_eq_true

/-- stemma/stemlaw3.JoinOrderCostMatchesReference -/
def d3 (N : Nat) (a0 : S25) (a1 : S28) : Option Bool :=
 (d9 N ).bind fun r1 =>
 if (!r1) = true then (
  some false
 ) else
 Option.bind (α := Bool) (
  (d10 N a1 60).bind fun r7 =>
  if r7 < 0 then (
   some true
  ) else
  if (a0.Sizes.length : Int) > 20 then (
   some true
  ) else
  some (decide ((a0.Selectivities.length : Int) > 60))
 ) fun (v6 : Bool) =>
 if v6 = true then (
  some true
 ) else
 (d11 N a0 a1).bind fun r11 =>
 (d12 N a0).bind fun r12 =>
 if (r12 != 0) then (
  Option.bind (α := Bool) (
   if (r11.2 == r12) then (
    some (r11.1 == 0)
   ) else
   some false
  ) fun (v15 : Bool) =>
  some v15
 ) else
 (mkL 1 (a0.Sizes.length : Int) (false : Bool)).bind fun l17 =>
 Option.bind (α := Bool) (
  (d13 N a0 a1 l17).bind fun r22 =>
  if (!r22.2) = true then (
   some true
  ) else
  (d14 N r22.1 false).bind fun r24 =>
  some r24
 ) fun (v21 : Bool) =>
 if v21 = true then (
  Option.bind (α := Bool) (
   if (r11.2 == 3) then (
    some (r11.1 == 0)
   ) else
   some false
  ) fun (v27 : Bool) =>
  some v27
 ) else
 (d15 N a0 a1).bind fun r29 =>
 Option.bind (α := Bool) (
  if (r11.2 == 0) then (
   (d16 N a0 a1).bind fun r38 =>
   if (r11.1 == r38) then (
    if r29.2 = true then (
     (shiftB .i64 (a0.Sizes.length : Int)).bind fun _ =>
     letv (shlI .i64 1 (a0.Sizes.length : Int)) fun v41 =>
     (chkI (v41 - 1)).bind fun v42 =>
     some (r29.1 == v42)
    ) else
    some false
   ) else
   some false
  ) else
  some false
 ) fun (v36 : Bool) =>
 some v36
set_option maxRecDepth 100000 in
set_option maxHeartbeats 4000000 in
theorem p3 (N : Nat) (a0 : S25) (a1 : S28) (r : Bool) (h : d3 N a0 a1 = some r) : FunC Tryz.prog 3 [.agg [.d (.sl (a0.Sizes.map (cI .i64))), .d (.sl (a0.Selectivities.map cS115))], .agg [.d (.lit (.int .i64 a1.Leaf)), .d (.sl (a1.Children.map cS28))]] (.d (.lit (.bool r))) := by
 unfold d3 at h
 refine FunC.enter 91 [(0, .agg [.d (.sl (a0.Sizes.map (cI .i64))), .d (.sl (a0.Selectivities.map cS115))]), (1, .agg [.d (.lit (.int .i64 a1.Leaf)), .d (.sl (a1.Children.map cS28))])] (by simp) Tryz.func3 rfl (of_decide_eq_true rfl) rfl rfl ?_
 refine AW.seqR ?_
 refine Chain.runK [] 3 fun K hK => ?_; simp; refine hK _ _ ?_; clear hK K
 refine Chain.sub (S' := mk 91 [] [(2, .ptr 2 0 0), (3, .ptr 3 0 0)] [(2, some (.box [.d (.sl (a0.Sizes.map (cI .i64))), .d (.sl (a0.Selectivities.map cS115))])), (3, some (.box [.d (.lit (.int .i64 a1.Leaf)), .d (.sl (a1.Children.map cS28))]))]) Sub.tt ?_
 refine Chain.nil ?_
 refine AW.seq ?_
 refine AW.seqR ?_
 replace h := bsome h; obtain ⟨r1, hr1, h⟩ := h
 refine Chain.callL (d := 11) (p9 N  r1 hr1) (by simp) rfl rfl (by simp <;> rfl) (by simp <;> rfl) ent9 (by simp <;> rfl) ?_
 refine Chain.sub (S' := mk 91 [] [(2, .ptr 2 0 0), (3, .ptr 3 0 0), (11, .d (.lit (.bool r1)))] [(2, some (.box [.d (.sl (a0.Sizes.map (cI .i64))), .d (.sl (a0.Selectivities.map cS115))])), (3, some (.box [.d (.lit (.int .i64 a1.Leaf)), .d (.sl (a1.Children.map cS28))]))]) (by simp; exact Sub.table (by simp) (by simp)) ?_
 refine Chain.runK [] 1 fun K hK => ?_; simp; refine hK _ _ ?_; clear hK K
 refine Chain.sub (S' := mk 91 [] [(2, .ptr 2 0 0), (3, .ptr 3 0 0), (12, .d (.lit (.bool (!r1))))] [(2, some (.box [.d (.sl (a0.Sizes.map (cI .i64))), .d (.sl (a0.Selectivities.map cS115))])), (3, some (.box [.d (.lit (.int .i64 a1.Leaf)), .d (.sl (a1.Children.map cS28))]))]) Sub.tt ?_
 refine Chain.nil ?_
 replace h := isome h; rcases h with ⟨c2, h⟩ | ⟨c2, h⟩
 ·have c2_ : (!r1) = true := c2
  refine AW.condT (b := (!r1)) rfl c2_ ?_
  refine AW.sub (Sub.bool 12 (b := (!r1)) rfl c2_) ?_
  refine AW.sub (S' := mk 91 [] [(2, .ptr 2 0 0), (3, .ptr 3 0 0), (12, .d (.lit (.bool true)))] [(2, some (.box [.d (.sl (a0.Sizes.map (cI .i64))), .d (.sl (a0.Selectivities.map cS115))])), (3, some (.box [.d (.lit (.int .i64 a1.Leaf)), .d (.sl (a1.Children.map cS28))]))]) (by simp; exact Sub.table (by simp) (by simp)) ?_
  refine AW.seqR ?_
  refine Chain.runK [] 1 fun K hK => ?_; simp; refine hK _ _ ?_; clear hK K
  refine Chain.sub (S' := mk 91 [] [(4, .d (.lit (.bool false)))] []) Sub.tt ?_
  refine Chain.nil ?_
  refine AW.ret ?_
  cases h
  refine thenQ_pass (by simp) ?_
  exact FinC.ret (by simp) (by simp)
 ·have c2_ : (!r1) = false := Bool.eq_false_iff.2 c2
  refine AW.condF (b := (!r1)) rfl c2_ ?_
  refine AW.sub (Sub.bool 12 (b := (!r1)) rfl c2_) ?_
  refine AW.sub (S' := mk 91 [] [(2, .ptr 2 0 0), (3, .ptr 3 0 0), (12, .d (.lit (.bool false)))] [(2, some (.box [.d (.sl (a0.Sizes.map (cI .i64))), .d (.sl (a0.Selectivities.map cS115))])), (3, some (.box [.d (.lit (.int .i64 a1.Leaf)), .d (.sl (a1.Children.map cS28))]))]) (by simp; exact Sub.table (by simp) (by simp)) ?_
  refine AW.skip ?_
  refine thenQ_normal ?_
  refine AW.seq ?_
  replace h := bsome h; obtain ⟨v6, hj, h⟩ := h
  refine AW.cutR (mk 91 [] [(2, .ptr 2 0 0), (3, .ptr 3 0 0), (27, .d (.lit (.bool v6)))] [(2, some (.box [.d (.sl (a0.Sizes.map (cI .i64))), .d (.sl (a0.Selectivities.map cS115))])), (3, some (.box [.d (.lit (.int .i64 a1.Leaf)), .d (.sl (a1.Children.map cS28))]))]) ?_ ?_
  ·clear h; have h := hj; clear hj
   refine Chain.runK [] 1 fun K hK => ?_; simp; refine hK _ _ ?_; clear hK K
   refine Chain.sub (S' := mk 91 [] [(2, .ptr 2 0 0), (3, .ptr 3 0 0), (13, .agg [.d (.lit (.int .i64 a1.Leaf)), .d (.sl (a1.Children.map cS28))])] [(2, some (.box [.d (.sl (a0.Sizes.map (cI .i64))), .d (.sl (a0.Selectivities.map cS115))])), (3, some (.box [.d (.lit (.int .i64 a1.Leaf)), .d (.sl (a1.Children.map cS28))]))]) Sub.tt ?_
   replace h := bsome h; obtain ⟨r7, hr7, h⟩ := h
   refine Chain.callL (d := 14) (p10 N a1 60 r7 hr7) (by simp) rfl rfl (by simp <;> rfl) (by simp <;> rfl) ent10 (by simp <;> rfl) ?_
   refine Chain.sub (S' := mk 91 [] [(2, .ptr 2 0 0), (3, .ptr 3 0 0), (13, .agg [.d (.lit (.int .i64 a1.Leaf)), .d (.sl (a1.Children.map cS28))]), (14, .d (.lit (.int .i64 r7)))] [(2, some (.box [.d (.sl (a0.Sizes.map (cI .i64))), .d (.sl (a0.Selectivities.map cS115))])), (3, some (.box [.d (.lit (.int .i64 a1.Leaf)), .d (.sl (a1.Children.map cS28))]))]) (by simp; exact Sub.table (by simp) (by simp)) ?_
   refine Chain.runK [] 2 fun K hK => ?_; simp; refine hK _ _ ?_; clear hK K
   refine Chain.sub (S' := mk 91 [] [(2, .ptr 2 0 0), (3, .ptr 3 0 0), (16, .d (.lit (.bool (decide (r7 < 0)))))] [(2, some (.box [.d (.sl (a0.Sizes.map (cI .i64))), .d (.sl (a0.Selectivities.map cS115))])), (3, some (.box [.d (.lit (.int .i64 a1.Leaf)), .d (.sl (a1.Children.map cS28))]))]) Sub.tt ?_
   replace h := isome h; rcases h with ⟨c8, h⟩ | ⟨c8, h⟩
   ·have c8_ : decide (r7 < 0) = true := decide_eq_true c8
    refine Chain.sub (Sub.bool 16 (b := decide (r7 < 0)) rfl c8_) ?_
    refine Chain.sub (S' := mk 91 [] [(2, .ptr 2 0 0), (3, .ptr 3 0 0), (16, .d (.lit (.bool true)))] [(2, some (.box [.d (.sl (a0.Sizes.map (cI .i64))), .d (.sl (a0.Selectivities.map cS115))])), (3, some (.box [.d (.lit (.int .i64 a1.Leaf)), .d (.sl (a1.Children.map cS28))]))]) (by simp; exact Sub.table (by simp) (by simp)) ?_
    refine Chain.runK [] 11 fun K hK => ?_; simp; refine hK _ _ ?_; clear hK K
    refine Chain.sub (S' := mk 91 [] [(2, .ptr 2 0 0), (3, .ptr 3 0 0), (27, .d (.lit (.bool true)))] [(2, some (.box [.d (.sl (a0.Sizes.map (cI .i64))), .d (.sl (a0.Selectivities.map cS115))])), (3, some (.box [.d (.lit (.int .i64 a1.Leaf)), .d (.sl (a1.Children.map cS28))]))]) Sub.tt ?_
    cases h
    exact Chain.nil Sub.tt
   ·have c8_ : decide (r7 < 0) = false := decide_eq_false c8
    refine Chain.sub (Sub.bool 16 (b := decide (r7 < 0)) rfl c8_) ?_
    refine Chain.sub (S' := mk 91 [] [(2, .ptr 2 0 0), (3, .ptr 3 0 0), (16, .d (.lit (.bool false)))] [(2, some (.box [.d (.sl (a0.Sizes.map (cI .i64))), .d (.sl (a0.Selectivities.map cS115))])), (3, some (.box [.d (.lit (.int .i64 a1.Leaf)), .d (.sl (a1.Children.map cS28))]))]) (by simp; exact Sub.table (by simp) (by simp)) ?_
    refine Chain.runK [] 6 fun K hK => ?_; simp; refine hK _ _ ?_; clear hK K
    refine Chain.sub (S' := mk 91 [] [(2, .ptr 2 0 0), (3, .ptr 3 0 0), (22, .d (.lit (.bool (decide ((a0.Sizes.length : Int) > 20)))))] [(2, some (.box [.d (.sl (a0.Sizes.map (cI .i64))), .d (.sl (a0.Selectivities.map cS115))])), (3, some (.box [.d (.lit (.int .i64 a1.Leaf)), .d (.sl (a1.Children.map cS28))]))]) Sub.tt ?_
    replace h := isome h; rcases h with ⟨c9, h⟩ | ⟨c9, h⟩
    ·have c9_ : decide ((a0.Sizes.length : Int) > 20) = true := decide_eq_true c9
     refine Chain.sub (Sub.bool 22 (b := decide ((a0.Sizes.length : Int) > 20)) rfl c9_) ?_
     refine Chain.sub (S' := mk 91 [] [(2, .ptr 2 0 0), (3, .ptr 3 0 0), (22, .d (.lit (.bool true)))] [(2, some (.box [.d (.sl (a0.Sizes.map (cI .i64))), .d (.sl (a0.Selectivities.map cS115))])), (3, some (.box [.d (.lit (.int .i64 a1.Leaf)), .d (.sl (a1.Children.map cS28))]))]) (by simp; exact Sub.table (by simp) (by simp)) ?_
     refine Chain.runK [] 5 fun K hK => ?_; simp; refine hK _ _ ?_; clear hK K
     refine Chain.sub (S' := mk 91 [] [(2, .ptr 2 0 0), (3, .ptr 3 0 0), (27, .d (.lit (.bool true)))] [(2, some (.box [.d (.sl (a0.Sizes.map (cI .i64))), .d (.sl (a0.Selectivities.map cS115))])), (3, some (.box [.d (.lit (.int .i64 a1.Leaf)), .d (.sl (a1.Children.map cS28))]))]) Sub.tt ?_
     cases h
     exact Chain.nil Sub.tt
    ·have c9_ : decide ((a0.Sizes.length : Int) > 20) = false := decide_eq_false c9
     refine Chain.sub (Sub.bool 22 (b := decide ((a0.Sizes.length : Int) > 20)) rfl c9_) ?_
     refine Chain.sub (S' := mk 91 [] [(2, .ptr 2 0 0), (3, .ptr 3 0 0), (22, .d (.lit (.bool false)))] [(2, some (.box [.d (.sl (a0.Sizes.map (cI .i64))), .d (.sl (a0.Selectivities.map cS115))])), (3, some (.box [.d (.lit (.int .i64 a1.Leaf)), .d (.sl (a1.Children.map cS28))]))]) (by simp; exact Sub.table (by simp) (by simp)) ?_
     refine Chain.runK [] 5 fun K hK => ?_; simp; refine hK _ _ ?_; clear hK K
     refine Chain.sub (S' := mk 91 [] [(2, .ptr 2 0 0), (3, .ptr 3 0 0), (27, .d (.lit (.bool (decide ((a0.Selectivities.length : Int) > 60)))))] [(2, some (.box [.d (.sl (a0.Sizes.map (cI .i64))), .d (.sl (a0.Selectivities.map cS115))])), (3, some (.box [.d (.lit (.int .i64 a1.Leaf)), .d (.sl (a1.Children.map cS28))]))]) Sub.tt ?_
     cases h
     exact Chain.nil Sub.tt
  ·clear hj
   replace h := isome h; rcases h with ⟨c10, h⟩ | ⟨c10, h⟩
   ·have c10_ : v6 = true := c10
    refine AW.condT (b := v6) rfl c10_ ?_
    refine AW.sub (Sub.bool 27 (b := v6) rfl c10_) ?_
    refine AW.sub (S' := mk 91 [] [(2, .ptr 2 0 0), (3, .ptr 3 0 0), (27, .d (.lit (.bool true)))] [(2, some (.box [.d (.sl (a0.Sizes.map (cI .i64))), .d (.sl (a0.Selectivities.map cS115))])), (3, some (.box [.d (.lit (.int .i64 a1.Leaf)), .d (.sl (a1.Children.map cS28))]))]) (by simp; exact Sub.table (by simp) (by simp)) ?_
    refine AW.seqR ?_
    refine Chain.runK [] 1 fun K hK => ?_; simp; refine hK _ _ ?_; clear hK K
    refine Chain.sub (S' := mk 91 [] [(4, .d (.lit (.bool true)))] []) Sub.tt ?_
    refine Chain.nil ?_
    refine AW.ret ?_
    cases h
    refine thenQ_pass (by simp) ?_
    exact FinC.ret (by simp) (by simp)
   ·have c10_ : v6 = false := Bool.eq_false_iff.2 c10
    refine AW.condF (b := v6) rfl c10_ ?_
    refine AW.sub (Sub.bool 27 (b := v6) rfl c10_) ?_
    refine AW.sub (S' := mk 91 [] [(2, .ptr 2 0 0), (3, .ptr 3 0 0), (27, .d (.lit (.bool false)))] [(2, some (.box [.d (.sl (a0.Sizes.map (cI .i64))), .d (.sl (a0.Selectivities.map cS115))])), (3, some (.box [.d (.lit (.int .i64 a1.Leaf)), .d (.sl (a1.Children.map cS28))]))]) (by simp; exact Sub.table (by simp) (by simp)) ?_
    refine AW.skip ?_
    refine thenQ_normal ?_
    refine AW.seqR ?_
    refine Chain.runK [] 2 fun K hK => ?_; simp; refine hK _ _ ?_; clear hK K
    refine Chain.sub (S' := mk 91 [] [(2, .ptr 2 0 0), (3, .ptr 3 0 0), (29, .agg [.d (.sl (a0.Sizes.map (cI .i64))), .d (.sl (a0.Selectivities.map cS115))]), (30, .agg [.d (.lit (.int .i64 a1.Leaf)), .d (.sl (a1.Children.map cS28))])] [(2, some (.box [.d (.sl (a0.Sizes.map (cI .i64))), .d (.sl (a0.Selectivities.map cS115))])), (3, some (.box [.d (.lit (.int .i64 a1.Leaf)), .d (.sl (a1.Children.map cS28))]))]) Sub.tt ?_
    replace h := bsome h; obtain ⟨r11, hr11, h⟩ := h
    refine Chain.callL (d := 31) (p11 N a0 a1 r11 hr11) (by simp) rfl rfl (by simp <;> rfl) (by simp <;> rfl) ent11 (by simp <;> rfl) ?_
    refine Chain.sub (S' := mk 91 [] [(2, .ptr 2 0 0), (3, .ptr 3 0 0), (29, .agg [.d (.sl (a0.Sizes.map (cI .i64))), .d (.sl (a0.Selectivities.map cS115))]), (30, .agg [.d (.lit (.int .i64 a1.Leaf)), .d (.sl (a1.Children.map cS28))]), (31, .tup [.d (.lit (.int .i64 r11.1)), .d (.lit (.int .i64 r11.2))])] [(2, some (.box [.d (.sl (a0.Sizes.map (cI .i64))), .d (.sl (a0.Selectivities.map cS115))])), (3, some (.box [.d (.lit (.int .i64 a1.Leaf)), .d (.sl (a1.Children.map cS28))]))]) (by simp; exact Sub.table (by simp) (by simp)) ?_
    refine Chain.runK [] 5 fun K hK => ?_; simp; refine hK _ _ ?_; clear hK K
    refine Chain.sub (S' := mk 91 [] [(2, .ptr 2 0 0), (3, .ptr 3 0 0), (5, .d (.lit (.int .i64 r11.1))), (6, .d (.lit (.int .i64 r11.2)))] [(2, some (.box [.d (.sl (a0.Sizes.map (cI .i64))), .d (.sl (a0.Selectivities.map cS115))])), (3, some (.box [.d (.lit (.int .i64 a1.Leaf)), .d (.sl (a1.Children.map cS28))]))]) Sub.tt ?_
    refine Chain.nil ?_
    refine AW.seq ?_
    refine AW.seqR ?_
    refine Chain.runK [] 1 fun K hK => ?_; simp; refine hK _ _ ?_; clear hK K
    refine Chain.sub (S' := mk 91 [] [(2, .ptr 2 0 0), (3, .ptr 3 0 0), (5, .d (.lit (.int .i64 r11.1))), (6, .d (.lit (.int .i64 r11.2))), (34, .agg [.d (.sl (a0.Sizes.map (cI .i64))), .d (.sl (a0.Selectivities.map cS115))])] [(2, some (.box [.d (.sl (a0.Sizes.map (cI .i64))), .d (.sl (a0.Selectivities.map cS115))])), (3, some (.box [.d (.lit (.int .i64 a1.Leaf)), .d (.sl (a1.Children.map cS28))]))]) Sub.tt ?_
    replace h := bsome h; obtain ⟨r12, hr12, h⟩ := h
    refine Chain.callL (d := 35) (p12 N a0 r12 hr12) (by simp) rfl rfl (by simp <;> rfl) (by simp <;> rfl) ent12 (by simp <;> rfl) ?_
    refine Chain.sub (S' := mk 91 [] [(2, .ptr 2 0 0), (3, .ptr 3 0 0), (5, .d (.lit (.int .i64 r11.1))), (6, .d (.lit (.int .i64 r11.2))), (34, .agg [.d (.sl (a0.Sizes.map (cI .i64))), .d (.sl (a0.Selectivities.map cS115))]), (35, .d (.lit (.int .i64 r12)))] [(2, some (.box [.d (.sl (a0.Sizes.map (cI .i64))), .d (.sl (a0.Selectivities.map cS115))])), (3, some (.box [.d (.lit (.int .i64 a1.Leaf)), .d (.sl (a1.Children.map cS28))]))]) (by simp; exact Sub.table (by simp) (by simp)) ?_
    refine Chain.runK [] 1 fun K hK => ?_; simp; refine hK _ _ ?_; clear hK K
    refine Chain.sub (S' := mk 91 [] [(2, .ptr 2 0 0), (3, .ptr 3 0 0), (5, .d (.lit (.int .i64 r11.1))), (6, .d (.lit (.int .i64 r11.2))), (7, .d (.lit (.int .i64 r12)))] [(2, some (.box [.d (.sl (a0.Sizes.map (cI .i64))), .d (.sl (a0.Selectivities.map cS115))])), (3, some (.box [.d (.lit (.int .i64 a1.Leaf)), .d (.sl (a1.Children.map cS28))]))]) Sub.tt ?_
    refine Chain.nil ?_
    refine AW.seqR ?_
    refine Chain.runK [] 2 fun K hK => ?_; simp; refine hK _ _ ?_; clear hK K
    refine Chain.sub (S' := mk 91 [] [(2, .ptr 2 0 0), (3, .ptr 3 0 0), (5, .d (.lit (.int .i64 r11.1))), (6, .d (.lit (.int .i64 r11.2))), (7, .d (.lit (.int .i64 r12))), (37, .d (.lit (.bool (r12 != 0))))] [(2, some (.box [.d (.sl (a0.Sizes.map (cI .i64))), .d (.sl (a0.Selectivities.map cS115))])), (3, some (.box [.d (.lit (.int .i64 a1.Leaf)), .d (.sl (a1.Children.map cS28))]))]) Sub.tt ?_
    refine Chain.nil ?_
    replace h := isome h; rcases h with ⟨c13, h⟩ | ⟨c13, h⟩
    ·have c13_ : (r12 != 0) = true := c13
     refine AW.condT (b := (r12 != 0)) rfl c13_ ?_
     refine AW.sub (Sub.bool 37 (b := (r12 != 0)) rfl c13_) ?_
     refine AW.sub (S' := mk 91 [] [(2, .ptr 2 0 0), (3, .ptr 3 0 0), (5, .d (.lit (.int .i64 r11.1))), (6, .d (.lit (.int .i64 r11.2))), (7, .d (.lit (.int .i64 r12))), (37, .d (.lit (.bool true)))] [(2, some (.box [.d (.sl (a0.Sizes.map (cI .i64))), .d (.sl (a0.Selectivities.map cS115))])), (3, some (.box [.d (.lit (.int .i64 a1.Leaf)), .d (.sl (a1.Children.map cS28))]))]) (by simp; exact Sub.table (by simp) (by simp)) ?_
     replace h := bsome h; obtain ⟨v15, hj, h⟩ := h
     refine AW.cutR (mk 91 [] [(4, .d (.lit (.bool v15)))] []) ?_ ?_
     ·clear h; have h := hj; clear hj
      refine Chain.runK [] 4 fun K hK => ?_; simp; refine hK _ _ ?_; clear hK K
      refine Chain.sub (S' := mk 91 [] [(5, .d (.lit (.int .i64 r11.1))), (41, .d (.lit (.bool (r11.2 == r12))))] []) Sub.tt ?_
      replace h := isome h; rcases h with ⟨c16, h⟩ | ⟨c16, h⟩
      ·have c16_ : (r11.2 == r12) = true := c16
       refine Chain.sub (Sub.bool 41 (b := (r11.2 == r12)) rfl c16_) ?_
       refine Chain.sub (S' := mk 91 [] [(5, .d (.lit (.int .i64 r11.1))), (41, .d (.lit (.bool true)))] []) (by simp; exact Sub.table (by simp) (by simp)) ?_
       refine Chain.runK [] 4 fun K hK => ?_; simp; refine hK _ _ ?_; clear hK K
       refine Chain.sub (S' := mk 91 [] [(4, .d (.lit (.bool (r11.1 == 0))))] []) Sub.tt ?_
       cases h
       exact Chain.nil Sub.tt
      ·have c16_ : (r11.2 == r12) = false := Bool.eq_false_iff.2 c16
       refine Chain.sub (Sub.bool 41 (b := (r11.2 == r12)) rfl c16_) ?_
       refine Chain.sub (S' := mk 91 [] [(5, .d (.lit (.int .i64 r11.1))), (41, .d (.lit (.bool false)))] []) (by simp; exact Sub.table (by simp) (by simp)) ?_
       refine Chain.runK [] 4 fun K hK => ?_; simp; refine hK _ _ ?_; clear hK K
       refine Chain.sub (S' := mk 91 [] [(4, .d (.lit (.bool false)))] []) Sub.tt ?_
       cases h
       exact Chain.nil Sub.tt
     ·clear hj
      refine AW.ret ?_
      cases h
      refine thenQ_pass (by simp) ?_
      exact FinC.ret (by simp) (by simp)
    ·have c13_ : (r12 != 0) = false := Bool.eq_false_iff.2 c13
     refine AW.condF (b := (r12 != 0)) rfl c13_ ?_
     refine AW.sub (Sub.bool 37 (b := (r12 != 0)) rfl c13_) ?_
     refine AW.sub (S' := mk 91 [] [(2, .ptr 2 0 0), (3, .ptr 3 0 0), (5, .d (.lit (.int .i64 r11.1))), (6, .d (.lit (.int .i64 r11.2))), (7, .d (.lit (.int .i64 r12))), (37, .d (.lit (.bool false)))] [(2, some (.box [.d (.sl (a0.Sizes.map (cI .i64))), .d (.sl (a0.Selectivities.map cS115))])), (3, some (.box [.d (.lit (.int .i64 a1.Leaf)), .d (.sl (a1.Children.map cS28))]))]) (by simp; exact Sub.table (by simp) (by simp)) ?_
     refine AW.skip ?_
     refine thenQ_normal ?_
     refine AW.seqR ?_
     replace h := bsome h; obtain ⟨l17, gl17, h⟩ := h
     obtain ⟨hl17a, hl17b, hl17c, hl17d⟩ := mkL_some cB gl17
     clear gl17
     replace hl17c : List.replicate l17.length [.lit (.bool false)] = l17.map cB := hl17c
     simp only [Nat.mul_one] at hl17b
     refine Chain.runK [] 5 fun K hK => ?_; simp [hl17a, hl17b, hl17c, hl17d]; refine hK _ _ ?_; clear hK K
     refine Chain.sub (S' := mk 91 [] [(2, .ptr 2 0 0), (3, .ptr 3 0 0), (5, .d (.lit (.int .i64 r11.1))), (6, .d (.lit (.int .i64 r11.2))), (8, .ref 48 0 l17.length)] [(2, some (.box [.d (.sl (a0.Sizes.map (cI .i64))), .d (.sl (a0.Selectivities.map cS115))])), (3, some (.box [.d (.lit (.int .i64 a1.Leaf)), .d (.sl (a1.Children.map cS28))])), (48, some (.arr 4 1 (l17.map cB)))]) Sub.tt ?_
     refine Chain.nil ?_
     refine AW.seq ?_
     replace h := bsome h; obtain ⟨v21, hj, h⟩ := h
     refine AW.cutR (mk 91 [] [(2, .ptr 2 0 0), (3, .ptr 3 0 0), (5, .d (.lit (.int .i64 r11.1))), (6, .d (.lit (.int .i64 r11.2))), (57, .d (.lit (.bool v21)))] [(2, some (.box [.d (.sl (a0.Sizes.map (cI .i64))), .d (.sl (a0.Selectivities.map cS115))])), (3, some (.box [.d (.lit (.int .i64 a1.Leaf)), .d (.sl (a1.Children.map cS28))]))]) ?_ ?_
     ·clear h; have h := hj; clear hj
      refine Chain.runK [] 3 fun K hK => ?_; simp; refine hK _ _ ?_; clear hK K
      refine Chain.sub (S' := mk 91 [] [(2, .ptr 2 0 0), (3, .ptr 3 0 0), (5, .d (.lit (.int .i64 r11.1))), (6, .d (.lit (.int .i64 r11.2))), (8, .ref 48 0 l17.length), (49, .agg [.d (.sl (a0.Sizes.map (cI .i64))), .d (.sl (a0.Selectivities.map cS115))]), (50, .agg [.d (.lit (.int .i64 a1.Leaf)), .d (.sl (a1.Children.map cS28))]), (51, .ref 48 0 l17.length)] [(2, some (.box [.d (.sl (a0.Sizes.map (cI .i64))), .d (.sl (a0.Selectivities.map cS115))])), (3, some (.box [.d (.lit (.int .i64 a1.Leaf)), .d (.sl (a1.Children.map cS28))])), (48, some (.arr 4 1 (l17.map cB)))]) Sub.tt ?_
      replace h := bsome h; obtain ⟨r22, hr22, h⟩ := h
      refine Chain.callF (p13 N a0 a1 l17 r22 hr22) [(48, 1000)] [48] [(1000, 48)] [(48, .arr 4 1 (r22.1.map cB))] (.d (.lit (.bool r22.2))) (by simp) rfl (by simp <;> rfl) (by simp) (by simp) (by simp) (by simp) (by simp) ent13 (by simp) (by simp) (by simp) (by simp) (by simp) (by simp) ?_
      have hlr22 := l13 N a0 a1 l17 r22 hr22
      refine Chain.sub (S' := mk 91 [] [(2, .ptr 2 0 0), (3, .ptr 3 0 0), (5, .d (.lit (.int .i64 r11.1))), (6, .d (.lit (.int .i64 r11.2))), (8, .ref 48 0 r22.1.length), (49, .agg [.d (.sl (a0.Sizes.map (cI .i64))), .d (.sl (a0.Selectivities.map cS115))]), (50, .agg [.d (.lit (.int .i64 a1.Leaf)), .d (.sl (a1.Children.map cS28))]), (51, .ref 48 0 r22.1.length), (52, .d (.lit (.bool r22.2)))] [(2, some (.box [.d (.sl (a0.Sizes.map (cI .i64))), .d (.sl (a0.Selectivities.map cS115))])), (3, some (.box [.d (.lit (.int .i64 a1.Leaf)), .d (.sl (a1.Children.map cS28))])), (48, some (.arr 4 1 (r22.1.map cB)))]) (by simp [hlr22]; exact Sub.table (by simp) (by simp)) ?_
      refine Chain.runK [] 2 fun K hK => ?_; simp; refine hK _ _ ?_; clear hK K
      refine Chain.sub (S' := mk 91 [] [(2, .ptr 2 0 0), (3, .ptr 3 0 0), (5, .d (.lit (.int .i64 r11.1))), (6, .d (.lit (.int .i64 r11.2))), (8, .ref 48 0 r22.1.length), (54, .d (.lit (.bool (!r22.2))))] [(2, some (.box [.d (.sl (a0.Sizes.map (cI .i64))), .d (.sl (a0.Selectivities.map cS115))])), (3, some (.box [.d (.lit (.int .i64 a1.Leaf)), .d (.sl (a1.Children.map cS28))])), (48, some (.arr 4 1 (r22.1.map cB)))]) Sub.tt ?_
      replace h := isome h; rcases h with ⟨c23, h⟩ | ⟨c23, h⟩
      ·have c23_ : (!r22.2) = true := c23
       refine Chain.sub (Sub.bool 54 (b := (!r22.2)) rfl c23_) ?_
       refine Chain.sub (S' := mk 91 [] [(2, .ptr 2 0 0), (3, .ptr 3 0 0), (5, .d (.lit (.int .i64 r11.1))), (6, .d (.lit (.int .i64 r11.2))), (8, .ref 48 0 r22.1.length), (54, .d (.lit (.bool true)))] [(2, some (.box [.d (.sl (a0.Sizes.map (cI .i64))), .d (.sl (a0.Selectivities.map cS115))])), (3, some (.box [.d (.lit (.int .i64 a1.Leaf)), .d (.sl (a1.Children.map cS28))])), (48, some (.arr 4 1 (r22.1.map cB)))]) (by simp; exact Sub.table (by simp) (by simp)) ?_
       refine Chain.runK [] 3 fun K hK => ?_; simp; refine hK _ _ ?_; clear hK K
       refine Chain.sub (S' := mk 91 [] [(2, .ptr 2 0 0), (3, .ptr 3 0 0), (5, .d (.lit (.int .i64 r11.1))), (6, .d (.lit (.int .i64 r11.2))), (57, .d (.lit (.bool true)))] [(2, some (.box [.d (.sl (a0.Sizes.map (cI .i64))), .d (.sl (a0.Selectivities.map cS115))])), (3, some (.box [.d (.lit (.int .i64 a1.Leaf)), .d (.sl (a1.Children.map cS28))]))]) Sub.tt ?_
       cases h
       exact Chain.nil Sub.tt
      ·have c23_ : (!r22.2) = false := Bool.eq_false_iff.2 c23
       refine Chain.sub (Sub.bool 54 (b := (!r22.2)) rfl c23_) ?_
       refine Chain.sub (S' := mk 91 [] [(2, .ptr 2 0 0), (3, .ptr 3 0 0), (5, .d (.lit (.int .i64 r11.1))), (6, .d (.lit (.int .i64 r11.2))), (8, .ref 48 0 r22.1.length), (54, .d (.lit (.bool false)))] [(2, some (.box [.d (.sl (a0.Sizes.map (cI .i64))), .d (.sl (a0.Selectivities.map cS115))])), (3, some (.box [.d (.lit (.int .i64 a1.Leaf)), .d (.sl (a1.Children.map cS28))])), (48, some (.arr 4 1 (r22.1.map cB)))]) (by simp; exact Sub.table (by simp) (by simp)) ?_
       refine Chain.runK [] 1 fun K hK => ?_; simp; refine hK _ _ ?_; clear hK K
       refine Chain.sub (S' := mk 91 [] [(2, .ptr 2 0 0), (3, .ptr 3 0 0), (5, .d (.lit (.int .i64 r11.1))), (6, .d (.lit (.int .i64 r11.2))), (54, .d (.lit (.bool false))), (55, .ref 48 0 r22.1.length)] [(2, some (.box [.d (.sl (a0.Sizes.map (cI .i64))), .d (.sl (a0.Selectivities.map cS115))])), (3, some (.box [.d (.lit (.int .i64 a1.Leaf)), .d (.sl (a1.Children.map cS28))])), (48, some (.arr 4 1 (r22.1.map cB)))]) Sub.tt ?_
       replace h := bsome h; obtain ⟨r24, hr24, h⟩ := h
       refine Chain.callL (d := 56) (p14 N r22.1 false r24 hr24) (by simp) rfl rfl (by simp <;> rfl) (by simp <;> rfl) ent14 (by simp <;> rfl) ?_
       refine Chain.sub (S' := mk 91 [] [(2, .ptr 2 0 0), (3, .ptr 3 0 0), (5, .d (.lit (.int .i64 r11.1))), (6, .d (.lit (.int .i64 r11.2))), (54, .d (.lit (.bool false))), (55, .ref 48 0 r22.1.length), (56, .d (.lit (.bool r24)))] [(2, some (.box [.d (.sl (a0.Sizes.map (cI .i64))), .d (.sl (a0.Selectivities.map cS115))])), (3, some (.box [.d (.lit (.int .i64 a1.Leaf)), .d (.sl (a1.Children.map cS28))])), (48, some (.arr 4 1 (r22.1.map cB)))]) (by simp; exact Sub.table (by simp) (by simp)) ?_
       refine Chain.runK [] 1 fun K hK => ?_; simp; refine hK _ _ ?_; clear hK K
       refine Chain.sub (S' := mk 91 [] [(2, .ptr 2 0 0), (3, .ptr 3 0 0), (5, .d (.lit (.int .i64 r11.1))), (6, .d (.lit (.int .i64 r11.2))), (57, .d (.lit (.bool r24)))] [(2, some (.box [.d (.sl (a0.Sizes.map (cI .i64))), .d (.sl (a0.Selectivities.map cS115))])), (3, some (.box [.d (.lit (.int .i64 a1.Leaf)), .d (.sl (a1.Children.map cS28))]))]) Sub.tt ?_
       cases h
       exact Chain.nil Sub.tt
     ·clear hj
      replace h := isome h; rcases h with ⟨c25, h⟩ | ⟨c25, h⟩
      ·have c25_ : v21 = true := c25
       refine AW.condT (b := v21) rfl c25_ ?_
       refine AW.sub (Sub.bool 57 (b := v21) rfl c25_) ?_
       refine AW.sub (S' := mk 91 [] [(2, .ptr 2 0 0), (3, .ptr 3 0 0), (5, .d (.lit (.int .i64 r11.1))), (6, .d (.lit (.int .i64 r11.2))), (57, .d (.lit (.bool true)))] [(2, some (.box [.d (.sl (a0.Sizes.map (cI .i64))), .d (.sl (a0.Selectivities.map cS115))])), (3, some (.box [.d (.lit (.int .i64 a1.Leaf)), .d (.sl (a1.Children.map cS28))]))]) (by simp; exact Sub.table (by simp) (by simp)) ?_
       replace h := bsome h; obtain ⟨v27, hj, h⟩ := h
       refine AW.cutR (mk 91 [] [(4, .d (.lit (.bool v27)))] []) ?_ ?_
       ·clear h; have h := hj; clear hj
        refine Chain.runK [] 3 fun K hK => ?_; simp; refine hK _ _ ?_; clear hK K
        refine Chain.sub (S' := mk 91 [] [(5, .d (.lit (.int .i64 r11.1))), (60, .d (.lit (.bool (r11.2 == 3))))] []) Sub.tt ?_
        replace h := isome h; rcases h with ⟨c28, h⟩ | ⟨c28, h⟩
        ·have c28_ : (r11.2 == 3) = true := c28
         refine Chain.sub (Sub.bool 60 (b := (r11.2 == 3)) rfl c28_) ?_
         refine Chain.sub (S' := mk 91 [] [(5, .d (.lit (.int .i64 r11.1))), (60, .d (.lit (.bool true)))] []) (by simp; exact Sub.table (by simp) (by simp)) ?_
         refine Chain.runK [] 4 fun K hK => ?_; simp; refine hK _ _ ?_; clear hK K
         refine Chain.sub (S' := mk 91 [] [(4, .d (.lit (.bool (r11.1 == 0))))] []) Sub.tt ?_
         cases h
         exact Chain.nil Sub.tt
        ·have c28_ : (r11.2 == 3) = false := Bool.eq_false_iff.2 c28
         refine Chain.sub (Sub.bool 60 (b := (r11.2 == 3)) rfl c28_) ?_
         refine Chain.sub (S' := mk 91 [] [(5, .d (.lit (.int .i64 r11.1))), (60, .d (.lit (.bool false)))] []) (by simp; exact Sub.table (by simp) (by simp)) ?_
         refine Chain.runK [] 4 fun K hK => ?_; simp; refine hK _ _ ?_; clear hK K
         refine Chain.sub (S' := mk 91 [] [(4, .d (.lit (.bool false)))] []) Sub.tt ?_
         cases h
         exact Chain.nil Sub.tt
       ·clear hj
        refine AW.ret ?_
        cases h
        refine thenQ_pass (by simp) ?_
        exact FinC.ret (by simp) (by simp)
      ·have c25_ : v21 = false := Bool.eq_false_iff.2 c25
       refine AW.condF (b := v21) rfl c25_ ?_
       refine AW.sub (Sub.bool 57 (b := v21) rfl c25_) ?_
       refine AW.sub (S' := mk 91 [] [(2, .ptr 2 0 0), (3, .ptr 3 0 0), (5, .d (.lit (.int .i64 r11.1))), (6, .d (.lit (.int .i64 r11.2))), (57, .d (.lit (.bool false)))] [(2, some (.box [.d (.sl (a0.Sizes.map (cI .i64))), .d (.sl (a0.Selectivities.map cS115))])), (3, some (.box [.d (.lit (.int .i64 a1.Leaf)), .d (.sl (a1.Children.map cS28))]))]) (by simp; exact Sub.table (by simp) (by simp)) ?_
       refine AW.skip ?_
       refine thenQ_normal ?_
       refine AW.seqR ?_
       refine Chain.runK [] 2 fun K hK => ?_; simp; refine hK _ _ ?_; clear hK K
       refine Chain.sub (S' := mk 91 [] [(2, .ptr 2 0 0), (3, .ptr 3 0 0), (5, .d (.lit (.int .i64 r11.1))), (6, .d (.lit (.int .i64 r11.2))), (65, .agg [.d (.sl (a0.Sizes.map (cI .i64))), .d (.sl (a0.Selectivities.map cS115))]), (66, .agg [.d (.lit (.int .i64 a1.Leaf)), .d (.sl (a1.Children.map cS28))])] [(2, some (.box [.d (.sl (a0.Sizes.map (cI .i64))), .d (.sl (a0.Selectivities.map cS115))])), (3, some (.box [.d (.lit (.int .i64 a1.Leaf)), .d (.sl (a1.Children.map cS28))]))]) Sub.tt ?_
       replace h := bsome h; obtain ⟨r29, hr29, h⟩ := h
       refine Chain.callL (d := 67) (p15 N a0 a1 r29 hr29) (by simp) rfl rfl (by simp <;> rfl) (by simp <;> rfl) ent15 (by simp <;> rfl) ?_
       refine Chain.sub (S' := mk 91 [] [(2, .ptr 2 0 0), (3, .ptr 3 0 0), (5, .d (.lit (.int .i64 r11.1))), (6, .d (.lit (.int .i64 r11.2))), (65, .agg [.d (.sl (a0.Sizes.map (cI .i64))), .d (.sl (a0.Selectivities.map cS115))]), (66, .agg [.d (.lit (.int .i64 a1.Leaf)), .d (.sl (a1.Children.map cS28))]), (67, .tup [.d (.lit (.int .i64 r29.1)), .d (.lit (.bool r29.2))])] [(2, some (.box [.d (.sl (a0.Sizes.map (cI .i64))), .d (.sl (a0.Selectivities.map cS115))])), (3, some (.box [.d (.lit (.int .i64 a1.Leaf)), .d (.sl (a1.Children.map cS28))]))]) (by simp; exact Sub.table (by simp) (by simp)) ?_
       refine Chain.runK [] 5 fun K hK => ?_; simp; refine hK _ _ ?_; clear hK K
       refine Chain.sub (S' := mk 91 [] [(2, .ptr 2 0 0), (3, .ptr 3 0 0), (5, .d (.lit (.int .i64 r11.1))), (6, .d (.lit (.int .i64 r11.2))), (9, .d (.lit (.int .i64 r29.1))), (10, .d (.lit (.bool r29.2)))] [(2, some (.box [.d (.sl (a0.Sizes.map (cI .i64))), .d (.sl (a0.Selectivities.map cS115))])), (3, some (.box [.d (.lit (.int .i64 a1.Leaf)), .d (.sl (a1.Children.map cS28))]))]) Sub.tt ?_
       refine Chain.nil ?_
       replace h := bsome h; obtain ⟨v36, hj, h⟩ := h
       refine AW.cutR (mk 91 [] [(4, .d (.lit (.bool v36)))] []) ?_ ?_
       ·clear h; have h := hj; clear hj
        refine Chain.runK [] 3 fun K hK => ?_; simp; refine hK _ _ ?_; clear hK K
        refine Chain.sub (S' := mk 91 [] [(2, .ptr 2 0 0), (3, .ptr 3 0 0), (5, .d (.lit (.int .i64 r11.1))), (9, .d (.lit (.int .i64 r29.1))), (10, .d (.lit (.bool r29.2))), (72, .d (.lit (.bool (r11.2 == 0))))] [(2, some (.box [.d (.sl (a0.Sizes.map (cI .i64))), .d (.sl (a0.Selectivities.map cS115))])), (3, some (.box [.d (.lit (.int .i64 a1.Leaf)), .d (.sl (a1.Children.map cS28))]))]) Sub.tt ?_
        replace h := isome h; rcases h with ⟨c37, h⟩ | ⟨c37, h⟩
        ·have c37_ : (r11.2 == 0) = true := c37
         refine Chain.sub (Sub.bool 72 (b := (r11.2 == 0)) rfl c37_) ?_
         refine Chain.sub (S' := mk 91 [] [(2, .ptr 2 0 0), (3, .ptr 3 0 0), (5, .d (.lit (.int .i64 r11.1))), (9, .d (.lit (.int .i64 r29.1))), (10, .d (.lit (.bool r29.2))), (72, .d (.lit (.bool true)))] [(2, some (.box [.d (.sl (a0.Sizes.map (cI .i64))), .d (.sl (a0.Selectivities.map cS115))])), (3, some (.box [.d (.lit (.int .i64 a1.Leaf)), .d (.sl (a1.Children.map cS28))]))]) (by simp; exact Sub.table (by simp) (by simp)) ?_
         refine Chain.runK [] 3 fun K hK => ?_; simp; refine hK _ _ ?_; clear hK K
         refine Chain.sub (S' := mk 91 [] [(2, .ptr 2 0 0), (9, .d (.lit (.int .i64 r29.1))), (10, .d (.lit (.bool r29.2))), (72, .d (.lit (.bool true))), (73, .d (.lit (.int .i64 r11.1))), (74, .agg [.d (.sl (a0.Sizes.map (cI .i64))), .d (.sl (a0.Selectivities.map cS115))]), (75, .agg [.d (.lit (.int .i64 a1.Leaf)), .d (.sl (a1.Children.map cS28))])] [(2, some (.box [.d (.sl (a0.Sizes.map (cI .i64))), .d (.sl (a0.Selectivities.map cS115))]))]) Sub.tt ?_
         replace h := bsome h; obtain ⟨r38, hr38, h⟩ := h
         refine Chain.callL (d := 76) (p16 N a0 a1 r38 hr38) (by simp) rfl rfl (by simp <;> rfl) (by simp <;> rfl) ent16 (by simp <;> rfl) ?_
         refine Chain.sub (S' := mk 91 [] [(2, .ptr 2 0 0), (9, .d (.lit (.int .i64 r29.1))), (10, .d (.lit (.bool r29.2))), (72, .d (.lit (.bool true))), (73, .d (.lit (.int .i64 r11.1))), (74, .agg [.d (.sl (a0.Sizes.map (cI .i64))), .d (.sl (a0.Selectivities.map cS115))]), (75, .agg [.d (.lit (.int .i64 a1.Leaf)), .d (.sl (a1.Children.map cS28))]), (76, .d (.lit (.int .i64 r38)))] [(2, some (.box [.d (.sl (a0.Sizes.map (cI .i64))), .d (.sl (a0.Selectivities.map cS115))]))]) (by simp; exact Sub.table (by simp) (by simp)) ?_
         refine Chain.runK [] 3 fun K hK => ?_; simp; refine hK _ _ ?_; clear hK K
         refine Chain.sub (S' := mk 91 [] [(2, .ptr 2 0 0), (9, .d (.lit (.int .i64 r29.1))), (10, .d (.lit (.bool r29.2))), (79, .d (.lit (.bool (r11.1 == r38))))] [(2, some (.box [.d (.sl (a0.Sizes.map (cI .i64))), .d (.sl (a0.Selectivities.map cS115))]))]) Sub.tt ?_
         replace h := isome h; rcases h with ⟨c39, h⟩ | ⟨c39, h⟩
         ·have c39_ : (r11.1 == r38) = true := c39
          refine Chain.sub (Sub.bool 79 (b := (r11.1 == r38)) rfl c39_) ?_
          refine Chain.sub (S' := mk 91 [] [(2, .ptr 2 0 0), (9, .d (.lit (.int .i64 r29.1))), (10, .d (.lit (.bool r29.2))), (79, .d (.lit (.bool true)))] [(2, some (.box [.d (.sl (a0.Sizes.map (cI .i64))), .d (.sl (a0.Selectivities.map cS115))]))]) (by simp; exact Sub.table (by simp) (by simp)) ?_
          refine Chain.runK [] 3 fun K hK => ?_; simp; refine hK _ _ ?_; clear hK K
          refine Chain.sub (S' := mk 91 [] [(2, .ptr 2 0 0), (9, .d (.lit (.int .i64 r29.1))), (82, .d (.lit (.bool r29.2)))] [(2, some (.box [.d (.sl (a0.Sizes.map (cI .i64))), .d (.sl (a0.Selectivities.map cS115))]))]) Sub.tt ?_
          replace h := isome h; rcases h with ⟨c40, h⟩ | ⟨c40, h⟩
          ·have c40_ : r29.2 = true := c40
           refine Chain.sub (Sub.bool 82 (b := r29.2) rfl c40_) ?_
           refine Chain.sub (S' := mk 91 [] [(2, .ptr 2 0 0), (9, .d (.lit (.int .i64 r29.1))), (82, .d (.lit (.bool true)))] [(2, some (.box [.d (.sl (a0.Sizes.map (cI .i64))), .d (.sl (a0.Selectivities.map cS115))]))]) (by simp; exact Sub.table (by simp) (by simp)) ?_
           replace h := bsome h; obtain ⟨_, gv41, h⟩ := h
           have hv41a := shiftB_some gv41
           try simp at hv41a
           replace h := lsome h; obtain ⟨v41, hv41, h⟩ := h
           replace h := bsome h; obtain ⟨v42, hv42, h⟩ := h
           have hv42 := chkI_some hv42
           refine Chain.runK [] 9 fun K hK => ?_; simp [hv41a, hv41, hv42]; refine hK _ _ ?_; clear hK K
           refine Chain.sub (S' := mk 91 [] [(4, .d (.lit (.bool (r29.1 == v42))))] []) Sub.tt ?_
           cases h
           exact Chain.nil Sub.tt
          ·have c40_ : r29.2 = false := Bool.eq_false_iff.2 c40
           refine Chain.sub (Sub.bool 82 (b := r29.2) rfl c40_) ?_
           refine Chain.sub (S' := mk 91 [] [(2, .ptr 2 0 0), (9, .d (.lit (.int .i64 r29.1))), (82, .d (.lit (.bool false)))] [(2, some (.box [.d (.sl (a0.Sizes.map (cI .i64))), .d (.sl (a0.Selectivities.map cS115))]))]) (by simp; exact Sub.table (by simp) (by simp)) ?_
           refine Chain.runK [] 9 fun K hK => ?_; simp; refine hK _ _ ?_; clear hK K
           refine Chain.sub (S' := mk 91 [] [(4, .d (.lit (.bool false)))] []) Sub.tt ?_
           cases h
           exact Chain.nil Sub.tt
         ·have c39_ : (r11.1 == r38) = false := Bool.eq_false_iff.2 c39
          refine Chain.sub (Sub.bool 79 (b := (r11.1 == r38)) rfl c39_) ?_
          refine Chain.sub (S' := mk 91 [] [(2, .ptr 2 0 0), (9, .d (.lit (.int .i64 r29.1))), (10, .d (.lit (.bool r29.2))), (79, .d (.lit (.bool false)))] [(2, some (.box [.d (.sl (a0.Sizes.map (cI .i64))), .d (.sl (a0.Selectivities.map cS115))]))]) (by simp; exact Sub.table (by simp) (by simp)) ?_
          refine Chain.runK [] 12 fun K hK => ?_; simp; refine hK _ _ ?_; clear hK K
          refine Chain.sub (S' := mk 91 [] [(4, .d (.lit (.bool false)))] []) Sub.tt ?_
          cases h
          exact Chain.nil Sub.tt
        ·have c37_ : (r11.2 == 0) = false := Bool.eq_false_iff.2 c37
         refine Chain.sub (Sub.bool 72 (b := (r11.2 == 0)) rfl c37_) ?_
         refine Chain.sub (S' := mk 91 [] [(2, .ptr 2 0 0), (3, .ptr 3 0 0), (5, .d (.lit (.int .i64 r11.1))), (9, .d (.lit (.int .i64 r29.1))), (10, .d (.lit (.bool r29.2))), (72, .d (.lit (.bool false)))] [(2, some (.box [.d (.sl (a0.Sizes.map (cI .i64))), .d (.sl (a0.Selectivities.map cS115))])), (3, some (.box [.d (.lit (.int .i64 a1.Leaf)), .d (.sl (a1.Children.map cS28))]))]) (by simp; exact Sub.table (by simp) (by simp)) ?_
         refine Chain.runK [] 19 fun K hK => ?_; simp; refine hK _ _ ?_; clear hK K
         refine Chain.sub (S' := mk 91 [] [(4, .d (.lit (.bool false)))] []) Sub.tt ?_
         cases h
         exact Chain.nil Sub.tt
       ·clear hj
        refine AW.ret ?_
        cases h
        exact FinC.ret (by simp) (by simp)

end Go.Proofs.YtimkkjiplioohaaGreatDoor
