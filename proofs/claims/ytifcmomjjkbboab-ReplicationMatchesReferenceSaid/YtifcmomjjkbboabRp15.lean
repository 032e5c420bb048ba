/- Functions of the program as functional programs; the code computes them. -/
import Derived.Test.YtifcmomjjkbboabRp14
namespace Go.Proofs.Ytifcmomjjkbboab
open Go.Ab Go.Rp
attribute [-simp] List.all_eq_true Array.all_toList Array.all_eq_true

/-- stemma/stemref5.MoreUpToDate$1 -/
def d44 (_N : Nat) (a0 : (List S64)) : Option Int :=
 if ((a0.length : Int) == 0) then (
  some 0
 ) else
 (chkI ((a0.length : Int) - 1)).bind fun v2 =>
 (idx a0 v2).bind fun x3 =>
 some x3.Term
set_option maxRecDepth 100000 in
set_option maxHeartbeats 4000000 in
theorem p44 (N : Nat) (a0 : (List S64)) (r : Int) (h : d44 N a0 = some r) : FunC Try.prog 44 [.d (.sl (a0.map cS64))] (.i r) := by
 unfold d44 at h
 refine FunC.enter 13 [(0, .d (.sl (a0.map cS64)))] (by simp) Try.func44 rfl (of_decide_eq_true rfl) rfl rfl ?_
 refine .seqR ?_
 refine .runK [] 1 fun K k => ?_; simp; refine k _ _ ?_; clear k K
 refine .tt [(0, .d (.sl (a0.map cS64)))] [] ?_
 refine .nil ?_
 refine .seq ?_
 refine .seqR ?_
 refine .runK [] 3 fun K k => ?_; simp; refine k _ _ ?_; clear k K
 refine .tt [(0, .d (.sl (a0.map cS64))), (5, .b ((a0.length : Int) == 0))] [] ?_
 refine .nil ?_
 replace h := isome h; rcases h with ⟨c1, h⟩ | ⟨c1, h⟩
 ·have c1_ : ((a0.length : Int) == 0) = true := c1
  refine .condT (b := ((a0.length : Int) == 0)) rfl c1_ ?_
  refine .sub (.bool 5 (b := ((a0.length : Int) == 0)) rfl c1_) ?_
  refine .st (mk 13 [] [(0, .d (.sl (a0.map cS64))), (5, .b true)] []) ?_
  refine .seqR ?_
  refine .runK [] 1 fun K k => ?_; simp; refine k _ _ ?_; clear k K
  refine .tt [(2, .i 0)] [] ?_
  refine .nil ?_
  refine .ret ?_
  cases h
  refine thenQ_pass (by simp) ?_
  exact FinC.ret (by simp) (by simp)
 have c1_ : ((a0.length : Int) == 0) = false := Bool.eq_false_iff.2 c1
 refine .condF (b := ((a0.length : Int) == 0)) rfl c1_ ?_
 refine .sub (.bool 5 (b := ((a0.length : Int) == 0)) rfl c1_) ?_
 refine .st (mk 13 [] [(0, .d (.sl (a0.map cS64))), (5, .b false)] []) ?_
 refine .skip ?_
 refine thenQ_normal ?_
 refine .seqR ?_
 replace h := bsome h; obtain ⟨v2, hv2, h⟩ := h
 have hv2 := chkI_some hv2
 replace h := bsome h; obtain ⟨x3, hx3, h⟩ := h
 obtain ⟨k4, hx3k, hx3, hx3a, hx3b⟩ := idx_some hx3
 refine .runK [] 8 fun K k => ?_; simp [hv2, hx3, hx3k, hx3a]; refine k _ _ ?_; clear k K
 refine .tt [(2, .i x3.Term)] [] ?_
 refine .nil ?_
 refine .ret ?_
 cases h
 exact FinC.ret (by simp) (by simp)
/-- stemma/stemref5.MoreUpToDate -/
def d34 (N : Nat) (a0 : (List S64)) (a1 : (List S64)) : Option Bool :=
 (d44 N a0).bind fun r1 =>
 (d44 N a1).bind fun r2 =>
 if (r1 != r2) then (
  (d44 N a0).bind fun r4 =>
  (d44 N a1).bind fun r5 =>
  some (decide (r4 > r5))
 ) else
 some (decide ((a0.length : Int) > (a1.length : Int)))
set_option maxRecDepth 100000 in
set_option maxHeartbeats 4000000 in
theorem p34 (N : Nat) (a0 : (List S64)) (a1 : (List S64)) (r : Bool) (h : d34 N a0 a1 = some r) : FunC Try.prog 34 [.d (.sl (a0.map cS64)), .d (.sl (a1.map cS64))] (.b r) := by
 unfold d34 at h
 refine FunC.enter 25 [(0, .d (.sl (a0.map cS64))), (1, .d (.sl (a1.map cS64)))] (by simp) Try.func34 rfl (of_decide_eq_true rfl) rfl rfl ?_
 refine .seqR ?_
 refine .runK [] 1 fun K k => ?_; simp; refine k _ _ ?_; clear k K
 refine .tt [(0, .d (.sl (a0.map cS64))), (1, .d (.sl (a1.map cS64)))] [] ?_
 refine .nil ?_
 refine .seqR ?_
 refine .runK [] 1 fun K k => ?_; simp; refine k _ _ ?_; clear k K
 refine .tt (L48 a0 a1) [] ?_
 refine .nil ?_
 refine .seq ?_
 refine .seqR ?_
 refine .runK [] 2 fun K k => ?_; simp; refine k _ _ ?_; clear k K
 refine .tt (L48 a0 a1 ++ [(6, .d (.lit (.func (.func 44) #[] #[]))), (7, .d (.sl (a0.map cS64)))]) [] ?_
 replace h := bsome h; obtain ⟨r1, hr1, h⟩ := h
 refine .callL (d := 8) (p44 N a0 r1 hr1) (by simp) rfl rfl (by simp <;> rfl) (by simp <;> rfl) ent44 (by simp <;> rfl) ?_
 refine .st (mk 25 [] (L48 a0 a1 ++ [(6, .d (.lit (.func (.func 44) #[] #[]))), (7, .d (.sl (a0.map cS64))), (8, .i r1)]) []) ?_
 refine .runK [] 2 fun K k => ?_; simp; refine k _ _ ?_; clear k K
 refine .tt (L48 a0 a1 ++ [(8, .i r1), (9, .d (.lit (.func (.func 44) #[] #[]))), (10, .d (.sl (a1.map cS64)))]) [] ?_
 replace h := bsome h; obtain ⟨r2, hr2, h⟩ := h
 refine .callL (d := 11) (p44 N a1 r2 hr2) (by simp) rfl rfl (by simp <;> rfl) (by simp <;> rfl) ent44 (by simp <;> rfl) ?_
 refine .st (mk 25 [] (L48 a0 a1 ++ [(8, .i r1), (9, .d (.lit (.func (.func 44) #[] #[]))), (10, .d (.sl (a1.map cS64))), (11, .i r2)]) []) ?_
 refine .runK [] 1 fun K k => ?_; simp; refine k _ _ ?_; clear k K
 refine .tt (L48 a0 a1 ++ [(12, .b (r1 != r2))]) [] ?_
 refine .nil ?_
 replace h := isome h; rcases h with ⟨c3, h⟩ | ⟨c3, h⟩
 ·have c3_ : (r1 != r2) = true := c3
  refine .condT (b := (r1 != r2)) rfl c3_ ?_
  refine .sub (.bool 12 (b := (r1 != r2)) rfl c3_) ?_
  refine .st (mk 25 [] (L48 a0 a1 ++ [(12, .b true)]) []) ?_
  refine .seqR ?_
  refine .runK [] 2 fun K k => ?_; simp; refine k _ _ ?_; clear k K
  refine .tt [(1, .d (.sl (a1.map cS64))), (5, .d (.lit (.func (.func 44) #[] #[]))), (13, .d (.lit (.func (.func 44) #[] #[]))), (14, .d (.sl (a0.map cS64)))] [] ?_
  replace h := bsome h; obtain ⟨r4, hr4, h⟩ := h
  refine .callL (d := 15) (p44 N a0 r4 hr4) (by simp) rfl rfl (by simp <;> rfl) (by simp <;> rfl) ent44 (by simp <;> rfl) ?_
  refine .st (mk 25 [] [(1, .d (.sl (a1.map cS64))), (5, .d (.lit (.func (.func 44) #[] #[]))), (13, .d (.lit (.func (.func 44) #[] #[]))), (14, .d (.sl (a0.map cS64))), (15, .i r4)] []) ?_
  refine .runK [] 2 fun K k => ?_; simp; refine k _ _ ?_; clear k K
  refine .tt [(15, .i r4), (16, .d (.lit (.func (.func 44) #[] #[]))), (17, .d (.sl (a1.map cS64)))] [] ?_
  replace h := bsome h; obtain ⟨r5, hr5, h⟩ := h
  refine .callL (d := 18) (p44 N a1 r5 hr5) (by simp) rfl rfl (by simp <;> rfl) (by simp <;> rfl) ent44 (by simp <;> rfl) ?_
  refine .st (mk 25 [] [(15, .i r4), (16, .d (.lit (.func (.func 44) #[] #[]))), (17, .d (.sl (a1.map cS64))), (18, .i r5)] []) ?_
  refine .runK [] 2 fun K k => ?_; simp; refine k _ _ ?_; clear k K
  refine .tt [(4, .b (decide (r4 > r5)))] [] ?_
  refine .nil ?_
  refine .ret ?_
  cases h
  refine thenQ_pass (by simp) ?_
  exact FinC.ret (by simp) (by simp)
 have c3_ : (r1 != r2) = false := Bool.eq_false_iff.2 c3
 refine .condF (b := (r1 != r2)) rfl c3_ ?_
 refine .sub (.bool 12 (b := (r1 != r2)) rfl c3_) ?_
 refine .st (mk 25 [] (L48 a0 a1 ++ [(12, .b false)]) []) ?_
 refine .skip ?_
 refine thenQ_normal ?_
 refine .seqR ?_
 refine .runK [] 6 fun K k => ?_; simp; refine k _ _ ?_; clear k K
 refine .tt [(4, .b (decide ((a0.length : Int) > (a1.length : Int))))] [] ?_
 refine .nil ?_
 refine .ret ?_
 cases h
 exact FinC.ret (by simp) (by simp)
end Go.Proofs.Ytifcmomjjkbboab
