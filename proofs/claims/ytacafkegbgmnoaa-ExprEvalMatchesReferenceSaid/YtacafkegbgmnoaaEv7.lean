/- Functions of the program as functional programs; the code computes them. -/
import Derived.Test.YtacafkegbgmnoaaEv6
namespace Go.Proofs.Ytacafkegbgmnoaa
open Go.Ab Go.Rp
attribute [-simp] List.all_eq_true Array.all_toList Array.all_eq_true

/-- stemma/expr.opKind$2 -/
def d47 (_N : Nat) (a0 : Int) (a1 : Int) : Option Bool :=
 Option.bind (α := Bool) (
  if (a0 == a1) then (
   some true
  ) else
  if (a0 == 0) then (
   some true
  ) else
  some (a1 == 0)
 ) fun (v3 : Bool) =>
 some v3
set_option maxRecDepth 100000 in
set_option maxHeartbeats 4000000 in
theorem p47 (N : Nat) (a0 : Int) (a1 : Int) (r : Bool) (h : d47 N a0 a1 = some r) : FunC Try.prog 47 [.d (.lit (.int .i64 a0)), .d (.lit (.int .i64 a1))] (.d (.lit (.bool r))) := by
 unfold d47 at h
 refine FunC.enter 16 [(0, .d (.lit (.int .i64 a0))), (1, .d (.lit (.int .i64 a1)))] (by simp) Try.func47 rfl (of_decide_eq_true rfl) rfl rfl ?_
 refine AW.seqR ?_
 refine Chain.runK [] 1 fun K hK => ?_; simp; refine hK _ _ ?_; clear hK K
 refine Chain.sub (S' := mk 16 [] [(0, .d (.lit (.int .i64 a0))), (1, .d (.lit (.int .i64 a1)))] []) Sub.tt ?_
 refine Chain.nil ?_
 replace h := bsome h; obtain ⟨v3, hj, h⟩ := h
 refine AW.cutR (mk 16 [] [(4, .d (.lit (.bool v3)))] []) ?_ ?_
 ·clear h; have h := hj; clear hj
  refine Chain.runK [] 4 fun K hK => ?_; simp; refine hK _ _ ?_; clear hK K
  refine Chain.sub (S' := mk 16 [] [(0, .d (.lit (.int .i64 a0))), (1, .d (.lit (.int .i64 a1))), (8, .d (.lit (.bool (a0 == a1))))] []) Sub.tt ?_
  replace h := isome h; rcases h with ⟨c4, h⟩ | ⟨c4, h⟩
  ·have c4_ : (a0 == a1) = true := c4
   refine Chain.sub (Sub.bool 8 (b := (a0 == a1)) rfl c4_) ?_
   refine Chain.sub (S' := mk 16 [] [(0, .d (.lit (.int .i64 a0))), (1, .d (.lit (.int .i64 a1))), (8, .d (.lit (.bool true)))] []) (by simp; exact Sub.table (by simp) (by simp)) ?_
   refine Chain.runK [] 8 fun K hK => ?_; simp; refine hK _ _ ?_; clear hK K
   refine Chain.sub (S' := mk 16 [] [(4, .d (.lit (.bool true)))] []) Sub.tt ?_
   cases h
   exact Chain.nil Sub.tt
  ·have c4_ : (a0 == a1) = false := Bool.eq_false_iff.2 c4
   refine Chain.sub (Sub.bool 8 (b := (a0 == a1)) rfl c4_) ?_
   refine Chain.sub (S' := mk 16 [] [(0, .d (.lit (.int .i64 a0))), (1, .d (.lit (.int .i64 a1))), (8, .d (.lit (.bool false)))] []) (by simp; exact Sub.table (by simp) (by simp)) ?_
   refine Chain.runK [] 4 fun K hK => ?_; simp; refine hK _ _ ?_; clear hK K
   refine Chain.sub (S' := mk 16 [] [(1, .d (.lit (.int .i64 a1))), (12, .d (.lit (.bool (a0 == 0))))] []) Sub.tt ?_
   replace h := isome h; rcases h with ⟨c5, h⟩ | ⟨c5, h⟩
   ·have c5_ : (a0 == 0) = true := c5
    refine Chain.sub (Sub.bool 12 (b := (a0 == 0)) rfl c5_) ?_
    refine Chain.sub (S' := mk 16 [] [(1, .d (.lit (.int .i64 a1))), (12, .d (.lit (.bool true)))] []) (by simp; exact Sub.table (by simp) (by simp)) ?_
    refine Chain.runK [] 4 fun K hK => ?_; simp; refine hK _ _ ?_; clear hK K
    refine Chain.sub (S' := mk 16 [] [(4, .d (.lit (.bool true)))] []) Sub.tt ?_
    cases h
    exact Chain.nil Sub.tt
   ·have c5_ : (a0 == 0) = false := Bool.eq_false_iff.2 c5
    refine Chain.sub (Sub.bool 12 (b := (a0 == 0)) rfl c5_) ?_
    refine Chain.sub (S' := mk 16 [] [(1, .d (.lit (.int .i64 a1))), (12, .d (.lit (.bool false)))] []) (by simp; exact Sub.table (by simp) (by simp)) ?_
    refine Chain.runK [] 4 fun K hK => ?_; simp; refine hK _ _ ?_; clear hK K
    refine Chain.sub (S' := mk 16 [] [(4, .d (.lit (.bool (a1 == 0))))] []) Sub.tt ?_
    cases h
    exact Chain.nil Sub.tt
 ·clear hj
  refine AW.ret ?_
  cases h
  exact FinC.ret (by simp) (by simp)

/-- stemma/expr.typed -/
def d48 (_N : Nat) (a0 : Int) (a1 : Bool) (a2 : Bool) : Option (Int × Bool × Int) :=
 if (!a2) = true then (
  some (0, false, 7)
 ) else
 some (a0, a1, 0)
set_option maxRecDepth 100000 in
set_option maxHeartbeats 4000000 in
theorem p48 (N : Nat) (a0 : Int) (a1 : Bool) (a2 : Bool) (r : (Int × Bool × Int)) (h : d48 N a0 a1 a2 = some r) : FunC Try.prog 48 [.d (.lit (.int .i64 a0)), .d (.lit (.bool a1)), .d (.lit (.bool a2))] (.tup [.d (.lit (.int .i64 r.1)), .d (.lit (.bool r.2.1)), .d (.lit (.int .i64 r.2.2))]) := by
 unfold d48 at h
 refine FunC.enter 13 [(0, .d (.lit (.int .i64 a0))), (1, .d (.lit (.bool a1))), (2, .d (.lit (.bool a2)))] (by simp) Try.func48 rfl (of_decide_eq_true rfl) rfl rfl ?_
 refine AW.seqR ?_
 refine Chain.runK [] 3 fun K hK => ?_; simp; refine hK _ _ ?_; clear hK K
 refine Chain.sub (S' := mk 13 [] [(0, .d (.lit (.int .i64 a0))), (1, .d (.lit (.bool a1))), (2, .d (.lit (.bool a2)))] []) Sub.tt ?_
 refine Chain.nil ?_
 refine AW.seq ?_
 refine AW.seqR ?_
 refine Chain.runK [] 2 fun K hK => ?_; simp; refine hK _ _ ?_; clear hK K
 refine Chain.sub (S' := mk 13 [] [(0, .d (.lit (.int .i64 a0))), (1, .d (.lit (.bool a1))), (10, .d (.lit (.bool (!a2))))] []) Sub.tt ?_
 refine Chain.nil ?_
 replace h := isome h; rcases h with ⟨c1, h⟩ | ⟨c1, h⟩
 ·have c1_ : (!a2) = true := c1
  refine AW.condT (b := (!a2)) rfl c1_ ?_
  refine AW.sub (Sub.bool 10 (b := (!a2)) rfl c1_) ?_
  refine AW.sub (S' := mk 13 [] [(0, .d (.lit (.int .i64 a0))), (1, .d (.lit (.bool a1))), (10, .d (.lit (.bool true)))] []) (by simp; exact Sub.table (by simp) (by simp)) ?_
  refine AW.seqR ?_
  refine Chain.runK [] 3 fun K hK => ?_; simp; refine hK _ _ ?_; clear hK K
  refine Chain.sub (S' := mk 13 [] [(6, .d (.lit (.int .i64 0))), (7, .d (.lit (.bool false))), (8, .d (.lit (.int .i64 7)))] []) Sub.tt ?_
  refine Chain.nil ?_
  refine AW.ret ?_
  cases h
  refine thenQ_pass (by simp) ?_
  exact FinC.ret (by simp) (by simp)
 ·have c1_ : (!a2) = false := Bool.eq_false_iff.2 c1
  refine AW.condF (b := (!a2)) rfl c1_ ?_
  refine AW.sub (Sub.bool 10 (b := (!a2)) rfl c1_) ?_
  refine AW.sub (S' := mk 13 [] [(0, .d (.lit (.int .i64 a0))), (1, .d (.lit (.bool a1))), (10, .d (.lit (.bool false)))] []) (by simp; exact Sub.table (by simp) (by simp)) ?_
  refine AW.skip ?_
  refine thenQ_normal ?_
  refine AW.seqR ?_
  refine Chain.runK [] 5 fun K hK => ?_; simp; refine hK _ _ ?_; clear hK K
  refine Chain.sub (S' := mk 13 [] [(6, .d (.lit (.int .i64 a0))), (7, .d (.lit (.bool a1))), (8, .d (.lit (.int .i64 0)))] []) Sub.tt ?_
  refine Chain.nil ?_
  refine AW.ret ?_
  cases h
  exact FinC.ret (by simp) (by simp)

end Go.Proofs.Ytacafkegbgmnoaa
