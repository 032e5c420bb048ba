/- Functions of the program as functional programs; the code computes them. -/
import Derived.Test.YtacafkegbgmnoaaEv1
namespace Go.Proofs.Ytacafkegbgmnoaa
open Go.Ab Go.Rp
attribute [-simp] List.all_eq_true Array.all_toList Array.all_eq_true

/-- stemma/expr.Less -/
def d55 (_N : Nat) (a0 : S24) (a1 : S24) : Option Bool :=
 if (a0.Kind != a1.Kind) then (
  some (decide (a0.Kind < a1.Kind))
 ) else
 if (a0.Int != a1.Int) then (
  some (decide (a0.Int < a1.Int))
 ) else
 some (Op.bytesLess a0.Text.toList a1.Text.toList)
set_option maxRecDepth 100000 in
set_option maxHeartbeats 4000000 in
theorem p55 (N : Nat) (a0 : S24) (a1 : S24) (r : Bool) (h : d55 N a0 a1 = some r) : FunC Try.prog 55 [.agg [.d (.lit (.int .i64 a0.Kind)), .d (.lit (.int .i64 a0.Int)), .d (.lit (.string a0.Text))], .agg [.d (.lit (.int .i64 a1.Kind)), .d (.lit (.int .i64 a1.Int)), .d (.lit (.string a1.Text))]] (.d (.lit (.bool r))) := by
 unfold d55 at h
 refine FunC.enter 32 [(0, .agg [.d (.lit (.int .i64 a0.Kind)), .d (.lit (.int .i64 a0.Int)), .d (.lit (.string a0.Text))]), (1, .agg [.d (.lit (.int .i64 a1.Kind)), .d (.lit (.int .i64 a1.Int)), .d (.lit (.string a1.Text))])] (by simp) Try.func55 rfl (of_decide_eq_true rfl) rfl rfl ?_
 refine AW.seqR ?_
 refine Chain.runK [] 3 fun K hK => ?_; simp; refine hK _ _ ?_; clear hK K
 refine Chain.sub (S' := mk 32 [] [(2, .ptr 2 0 0), (3, .ptr 3 0 0)] [(2, some (.box [.d (.lit (.int .i64 a0.Kind)), .d (.lit (.int .i64 a0.Int)), .d (.lit (.string a0.Text))])), (3, some (.box [.d (.lit (.int .i64 a1.Kind)), .d (.lit (.int .i64 a1.Int)), .d (.lit (.string a1.Text))]))]) Sub.tt ?_
 refine Chain.nil ?_
 refine AW.seq ?_
 refine AW.block ?_
 refine AW.seqR ?_
 refine Chain.runK [] 6 fun K hK => ?_; simp; refine hK _ _ ?_; clear hK K
 refine Chain.sub (S' := mk 32 [] [(2, .ptr 2 0 0), (3, .ptr 3 0 0), (5, .d (.lit (.bool (a0.Kind != a1.Kind))))] [(2, some (.box [.d (.lit (.int .i64 a0.Kind)), .d (.lit (.int .i64 a0.Int)), .d (.lit (.string a0.Text))])), (3, some (.box [.d (.lit (.int .i64 a1.Kind)), .d (.lit (.int .i64 a1.Int)), .d (.lit (.string a1.Text))]))]) Sub.tt ?_
 refine Chain.nil ?_
 replace h := isome h; rcases h with ⟨c1, h⟩ | ⟨c1, h⟩
 ·have c1_ : (a0.Kind != a1.Kind) = true := c1
  refine AW.condT (b := (a0.Kind != a1.Kind)) rfl c1_ ?_
  refine AW.sub (Sub.bool 5 (b := (a0.Kind != a1.Kind)) rfl c1_) ?_
  refine AW.sub (S' := mk 32 [] [(2, .ptr 2 0 0), (3, .ptr 3 0 0), (5, .d (.lit (.bool true)))] [(2, some (.box [.d (.lit (.int .i64 a0.Kind)), .d (.lit (.int .i64 a0.Int)), .d (.lit (.string a0.Text))])), (3, some (.box [.d (.lit (.int .i64 a1.Kind)), .d (.lit (.int .i64 a1.Int)), .d (.lit (.string a1.Text))]))]) (by simp; exact Sub.table (by simp) (by simp)) ?_
  refine AW.seqR ?_
  refine Chain.runK [] 6 fun K hK => ?_; simp; refine hK _ _ ?_; clear hK K
  refine Chain.sub (S' := mk 32 [] [(4, .d (.lit (.bool (decide (a0.Kind < a1.Kind)))))] []) Sub.tt ?_
  refine Chain.nil ?_
  refine AW.ret ?_
  cases h
  refine blockQ.ret ?_
  refine thenQ_pass (by simp) ?_
  exact FinC.ret (by simp) (by simp)
 ·have c1_ : (a0.Kind != a1.Kind) = false := Bool.eq_false_iff.2 c1
  refine AW.condF (b := (a0.Kind != a1.Kind)) rfl c1_ ?_
  refine AW.sub (Sub.bool 5 (b := (a0.Kind != a1.Kind)) rfl c1_) ?_
  refine AW.sub (S' := mk 32 [] [(2, .ptr 2 0 0), (3, .ptr 3 0 0), (5, .d (.lit (.bool false)))] [(2, some (.box [.d (.lit (.int .i64 a0.Kind)), .d (.lit (.int .i64 a0.Int)), .d (.lit (.string a0.Text))])), (3, some (.box [.d (.lit (.int .i64 a1.Kind)), .d (.lit (.int .i64 a1.Int)), .d (.lit (.string a1.Text))]))]) (by simp; exact Sub.table (by simp) (by simp)) ?_
  refine AW.seqR ?_
  refine Chain.runK [] 6 fun K hK => ?_; simp; refine hK _ _ ?_; clear hK K
  refine Chain.sub (S' := mk 32 [] [(2, .ptr 2 0 0), (3, .ptr 3 0 0), (16, .d (.lit (.bool (a0.Int != a1.Int))))] [(2, some (.box [.d (.lit (.int .i64 a0.Kind)), .d (.lit (.int .i64 a0.Int)), .d (.lit (.string a0.Text))])), (3, some (.box [.d (.lit (.int .i64 a1.Kind)), .d (.lit (.int .i64 a1.Int)), .d (.lit (.string a1.Text))]))]) Sub.tt ?_
  refine Chain.nil ?_
  replace h := isome h; rcases h with ⟨c2, h⟩ | ⟨c2, h⟩
  ·have c2_ : (a0.Int != a1.Int) = true := c2
   refine AW.condT (b := (a0.Int != a1.Int)) rfl c2_ ?_
   refine AW.sub (Sub.bool 16 (b := (a0.Int != a1.Int)) rfl c2_) ?_
   refine AW.sub (S' := mk 32 [] [(2, .ptr 2 0 0), (3, .ptr 3 0 0), (16, .d (.lit (.bool true)))] [(2, some (.box [.d (.lit (.int .i64 a0.Kind)), .d (.lit (.int .i64 a0.Int)), .d (.lit (.string a0.Text))])), (3, some (.box [.d (.lit (.int .i64 a1.Kind)), .d (.lit (.int .i64 a1.Int)), .d (.lit (.string a1.Text))]))]) (by simp; exact Sub.table (by simp) (by simp)) ?_
   refine AW.seqR ?_
   refine Chain.runK [] 6 fun K hK => ?_; simp; refine hK _ _ ?_; clear hK K
   refine Chain.sub (S' := mk 32 [] [(4, .d (.lit (.bool (decide (a0.Int < a1.Int)))))] []) Sub.tt ?_
   refine Chain.nil ?_
   refine AW.ret ?_
   cases h
   refine blockQ.ret ?_
   refine thenQ_pass (by simp) ?_
   exact FinC.ret (by simp) (by simp)
  ·have c2_ : (a0.Int != a1.Int) = false := Bool.eq_false_iff.2 c2
   refine AW.condF (b := (a0.Int != a1.Int)) rfl c2_ ?_
   refine AW.sub (Sub.bool 16 (b := (a0.Int != a1.Int)) rfl c2_) ?_
   refine AW.sub (S' := mk 32 [] [(2, .ptr 2 0 0), (3, .ptr 3 0 0), (16, .d (.lit (.bool false)))] [(2, some (.box [.d (.lit (.int .i64 a0.Kind)), .d (.lit (.int .i64 a0.Int)), .d (.lit (.string a0.Text))])), (3, some (.box [.d (.lit (.int .i64 a1.Kind)), .d (.lit (.int .i64 a1.Int)), .d (.lit (.string a1.Text))]))]) (by simp; exact Sub.table (by simp) (by simp)) ?_
   refine AW.skip ?_
   refine blockQ.normal ?_
   refine thenQ_normal ?_
   refine AW.seqR ?_
   refine Chain.runK [] 6 fun K hK => ?_; simp; refine hK _ _ ?_; clear hK K
   refine Chain.sub (S' := mk 32 [] [(4, .d (.lit (.bool (Op.bytesLess a0.Text.toList a1.Text.toList))))] []) Sub.tt ?_
   refine Chain.nil ?_
   refine AW.ret ?_
   cases h
   exact FinC.ret (by simp) (by simp)

/-- stemma/expr.Int -/
def d56 (_N : Nat) (a0 : Int) : Option S24 :=
 Option.bind (α := Bool) (
  if a0 < (-1000000000000) then (
   some true
  ) else
  some (decide (a0 > 1000000000000))
 ) fun (v2 : Bool) =>
 if v2 = true then (
  some (S24.mk 0 0 (ByteArray.mk #[]))
 ) else
 some (S24.mk 1 a0 (ByteArray.mk #[]))
set_option maxRecDepth 100000 in
set_option maxHeartbeats 4000000 in
theorem p56 (N : Nat) (a0 : Int) (r : S24) (h : d56 N a0 = some r) : FunC Try.prog 56 [.d (.lit (.int .i64 a0))] (.agg [.d (.lit (.int .i64 r.Kind)), .d (.lit (.int .i64 r.Int)), .d (.lit (.string r.Text))]) := by
 unfold d56 at h
 refine FunC.enter 12 [(0, .d (.lit (.int .i64 a0)))] (by simp) Try.func56 rfl (of_decide_eq_true rfl) rfl rfl ?_
 refine AW.seqR ?_
 refine Chain.runK [] 1 fun K hK => ?_; simp; refine hK _ _ ?_; clear hK K
 refine Chain.sub (S' := mk 12 [] [(0, .d (.lit (.int .i64 a0))), (2, .ptr 2 0 0)] [(2, some (.box [.d (.lit (.int .i64 0)), .d (.lit (.int .i64 0)), .d (.lit (.string (ByteArray.mk #[])))]))]) Sub.tt ?_
 refine Chain.nil ?_
 refine AW.seq ?_
 replace h := bsome h; obtain ⟨v2, hj, h⟩ := h
 refine AW.cutR (mk 12 [] [(0, .d (.lit (.int .i64 a0))), (2, .ptr 2 0 0), (8, .d (.lit (.bool v2)))] [(2, some (.box [.d (.lit (.int .i64 0)), .d (.lit (.int .i64 0)), .d (.lit (.string (ByteArray.mk #[])))]))]) ?_ ?_
 ·clear h; have h := hj; clear hj
  refine Chain.runK [] 3 fun K hK => ?_; simp; refine hK _ _ ?_; clear hK K
  refine Chain.sub (S' := mk 12 [] [(0, .d (.lit (.int .i64 a0))), (2, .ptr 2 0 0), (5, .d (.lit (.bool (decide (a0 < (-1000000000000))))))] [(2, some (.box [.d (.lit (.int .i64 0)), .d (.lit (.int .i64 0)), .d (.lit (.string (ByteArray.mk #[])))]))]) Sub.tt ?_
  replace h := isome h; rcases h with ⟨c3, h⟩ | ⟨c3, h⟩
  ·have c3_ : decide (a0 < (-1000000000000)) = true := decide_eq_true c3
   refine Chain.sub (Sub.bool 5 (b := decide (a0 < (-1000000000000))) rfl c3_) ?_
   refine Chain.sub (S' := mk 12 [] [(0, .d (.lit (.int .i64 a0))), (2, .ptr 2 0 0), (5, .d (.lit (.bool true)))] [(2, some (.box [.d (.lit (.int .i64 0)), .d (.lit (.int .i64 0)), .d (.lit (.string (ByteArray.mk #[])))]))]) (by simp; exact Sub.table (by simp) (by simp)) ?_
   refine Chain.runK [] 3 fun K hK => ?_; simp; refine hK _ _ ?_; clear hK K
   refine Chain.sub (S' := mk 12 [] [(0, .d (.lit (.int .i64 a0))), (2, .ptr 2 0 0), (8, .d (.lit (.bool true)))] [(2, some (.box [.d (.lit (.int .i64 0)), .d (.lit (.int .i64 0)), .d (.lit (.string (ByteArray.mk #[])))]))]) Sub.tt ?_
   cases h
   exact Chain.nil Sub.tt
  ·have c3_ : decide (a0 < (-1000000000000)) = false := decide_eq_false c3
   refine Chain.sub (Sub.bool 5 (b := decide (a0 < (-1000000000000))) rfl c3_) ?_
   refine Chain.sub (S' := mk 12 [] [(0, .d (.lit (.int .i64 a0))), (2, .ptr 2 0 0), (5, .d (.lit (.bool false)))] [(2, some (.box [.d (.lit (.int .i64 0)), .d (.lit (.int .i64 0)), .d (.lit (.string (ByteArray.mk #[])))]))]) (by simp; exact Sub.table (by simp) (by simp)) ?_
   refine Chain.runK [] 3 fun K hK => ?_; simp; refine hK _ _ ?_; clear hK K
   refine Chain.sub (S' := mk 12 [] [(0, .d (.lit (.int .i64 a0))), (2, .ptr 2 0 0), (8, .d (.lit (.bool (decide (a0 > 1000000000000)))))] [(2, some (.box [.d (.lit (.int .i64 0)), .d (.lit (.int .i64 0)), .d (.lit (.string (ByteArray.mk #[])))]))]) Sub.tt ?_
   cases h
   exact Chain.nil Sub.tt
 ·clear hj
  replace h := isome h; rcases h with ⟨c4, h⟩ | ⟨c4, h⟩
  ·have c4_ : v2 = true := c4
   refine AW.condT (b := v2) rfl c4_ ?_
   refine AW.sub (Sub.bool 8 (b := v2) rfl c4_) ?_
   refine AW.sub (S' := mk 12 [] [(0, .d (.lit (.int .i64 a0))), (2, .ptr 2 0 0), (8, .d (.lit (.bool true)))] [(2, some (.box [.d (.lit (.int .i64 0)), .d (.lit (.int .i64 0)), .d (.lit (.string (ByteArray.mk #[])))]))]) (by simp; exact Sub.table (by simp) (by simp)) ?_
   refine AW.seqR ?_
   refine Chain.runK [] 2 fun K hK => ?_; simp; refine hK _ _ ?_; clear hK K
   refine Chain.sub (S' := mk 12 [] [(2, .ptr 2 0 0)] [(2, some (.box [.d (.lit (.int .i64 0)), .d (.lit (.int .i64 0)), .d (.lit (.string (ByteArray.mk #[])))]))]) Sub.tt ?_
   refine Chain.nil ?_
   refine AW.ret ?_
   cases h
   refine thenQ_pass (by simp) ?_
   exact FinC.ret (by simp) (by simp)
  ·have c4_ : v2 = false := Bool.eq_false_iff.2 c4
   refine AW.condF (b := v2) rfl c4_ ?_
   refine AW.sub (Sub.bool 8 (b := v2) rfl c4_) ?_
   refine AW.sub (S' := mk 12 [] [(0, .d (.lit (.int .i64 a0))), (2, .ptr 2 0 0), (8, .d (.lit (.bool false)))] [(2, some (.box [.d (.lit (.int .i64 0)), .d (.lit (.int .i64 0)), .d (.lit (.string (ByteArray.mk #[])))]))]) (by simp; exact Sub.table (by simp) (by simp)) ?_
   refine AW.skip ?_
   refine thenQ_normal ?_
   refine AW.seqR ?_
   refine Chain.runK [] 3 fun K hK => ?_; simp; refine hK _ _ ?_; clear hK K
   refine Chain.sub (S' := mk 12 [] [(2, .ptr 2 0 0)] [(2, some (.box [.d (.lit (.int .i64 1)), .d (.lit (.int .i64 a0)), .d (.lit (.string (ByteArray.mk #[])))]))]) Sub.tt ?_
   refine Chain.nil ?_
   refine AW.ret ?_
   cases h
   exact FinC.ret (by simp) (by simp)

/-- stemma/expr.number -/
def d57 (N : Nat) (a0 : ByteArray) (a1 : Int) (a2 : Int) : Option S24 :=
 if decide (a0 = (ByteArray.mk #[43])) = true then (
  (chkI (a1 + a2)).bind fun v2 =>
  (d56 N v2).bind fun r3 =>
  some r3
 ) else
 if decide (a0 = (ByteArray.mk #[45])) = true then (
  (chkI (a1 - a2)).bind fun v5 =>
  (d56 N v5).bind fun r6 =>
  some r6
 ) else
 Option.bind (α := Bool) (
  if (a1 == 0) then (
   some true
  ) else
  some (a2 == 0)
 ) fun (v8 : Bool) =>
 if v8 = true then (
  (d56 N 0).bind fun r11 =>
  some r11
 ) else
 letv (IntKind.i64.wrap (a1 * a2)) fun v12 =>
 (quoI v12 a2).bind fun v13 =>
 if (v13 == a1) then (
  (d56 N v12).bind fun r15 =>
  some r15
 ) else
 some (S24.mk 0 0 (ByteArray.mk #[]))
set_option maxRecDepth 100000 in
set_option maxHeartbeats 4000000 in
theorem p57 (N : Nat) (a0 : ByteArray) (a1 : Int) (a2 : Int) (r : S24) (h : d57 N a0 a1 a2 = some r) : FunC Try.prog 57 [.d (.lit (.string a0)), .d (.lit (.int .i64 a1)), .d (.lit (.int .i64 a2))] (.agg [.d (.lit (.int .i64 r.Kind)), .d (.lit (.int .i64 r.Int)), .d (.lit (.string r.Text))]) := by
 unfold d57 at h
 refine FunC.enter 39 [(0, .d (.lit (.string a0))), (1, .d (.lit (.int .i64 a1))), (2, .d (.lit (.int .i64 a2)))] (by simp) Try.func57 rfl (of_decide_eq_true rfl) rfl rfl ?_
 refine AW.seqR ?_
 refine Chain.runK [] 1 fun K hK => ?_; simp; refine hK _ _ ?_; clear hK K
 refine Chain.sub (S' := mk 39 [] [(0, .d (.lit (.string a0))), (1, .d (.lit (.int .i64 a1))), (2, .d (.lit (.int .i64 a2))), (6, .ptr 6 0 0)] [(6, some (.box [.d (.lit (.int .i64 0)), .d (.lit (.int .i64 0)), .d (.lit (.string (ByteArray.mk #[])))]))]) Sub.tt ?_
 refine Chain.nil ?_
 refine AW.seq ?_
 refine AW.seqR ?_
 refine Chain.runK [] 1 fun K hK => ?_; simp; refine hK _ _ ?_; clear hK K
 refine Chain.sub (S' := mk 39 [] [(1, .d (.lit (.int .i64 a1))), (2, .d (.lit (.int .i64 a2))), (6, .ptr 6 0 0), (8, .d (.lit (.string a0)))] [(6, some (.box [.d (.lit (.int .i64 0)), .d (.lit (.int .i64 0)), .d (.lit (.string (ByteArray.mk #[])))]))]) Sub.tt ?_
 refine Chain.nil ?_
 refine AW.block ?_
 refine AW.seqR ?_
 refine Chain.runK [] 2 fun K hK => ?_; simp; refine hK _ _ ?_; clear hK K
 refine Chain.sub (S' := mk 39 [] [(1, .d (.lit (.int .i64 a1))), (2, .d (.lit (.int .i64 a2))), (6, .ptr 6 0 0), (8, .d (.lit (.string a0))), (9, .d (.lit (.bool (decide (a0 = (ByteArray.mk #[43]))))))] [(6, some (.box [.d (.lit (.int .i64 0)), .d (.lit (.int .i64 0)), .d (.lit (.string (ByteArray.mk #[])))]))]) Sub.tt ?_
 refine Chain.nil ?_
 replace h := isome h; rcases h with ⟨c1, h⟩ | ⟨c1, h⟩
 ·have c1_ : decide (a0 = (ByteArray.mk #[43])) = true := c1
  refine AW.condT (b := decide (a0 = (ByteArray.mk #[43]))) rfl c1_ ?_
  refine AW.sub (Sub.bool 9 (b := decide (a0 = (ByteArray.mk #[43]))) rfl c1_) ?_
  refine AW.sub (S' := mk 39 [] [(1, .d (.lit (.int .i64 a1))), (2, .d (.lit (.int .i64 a2))), (6, .ptr 6 0 0), (8, .d (.lit (.string a0))), (9, .d (.lit (.bool true)))] [(6, some (.box [.d (.lit (.int .i64 0)), .d (.lit (.int .i64 0)), .d (.lit (.string (ByteArray.mk #[])))]))]) (by simp; exact Sub.table (by simp) (by simp)) ?_
  refine AW.seqR ?_
  replace h := bsome h; obtain ⟨v2, hv2, h⟩ := h
  have hv2 := chkI_some hv2
  refine Chain.runK [] 3 fun K hK => ?_; simp [hv2]; refine hK _ _ ?_; clear hK K
  refine Chain.sub (S' := mk 39 [] [(6, .ptr 6 0 0), (13, .d (.lit (.int .i64 v2)))] [(6, some (.box [.d (.lit (.int .i64 0)), .d (.lit (.int .i64 0)), .d (.lit (.string (ByteArray.mk #[])))]))]) Sub.tt ?_
  replace h := bsome h; obtain ⟨r3, hr3, h⟩ := h
  refine Chain.callC (d := 14) (p56 N v2 r3 hr3) (by simp) rfl rfl (by simp <;> rfl) (by simp <;> rfl) ent56 (by simp) (.inl ⟨by simp, by simp⟩) ?_
  refine Chain.sub (S' := mk 39 [] [(6, .ptr 6 0 0), (13, .d (.lit (.int .i64 v2))), (14, .agg [.d (.lit (.int .i64 r3.Kind)), .d (.lit (.int .i64 r3.Int)), .d (.lit (.string r3.Text))])] [(6, some (.box [.d (.lit (.int .i64 0)), .d (.lit (.int .i64 0)), .d (.lit (.string (ByteArray.mk #[])))]))]) (by simp; exact Sub.table (by simp) (by simp)) ?_
  refine Chain.runK [] 1 fun K hK => ?_; simp; refine hK _ _ ?_; clear hK K
  refine Chain.sub (S' := mk 39 [] [(6, .ptr 6 0 0)] [(6, some (.box [.d (.lit (.int .i64 r3.Kind)), .d (.lit (.int .i64 r3.Int)), .d (.lit (.string r3.Text))]))]) Sub.tt ?_
  refine Chain.nil ?_
  refine AW.ret ?_
  cases h
  refine blockQ.ret ?_
  refine thenQ_pass (by simp) ?_
  exact FinC.ret (by simp) (by simp)
 ·have c1_ : decide (a0 = (ByteArray.mk #[43])) = false := Bool.eq_false_iff.2 c1
  refine AW.condF (b := decide (a0 = (ByteArray.mk #[43]))) rfl c1_ ?_
  refine AW.sub (Sub.bool 9 (b := decide (a0 = (ByteArray.mk #[43]))) rfl c1_) ?_
  refine AW.sub (S' := mk 39 [] [(1, .d (.lit (.int .i64 a1))), (2, .d (.lit (.int .i64 a2))), (6, .ptr 6 0 0), (8, .d (.lit (.string a0))), (9, .d (.lit (.bool false)))] [(6, some (.box [.d (.lit (.int .i64 0)), .d (.lit (.int .i64 0)), .d (.lit (.string (ByteArray.mk #[])))]))]) (by simp; exact Sub.table (by simp) (by simp)) ?_
  refine AW.seqR ?_
  refine Chain.runK [] 2 fun K hK => ?_; simp; refine hK _ _ ?_; clear hK K
  refine Chain.sub (S' := mk 39 [] [(1, .d (.lit (.int .i64 a1))), (2, .d (.lit (.int .i64 a2))), (6, .ptr 6 0 0), (15, .d (.lit (.bool (decide (a0 = (ByteArray.mk #[45]))))))] [(6, some (.box [.d (.lit (.int .i64 0)), .d (.lit (.int .i64 0)), .d (.lit (.string (ByteArray.mk #[])))]))]) Sub.tt ?_
  refine Chain.nil ?_
  replace h := isome h; rcases h with ⟨c4, h⟩ | ⟨c4, h⟩
  ·have c4_ : decide (a0 = (ByteArray.mk #[45])) = true := c4
   refine AW.condT (b := decide (a0 = (ByteArray.mk #[45]))) rfl c4_ ?_
   refine AW.sub (Sub.bool 15 (b := decide (a0 = (ByteArray.mk #[45]))) rfl c4_) ?_
   refine AW.sub (S' := mk 39 [] [(1, .d (.lit (.int .i64 a1))), (2, .d (.lit (.int .i64 a2))), (6, .ptr 6 0 0), (15, .d (.lit (.bool true)))] [(6, some (.box [.d (.lit (.int .i64 0)), .d (.lit (.int .i64 0)), .d (.lit (.string (ByteArray.mk #[])))]))]) (by simp; exact Sub.table (by simp) (by simp)) ?_
   refine AW.seqR ?_
   replace h := bsome h; obtain ⟨v5, hv5, h⟩ := h
   have hv5 := chkI_some hv5
   refine Chain.runK [] 3 fun K hK => ?_; simp [hv5]; refine hK _ _ ?_; clear hK K
   refine Chain.sub (S' := mk 39 [] [(6, .ptr 6 0 0), (19, .d (.lit (.int .i64 v5)))] [(6, some (.box [.d (.lit (.int .i64 0)), .d (.lit (.int .i64 0)), .d (.lit (.string (ByteArray.mk #[])))]))]) Sub.tt ?_
   replace h := bsome h; obtain ⟨r6, hr6, h⟩ := h
   refine Chain.callC (d := 20) (p56 N v5 r6 hr6) (by simp) rfl rfl (by simp <;> rfl) (by simp <;> rfl) ent56 (by simp) (.inl ⟨by simp, by simp⟩) ?_
   refine Chain.sub (S' := mk 39 [] [(6, .ptr 6 0 0), (19, .d (.lit (.int .i64 v5))), (20, .agg [.d (.lit (.int .i64 r6.Kind)), .d (.lit (.int .i64 r6.Int)), .d (.lit (.string r6.Text))])] [(6, some (.box [.d (.lit (.int .i64 0)), .d (.lit (.int .i64 0)), .d (.lit (.string (ByteArray.mk #[])))]))]) (by simp; exact Sub.table (by simp) (by simp)) ?_
   refine Chain.runK [] 1 fun K hK => ?_; simp; refine hK _ _ ?_; clear hK K
   refine Chain.sub (S' := mk 39 [] [(6, .ptr 6 0 0)] [(6, some (.box [.d (.lit (.int .i64 r6.Kind)), .d (.lit (.int .i64 r6.Int)), .d (.lit (.string r6.Text))]))]) Sub.tt ?_
   refine Chain.nil ?_
   refine AW.ret ?_
   cases h
   refine blockQ.ret ?_
   refine thenQ_pass (by simp) ?_
   exact FinC.ret (by simp) (by simp)
  ·have c4_ : decide (a0 = (ByteArray.mk #[45])) = false := Bool.eq_false_iff.2 c4
   refine AW.condF (b := decide (a0 = (ByteArray.mk #[45]))) rfl c4_ ?_
   refine AW.sub (Sub.bool 15 (b := decide (a0 = (ByteArray.mk #[45]))) rfl c4_) ?_
   refine AW.sub (S' := mk 39 [] [(1, .d (.lit (.int .i64 a1))), (2, .d (.lit (.int .i64 a2))), (6, .ptr 6 0 0), (15, .d (.lit (.bool false)))] [(6, some (.box [.d (.lit (.int .i64 0)), .d (.lit (.int .i64 0)), .d (.lit (.string (ByteArray.mk #[])))]))]) (by simp; exact Sub.table (by simp) (by simp)) ?_
   refine AW.skip ?_
   refine blockQ.normal ?_
   refine thenQ_normal ?_
   refine AW.seq ?_
   replace h := bsome h; obtain ⟨v8, hj, h⟩ := h
   refine AW.cutR (mk 39 [] [(1, .d (.lit (.int .i64 a1))), (2, .d (.lit (.int .i64 a2))), (6, .ptr 6 0 0), (26, .d (.lit (.bool v8)))] [(6, some (.box [.d (.lit (.int .i64 0)), .d (.lit (.int .i64 0)), .d (.lit (.string (ByteArray.mk #[])))]))]) ?_ ?_
   ·clear h; have h := hj; clear hj
    refine Chain.runK [] 3 fun K hK => ?_; simp; refine hK _ _ ?_; clear hK K
    refine Chain.sub (S' := mk 39 [] [(1, .d (.lit (.int .i64 a1))), (2, .d (.lit (.int .i64 a2))), (6, .ptr 6 0 0), (23, .d (.lit (.bool (a1 == 0))))] [(6, some (.box [.d (.lit (.int .i64 0)), .d (.lit (.int .i64 0)), .d (.lit (.string (ByteArray.mk #[])))]))]) Sub.tt ?_
    replace h := isome h; rcases h with ⟨c9, h⟩ | ⟨c9, h⟩
    ·have c9_ : (a1 == 0) = true := c9
     refine Chain.sub (Sub.bool 23 (b := (a1 == 0)) rfl c9_) ?_
     refine Chain.sub (S' := mk 39 [] [(1, .d (.lit (.int .i64 a1))), (2, .d (.lit (.int .i64 a2))), (6, .ptr 6 0 0), (23, .d (.lit (.bool true)))] [(6, some (.box [.d (.lit (.int .i64 0)), .d (.lit (.int .i64 0)), .d (.lit (.string (ByteArray.mk #[])))]))]) (by simp; exact Sub.table (by simp) (by simp)) ?_
     refine Chain.runK [] 3 fun K hK => ?_; simp; refine hK _ _ ?_; clear hK K
     refine Chain.sub (S' := mk 39 [] [(1, .d (.lit (.int .i64 a1))), (2, .d (.lit (.int .i64 a2))), (6, .ptr 6 0 0), (26, .d (.lit (.bool true)))] [(6, some (.box [.d (.lit (.int .i64 0)), .d (.lit (.int .i64 0)), .d (.lit (.string (ByteArray.mk #[])))]))]) Sub.tt ?_
     cases h
     exact Chain.nil Sub.tt
    ·have c9_ : (a1 == 0) = false := Bool.eq_false_iff.2 c9
     refine Chain.sub (Sub.bool 23 (b := (a1 == 0)) rfl c9_) ?_
     refine Chain.sub (S' := mk 39 [] [(1, .d (.lit (.int .i64 a1))), (2, .d (.lit (.int .i64 a2))), (6, .ptr 6 0 0), (23, .d (.lit (.bool false)))] [(6, some (.box [.d (.lit (.int .i64 0)), .d (.lit (.int .i64 0)), .d (.lit (.string (ByteArray.mk #[])))]))]) (by simp; exact Sub.table (by simp) (by simp)) ?_
     refine Chain.runK [] 3 fun K hK => ?_; simp; refine hK _ _ ?_; clear hK K
     refine Chain.sub (S' := mk 39 [] [(1, .d (.lit (.int .i64 a1))), (2, .d (.lit (.int .i64 a2))), (6, .ptr 6 0 0), (26, .d (.lit (.bool (a2 == 0))))] [(6, some (.box [.d (.lit (.int .i64 0)), .d (.lit (.int .i64 0)), .d (.lit (.string (ByteArray.mk #[])))]))]) Sub.tt ?_
     cases h
     exact Chain.nil Sub.tt
   ·clear hj
    replace h := isome h; rcases h with ⟨c10, h⟩ | ⟨c10, h⟩
    ·have c10_ : v8 = true := c10
     refine AW.condT (b := v8) rfl c10_ ?_
     refine AW.sub (Sub.bool 26 (b := v8) rfl c10_) ?_
     refine AW.sub (S' := mk 39 [] [(1, .d (.lit (.int .i64 a1))), (2, .d (.lit (.int .i64 a2))), (6, .ptr 6 0 0), (26, .d (.lit (.bool true)))] [(6, some (.box [.d (.lit (.int .i64 0)), .d (.lit (.int .i64 0)), .d (.lit (.string (ByteArray.mk #[])))]))]) (by simp; exact Sub.table (by simp) (by simp)) ?_
     refine AW.seqR ?_
     replace h := bsome h; obtain ⟨r11, hr11, h⟩ := h
     refine Chain.callC (d := 27) (p56 N 0 r11 hr11) (by simp) rfl rfl (by simp <;> rfl) (by simp <;> rfl) ent56 (by simp) (.inl ⟨by simp, by simp⟩) ?_
     refine Chain.sub (S' := mk 39 [] [(1, .d (.lit (.int .i64 a1))), (2, .d (.lit (.int .i64 a2))), (6, .ptr 6 0 0), (26, .d (.lit (.bool true))), (27, .agg [.d (.lit (.int .i64 r11.Kind)), .d (.lit (.int .i64 r11.Int)), .d (.lit (.string r11.Text))])] [(6, some (.box [.d (.lit (.int .i64 0)), .d (.lit (.int .i64 0)), .d (.lit (.string (ByteArray.mk #[])))]))]) (by simp; exact Sub.table (by simp) (by simp)) ?_
     refine Chain.runK [] 1 fun K hK => ?_; simp; refine hK _ _ ?_; clear hK K
     refine Chain.sub (S' := mk 39 [] [(6, .ptr 6 0 0)] [(6, some (.box [.d (.lit (.int .i64 r11.Kind)), .d (.lit (.int .i64 r11.Int)), .d (.lit (.string r11.Text))]))]) Sub.tt ?_
     refine Chain.nil ?_
     refine AW.ret ?_
     cases h
     refine thenQ_pass (by simp) ?_
     exact FinC.ret (by simp) (by simp)
    ·have c10_ : v8 = false := Bool.eq_false_iff.2 c10
     refine AW.condF (b := v8) rfl c10_ ?_
     refine AW.sub (Sub.bool 26 (b := v8) rfl c10_) ?_
     refine AW.sub (S' := mk 39 [] [(1, .d (.lit (.int .i64 a1))), (2, .d (.lit (.int .i64 a2))), (6, .ptr 6 0 0), (26, .d (.lit (.bool false)))] [(6, some (.box [.d (.lit (.int .i64 0)), .d (.lit (.int .i64 0)), .d (.lit (.string (ByteArray.mk #[])))]))]) (by simp; exact Sub.table (by simp) (by simp)) ?_
     refine AW.skip ?_
     refine thenQ_normal ?_
     refine AW.seq ?_
     refine AW.seqR ?_
     replace h := lsome h; obtain ⟨v12, hv12, h⟩ := h
     refine Chain.runK [] 4 fun K hK => ?_; simp [hv12]; refine hK _ _ ?_; clear hK K
     refine Chain.sub (S' := mk 39 [] [(1, .d (.lit (.int .i64 a1))), (2, .d (.lit (.int .i64 a2))), (6, .ptr 6 0 0), (7, .d (.lit (.int .i64 v12)))] [(6, some (.box [.d (.lit (.int .i64 0)), .d (.lit (.int .i64 0)), .d (.lit (.string (ByteArray.mk #[])))]))]) Sub.tt ?_
     refine Chain.nil ?_
     refine AW.seqR ?_
     replace h := bsome h; obtain ⟨v13, hv13, h⟩ := h
     obtain ⟨hv13a, hv13⟩ := quoI_some hv13
     refine Chain.runK [] 5 fun K hK => ?_; simp [hv13, hv13a]; refine hK _ _ ?_; clear hK K
     refine Chain.sub (S' := mk 39 [] [(6, .ptr 6 0 0), (7, .d (.lit (.int .i64 v12))), (35, .d (.lit (.bool (v13 == a1))))] [(6, some (.box [.d (.lit (.int .i64 0)), .d (.lit (.int .i64 0)), .d (.lit (.string (ByteArray.mk #[])))]))]) Sub.tt ?_
     refine Chain.nil ?_
     replace h := isome h; rcases h with ⟨c14, h⟩ | ⟨c14, h⟩
     ·have c14_ : (v13 == a1) = true := c14
      refine AW.condT (b := (v13 == a1)) rfl c14_ ?_
      refine AW.sub (Sub.bool 35 (b := (v13 == a1)) rfl c14_) ?_
      refine AW.sub (S' := mk 39 [] [(6, .ptr 6 0 0), (7, .d (.lit (.int .i64 v12))), (35, .d (.lit (.bool true)))] [(6, some (.box [.d (.lit (.int .i64 0)), .d (.lit (.int .i64 0)), .d (.lit (.string (ByteArray.mk #[])))]))]) (by simp; exact Sub.table (by simp) (by simp)) ?_
      refine AW.seqR ?_
      refine Chain.runK [] 1 fun K hK => ?_; simp; refine hK _ _ ?_; clear hK K
      refine Chain.sub (S' := mk 39 [] [(6, .ptr 6 0 0), (36, .d (.lit (.int .i64 v12)))] [(6, some (.box [.d (.lit (.int .i64 0)), .d (.lit (.int .i64 0)), .d (.lit (.string (ByteArray.mk #[])))]))]) Sub.tt ?_
      replace h := bsome h; obtain ⟨r15, hr15, h⟩ := h
      refine Chain.callC (d := 37) (p56 N v12 r15 hr15) (by simp) rfl rfl (by simp <;> rfl) (by simp <;> rfl) ent56 (by simp) (.inl ⟨by simp, by simp⟩) ?_
      refine Chain.sub (S' := mk 39 [] [(6, .ptr 6 0 0), (36, .d (.lit (.int .i64 v12))), (37, .agg [.d (.lit (.int .i64 r15.Kind)), .d (.lit (.int .i64 r15.Int)), .d (.lit (.string r15.Text))])] [(6, some (.box [.d (.lit (.int .i64 0)), .d (.lit (.int .i64 0)), .d (.lit (.string (ByteArray.mk #[])))]))]) (by simp; exact Sub.table (by simp) (by simp)) ?_
      refine Chain.runK [] 1 fun K hK => ?_; simp; refine hK _ _ ?_; clear hK K
      refine Chain.sub (S' := mk 39 [] [(6, .ptr 6 0 0)] [(6, some (.box [.d (.lit (.int .i64 r15.Kind)), .d (.lit (.int .i64 r15.Int)), .d (.lit (.string r15.Text))]))]) Sub.tt ?_
      refine Chain.nil ?_
      refine AW.ret ?_
      cases h
      refine thenQ_pass (by simp) ?_
      exact FinC.ret (by simp) (by simp)
     ·have c14_ : (v13 == a1) = false := Bool.eq_false_iff.2 c14
      refine AW.condF (b := (v13 == a1)) rfl c14_ ?_
      refine AW.sub (Sub.bool 35 (b := (v13 == a1)) rfl c14_) ?_
      refine AW.sub (S' := mk 39 [] [(6, .ptr 6 0 0), (7, .d (.lit (.int .i64 v12))), (35, .d (.lit (.bool false)))] [(6, some (.box [.d (.lit (.int .i64 0)), .d (.lit (.int .i64 0)), .d (.lit (.string (ByteArray.mk #[])))]))]) (by simp; exact Sub.table (by simp) (by simp)) ?_
      refine AW.skip ?_
      refine thenQ_normal ?_
      refine AW.seqR ?_
      refine Chain.runK [] 2 fun K hK => ?_; simp; refine hK _ _ ?_; clear hK K
      refine Chain.sub (S' := mk 39 [] [(6, .ptr 6 0 0)] [(6, some (.box [.d (.lit (.int .i64 0)), .d (.lit (.int .i64 0)), .d (.lit (.string (ByteArray.mk #[])))]))]) Sub.tt ?_
      refine Chain.nil ?_
      refine AW.ret ?_
      cases h
      exact FinC.ret (by simp) (by simp)

end Go.Proofs.Ytacafkegbgmnoaa
