/- Functions of the program as functional programs; the code computes them. -/
import Derived.Test.YtacafkegbgmnoaaEv8
namespace Go.Proofs.Ytacafkegbgmnoaa
open Go.Ab Go.Rp
attribute [-simp] List.all_eq_true Array.all_toList Array.all_eq_true

/-- stemma/expr.TypeOf -/
def d7 (N : Nat) (a0 : (List S46)) (a1 : (List S46)) (a2 : S27) : Option (Int × Bool × Int) :=
 (d16 N a2).bind fun r1 =>
 Option.bind (α := Bool) (
  if r1.1 > 60 then (
   some true
  ) else
  some (decide (r1.2 > 12))
 ) fun (v3 : Bool) =>
 if v3 = true then (
  some (0, false, 2)
 ) else
 (d17 N a0 a1 a2).bind fun r6 =>
 some (r6.1, r6.2.1, r6.2.2)
set_option maxRecDepth 100000 in
set_option maxHeartbeats 4000000 in
theorem p7 (N : Nat) (a0 : (List S46)) (a1 : (List S46)) (a2 : S27) (r : (Int × Bool × Int)) (h : d7 N a0 a1 a2 = some r) : FunC Try.prog 7 [.d (.sl (a0.map cS46)), .d (.sl (a1.map cS46)), .agg [.d (.lit (.int .i64 a2.Kind)), .d (.lit (.string a2.Name)), .d (.lit (.int .i64 a2.Index)), .d (.lit (.int .i64 a2.Value.Kind)), .d (.lit (.int .i64 a2.Value.Int)), .d (.lit (.string a2.Value.Text)), .d (.sl (a2.Args.map cS27))]] (.tup [.d (.lit (.int .i64 r.1)), .d (.lit (.bool r.2.1)), .d (.lit (.int .i64 r.2.2))]) := by
 unfold d7 at h
 refine FunC.enter 29 [(0, .d (.sl (a0.map cS46))), (1, .d (.sl (a1.map cS46))), (2, .agg [.d (.lit (.int .i64 a2.Kind)), .d (.lit (.string a2.Name)), .d (.lit (.int .i64 a2.Index)), .d (.lit (.int .i64 a2.Value.Kind)), .d (.lit (.int .i64 a2.Value.Int)), .d (.lit (.string a2.Value.Text)), .d (.sl (a2.Args.map cS27))])] (by simp) Try.func7 rfl (of_decide_eq_true rfl) rfl rfl ?_
 refine AW.seqR ?_
 refine Chain.runK [] 4 fun K hK => ?_; simp; refine hK _ _ ?_; clear hK K
 refine Chain.sub (S' := mk 29 [] [(0, .d (.sl (a0.map cS46))), (1, .d (.sl (a1.map cS46))), (5, .ptr 5 0 0)] [(5, some (.box [.d (.lit (.int .i64 a2.Kind)), .d (.lit (.string a2.Name)), .d (.lit (.int .i64 a2.Index)), .d (.lit (.int .i64 a2.Value.Kind)), .d (.lit (.int .i64 a2.Value.Int)), .d (.lit (.string a2.Value.Text)), .d (.sl (a2.Args.map cS27))]))]) Sub.tt ?_
 refine Chain.nil ?_
 refine AW.seq ?_
 refine AW.seqR ?_
 refine Chain.runK [] 1 fun K hK => ?_; simp; refine hK _ _ ?_; clear hK K
 refine Chain.sub (S' := mk 29 [] [(0, .d (.sl (a0.map cS46))), (1, .d (.sl (a1.map cS46))), (5, .ptr 5 0 0), (12, .agg [.d (.lit (.int .i64 a2.Kind)), .d (.lit (.string a2.Name)), .d (.lit (.int .i64 a2.Index)), .d (.lit (.int .i64 a2.Value.Kind)), .d (.lit (.int .i64 a2.Value.Int)), .d (.lit (.string a2.Value.Text)), .d (.sl (a2.Args.map cS27))])] [(5, some (.box [.d (.lit (.int .i64 a2.Kind)), .d (.lit (.string a2.Name)), .d (.lit (.int .i64 a2.Index)), .d (.lit (.int .i64 a2.Value.Kind)), .d (.lit (.int .i64 a2.Value.Int)), .d (.lit (.string a2.Value.Text)), .d (.sl (a2.Args.map cS27))]))]) Sub.tt ?_
 replace h := bsome h; obtain ⟨r1, hr1, h⟩ := h
 refine Chain.callL (d := 13) (p16 N a2 r1 hr1) (by simp) rfl rfl (by simp <;> rfl) (by simp <;> rfl) ent16 (by simp <;> rfl) ?_
 refine Chain.sub (S' := mk 29 [] [(0, .d (.sl (a0.map cS46))), (1, .d (.sl (a1.map cS46))), (5, .ptr 5 0 0), (12, .agg [.d (.lit (.int .i64 a2.Kind)), .d (.lit (.string a2.Name)), .d (.lit (.int .i64 a2.Index)), .d (.lit (.int .i64 a2.Value.Kind)), .d (.lit (.int .i64 a2.Value.Int)), .d (.lit (.string a2.Value.Text)), .d (.sl (a2.Args.map cS27))]), (13, .tup [.d (.lit (.int .i64 r1.1)), .d (.lit (.int .i64 r1.2))])] [(5, some (.box [.d (.lit (.int .i64 a2.Kind)), .d (.lit (.string a2.Name)), .d (.lit (.int .i64 a2.Index)), .d (.lit (.int .i64 a2.Value.Kind)), .d (.lit (.int .i64 a2.Value.Int)), .d (.lit (.string a2.Value.Text)), .d (.sl (a2.Args.map cS27))]))]) (by simp; exact Sub.table (by simp) (by simp)) ?_
 refine Chain.runK [] 5 fun K hK => ?_; simp; refine hK _ _ ?_; clear hK K
 refine Chain.sub (S' := mk 29 [] [(0, .d (.sl (a0.map cS46))), (1, .d (.sl (a1.map cS46))), (5, .ptr 5 0 0), (9, .d (.lit (.int .i64 r1.1))), (10, .d (.lit (.int .i64 r1.2)))] [(5, some (.box [.d (.lit (.int .i64 a2.Kind)), .d (.lit (.string a2.Name)), .d (.lit (.int .i64 a2.Index)), .d (.lit (.int .i64 a2.Value.Kind)), .d (.lit (.int .i64 a2.Value.Int)), .d (.lit (.string a2.Value.Text)), .d (.sl (a2.Args.map cS27))]))]) Sub.tt ?_
 refine Chain.nil ?_
 replace h := bsome h; obtain ⟨v3, hj, h⟩ := h
 refine AW.cutR (mk 29 [] [(0, .d (.sl (a0.map cS46))), (1, .d (.sl (a1.map cS46))), (5, .ptr 5 0 0), (21, .d (.lit (.bool v3)))] [(5, some (.box [.d (.lit (.int .i64 a2.Kind)), .d (.lit (.string a2.Name)), .d (.lit (.int .i64 a2.Index)), .d (.lit (.int .i64 a2.Value.Kind)), .d (.lit (.int .i64 a2.Value.Int)), .d (.lit (.string a2.Value.Text)), .d (.sl (a2.Args.map cS27))]))]) ?_ ?_
 ·clear h; have h := hj; clear hj
  refine Chain.runK [] 3 fun K hK => ?_; simp; refine hK _ _ ?_; clear hK K
  refine Chain.sub (S' := mk 29 [] [(0, .d (.sl (a0.map cS46))), (1, .d (.sl (a1.map cS46))), (5, .ptr 5 0 0), (10, .d (.lit (.int .i64 r1.2))), (18, .d (.lit (.bool (decide (r1.1 > 60)))))] [(5, some (.box [.d (.lit (.int .i64 a2.Kind)), .d (.lit (.string a2.Name)), .d (.lit (.int .i64 a2.Index)), .d (.lit (.int .i64 a2.Value.Kind)), .d (.lit (.int .i64 a2.Value.Int)), .d (.lit (.string a2.Value.Text)), .d (.sl (a2.Args.map cS27))]))]) Sub.tt ?_
  replace h := isome h; rcases h with ⟨c4, h⟩ | ⟨c4, h⟩
  ·have c4_ : decide (r1.1 > 60) = true := decide_eq_true c4
   refine Chain.sub (Sub.bool 18 (b := decide (r1.1 > 60)) rfl c4_) ?_
   refine Chain.sub (S' := mk 29 [] [(0, .d (.sl (a0.map cS46))), (1, .d (.sl (a1.map cS46))), (5, .ptr 5 0 0), (10, .d (.lit (.int .i64 r1.2))), (18, .d (.lit (.bool true)))] [(5, some (.box [.d (.lit (.int .i64 a2.Kind)), .d (.lit (.string a2.Name)), .d (.lit (.int .i64 a2.Index)), .d (.lit (.int .i64 a2.Value.Kind)), .d (.lit (.int .i64 a2.Value.Int)), .d (.lit (.string a2.Value.Text)), .d (.sl (a2.Args.map cS27))]))]) (by simp; exact Sub.table (by simp) (by simp)) ?_
   refine Chain.runK [] 3 fun K hK => ?_; simp; refine hK _ _ ?_; clear hK K
   refine Chain.sub (S' := mk 29 [] [(0, .d (.sl (a0.map cS46))), (1, .d (.sl (a1.map cS46))), (5, .ptr 5 0 0), (21, .d (.lit (.bool true)))] [(5, some (.box [.d (.lit (.int .i64 a2.Kind)), .d (.lit (.string a2.Name)), .d (.lit (.int .i64 a2.Index)), .d (.lit (.int .i64 a2.Value.Kind)), .d (.lit (.int .i64 a2.Value.Int)), .d (.lit (.string a2.Value.Text)), .d (.sl (a2.Args.map cS27))]))]) Sub.tt ?_
   cases h
   exact Chain.nil Sub.tt
  ·have c4_ : decide (r1.1 > 60) = false := decide_eq_false c4
   refine Chain.sub (Sub.bool 18 (b := decide (r1.1 > 60)) rfl c4_) ?_
   refine Chain.sub (S' := mk 29 [] [(0, .d (.sl (a0.map cS46))), (1, .d (.sl (a1.map cS46))), (5, .ptr 5 0 0), (10, .d (.lit (.int .i64 r1.2))), (18, .d (.lit (.bool false)))] [(5, some (.box [.d (.lit (.int .i64 a2.Kind)), .d (.lit (.string a2.Name)), .d (.lit (.int .i64 a2.Index)), .d (.lit (.int .i64 a2.Value.Kind)), .d (.lit (.int .i64 a2.Value.Int)), .d (.lit (.string a2.Value.Text)), .d (.sl (a2.Args.map cS27))]))]) (by simp; exact Sub.table (by simp) (by simp)) ?_
   refine Chain.runK [] 3 fun K hK => ?_; simp; refine hK _ _ ?_; clear hK K
   refine Chain.sub (S' := mk 29 [] [(0, .d (.sl (a0.map cS46))), (1, .d (.sl (a1.map cS46))), (5, .ptr 5 0 0), (21, .d (.lit (.bool (decide (r1.2 > 12)))))] [(5, some (.box [.d (.lit (.int .i64 a2.Kind)), .d (.lit (.string a2.Name)), .d (.lit (.int .i64 a2.Index)), .d (.lit (.int .i64 a2.Value.Kind)), .d (.lit (.int .i64 a2.Value.Int)), .d (.lit (.string a2.Value.Text)), .d (.sl (a2.Args.map cS27))]))]) Sub.tt ?_
   cases h
   exact Chain.nil Sub.tt
 ·clear hj
  replace h := isome h; rcases h with ⟨c5, h⟩ | ⟨c5, h⟩
  ·have c5_ : v3 = true := c5
   refine AW.condT (b := v3) rfl c5_ ?_
   refine AW.sub (Sub.bool 21 (b := v3) rfl c5_) ?_
   refine AW.sub (S' := mk 29 [] [(0, .d (.sl (a0.map cS46))), (1, .d (.sl (a1.map cS46))), (5, .ptr 5 0 0), (21, .d (.lit (.bool true)))] [(5, some (.box [.d (.lit (.int .i64 a2.Kind)), .d (.lit (.string a2.Name)), .d (.lit (.int .i64 a2.Index)), .d (.lit (.int .i64 a2.Value.Kind)), .d (.lit (.int .i64 a2.Value.Int)), .d (.lit (.string a2.Value.Text)), .d (.sl (a2.Args.map cS27))]))]) (by simp; exact Sub.table (by simp) (by simp)) ?_
   refine AW.seqR ?_
   refine Chain.runK [] 3 fun K hK => ?_; simp; refine hK _ _ ?_; clear hK K
   refine Chain.sub (S' := mk 29 [] [(6, .d (.lit (.int .i64 0))), (7, .d (.lit (.bool false))), (8, .d (.lit (.int .i64 2)))] []) Sub.tt ?_
   refine Chain.nil ?_
   refine AW.ret ?_
   cases h
   refine thenQ_pass (by simp) ?_
   exact FinC.ret (by simp) (by simp)
  ·have c5_ : v3 = false := Bool.eq_false_iff.2 c5
   refine AW.condF (b := v3) rfl c5_ ?_
   refine AW.sub (Sub.bool 21 (b := v3) rfl c5_) ?_
   refine AW.sub (S' := mk 29 [] [(0, .d (.sl (a0.map cS46))), (1, .d (.sl (a1.map cS46))), (5, .ptr 5 0 0), (21, .d (.lit (.bool false)))] [(5, some (.box [.d (.lit (.int .i64 a2.Kind)), .d (.lit (.string a2.Name)), .d (.lit (.int .i64 a2.Index)), .d (.lit (.int .i64 a2.Value.Kind)), .d (.lit (.int .i64 a2.Value.Int)), .d (.lit (.string a2.Value.Text)), .d (.sl (a2.Args.map cS27))]))]) (by simp; exact Sub.table (by simp) (by simp)) ?_
   refine AW.skip ?_
   refine thenQ_normal ?_
   refine AW.seqR ?_
   refine Chain.runK [] 3 fun K hK => ?_; simp; refine hK _ _ ?_; clear hK K
   refine Chain.sub (S' := mk 29 [] [(22, .d (.sl (a0.map cS46))), (23, .d (.sl (a1.map cS46))), (24, .agg [.d (.lit (.int .i64 a2.Kind)), .d (.lit (.string a2.Name)), .d (.lit (.int .i64 a2.Index)), .d (.lit (.int .i64 a2.Value.Kind)), .d (.lit (.int .i64 a2.Value.Int)), .d (.lit (.string a2.Value.Text)), .d (.sl (a2.Args.map cS27))])] []) Sub.tt ?_
   replace h := bsome h; obtain ⟨r6, hr6, h⟩ := h
   refine Chain.callL (d := 25) (p17 N a0 a1 a2 r6 hr6) (by simp) rfl rfl (by simp <;> rfl) (by simp <;> rfl) ent17 (by simp <;> rfl) ?_
   refine Chain.sub (S' := mk 29 [] [(22, .d (.sl (a0.map cS46))), (23, .d (.sl (a1.map cS46))), (24, .agg [.d (.lit (.int .i64 a2.Kind)), .d (.lit (.string a2.Name)), .d (.lit (.int .i64 a2.Index)), .d (.lit (.int .i64 a2.Value.Kind)), .d (.lit (.int .i64 a2.Value.Int)), .d (.lit (.string a2.Value.Text)), .d (.sl (a2.Args.map cS27))]), (25, .tup [.d (.lit (.int .i64 r6.1)), .d (.lit (.bool r6.2.1)), .d (.lit (.int .i64 r6.2.2))])] []) (by simp; exact Sub.table (by simp) (by simp)) ?_
   refine Chain.runK [] 6 fun K hK => ?_; simp; refine hK _ _ ?_; clear hK K
   refine Chain.sub (S' := mk 29 [] [(6, .d (.lit (.int .i64 r6.1))), (7, .d (.lit (.bool r6.2.1))), (8, .d (.lit (.int .i64 r6.2.2)))] []) Sub.tt ?_
   refine Chain.nil ?_
   refine AW.ret ?_
   cases h
   exact FinC.ret (by simp) (by simp)

/-- stemma/stemref3.boolean -/
def d25 (_N : Nat) (a0 : Bool) : Option S24 :=
 if a0 = true then (
  some (S24.mk 2 1 (ByteArray.mk #[]))
 ) else
 some (S24.mk 2 0 (ByteArray.mk #[]))
set_option maxRecDepth 100000 in
set_option maxHeartbeats 4000000 in
theorem p25 (N : Nat) (a0 : Bool) (r : S24) (h : d25 N a0 = some r) : FunC Try.prog 25 [.d (.lit (.bool a0))] (.agg [.d (.lit (.int .i64 r.Kind)), .d (.lit (.int .i64 r.Int)), .d (.lit (.string r.Text))]) := by
 unfold d25 at h
 refine FunC.enter 11 [(0, .d (.lit (.bool a0)))] (by simp) Try.func25 rfl (of_decide_eq_true rfl) rfl rfl ?_
 refine AW.seqR ?_
 refine Chain.runK [] 1 fun K hK => ?_; simp; refine hK _ _ ?_; clear hK K
 refine Chain.sub (S' := mk 11 [] [(0, .d (.lit (.bool a0))), (2, .ptr 2 0 0)] [(2, some (.box [.d (.lit (.int .i64 0)), .d (.lit (.int .i64 0)), .d (.lit (.string (ByteArray.mk #[])))]))]) Sub.tt ?_
 refine Chain.nil ?_
 refine AW.seqR ?_
 refine Chain.runK [] 3 fun K hK => ?_; simp; refine hK _ _ ?_; clear hK K
 refine Chain.sub (S' := mk 11 [] [(0, .d (.lit (.bool a0))), (2, .ptr 2 0 0), (3, .ptr 3 0 0)] [(2, some (.box [.d (.lit (.int .i64 0)), .d (.lit (.int .i64 0)), .d (.lit (.string (ByteArray.mk #[])))])), (3, some (.box [.d (.lit (.int .i64 2)), .d (.lit (.int .i64 0)), .d (.lit (.string (ByteArray.mk #[])))]))]) Sub.tt ?_
 refine Chain.nil ?_
 refine AW.seq ?_
 refine AW.seqR ?_
 refine Chain.runK [] 1 fun K hK => ?_; simp; refine hK _ _ ?_; clear hK K
 refine Chain.sub (S' := mk 11 [] [(2, .ptr 2 0 0), (3, .ptr 3 0 0), (5, .d (.lit (.bool a0)))] [(2, some (.box [.d (.lit (.int .i64 0)), .d (.lit (.int .i64 0)), .d (.lit (.string (ByteArray.mk #[])))])), (3, some (.box [.d (.lit (.int .i64 2)), .d (.lit (.int .i64 0)), .d (.lit (.string (ByteArray.mk #[])))]))]) Sub.tt ?_
 refine Chain.nil ?_
 replace h := isome h; rcases h with ⟨c1, h⟩ | ⟨c1, h⟩
 ·have c1_ : a0 = true := c1
  refine AW.condT (b := a0) rfl c1_ ?_
  refine AW.sub (Sub.bool 5 (b := a0) rfl c1_) ?_
  refine AW.sub (S' := mk 11 [] [(2, .ptr 2 0 0), (3, .ptr 3 0 0), (5, .d (.lit (.bool true)))] [(2, some (.box [.d (.lit (.int .i64 0)), .d (.lit (.int .i64 0)), .d (.lit (.string (ByteArray.mk #[])))])), (3, some (.box [.d (.lit (.int .i64 2)), .d (.lit (.int .i64 0)), .d (.lit (.string (ByteArray.mk #[])))]))]) (by simp; exact Sub.table (by simp) (by simp)) ?_
  refine AW.region ?_
  have hv2 : IntKind.i64.wrap 1 = 1 := rfl
  refine Chain.runK [] 5 fun K hK => ?_; simp [hv2]; refine hK _ _ ?_; clear hK K
  refine Chain.sub (S' := mk 11 [] [(2, .ptr 2 0 0), (3, .ptr 3 0 0)] [(2, some (.box [.d (.lit (.int .i64 0)), .d (.lit (.int .i64 0)), .d (.lit (.string (ByteArray.mk #[])))])), (3, some (.box [.d (.lit (.int .i64 2)), .d (.lit (.int .i64 1)), .d (.lit (.string (ByteArray.mk #[])))]))]) Sub.tt ?_
  refine Chain.nil ?_
  refine thenQ_normal ?_
  refine AW.seqR ?_
  refine Chain.runK [] 2 fun K hK => ?_; simp; refine hK _ _ ?_; clear hK K
  refine Chain.sub (S' := mk 11 [] [(2, .ptr 2 0 0)] [(2, some (.box [.d (.lit (.int .i64 2)), .d (.lit (.int .i64 1)), .d (.lit (.string (ByteArray.mk #[])))]))]) Sub.tt ?_
  refine Chain.nil ?_
  refine AW.ret ?_
  cases h
  exact FinC.ret (by simp) (by simp)
 ·have c1_ : a0 = false := Bool.eq_false_iff.2 c1
  refine AW.condF (b := a0) rfl c1_ ?_
  refine AW.sub (Sub.bool 5 (b := a0) rfl c1_) ?_
  refine AW.sub (S' := mk 11 [] [(2, .ptr 2 0 0), (3, .ptr 3 0 0), (5, .d (.lit (.bool false)))] [(2, some (.box [.d (.lit (.int .i64 0)), .d (.lit (.int .i64 0)), .d (.lit (.string (ByteArray.mk #[])))])), (3, some (.box [.d (.lit (.int .i64 2)), .d (.lit (.int .i64 0)), .d (.lit (.string (ByteArray.mk #[])))]))]) (by simp; exact Sub.table (by simp) (by simp)) ?_
  refine AW.skip ?_
  refine thenQ_normal ?_
  refine AW.seqR ?_
  refine Chain.runK [] 2 fun K hK => ?_; simp; refine hK _ _ ?_; clear hK K
  refine Chain.sub (S' := mk 11 [] [(2, .ptr 2 0 0)] [(2, some (.box [.d (.lit (.int .i64 2)), .d (.lit (.int .i64 0)), .d (.lit (.string (ByteArray.mk #[])))]))]) Sub.tt ?_
  refine Chain.nil ?_
  refine AW.ret ?_
  cases h
  exact FinC.ret (by simp) (by simp)

/-- stemma/stemref3.truth -/
def d26 (_N : Nat) (a0 : S24) : Option Int :=
 if (a0.Kind != 2) then (
  some 0
 ) else
 (chkI (2 * a0.Int)).bind fun v2 =>
 (chkI (v2 - 1)).bind fun v3 =>
 some v3
set_option maxRecDepth 100000 in
set_option maxHeartbeats 4000000 in
theorem p26 (N : Nat) (a0 : S24) (r : Int) (h : d26 N a0 = some r) : FunC Try.prog 26 [.agg [.d (.lit (.int .i64 a0.Kind)), .d (.lit (.int .i64 a0.Int)), .d (.lit (.string a0.Text))]] (.d (.lit (.int .i64 r))) := by
 unfold d26 at h
 refine FunC.enter 10 [(0, .agg [.d (.lit (.int .i64 a0.Kind)), .d (.lit (.int .i64 a0.Int)), .d (.lit (.string a0.Text))])] (by simp) Try.func26 rfl (of_decide_eq_true rfl) rfl rfl ?_
 refine AW.seqR ?_
 refine Chain.runK [] 2 fun K hK => ?_; simp; refine hK _ _ ?_; clear hK K
 refine Chain.sub (S' := mk 10 [] [(1, .ptr 1 0 0)] [(1, some (.box [.d (.lit (.int .i64 a0.Kind)), .d (.lit (.int .i64 a0.Int)), .d (.lit (.string a0.Text))]))]) Sub.tt ?_
 refine Chain.nil ?_
 refine AW.seq ?_
 refine AW.seqR ?_
 refine Chain.runK [] 3 fun K hK => ?_; simp; refine hK _ _ ?_; clear hK K
 refine Chain.sub (S' := mk 10 [] [(1, .ptr 1 0 0), (5, .d (.lit (.bool (a0.Kind != 2))))] [(1, some (.box [.d (.lit (.int .i64 a0.Kind)), .d (.lit (.int .i64 a0.Int)), .d (.lit (.string a0.Text))]))]) Sub.tt ?_
 refine Chain.nil ?_
 replace h := isome h; rcases h with ⟨c1, h⟩ | ⟨c1, h⟩
 ·have c1_ : (a0.Kind != 2) = true := c1
  refine AW.condT (b := (a0.Kind != 2)) rfl c1_ ?_
  refine AW.sub (Sub.bool 5 (b := (a0.Kind != 2)) rfl c1_) ?_
  refine AW.sub (S' := mk 10 [] [(1, .ptr 1 0 0), (5, .d (.lit (.bool true)))] [(1, some (.box [.d (.lit (.int .i64 a0.Kind)), .d (.lit (.int .i64 a0.Int)), .d (.lit (.string a0.Text))]))]) (by simp; exact Sub.table (by simp) (by simp)) ?_
  refine AW.seqR ?_
  refine Chain.runK [] 1 fun K hK => ?_; simp; refine hK _ _ ?_; clear hK K
  refine Chain.sub (S' := mk 10 [] [(2, .d (.lit (.int .i64 0)))] []) Sub.tt ?_
  refine Chain.nil ?_
  refine AW.ret ?_
  cases h
  refine thenQ_pass (by simp) ?_
  exact FinC.ret (by simp) (by simp)
 ·have c1_ : (a0.Kind != 2) = false := Bool.eq_false_iff.2 c1
  refine AW.condF (b := (a0.Kind != 2)) rfl c1_ ?_
  refine AW.sub (Sub.bool 5 (b := (a0.Kind != 2)) rfl c1_) ?_
  refine AW.sub (S' := mk 10 [] [(1, .ptr 1 0 0), (5, .d (.lit (.bool false)))] [(1, some (.box [.d (.lit (.int .i64 a0.Kind)), .d (.lit (.int .i64 a0.Int)), .d (.lit (.string a0.Text))]))]) (by simp; exact Sub.table (by simp) (by simp)) ?_
  refine AW.skip ?_
  refine thenQ_normal ?_
  refine AW.seqR ?_
  replace h := bsome h; obtain ⟨v2, hv2, h⟩ := h
  have hv2 := chkI_some hv2
  replace h := bsome h; obtain ⟨v3, hv3, h⟩ := h
  have hv3 := chkI_some hv3
  refine Chain.runK [] 5 fun K hK => ?_; simp [hv2, hv3]; refine hK _ _ ?_; clear hK K
  refine Chain.sub (S' := mk 10 [] [(2, .d (.lit (.int .i64 v3)))] []) Sub.tt ?_
  refine Chain.nil ?_
  refine AW.ret ?_
  cases h
  exact FinC.ret (by simp) (by simp)

/-- stemma/stemref3.integer -/
def d27 (_N : Nat) (a0 : Int) : Option S24 :=
 Option.bind (α := Bool) (
  if a0 > 1000000000000 then (
   some true
  ) else
  some (decide (a0 < (-1000000000000)))
 ) fun (v2 : Bool) =>
 if v2 = true then (
  some (S24.mk 0 0 (ByteArray.mk #[]))
 ) else
 some (S24.mk 1 a0 (ByteArray.mk #[]))
set_option maxRecDepth 100000 in
set_option maxHeartbeats 4000000 in
theorem p27 (N : Nat) (a0 : Int) (r : S24) (h : d27 N a0 = some r) : FunC Try.prog 27 [.d (.lit (.int .i64 a0))] (.agg [.d (.lit (.int .i64 r.Kind)), .d (.lit (.int .i64 r.Int)), .d (.lit (.string r.Text))]) := by
 unfold d27 at h
 refine FunC.enter 12 [(0, .d (.lit (.int .i64 a0)))] (by simp) Try.func27 rfl (of_decide_eq_true rfl) rfl rfl ?_
 refine AW.seqR ?_
 refine Chain.runK [] 1 fun K hK => ?_; simp; refine hK _ _ ?_; clear hK K
 refine Chain.sub (S' := mk 12 [] [(0, .d (.lit (.int .i64 a0))), (2, .ptr 2 0 0)] [(2, some (.box [.d (.lit (.int .i64 0)), .d (.lit (.int .i64 0)), .d (.lit (.string (ByteArray.mk #[])))]))]) Sub.tt ?_
 refine Chain.nil ?_
 refine AW.seq ?_
 replace h := bsome h; obtain ⟨v2, hj, h⟩ := h
 refine AW.cutR (mk 12 [] [(0, .d (.lit (.int .i64 a0))), (2, .ptr 2 0 0), (8, .d (.lit (.bool v2)))] [(2, some (.box [.d (.lit (.int .i64 0)), .d (.lit (.int .i64 0)), .d (.lit (.string (ByteArray.mk #[])))]))]) ?_ ?_
 ·clear h; have h := hj; clear hj
  refine Chain.runK [] 3 fun K hK => ?_; simp; refine hK _ _ ?_; clear hK K
  refine Chain.sub (S' := mk 12 [] [(0, .d (.lit (.int .i64 a0))), (2, .ptr 2 0 0), (5, .d (.lit (.bool (decide (a0 > 1000000000000)))))] [(2, some (.box [.d (.lit (.int .i64 0)), .d (.lit (.int .i64 0)), .d (.lit (.string (ByteArray.mk #[])))]))]) Sub.tt ?_
  replace h := isome h; rcases h with ⟨c3, h⟩ | ⟨c3, h⟩
  ·have c3_ : decide (a0 > 1000000000000) = true := decide_eq_true c3
   refine Chain.sub (Sub.bool 5 (b := decide (a0 > 1000000000000)) rfl c3_) ?_
   refine Chain.sub (S' := mk 12 [] [(0, .d (.lit (.int .i64 a0))), (2, .ptr 2 0 0), (5, .d (.lit (.bool true)))] [(2, some (.box [.d (.lit (.int .i64 0)), .d (.lit (.int .i64 0)), .d (.lit (.string (ByteArray.mk #[])))]))]) (by simp; exact Sub.table (by simp) (by simp)) ?_
   refine Chain.runK [] 3 fun K hK => ?_; simp; refine hK _ _ ?_; clear hK K
   refine Chain.sub (S' := mk 12 [] [(0, .d (.lit (.int .i64 a0))), (2, .ptr 2 0 0), (8, .d (.lit (.bool true)))] [(2, some (.box [.d (.lit (.int .i64 0)), .d (.lit (.int .i64 0)), .d (.lit (.string (ByteArray.mk #[])))]))]) Sub.tt ?_
   cases h
   exact Chain.nil Sub.tt
  ·have c3_ : decide (a0 > 1000000000000) = false := decide_eq_false c3
   refine Chain.sub (Sub.bool 5 (b := decide (a0 > 1000000000000)) rfl c3_) ?_
   refine Chain.sub (S' := mk 12 [] [(0, .d (.lit (.int .i64 a0))), (2, .ptr 2 0 0), (5, .d (.lit (.bool false)))] [(2, some (.box [.d (.lit (.int .i64 0)), .d (.lit (.int .i64 0)), .d (.lit (.string (ByteArray.mk #[])))]))]) (by simp; exact Sub.table (by simp) (by simp)) ?_
   refine Chain.runK [] 3 fun K hK => ?_; simp; refine hK _ _ ?_; clear hK K
   refine Chain.sub (S' := mk 12 [] [(0, .d (.lit (.int .i64 a0))), (2, .ptr 2 0 0), (8, .d (.lit (.bool (decide (a0 < (-1000000000000))))))] [(2, some (.box [.d (.lit (.int .i64 0)), .d (.lit (.int .i64 0)), .d (.lit (.string (ByteArray.mk #[])))]))]) Sub.tt ?_
   cases h
   exact Chain.nil Sub.tt
 ·clear hj
  replace h := isome h; rcases h with ⟨c4, h⟩ | ⟨c4, h⟩
  ·have c4_ : v2 = true := c4
   refine AW.condT (b := v2) rfl c4_ ?_
   refine AW.sub (Sub.bool 8 (b := v2) rfl c4_) ?_
   refine AW.sub (S' := mk 12 [] [(0, .d (.lit (.int .i64 a0))), (2, .ptr 2 0 0), (8, .d (.lit (.bool true)))] [(2, some (.box [.d (.lit (.int .i64 0)), .d (.lit (.int .i64 0)), .d (.lit (.string (ByteArray.mk #[])))]))]) (by simp; exact Sub.table (by simp) (by simp)) ?_
   refine AW.seqR ?_
   refine Chain.runK [] 2 fun K hK => ?_; simp; refine hK _ _ ?_; clear hK K
   refine Chain.sub (S' := mk 12 [] [(2, .ptr 2 0 0)] [(2, some (.box [.d (.lit (.int .i64 0)), .d (.lit (.int .i64 0)), .d (.lit (.string (ByteArray.mk #[])))]))]) Sub.tt ?_
   refine Chain.nil ?_
   refine AW.ret ?_
   cases h
   refine thenQ_pass (by simp) ?_
   exact FinC.ret (by simp) (by simp)
  ·have c4_ : v2 = false := Bool.eq_false_iff.2 c4
   refine AW.condF (b := v2) rfl c4_ ?_
   refine AW.sub (Sub.bool 8 (b := v2) rfl c4_) ?_
   refine AW.sub (S' := mk 12 [] [(0, .d (.lit (.int .i64 a0))), (2, .ptr 2 0 0), (8, .d (.lit (.bool false)))] [(2, some (.box [.d (.lit (.int .i64 0)), .d (.lit (.int .i64 0)), .d (.lit (.string (ByteArray.mk #[])))]))]) (by simp; exact Sub.table (by simp) (by simp)) ?_
   refine AW.skip ?_
   refine thenQ_normal ?_
   refine AW.seqR ?_
   refine Chain.runK [] 3 fun K hK => ?_; simp; refine hK _ _ ?_; clear hK K
   refine Chain.sub (S' := mk 12 [] [(2, .ptr 2 0 0)] [(2, some (.box [.d (.lit (.int .i64 1)), .d (.lit (.int .i64 a0)), .d (.lit (.string (ByteArray.mk #[])))]))]) Sub.tt ?_
   refine Chain.nil ?_
   refine AW.ret ?_
   cases h
   exact FinC.ret (by simp) (by simp)

/-- stemma/stemref3.Before -/
def d40 (_N : Nat) (a0 : S24) (a1 : S24) : Option Bool :=
 if (a0.Kind != a1.Kind) then (
  some (decide (a0.Kind < a1.Kind))
 ) else
 if (a0.Int != a1.Int) then (
  some (decide (a0.Int < a1.Int))
 ) else
 some (Op.bytesLess a0.Text.toList a1.Text.toList)
set_option maxRecDepth 100000 in
set_option maxHeartbeats 4000000 in
theorem p40 (N : Nat) (a0 : S24) (a1 : S24) (r : Bool) (h : d40 N a0 a1 = some r) : FunC Try.prog 40 [.agg [.d (.lit (.int .i64 a0.Kind)), .d (.lit (.int .i64 a0.Int)), .d (.lit (.string a0.Text))], .agg [.d (.lit (.int .i64 a1.Kind)), .d (.lit (.int .i64 a1.Int)), .d (.lit (.string a1.Text))]] (.d (.lit (.bool r))) := by
 unfold d40 at h
 refine FunC.enter 30 [(0, .agg [.d (.lit (.int .i64 a0.Kind)), .d (.lit (.int .i64 a0.Int)), .d (.lit (.string a0.Text))]), (1, .agg [.d (.lit (.int .i64 a1.Kind)), .d (.lit (.int .i64 a1.Int)), .d (.lit (.string a1.Text))])] (by simp) Try.func40 rfl (of_decide_eq_true rfl) rfl rfl ?_
 refine AW.seqR ?_
 refine Chain.runK [] 3 fun K hK => ?_; simp; refine hK _ _ ?_; clear hK K
 refine Chain.sub (S' := mk 30 [] [(2, .ptr 2 0 0), (3, .ptr 3 0 0)] [(2, some (.box [.d (.lit (.int .i64 a0.Kind)), .d (.lit (.int .i64 a0.Int)), .d (.lit (.string a0.Text))])), (3, some (.box [.d (.lit (.int .i64 a1.Kind)), .d (.lit (.int .i64 a1.Int)), .d (.lit (.string a1.Text))]))]) Sub.tt ?_
 refine Chain.nil ?_
 refine AW.seq ?_
 refine AW.seqR ?_
 refine Chain.runK [] 5 fun K hK => ?_; simp; refine hK _ _ ?_; clear hK K
 refine Chain.sub (S' := mk 30 [] [(2, .ptr 2 0 0), (3, .ptr 3 0 0), (9, .d (.lit (.bool (a0.Kind != a1.Kind))))] [(2, some (.box [.d (.lit (.int .i64 a0.Kind)), .d (.lit (.int .i64 a0.Int)), .d (.lit (.string a0.Text))])), (3, some (.box [.d (.lit (.int .i64 a1.Kind)), .d (.lit (.int .i64 a1.Int)), .d (.lit (.string a1.Text))]))]) Sub.tt ?_
 refine Chain.nil ?_
 replace h := isome h; rcases h with ⟨c1, h⟩ | ⟨c1, h⟩
 ·have c1_ : (a0.Kind != a1.Kind) = true := c1
  refine AW.condT (b := (a0.Kind != a1.Kind)) rfl c1_ ?_
  refine AW.sub (Sub.bool 9 (b := (a0.Kind != a1.Kind)) rfl c1_) ?_
  refine AW.sub (S' := mk 30 [] [(2, .ptr 2 0 0), (3, .ptr 3 0 0), (9, .d (.lit (.bool true)))] [(2, some (.box [.d (.lit (.int .i64 a0.Kind)), .d (.lit (.int .i64 a0.Int)), .d (.lit (.string a0.Text))])), (3, some (.box [.d (.lit (.int .i64 a1.Kind)), .d (.lit (.int .i64 a1.Int)), .d (.lit (.string a1.Text))]))]) (by simp; exact Sub.table (by simp) (by simp)) ?_
  refine AW.seqR ?_
  refine Chain.runK [] 6 fun K hK => ?_; simp; refine hK _ _ ?_; clear hK K
  refine Chain.sub (S' := mk 30 [] [(4, .d (.lit (.bool (decide (a0.Kind < a1.Kind)))))] []) Sub.tt ?_
  refine Chain.nil ?_
  refine AW.ret ?_
  cases h
  refine thenQ_pass (by simp) ?_
  exact FinC.ret (by simp) (by simp)
 ·have c1_ : (a0.Kind != a1.Kind) = false := Bool.eq_false_iff.2 c1
  refine AW.condF (b := (a0.Kind != a1.Kind)) rfl c1_ ?_
  refine AW.sub (Sub.bool 9 (b := (a0.Kind != a1.Kind)) rfl c1_) ?_
  refine AW.sub (S' := mk 30 [] [(2, .ptr 2 0 0), (3, .ptr 3 0 0), (9, .d (.lit (.bool false)))] [(2, some (.box [.d (.lit (.int .i64 a0.Kind)), .d (.lit (.int .i64 a0.Int)), .d (.lit (.string a0.Text))])), (3, some (.box [.d (.lit (.int .i64 a1.Kind)), .d (.lit (.int .i64 a1.Int)), .d (.lit (.string a1.Text))]))]) (by simp; exact Sub.table (by simp) (by simp)) ?_
  refine AW.skip ?_
  refine thenQ_normal ?_
  refine AW.seq ?_
  refine AW.seqR ?_
  refine Chain.runK [] 5 fun K hK => ?_; simp; refine hK _ _ ?_; clear hK K
  refine Chain.sub (S' := mk 30 [] [(2, .ptr 2 0 0), (3, .ptr 3 0 0), (19, .d (.lit (.bool (a0.Int != a1.Int))))] [(2, some (.box [.d (.lit (.int .i64 a0.Kind)), .d (.lit (.int .i64 a0.Int)), .d (.lit (.string a0.Text))])), (3, some (.box [.d (.lit (.int .i64 a1.Kind)), .d (.lit (.int .i64 a1.Int)), .d (.lit (.string a1.Text))]))]) Sub.tt ?_
  refine Chain.nil ?_
  replace h := isome h; rcases h with ⟨c2, h⟩ | ⟨c2, h⟩
  ·have c2_ : (a0.Int != a1.Int) = true := c2
   refine AW.condT (b := (a0.Int != a1.Int)) rfl c2_ ?_
   refine AW.sub (Sub.bool 19 (b := (a0.Int != a1.Int)) rfl c2_) ?_
   refine AW.sub (S' := mk 30 [] [(2, .ptr 2 0 0), (3, .ptr 3 0 0), (19, .d (.lit (.bool true)))] [(2, some (.box [.d (.lit (.int .i64 a0.Kind)), .d (.lit (.int .i64 a0.Int)), .d (.lit (.string a0.Text))])), (3, some (.box [.d (.lit (.int .i64 a1.Kind)), .d (.lit (.int .i64 a1.Int)), .d (.lit (.string a1.Text))]))]) (by simp; exact Sub.table (by simp) (by simp)) ?_
   refine AW.seqR ?_
   refine Chain.runK [] 6 fun K hK => ?_; simp; refine hK _ _ ?_; clear hK K
   refine Chain.sub (S' := mk 30 [] [(4, .d (.lit (.bool (decide (a0.Int < a1.Int)))))] []) Sub.tt ?_
   refine Chain.nil ?_
   refine AW.ret ?_
   cases h
   refine thenQ_pass (by simp) ?_
   exact FinC.ret (by simp) (by simp)
  ·have c2_ : (a0.Int != a1.Int) = false := Bool.eq_false_iff.2 c2
   refine AW.condF (b := (a0.Int != a1.Int)) rfl c2_ ?_
   refine AW.sub (Sub.bool 19 (b := (a0.Int != a1.Int)) rfl c2_) ?_
   refine AW.sub (S' := mk 30 [] [(2, .ptr 2 0 0), (3, .ptr 3 0 0), (19, .d (.lit (.bool false)))] [(2, some (.box [.d (.lit (.int .i64 a0.Kind)), .d (.lit (.int .i64 a0.Int)), .d (.lit (.string a0.Text))])), (3, some (.box [.d (.lit (.int .i64 a1.Kind)), .d (.lit (.int .i64 a1.Int)), .d (.lit (.string a1.Text))]))]) (by simp; exact Sub.table (by simp) (by simp)) ?_
   refine AW.skip ?_
   refine thenQ_normal ?_
   refine AW.seqR ?_
   refine Chain.runK [] 6 fun K hK => ?_; simp; refine hK _ _ ?_; clear hK K
   refine Chain.sub (S' := mk 30 [] [(4, .d (.lit (.bool (Op.bytesLess a0.Text.toList a1.Text.toList))))] []) Sub.tt ?_
   refine Chain.nil ?_
   refine AW.ret ?_
   cases h
   exact FinC.ret (by simp) (by simp)

/-- stemma/stemref3.product -/
def d41 (N : Nat) (a0 : Int) (a1 : Int) : Option S24 :=
 Option.bind (α := Int) (
  if a0 < 0 then (
   (chkI (-a0)).bind fun v5 =>
   some v5
  ) else
  some a0
 ) fun (v3 : Int) =>
 Option.bind (α := Int) (
  if a1 < 0 then (
   (chkI (-a1)).bind fun v10 =>
   some v10
  ) else
  some a1
 ) fun (v8 : Int) =>
 Option.bind (α := Bool) (
  if (v3 != 0) then (
   (quoI 1000000000000 v3).bind fun v15 =>
   some (decide (v8 > v15))
  ) else
  some false
 ) fun (v13 : Bool) =>
 if v13 = true then (
  some (S24.mk 0 0 (ByteArray.mk #[]))
 ) else
 (chkI (a0 * a1)).bind fun v17 =>
 (d27 N v17).bind fun r18 =>
 some r18
set_option maxRecDepth 100000 in
set_option maxHeartbeats 4000000 in
theorem p41 (N : Nat) (a0 : Int) (a1 : Int) (r : S24) (h : d41 N a0 a1 = some r) : FunC Try.prog 41 [.d (.lit (.int .i64 a0)), .d (.lit (.int .i64 a1))] (.agg [.d (.lit (.int .i64 r.Kind)), .d (.lit (.int .i64 r.Int)), .d (.lit (.string r.Text))]) := by
 unfold d41 at h
 refine FunC.enter 30 [(0, .d (.lit (.int .i64 a0))), (1, .d (.lit (.int .i64 a1)))] (by simp) Try.func41 rfl (of_decide_eq_true rfl) rfl rfl ?_
 refine AW.seqR ?_
 refine Chain.runK [] 1 fun K hK => ?_; simp; refine hK _ _ ?_; clear hK K
 refine Chain.sub (S' := mk 30 [] [(0, .d (.lit (.int .i64 a0))), (1, .d (.lit (.int .i64 a1))), (4, .ptr 4 0 0)] [(4, some (.box [.d (.lit (.int .i64 0)), .d (.lit (.int .i64 0)), .d (.lit (.string (ByteArray.mk #[])))]))]) Sub.tt ?_
 refine Chain.nil ?_
 refine AW.seqR ?_
 refine Chain.runK [] 4 fun K hK => ?_; simp; refine hK _ _ ?_; clear hK K
 refine Chain.sub (S' := mk 30 [] [(0, .d (.lit (.int .i64 a0))), (1, .d (.lit (.int .i64 a1))), (4, .ptr 4 0 0), (5, .d (.lit (.int .i64 a0))), (6, .d (.lit (.int .i64 a1)))] [(4, some (.box [.d (.lit (.int .i64 0)), .d (.lit (.int .i64 0)), .d (.lit (.string (ByteArray.mk #[])))]))]) Sub.tt ?_
 refine Chain.nil ?_
 refine AW.seq ?_
 refine AW.seqR ?_
 refine Chain.runK [] 2 fun K hK => ?_; simp; refine hK _ _ ?_; clear hK K
 refine Chain.sub (S' := mk 30 [] [(0, .d (.lit (.int .i64 a0))), (1, .d (.lit (.int .i64 a1))), (4, .ptr 4 0 0), (5, .d (.lit (.int .i64 a0))), (6, .d (.lit (.int .i64 a1))), (10, .d (.lit (.bool (decide (a0 < 0)))))] [(4, some (.box [.d (.lit (.int .i64 0)), .d (.lit (.int .i64 0)), .d (.lit (.string (ByteArray.mk #[])))]))]) Sub.tt ?_
 refine Chain.nil ?_
 refine AW.lastN (fun (v3 : Int) => mk 30 [] [(0, .d (.lit (.int .i64 a0))), (1, .d (.lit (.int .i64 a1))), (4, .ptr 4 0 0), (5, .d (.lit (.int .i64 v3))), (6, .d (.lit (.int .i64 a1)))] [(4, some (.box [.d (.lit (.int .i64 0)), .d (.lit (.int .i64 0)), .d (.lit (.string (ByteArray.mk #[])))]))]) h ?_ ?_ <;> clear h
 ·intro o h
  replace h := isome h; rcases h with ⟨c4, h⟩ | ⟨c4, h⟩
  ·have c4_ : decide (a0 < 0) = true := decide_eq_true c4
   refine AW.condT (b := decide (a0 < 0)) rfl c4_ ?_
   refine AW.sub (Sub.bool 10 (b := decide (a0 < 0)) rfl c4_) ?_
   refine AW.sub (S' := mk 30 [] [(0, .d (.lit (.int .i64 a0))), (1, .d (.lit (.int .i64 a1))), (4, .ptr 4 0 0), (5, .d (.lit (.int .i64 a0))), (6, .d (.lit (.int .i64 a1))), (10, .d (.lit (.bool true)))] [(4, some (.box [.d (.lit (.int .i64 0)), .d (.lit (.int .i64 0)), .d (.lit (.string (ByteArray.mk #[])))]))]) (by simp; exact Sub.table (by simp) (by simp)) ?_
   refine AW.region ?_
   replace h := bsome h; obtain ⟨v5, hv5, h⟩ := h
   have hv5 := chkI_some hv5
   refine Chain.runK [] 3 fun K hK => ?_; simp [hv5]; refine hK _ _ ?_; clear hK K
   refine Chain.sub (S' := mk 30 [] [(0, .d (.lit (.int .i64 a0))), (1, .d (.lit (.int .i64 a1))), (4, .ptr 4 0 0), (5, .d (.lit (.int .i64 v5))), (6, .d (.lit (.int .i64 a1)))] [(4, some (.box [.d (.lit (.int .i64 0)), .d (.lit (.int .i64 0)), .d (.lit (.string (ByteArray.mk #[])))]))]) Sub.tt ?_
   refine Chain.nil ?_
   cases h
   refine PostN.next ?_
   exact Sub.tt
  ·have c4_ : decide (a0 < 0) = false := decide_eq_false c4
   refine AW.condF (b := decide (a0 < 0)) rfl c4_ ?_
   refine AW.sub (Sub.bool 10 (b := decide (a0 < 0)) rfl c4_) ?_
   refine AW.sub (S' := mk 30 [] [(0, .d (.lit (.int .i64 a0))), (1, .d (.lit (.int .i64 a1))), (4, .ptr 4 0 0), (5, .d (.lit (.int .i64 a0))), (6, .d (.lit (.int .i64 a1))), (10, .d (.lit (.bool false)))] [(4, some (.box [.d (.lit (.int .i64 0)), .d (.lit (.int .i64 0)), .d (.lit (.string (ByteArray.mk #[])))]))]) (by simp; exact Sub.table (by simp) (by simp)) ?_
   refine AW.skip ?_
   cases h
   refine PostN.next ?_
   exact Sub.tt
 ·rintro v3 h
  refine thenQ_normal ?_
  refine AW.seq ?_
  refine AW.seqR ?_
  refine Chain.runK [] 2 fun K hK => ?_; simp; refine hK _ _ ?_; clear hK K
  refine Chain.sub (S' := mk 30 [] [(0, .d (.lit (.int .i64 a0))), (1, .d (.lit (.int .i64 a1))), (4, .ptr 4 0 0), (5, .d (.lit (.int .i64 v3))), (6, .d (.lit (.int .i64 a1))), (14, .d (.lit (.bool (decide (a1 < 0)))))] [(4, some (.box [.d (.lit (.int .i64 0)), .d (.lit (.int .i64 0)), .d (.lit (.string (ByteArray.mk #[])))]))]) Sub.tt ?_
  refine Chain.nil ?_
  refine AW.lastN (fun (v8 : Int) => mk 30 [] [(0, .d (.lit (.int .i64 a0))), (1, .d (.lit (.int .i64 a1))), (4, .ptr 4 0 0), (5, .d (.lit (.int .i64 v3))), (6, .d (.lit (.int .i64 v8)))] [(4, some (.box [.d (.lit (.int .i64 0)), .d (.lit (.int .i64 0)), .d (.lit (.string (ByteArray.mk #[])))]))]) h ?_ ?_ <;> clear h
  ·intro o h
   replace h := isome h; rcases h with ⟨c9, h⟩ | ⟨c9, h⟩
   ·have c9_ : decide (a1 < 0) = true := decide_eq_true c9
    refine AW.condT (b := decide (a1 < 0)) rfl c9_ ?_
    refine AW.sub (Sub.bool 14 (b := decide (a1 < 0)) rfl c9_) ?_
    refine AW.sub (S' := mk 30 [] [(0, .d (.lit (.int .i64 a0))), (1, .d (.lit (.int .i64 a1))), (4, .ptr 4 0 0), (5, .d (.lit (.int .i64 v3))), (6, .d (.lit (.int .i64 a1))), (14, .d (.lit (.bool true)))] [(4, some (.box [.d (.lit (.int .i64 0)), .d (.lit (.int .i64 0)), .d (.lit (.string (ByteArray.mk #[])))]))]) (by simp; exact Sub.table (by simp) (by simp)) ?_
    refine AW.region ?_
    replace h := bsome h; obtain ⟨v10, hv10, h⟩ := h
    have hv10 := chkI_some hv10
    refine Chain.runK [] 3 fun K hK => ?_; simp [hv10]; refine hK _ _ ?_; clear hK K
    refine Chain.sub (S' := mk 30 [] [(0, .d (.lit (.int .i64 a0))), (1, .d (.lit (.int .i64 a1))), (4, .ptr 4 0 0), (5, .d (.lit (.int .i64 v3))), (6, .d (.lit (.int .i64 v10)))] [(4, some (.box [.d (.lit (.int .i64 0)), .d (.lit (.int .i64 0)), .d (.lit (.string (ByteArray.mk #[])))]))]) Sub.tt ?_
    refine Chain.nil ?_
    cases h
    refine PostN.next ?_
    exact Sub.tt
   ·have c9_ : decide (a1 < 0) = false := decide_eq_false c9
    refine AW.condF (b := decide (a1 < 0)) rfl c9_ ?_
    refine AW.sub (Sub.bool 14 (b := decide (a1 < 0)) rfl c9_) ?_
    refine AW.sub (S' := mk 30 [] [(0, .d (.lit (.int .i64 a0))), (1, .d (.lit (.int .i64 a1))), (4, .ptr 4 0 0), (5, .d (.lit (.int .i64 v3))), (6, .d (.lit (.int .i64 a1))), (14, .d (.lit (.bool false)))] [(4, some (.box [.d (.lit (.int .i64 0)), .d (.lit (.int .i64 0)), .d (.lit (.string (ByteArray.mk #[])))]))]) (by simp; exact Sub.table (by simp) (by simp)) ?_
    refine AW.skip ?_
    cases h
    refine PostN.next ?_
    exact Sub.tt
  ·rintro v8 h
   refine thenQ_normal ?_
   refine AW.seq ?_
   replace h := bsome h; obtain ⟨v13, hj, h⟩ := h
   refine AW.cutR (mk 30 [] [(0, .d (.lit (.int .i64 a0))), (1, .d (.lit (.int .i64 a1))), (4, .ptr 4 0 0), (24, .d (.lit (.bool v13)))] [(4, some (.box [.d (.lit (.int .i64 0)), .d (.lit (.int .i64 0)), .d (.lit (.string (ByteArray.mk #[])))]))]) ?_ ?_
   ·clear h; have h := hj; clear hj
    refine Chain.runK [] 3 fun K hK => ?_; simp; refine hK _ _ ?_; clear hK K
    refine Chain.sub (S' := mk 30 [] [(0, .d (.lit (.int .i64 a0))), (1, .d (.lit (.int .i64 a1))), (4, .ptr 4 0 0), (5, .d (.lit (.int .i64 v3))), (6, .d (.lit (.int .i64 v8))), (19, .d (.lit (.bool (v3 != 0))))] [(4, some (.box [.d (.lit (.int .i64 0)), .d (.lit (.int .i64 0)), .d (.lit (.string (ByteArray.mk #[])))]))]) Sub.tt ?_
    replace h := isome h; rcases h with ⟨c14, h⟩ | ⟨c14, h⟩
    ·have c14_ : (v3 != 0) = true := c14
     refine Chain.sub (Sub.bool 19 (b := (v3 != 0)) rfl c14_) ?_
     refine Chain.sub (S' := mk 30 [] [(0, .d (.lit (.int .i64 a0))), (1, .d (.lit (.int .i64 a1))), (4, .ptr 4 0 0), (5, .d (.lit (.int .i64 v3))), (6, .d (.lit (.int .i64 v8))), (19, .d (.lit (.bool true)))] [(4, some (.box [.d (.lit (.int .i64 0)), .d (.lit (.int .i64 0)), .d (.lit (.string (ByteArray.mk #[])))]))]) (by simp; exact Sub.table (by simp) (by simp)) ?_
     replace h := bsome h; obtain ⟨v15, hv15, h⟩ := h
     obtain ⟨hv15a, hv15⟩ := quoI_some hv15
     refine Chain.runK [] 5 fun K hK => ?_; simp [hv15, hv15a]; refine hK _ _ ?_; clear hK K
     refine Chain.sub (S' := mk 30 [] [(0, .d (.lit (.int .i64 a0))), (1, .d (.lit (.int .i64 a1))), (4, .ptr 4 0 0), (24, .d (.lit (.bool (decide (v8 > v15)))))] [(4, some (.box [.d (.lit (.int .i64 0)), .d (.lit (.int .i64 0)), .d (.lit (.string (ByteArray.mk #[])))]))]) Sub.tt ?_
     cases h
     exact Chain.nil Sub.tt
    ·have c14_ : (v3 != 0) = false := Bool.eq_false_iff.2 c14
     refine Chain.sub (Sub.bool 19 (b := (v3 != 0)) rfl c14_) ?_
     refine Chain.sub (S' := mk 30 [] [(0, .d (.lit (.int .i64 a0))), (1, .d (.lit (.int .i64 a1))), (4, .ptr 4 0 0), (5, .d (.lit (.int .i64 v3))), (6, .d (.lit (.int .i64 v8))), (19, .d (.lit (.bool false)))] [(4, some (.box [.d (.lit (.int .i64 0)), .d (.lit (.int .i64 0)), .d (.lit (.string (ByteArray.mk #[])))]))]) (by simp; exact Sub.table (by simp) (by simp)) ?_
     refine Chain.runK [] 5 fun K hK => ?_; simp; refine hK _ _ ?_; clear hK K
     refine Chain.sub (S' := mk 30 [] [(0, .d (.lit (.int .i64 a0))), (1, .d (.lit (.int .i64 a1))), (4, .ptr 4 0 0), (24, .d (.lit (.bool false)))] [(4, some (.box [.d (.lit (.int .i64 0)), .d (.lit (.int .i64 0)), .d (.lit (.string (ByteArray.mk #[])))]))]) Sub.tt ?_
     cases h
     exact Chain.nil Sub.tt
   ·clear hj
    replace h := isome h; rcases h with ⟨c16, h⟩ | ⟨c16, h⟩
    ·have c16_ : v13 = true := c16
     refine AW.condT (b := v13) rfl c16_ ?_
     refine AW.sub (Sub.bool 24 (b := v13) rfl c16_) ?_
     refine AW.sub (S' := mk 30 [] [(0, .d (.lit (.int .i64 a0))), (1, .d (.lit (.int .i64 a1))), (4, .ptr 4 0 0), (24, .d (.lit (.bool true)))] [(4, some (.box [.d (.lit (.int .i64 0)), .d (.lit (.int .i64 0)), .d (.lit (.string (ByteArray.mk #[])))]))]) (by simp; exact Sub.table (by simp) (by simp)) ?_
     refine AW.seqR ?_
     refine Chain.runK [] 2 fun K hK => ?_; simp; refine hK _ _ ?_; clear hK K
     refine Chain.sub (S' := mk 30 [] [(4, .ptr 4 0 0)] [(4, some (.box [.d (.lit (.int .i64 0)), .d (.lit (.int .i64 0)), .d (.lit (.string (ByteArray.mk #[])))]))]) Sub.tt ?_
     refine Chain.nil ?_
     refine AW.ret ?_
     cases h
     refine thenQ_pass (by simp) ?_
     exact FinC.ret (by simp) (by simp)
    ·have c16_ : v13 = false := Bool.eq_false_iff.2 c16
     refine AW.condF (b := v13) rfl c16_ ?_
     refine AW.sub (Sub.bool 24 (b := v13) rfl c16_) ?_
     refine AW.sub (S' := mk 30 [] [(0, .d (.lit (.int .i64 a0))), (1, .d (.lit (.int .i64 a1))), (4, .ptr 4 0 0), (24, .d (.lit (.bool false)))] [(4, some (.box [.d (.lit (.int .i64 0)), .d (.lit (.int .i64 0)), .d (.lit (.string (ByteArray.mk #[])))]))]) (by simp; exact Sub.table (by simp) (by simp)) ?_
     refine AW.skip ?_
     refine thenQ_normal ?_
     refine AW.seqR ?_
     replace h := bsome h; obtain ⟨v17, hv17, h⟩ := h
     have hv17 := chkI_some hv17
     refine Chain.runK [] 3 fun K hK => ?_; simp [hv17]; refine hK _ _ ?_; clear hK K
     refine Chain.sub (S' := mk 30 [] [(4, .ptr 4 0 0), (28, .d (.lit (.int .i64 v17)))] [(4, some (.box [.d (.lit (.int .i64 0)), .d (.lit (.int .i64 0)), .d (.lit (.string (ByteArray.mk #[])))]))]) Sub.tt ?_
     replace h := bsome h; obtain ⟨r18, hr18, h⟩ := h
     refine Chain.callC (d := 29) (p27 N v17 r18 hr18) (by simp) rfl rfl (by simp <;> rfl) (by simp <;> rfl) ent27 (by simp) (.inl ⟨by simp, by simp⟩) ?_
     refine Chain.sub (S' := mk 30 [] [(4, .ptr 4 0 0), (28, .d (.lit (.int .i64 v17))), (29, .agg [.d (.lit (.int .i64 r18.Kind)), .d (.lit (.int .i64 r18.Int)), .d (.lit (.string r18.Text))])] [(4, some (.box [.d (.lit (.int .i64 0)), .d (.lit (.int .i64 0)), .d (.lit (.string (ByteArray.mk #[])))]))]) (by simp; exact Sub.table (by simp) (by simp)) ?_
     refine Chain.runK [] 1 fun K hK => ?_; simp; refine hK _ _ ?_; clear hK K
     refine Chain.sub (S' := mk 30 [] [(4, .ptr 4 0 0)] [(4, some (.box [.d (.lit (.int .i64 r18.Kind)), .d (.lit (.int .i64 r18.Int)), .d (.lit (.string r18.Text))]))]) Sub.tt ?_
     refine Chain.nil ?_
     refine AW.ret ?_
     cases h
     exact FinC.ret (by simp) (by simp)

end Go.Proofs.Ytacafkegbgmnoaa
