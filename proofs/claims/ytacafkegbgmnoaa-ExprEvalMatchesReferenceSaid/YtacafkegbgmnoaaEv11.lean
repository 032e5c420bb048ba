/- Functions of the program as functional programs; the code computes them. -/
import Derived.Test.YtacafkegbgmnoaaEv10
namespace Go.Proofs.Ytacafkegbgmnoaa
open Go.Ab Go.Rp
attribute [-simp] List.all_eq_true Array.all_toList Array.all_eq_true

/-- stemma/stemref3.Value -/
def d13 : (N : Nat) → (a0 : S44) → (a1 : S27) → Option S24
 | 0, _, _ => none
 | N + 1, a0, a1 =>
  if (a1.Kind == 1) then (
   some a1.Value
  ) else
  if (a1.Kind == 2) then (
   letv ((mget a0.Columns a1.Name).getD (S24.mk 0 0 (ByteArray.mk #[]))) fun v3 =>
   some v3
  ) else
  if (a1.Kind == 4) then (
   letv ((mget a0.Variables a1.Name).getD (S24.mk 0 0 (ByteArray.mk #[]))) fun v5 =>
   some v5
  ) else
  if (a1.Kind == 3) then (
   if a1.Index < (a0.Parameters.length : Int) then (
    (idx a0.Parameters a1.Index).bind fun x8 =>
    if (x8.Kind == a1.Value.Kind) then (
     some x8
    ) else
    some (S24.mk 0 0 (ByteArray.mk #[]))
   ) else
   some (S24.mk 0 0 (ByteArray.mk #[]))
  ) else
  (idx a1.Args 0).bind fun x11 =>
  (d13 N a0 x11).bind fun r12 =>
  if decide (a1.Name = (ByteArray.mk #[105, 115, 32, 110, 117, 108, 108])) = true then (
   (d25 N (r12.Kind == 0)).bind fun r14 =>
   some r14
  ) else
  if decide (a1.Name = (ByteArray.mk #[110, 111, 116])) = true then (
   if (r12.Kind == 0) then (
    some r12
   ) else
   (d26 N r12).bind fun r17 =>
   (d25 N (decide (r17 < 0))).bind fun r18 =>
   some r18
  ) else
  if decide (a1.Name = (ByteArray.mk #[108, 101, 110, 103, 116, 104])) = true then (
   if (r12.Kind == 0) then (
    some r12
   ) else
   (d27 N (r12.Text.size : Int)).bind fun r21 =>
   some r21
  ) else
  if decide (a1.Name = (ByteArray.mk #[105, 102])) = true then (
   (d26 N r12).bind fun r23 =>
   if r23 > 0 then (
    (idx a1.Args 1).bind fun x25 =>
    (d13 N a0 x25).bind fun r26 =>
    some r26
   ) else
   (idx a1.Args 2).bind fun x27 =>
   (d13 N a0 x27).bind fun r28 =>
   some r28
  ) else
  (idx a1.Args 1).bind fun x29 =>
  (d13 N a0 x29).bind fun r30 =>
  (d28 N a1.Name r12 r30).bind fun r31 =>
  some r31
set_option maxRecDepth 100000 in
set_option maxHeartbeats 4000000 in
theorem p13 (N : Nat) : ∀ (a0 : S44) (a1 : S27) (r : S24) (_ : d13 N a0 a1 = some r), FunC Try.prog 13 [.agg [.d (.mpi .string true (a0.Columns.map (MKey.sk ∘ Prod.fst)) (a0.Columns.map (cS24 ∘ Prod.snd))), .d (.mpi .string true (a0.Variables.map (MKey.sk ∘ Prod.fst)) (a0.Variables.map (cS24 ∘ Prod.snd))), .d (.sl (a0.Parameters.map cS24))], .agg [.d (.lit (.int .i64 a1.Kind)), .d (.lit (.string a1.Name)), .d (.lit (.int .i64 a1.Index)), .d (.lit (.int .i64 a1.Value.Kind)), .d (.lit (.int .i64 a1.Value.Int)), .d (.lit (.string a1.Value.Text)), .d (.sl (a1.Args.map cS27))]] (.agg [.d (.lit (.int .i64 r.Kind)), .d (.lit (.int .i64 r.Int)), .d (.lit (.string r.Text))]) := by
 induction N with
 | zero => intro a0 a1 r h; cases h
 | succ N ih =>
 intro a0 a1 r h
 unfold d13 at h
 refine FunC.enter 110 [(0, .agg [.d (.mpi .string true (a0.Columns.map (MKey.sk ∘ Prod.fst)) (a0.Columns.map (cS24 ∘ Prod.snd))), .d (.mpi .string true (a0.Variables.map (MKey.sk ∘ Prod.fst)) (a0.Variables.map (cS24 ∘ Prod.snd))), .d (.sl (a0.Parameters.map cS24))]), (1, .agg [.d (.lit (.int .i64 a1.Kind)), .d (.lit (.string a1.Name)), .d (.lit (.int .i64 a1.Index)), .d (.lit (.int .i64 a1.Value.Kind)), .d (.lit (.int .i64 a1.Value.Int)), .d (.lit (.string a1.Value.Text)), .d (.sl (a1.Args.map cS27))])] (by simp) Try.func13 rfl (of_decide_eq_true rfl) rfl rfl ?_
 refine AW.seqR ?_
 refine Chain.runK [] 3 fun K hK => ?_; simp; refine hK _ _ ?_; clear hK K
 refine Chain.sub (S' := mk 110 [] [(2, .ptr 2 0 0), (3, .ptr 3 0 0), (4, .ptr 4 0 0)] [(2, some (.box [.d (.mpi .string true (a0.Columns.map (MKey.sk ∘ Prod.fst)) (a0.Columns.map (cS24 ∘ Prod.snd))), .d (.mpi .string true (a0.Variables.map (MKey.sk ∘ Prod.fst)) (a0.Variables.map (cS24 ∘ Prod.snd))), .d (.sl (a0.Parameters.map cS24))])), (3, some (.box [.d (.lit (.int .i64 a1.Kind)), .d (.lit (.string a1.Name)), .d (.lit (.int .i64 a1.Index)), .d (.lit (.int .i64 a1.Value.Kind)), .d (.lit (.int .i64 a1.Value.Int)), .d (.lit (.string a1.Value.Text)), .d (.sl (a1.Args.map cS27))])), (4, some (.box [.d (.lit (.int .i64 0)), .d (.lit (.int .i64 0)), .d (.lit (.string (ByteArray.mk #[])))]))]) Sub.tt ?_
 refine Chain.nil ?_
 refine AW.seq ?_
 refine AW.seqR ?_
 refine Chain.runK [] 2 fun K hK => ?_; simp; refine hK _ _ ?_; clear hK K
 refine Chain.sub (S' := mk 110 [] [(2, .ptr 2 0 0), (3, .ptr 3 0 0), (4, .ptr 4 0 0), (8, .d (.lit (.int .i64 a1.Kind)))] [(2, some (.box [.d (.mpi .string true (a0.Columns.map (MKey.sk ∘ Prod.fst)) (a0.Columns.map (cS24 ∘ Prod.snd))), .d (.mpi .string true (a0.Variables.map (MKey.sk ∘ Prod.fst)) (a0.Variables.map (cS24 ∘ Prod.snd))), .d (.sl (a0.Parameters.map cS24))])), (3, some (.box [.d (.lit (.int .i64 a1.Kind)), .d (.lit (.string a1.Name)), .d (.lit (.int .i64 a1.Index)), .d (.lit (.int .i64 a1.Value.Kind)), .d (.lit (.int .i64 a1.Value.Int)), .d (.lit (.string a1.Value.Text)), .d (.sl (a1.Args.map cS27))])), (4, some (.box [.d (.lit (.int .i64 0)), .d (.lit (.int .i64 0)), .d (.lit (.string (ByteArray.mk #[])))]))]) Sub.tt ?_
 refine Chain.nil ?_
 refine AW.block ?_
 refine AW.seqR ?_
 refine Chain.runK [] 2 fun K hK => ?_; simp; refine hK _ _ ?_; clear hK K
 refine Chain.sub (S' := mk 110 [] [(2, .ptr 2 0 0), (3, .ptr 3 0 0), (4, .ptr 4 0 0), (8, .d (.lit (.int .i64 a1.Kind))), (9, .d (.lit (.bool (a1.Kind == 1))))] [(2, some (.box [.d (.mpi .string true (a0.Columns.map (MKey.sk ∘ Prod.fst)) (a0.Columns.map (cS24 ∘ Prod.snd))), .d (.mpi .string true (a0.Variables.map (MKey.sk ∘ Prod.fst)) (a0.Variables.map (cS24 ∘ Prod.snd))), .d (.sl (a0.Parameters.map cS24))])), (3, some (.box [.d (.lit (.int .i64 a1.Kind)), .d (.lit (.string a1.Name)), .d (.lit (.int .i64 a1.Index)), .d (.lit (.int .i64 a1.Value.Kind)), .d (.lit (.int .i64 a1.Value.Int)), .d (.lit (.string a1.Value.Text)), .d (.sl (a1.Args.map cS27))])), (4, some (.box [.d (.lit (.int .i64 0)), .d (.lit (.int .i64 0)), .d (.lit (.string (ByteArray.mk #[])))]))]) Sub.tt ?_
 refine Chain.nil ?_
 replace h := isome h; rcases h with ⟨c1, h⟩ | ⟨c1, h⟩
 ·have c1_ : (a1.Kind == 1) = true := c1
  refine AW.condT (b := (a1.Kind == 1)) rfl c1_ ?_
  refine AW.sub (Sub.bool 9 (b := (a1.Kind == 1)) rfl c1_) ?_
  refine AW.sub (S' := mk 110 [] [(2, .ptr 2 0 0), (3, .ptr 3 0 0), (4, .ptr 4 0 0), (8, .d (.lit (.int .i64 a1.Kind))), (9, .d (.lit (.bool true)))] [(2, some (.box [.d (.mpi .string true (a0.Columns.map (MKey.sk ∘ Prod.fst)) (a0.Columns.map (cS24 ∘ Prod.snd))), .d (.mpi .string true (a0.Variables.map (MKey.sk ∘ Prod.fst)) (a0.Variables.map (cS24 ∘ Prod.snd))), .d (.sl (a0.Parameters.map cS24))])), (3, some (.box [.d (.lit (.int .i64 a1.Kind)), .d (.lit (.string a1.Name)), .d (.lit (.int .i64 a1.Index)), .d (.lit (.int .i64 a1.Value.Kind)), .d (.lit (.int .i64 a1.Value.Int)), .d (.lit (.string a1.Value.Text)), .d (.sl (a1.Args.map cS27))])), (4, some (.box [.d (.lit (.int .i64 0)), .d (.lit (.int .i64 0)), .d (.lit (.string (ByteArray.mk #[])))]))]) (by simp; exact Sub.table (by simp) (by simp)) ?_
  refine AW.seqR ?_
  refine Chain.runK [] 3 fun K hK => ?_; simp; refine hK _ _ ?_; clear hK K
  refine Chain.sub (S' := mk 110 [] [(4, .ptr 4 0 0)] [(4, some (.box [.d (.lit (.int .i64 a1.Value.Kind)), .d (.lit (.int .i64 a1.Value.Int)), .d (.lit (.string a1.Value.Text))]))]) Sub.tt ?_
  refine Chain.nil ?_
  refine AW.ret ?_
  cases h
  refine blockQ.ret ?_
  refine thenQ_pass (by simp) ?_
  exact FinC.ret (by simp) (by simp)
 ·have c1_ : (a1.Kind == 1) = false := Bool.eq_false_iff.2 c1
  refine AW.condF (b := (a1.Kind == 1)) rfl c1_ ?_
  refine AW.sub (Sub.bool 9 (b := (a1.Kind == 1)) rfl c1_) ?_
  refine AW.sub (S' := mk 110 [] [(2, .ptr 2 0 0), (3, .ptr 3 0 0), (4, .ptr 4 0 0), (8, .d (.lit (.int .i64 a1.Kind))), (9, .d (.lit (.bool false)))] [(2, some (.box [.d (.mpi .string true (a0.Columns.map (MKey.sk ∘ Prod.fst)) (a0.Columns.map (cS24 ∘ Prod.snd))), .d (.mpi .string true (a0.Variables.map (MKey.sk ∘ Prod.fst)) (a0.Variables.map (cS24 ∘ Prod.snd))), .d (.sl (a0.Parameters.map cS24))])), (3, some (.box [.d (.lit (.int .i64 a1.Kind)), .d (.lit (.string a1.Name)), .d (.lit (.int .i64 a1.Index)), .d (.lit (.int .i64 a1.Value.Kind)), .d (.lit (.int .i64 a1.Value.Int)), .d (.lit (.string a1.Value.Text)), .d (.sl (a1.Args.map cS27))])), (4, some (.box [.d (.lit (.int .i64 0)), .d (.lit (.int .i64 0)), .d (.lit (.string (ByteArray.mk #[])))]))]) (by simp; exact Sub.table (by simp) (by simp)) ?_
  refine AW.seqR ?_
  refine Chain.runK [] 2 fun K hK => ?_; simp; refine hK _ _ ?_; clear hK K
  refine Chain.sub (S' := mk 110 [] [(2, .ptr 2 0 0), (3, .ptr 3 0 0), (4, .ptr 4 0 0), (8, .d (.lit (.int .i64 a1.Kind))), (13, .d (.lit (.bool (a1.Kind == 2))))] [(2, some (.box [.d (.mpi .string true (a0.Columns.map (MKey.sk ∘ Prod.fst)) (a0.Columns.map (cS24 ∘ Prod.snd))), .d (.mpi .string true (a0.Variables.map (MKey.sk ∘ Prod.fst)) (a0.Variables.map (cS24 ∘ Prod.snd))), .d (.sl (a0.Parameters.map cS24))])), (3, some (.box [.d (.lit (.int .i64 a1.Kind)), .d (.lit (.string a1.Name)), .d (.lit (.int .i64 a1.Index)), .d (.lit (.int .i64 a1.Value.Kind)), .d (.lit (.int .i64 a1.Value.Int)), .d (.lit (.string a1.Value.Text)), .d (.sl (a1.Args.map cS27))])), (4, some (.box [.d (.lit (.int .i64 0)), .d (.lit (.int .i64 0)), .d (.lit (.string (ByteArray.mk #[])))]))]) Sub.tt ?_
  refine Chain.nil ?_
  replace h := isome h; rcases h with ⟨c2, h⟩ | ⟨c2, h⟩
  ·have c2_ : (a1.Kind == 2) = true := c2
   refine AW.condT (b := (a1.Kind == 2)) rfl c2_ ?_
   refine AW.sub (Sub.bool 13 (b := (a1.Kind == 2)) rfl c2_) ?_
   refine AW.sub (S' := mk 110 [] [(2, .ptr 2 0 0), (3, .ptr 3 0 0), (4, .ptr 4 0 0), (8, .d (.lit (.int .i64 a1.Kind))), (13, .d (.lit (.bool true)))] [(2, some (.box [.d (.mpi .string true (a0.Columns.map (MKey.sk ∘ Prod.fst)) (a0.Columns.map (cS24 ∘ Prod.snd))), .d (.mpi .string true (a0.Variables.map (MKey.sk ∘ Prod.fst)) (a0.Variables.map (cS24 ∘ Prod.snd))), .d (.sl (a0.Parameters.map cS24))])), (3, some (.box [.d (.lit (.int .i64 a1.Kind)), .d (.lit (.string a1.Name)), .d (.lit (.int .i64 a1.Index)), .d (.lit (.int .i64 a1.Value.Kind)), .d (.lit (.int .i64 a1.Value.Int)), .d (.lit (.string a1.Value.Text)), .d (.sl (a1.Args.map cS27))])), (4, some (.box [.d (.lit (.int .i64 0)), .d (.lit (.int .i64 0)), .d (.lit (.string (ByteArray.mk #[])))]))]) (by simp; exact Sub.table (by simp) (by simp)) ?_
   refine AW.seqR ?_
   refine Chain.runK [] 4 fun K hK => ?_; simp; refine hK _ _ ?_; clear hK K
   refine Chain.sub (S' := mk 110 [] [(4, .ptr 4 0 0), (16, .d (.mpi .string true (a0.Columns.map (MKey.sk ∘ Prod.fst)) (a0.Columns.map (cS24 ∘ Prod.snd)))), (18, .d (.lit (.string a1.Name)))] [(4, some (.box [.d (.lit (.int .i64 0)), .d (.lit (.int .i64 0)), .d (.lit (.string (ByteArray.mk #[])))]))]) Sub.tt ?_
   replace h := lsome h; obtain ⟨v3, hv3, h⟩ := h
   refine Chain.pureP (by simp) (pure_lookD (vf := (vA cS24)) (cf := cS24) (ag := true) sk_inj a0.Columns a1.Name (S24.mk 0 0 (ByteArray.mk #[])) (fun _ => rfl) ty42 rfl ty9 ty24 rfl rfl rfl rfl rfl) ?_
   refine Chain.sub (S' := mk 110 [] [(4, .ptr 4 0 0), (16, .d (.mpi .string true (a0.Columns.map (MKey.sk ∘ Prod.fst)) (a0.Columns.map (cS24 ∘ Prod.snd)))), (18, .d (.lit (.string a1.Name))), (19, .agg [.d (.lit (.int .i64 v3.Kind)), .d (.lit (.int .i64 v3.Int)), .d (.lit (.string v3.Text))])] [(4, some (.box [.d (.lit (.int .i64 0)), .d (.lit (.int .i64 0)), .d (.lit (.string (ByteArray.mk #[])))]))]) (by simp [vA, hv3]; exact Sub.table (by simp) (by simp)) ?_
   refine Chain.runK [] 1 fun K hK => ?_; simp; refine hK _ _ ?_; clear hK K
   refine Chain.sub (S' := mk 110 [] [(4, .ptr 4 0 0)] [(4, some (.box [.d (.lit (.int .i64 v3.Kind)), .d (.lit (.int .i64 v3.Int)), .d (.lit (.string v3.Text))]))]) Sub.tt ?_
   refine Chain.nil ?_
   refine AW.ret ?_
   cases h
   refine blockQ.ret ?_
   refine thenQ_pass (by simp) ?_
   exact FinC.ret (by simp) (by simp)
  ·have c2_ : (a1.Kind == 2) = false := Bool.eq_false_iff.2 c2
   refine AW.condF (b := (a1.Kind == 2)) rfl c2_ ?_
   refine AW.sub (Sub.bool 13 (b := (a1.Kind == 2)) rfl c2_) ?_
   refine AW.sub (S' := mk 110 [] [(2, .ptr 2 0 0), (3, .ptr 3 0 0), (4, .ptr 4 0 0), (8, .d (.lit (.int .i64 a1.Kind))), (13, .d (.lit (.bool false)))] [(2, some (.box [.d (.mpi .string true (a0.Columns.map (MKey.sk ∘ Prod.fst)) (a0.Columns.map (cS24 ∘ Prod.snd))), .d (.mpi .string true (a0.Variables.map (MKey.sk ∘ Prod.fst)) (a0.Variables.map (cS24 ∘ Prod.snd))), .d (.sl (a0.Parameters.map cS24))])), (3, some (.box [.d (.lit (.int .i64 a1.Kind)), .d (.lit (.string a1.Name)), .d (.lit (.int .i64 a1.Index)), .d (.lit (.int .i64 a1.Value.Kind)), .d (.lit (.int .i64 a1.Value.Int)), .d (.lit (.string a1.Value.Text)), .d (.sl (a1.Args.map cS27))])), (4, some (.box [.d (.lit (.int .i64 0)), .d (.lit (.int .i64 0)), .d (.lit (.string (ByteArray.mk #[])))]))]) (by simp; exact Sub.table (by simp) (by simp)) ?_
   refine AW.seqR ?_
   refine Chain.runK [] 2 fun K hK => ?_; simp; refine hK _ _ ?_; clear hK K
   refine Chain.sub (S' := mk 110 [] [(2, .ptr 2 0 0), (3, .ptr 3 0 0), (4, .ptr 4 0 0), (8, .d (.lit (.int .i64 a1.Kind))), (20, .d (.lit (.bool (a1.Kind == 4))))] [(2, some (.box [.d (.mpi .string true (a0.Columns.map (MKey.sk ∘ Prod.fst)) (a0.Columns.map (cS24 ∘ Prod.snd))), .d (.mpi .string true (a0.Variables.map (MKey.sk ∘ Prod.fst)) (a0.Variables.map (cS24 ∘ Prod.snd))), .d (.sl (a0.Parameters.map cS24))])), (3, some (.box [.d (.lit (.int .i64 a1.Kind)), .d (.lit (.string a1.Name)), .d (.lit (.int .i64 a1.Index)), .d (.lit (.int .i64 a1.Value.Kind)), .d (.lit (.int .i64 a1.Value.Int)), .d (.lit (.string a1.Value.Text)), .d (.sl (a1.Args.map cS27))])), (4, some (.box [.d (.lit (.int .i64 0)), .d (.lit (.int .i64 0)), .d (.lit (.string (ByteArray.mk #[])))]))]) Sub.tt ?_
   refine Chain.nil ?_
   replace h := isome h; rcases h with ⟨c4, h⟩ | ⟨c4, h⟩
   ·have c4_ : (a1.Kind == 4) = true := c4
    refine AW.condT (b := (a1.Kind == 4)) rfl c4_ ?_
    refine AW.sub (Sub.bool 20 (b := (a1.Kind == 4)) rfl c4_) ?_
    refine AW.sub (S' := mk 110 [] [(2, .ptr 2 0 0), (3, .ptr 3 0 0), (4, .ptr 4 0 0), (8, .d (.lit (.int .i64 a1.Kind))), (20, .d (.lit (.bool true)))] [(2, some (.box [.d (.mpi .string true (a0.Columns.map (MKey.sk ∘ Prod.fst)) (a0.Columns.map (cS24 ∘ Prod.snd))), .d (.mpi .string true (a0.Variables.map (MKey.sk ∘ Prod.fst)) (a0.Variables.map (cS24 ∘ Prod.snd))), .d (.sl (a0.Parameters.map cS24))])), (3, some (.box [.d (.lit (.int .i64 a1.Kind)), .d (.lit (.string a1.Name)), .d (.lit (.int .i64 a1.Index)), .d (.lit (.int .i64 a1.Value.Kind)), .d (.lit (.int .i64 a1.Value.Int)), .d (.lit (.string a1.Value.Text)), .d (.sl (a1.Args.map cS27))])), (4, some (.box [.d (.lit (.int .i64 0)), .d (.lit (.int .i64 0)), .d (.lit (.string (ByteArray.mk #[])))]))]) (by simp; exact Sub.table (by simp) (by simp)) ?_
    refine AW.seqR ?_
    refine Chain.runK [] 4 fun K hK => ?_; simp; refine hK _ _ ?_; clear hK K
    refine Chain.sub (S' := mk 110 [] [(4, .ptr 4 0 0), (23, .d (.mpi .string true (a0.Variables.map (MKey.sk ∘ Prod.fst)) (a0.Variables.map (cS24 ∘ Prod.snd)))), (25, .d (.lit (.string a1.Name)))] [(4, some (.box [.d (.lit (.int .i64 0)), .d (.lit (.int .i64 0)), .d (.lit (.string (ByteArray.mk #[])))]))]) Sub.tt ?_
    replace h := lsome h; obtain ⟨v5, hv5, h⟩ := h
    refine Chain.pureP (by simp) (pure_lookD (vf := (vA cS24)) (cf := cS24) (ag := true) sk_inj a0.Variables a1.Name (S24.mk 0 0 (ByteArray.mk #[])) (fun _ => rfl) ty42 rfl ty9 ty24 rfl rfl rfl rfl rfl) ?_
    refine Chain.sub (S' := mk 110 [] [(4, .ptr 4 0 0), (23, .d (.mpi .string true (a0.Variables.map (MKey.sk ∘ Prod.fst)) (a0.Variables.map (cS24 ∘ Prod.snd)))), (25, .d (.lit (.string a1.Name))), (26, .agg [.d (.lit (.int .i64 v5.Kind)), .d (.lit (.int .i64 v5.Int)), .d (.lit (.string v5.Text))])] [(4, some (.box [.d (.lit (.int .i64 0)), .d (.lit (.int .i64 0)), .d (.lit (.string (ByteArray.mk #[])))]))]) (by simp [vA, hv5]; exact Sub.table (by simp) (by simp)) ?_
    refine Chain.runK [] 1 fun K hK => ?_; simp; refine hK _ _ ?_; clear hK K
    refine Chain.sub (S' := mk 110 [] [(4, .ptr 4 0 0)] [(4, some (.box [.d (.lit (.int .i64 v5.Kind)), .d (.lit (.int .i64 v5.Int)), .d (.lit (.string v5.Text))]))]) Sub.tt ?_
    refine Chain.nil ?_
    refine AW.ret ?_
    cases h
    refine blockQ.ret ?_
    refine thenQ_pass (by simp) ?_
    exact FinC.ret (by simp) (by simp)
   ·have c4_ : (a1.Kind == 4) = false := Bool.eq_false_iff.2 c4
    refine AW.condF (b := (a1.Kind == 4)) rfl c4_ ?_
    refine AW.sub (Sub.bool 20 (b := (a1.Kind == 4)) rfl c4_) ?_
    refine AW.sub (S' := mk 110 [] [(2, .ptr 2 0 0), (3, .ptr 3 0 0), (4, .ptr 4 0 0), (8, .d (.lit (.int .i64 a1.Kind))), (20, .d (.lit (.bool false)))] [(2, some (.box [.d (.mpi .string true (a0.Columns.map (MKey.sk ∘ Prod.fst)) (a0.Columns.map (cS24 ∘ Prod.snd))), .d (.mpi .string true (a0.Variables.map (MKey.sk ∘ Prod.fst)) (a0.Variables.map (cS24 ∘ Prod.snd))), .d (.sl (a0.Parameters.map cS24))])), (3, some (.box [.d (.lit (.int .i64 a1.Kind)), .d (.lit (.string a1.Name)), .d (.lit (.int .i64 a1.Index)), .d (.lit (.int .i64 a1.Value.Kind)), .d (.lit (.int .i64 a1.Value.Int)), .d (.lit (.string a1.Value.Text)), .d (.sl (a1.Args.map cS27))])), (4, some (.box [.d (.lit (.int .i64 0)), .d (.lit (.int .i64 0)), .d (.lit (.string (ByteArray.mk #[])))]))]) (by simp; exact Sub.table (by simp) (by simp)) ?_
    refine AW.seqR ?_
    refine Chain.runK [] 2 fun K hK => ?_; simp; refine hK _ _ ?_; clear hK K
    refine Chain.sub (S' := mk 110 [] [(2, .ptr 2 0 0), (3, .ptr 3 0 0), (4, .ptr 4 0 0), (27, .d (.lit (.bool (a1.Kind == 3))))] [(2, some (.box [.d (.mpi .string true (a0.Columns.map (MKey.sk ∘ Prod.fst)) (a0.Columns.map (cS24 ∘ Prod.snd))), .d (.mpi .string true (a0.Variables.map (MKey.sk ∘ Prod.fst)) (a0.Variables.map (cS24 ∘ Prod.snd))), .d (.sl (a0.Parameters.map cS24))])), (3, some (.box [.d (.lit (.int .i64 a1.Kind)), .d (.lit (.string a1.Name)), .d (.lit (.int .i64 a1.Index)), .d (.lit (.int .i64 a1.Value.Kind)), .d (.lit (.int .i64 a1.Value.Int)), .d (.lit (.string a1.Value.Text)), .d (.sl (a1.Args.map cS27))])), (4, some (.box [.d (.lit (.int .i64 0)), .d (.lit (.int .i64 0)), .d (.lit (.string (ByteArray.mk #[])))]))]) Sub.tt ?_
    refine Chain.nil ?_
    replace h := isome h; rcases h with ⟨c6, h⟩ | ⟨c6, h⟩
    ·have c6_ : (a1.Kind == 3) = true := c6
     refine AW.condT (b := (a1.Kind == 3)) rfl c6_ ?_
     refine AW.sub (Sub.bool 27 (b := (a1.Kind == 3)) rfl c6_) ?_
     refine AW.sub (S' := mk 110 [] [(2, .ptr 2 0 0), (3, .ptr 3 0 0), (4, .ptr 4 0 0), (27, .d (.lit (.bool true)))] [(2, some (.box [.d (.mpi .string true (a0.Columns.map (MKey.sk ∘ Prod.fst)) (a0.Columns.map (cS24 ∘ Prod.snd))), .d (.mpi .string true (a0.Variables.map (MKey.sk ∘ Prod.fst)) (a0.Variables.map (cS24 ∘ Prod.snd))), .d (.sl (a0.Parameters.map cS24))])), (3, some (.box [.d (.lit (.int .i64 a1.Kind)), .d (.lit (.string a1.Name)), .d (.lit (.int .i64 a1.Index)), .d (.lit (.int .i64 a1.Value.Kind)), .d (.lit (.int .i64 a1.Value.Int)), .d (.lit (.string a1.Value.Text)), .d (.sl (a1.Args.map cS27))])), (4, some (.box [.d (.lit (.int .i64 0)), .d (.lit (.int .i64 0)), .d (.lit (.string (ByteArray.mk #[])))]))]) (by simp; exact Sub.table (by simp) (by simp)) ?_
     refine AW.seq ?_
     refine AW.seqR ?_
     refine Chain.runK [] 6 fun K hK => ?_; simp; refine hK _ _ ?_; clear hK K
     refine Chain.sub (S' := mk 110 [] [(2, .ptr 2 0 0), (3, .ptr 3 0 0), (4, .ptr 4 0 0), (34, .d (.lit (.bool (decide (a1.Index < (a0.Parameters.length : Int))))))] [(2, some (.box [.d (.mpi .string true (a0.Columns.map (MKey.sk ∘ Prod.fst)) (a0.Columns.map (cS24 ∘ Prod.snd))), .d (.mpi .string true (a0.Variables.map (MKey.sk ∘ Prod.fst)) (a0.Variables.map (cS24 ∘ Prod.snd))), .d (.sl (a0.Parameters.map cS24))])), (3, some (.box [.d (.lit (.int .i64 a1.Kind)), .d (.lit (.string a1.Name)), .d (.lit (.int .i64 a1.Index)), .d (.lit (.int .i64 a1.Value.Kind)), .d (.lit (.int .i64 a1.Value.Int)), .d (.lit (.string a1.Value.Text)), .d (.sl (a1.Args.map cS27))])), (4, some (.box [.d (.lit (.int .i64 0)), .d (.lit (.int .i64 0)), .d (.lit (.string (ByteArray.mk #[])))]))]) Sub.tt ?_
     refine Chain.nil ?_
     replace h := isome h; rcases h with ⟨c7, h⟩ | ⟨c7, h⟩
     ·have c7_ : decide (a1.Index < (a0.Parameters.length : Int)) = true := decide_eq_true c7
      refine AW.condT (b := decide (a1.Index < (a0.Parameters.length : Int))) rfl c7_ ?_
      refine AW.sub (Sub.bool 34 (b := decide (a1.Index < (a0.Parameters.length : Int))) rfl c7_) ?_
      refine AW.sub (S' := mk 110 [] [(2, .ptr 2 0 0), (3, .ptr 3 0 0), (4, .ptr 4 0 0), (34, .d (.lit (.bool true)))] [(2, some (.box [.d (.mpi .string true (a0.Columns.map (MKey.sk ∘ Prod.fst)) (a0.Columns.map (cS24 ∘ Prod.snd))), .d (.mpi .string true (a0.Variables.map (MKey.sk ∘ Prod.fst)) (a0.Variables.map (cS24 ∘ Prod.snd))), .d (.sl (a0.Parameters.map cS24))])), (3, some (.box [.d (.lit (.int .i64 a1.Kind)), .d (.lit (.string a1.Name)), .d (.lit (.int .i64 a1.Index)), .d (.lit (.int .i64 a1.Value.Kind)), .d (.lit (.int .i64 a1.Value.Int)), .d (.lit (.string a1.Value.Text)), .d (.sl (a1.Args.map cS27))])), (4, some (.box [.d (.lit (.int .i64 0)), .d (.lit (.int .i64 0)), .d (.lit (.string (ByteArray.mk #[])))]))]) (by simp; exact Sub.table (by simp) (by simp)) ?_
      refine AW.seqR ?_
      replace h := bsome h; obtain ⟨x8, hx8, h⟩ := h
      obtain ⟨k9, hx8k, hx8, hx8a, hx8b⟩ := idx_some hx8
      refine Chain.runK [] 8 fun K hK => ?_; simp [hx8, hx8k, hx8a]; refine hK _ _ ?_; clear hK K
      refine Chain.sub (S' := mk 110 [] [(3, .ptr 3 0 0), (4, .ptr 4 0 0), (5, .ptr 5 0 0)] [(3, some (.box [.d (.lit (.int .i64 a1.Kind)), .d (.lit (.string a1.Name)), .d (.lit (.int .i64 a1.Index)), .d (.lit (.int .i64 a1.Value.Kind)), .d (.lit (.int .i64 a1.Value.Int)), .d (.lit (.string a1.Value.Text)), .d (.sl (a1.Args.map cS27))])), (4, some (.box [.d (.lit (.int .i64 0)), .d (.lit (.int .i64 0)), .d (.lit (.string (ByteArray.mk #[])))])), (5, some (.box [.d (.lit (.int .i64 x8.Kind)), .d (.lit (.int .i64 x8.Int)), .d (.lit (.string x8.Text))]))]) Sub.tt ?_
      refine Chain.nil ?_
      refine AW.seqR ?_
      refine Chain.runK [] 6 fun K hK => ?_; simp; refine hK _ _ ?_; clear hK K
      refine Chain.sub (S' := mk 110 [] [(4, .ptr 4 0 0), (5, .ptr 5 0 0), (46, .d (.lit (.bool (x8.Kind == a1.Value.Kind))))] [(4, some (.box [.d (.lit (.int .i64 0)), .d (.lit (.int .i64 0)), .d (.lit (.string (ByteArray.mk #[])))])), (5, some (.box [.d (.lit (.int .i64 x8.Kind)), .d (.lit (.int .i64 x8.Int)), .d (.lit (.string x8.Text))]))]) Sub.tt ?_
      refine Chain.nil ?_
      replace h := isome h; rcases h with ⟨c10, h⟩ | ⟨c10, h⟩
      ·have c10_ : (x8.Kind == a1.Value.Kind) = true := c10
       refine AW.condT (b := (x8.Kind == a1.Value.Kind)) rfl c10_ ?_
       refine AW.sub (Sub.bool 46 (b := (x8.Kind == a1.Value.Kind)) rfl c10_) ?_
       refine AW.sub (S' := mk 110 [] [(4, .ptr 4 0 0), (5, .ptr 5 0 0), (46, .d (.lit (.bool true)))] [(4, some (.box [.d (.lit (.int .i64 0)), .d (.lit (.int .i64 0)), .d (.lit (.string (ByteArray.mk #[])))])), (5, some (.box [.d (.lit (.int .i64 x8.Kind)), .d (.lit (.int .i64 x8.Int)), .d (.lit (.string x8.Text))]))]) (by simp; exact Sub.table (by simp) (by simp)) ?_
       refine AW.seqR ?_
       refine Chain.runK [] 2 fun K hK => ?_; simp; refine hK _ _ ?_; clear hK K
       refine Chain.sub (S' := mk 110 [] [(4, .ptr 4 0 0)] [(4, some (.box [.d (.lit (.int .i64 x8.Kind)), .d (.lit (.int .i64 x8.Int)), .d (.lit (.string x8.Text))]))]) Sub.tt ?_
       refine Chain.nil ?_
       refine AW.ret ?_
       cases h
       refine thenQ_pass (by simp) ?_
       refine blockQ.ret ?_
       refine thenQ_pass (by simp) ?_
       exact FinC.ret (by simp) (by simp)
      ·have c10_ : (x8.Kind == a1.Value.Kind) = false := Bool.eq_false_iff.2 c10
       refine AW.condF (b := (x8.Kind == a1.Value.Kind)) rfl c10_ ?_
       refine AW.sub (Sub.bool 46 (b := (x8.Kind == a1.Value.Kind)) rfl c10_) ?_
       refine AW.sub (S' := mk 110 [] [(4, .ptr 4 0 0), (5, .ptr 5 0 0), (46, .d (.lit (.bool false)))] [(4, some (.box [.d (.lit (.int .i64 0)), .d (.lit (.int .i64 0)), .d (.lit (.string (ByteArray.mk #[])))])), (5, some (.box [.d (.lit (.int .i64 x8.Kind)), .d (.lit (.int .i64 x8.Int)), .d (.lit (.string x8.Text))]))]) (by simp; exact Sub.table (by simp) (by simp)) ?_
       refine AW.skip ?_
       refine thenQ_normal ?_
       refine AW.seqR ?_
       refine Chain.runK [] 2 fun K hK => ?_; simp; refine hK _ _ ?_; clear hK K
       refine Chain.sub (S' := mk 110 [] [(4, .ptr 4 0 0)] [(4, some (.box [.d (.lit (.int .i64 0)), .d (.lit (.int .i64 0)), .d (.lit (.string (ByteArray.mk #[])))]))]) Sub.tt ?_
       refine Chain.nil ?_
       refine AW.ret ?_
       cases h
       refine blockQ.ret ?_
       refine thenQ_pass (by simp) ?_
       exact FinC.ret (by simp) (by simp)
     ·have c7_ : decide (a1.Index < (a0.Parameters.length : Int)) = false := decide_eq_false c7
      refine AW.condF (b := decide (a1.Index < (a0.Parameters.length : Int))) rfl c7_ ?_
      refine AW.sub (Sub.bool 34 (b := decide (a1.Index < (a0.Parameters.length : Int))) rfl c7_) ?_
      refine AW.sub (S' := mk 110 [] [(2, .ptr 2 0 0), (3, .ptr 3 0 0), (4, .ptr 4 0 0), (34, .d (.lit (.bool false)))] [(2, some (.box [.d (.mpi .string true (a0.Columns.map (MKey.sk ∘ Prod.fst)) (a0.Columns.map (cS24 ∘ Prod.snd))), .d (.mpi .string true (a0.Variables.map (MKey.sk ∘ Prod.fst)) (a0.Variables.map (cS24 ∘ Prod.snd))), .d (.sl (a0.Parameters.map cS24))])), (3, some (.box [.d (.lit (.int .i64 a1.Kind)), .d (.lit (.string a1.Name)), .d (.lit (.int .i64 a1.Index)), .d (.lit (.int .i64 a1.Value.Kind)), .d (.lit (.int .i64 a1.Value.Int)), .d (.lit (.string a1.Value.Text)), .d (.sl (a1.Args.map cS27))])), (4, some (.box [.d (.lit (.int .i64 0)), .d (.lit (.int .i64 0)), .d (.lit (.string (ByteArray.mk #[])))]))]) (by simp; exact Sub.table (by simp) (by simp)) ?_
      refine AW.skip ?_
      refine thenQ_normal ?_
      refine AW.seqR ?_
      refine Chain.runK [] 2 fun K hK => ?_; simp; refine hK _ _ ?_; clear hK K
      refine Chain.sub (S' := mk 110 [] [(4, .ptr 4 0 0)] [(4, some (.box [.d (.lit (.int .i64 0)), .d (.lit (.int .i64 0)), .d (.lit (.string (ByteArray.mk #[])))]))]) Sub.tt ?_
      refine Chain.nil ?_
      refine AW.ret ?_
      cases h
      refine blockQ.ret ?_
      refine thenQ_pass (by simp) ?_
      exact FinC.ret (by simp) (by simp)
    ·have c6_ : (a1.Kind == 3) = false := Bool.eq_false_iff.2 c6
     refine AW.condF (b := (a1.Kind == 3)) rfl c6_ ?_
     refine AW.sub (Sub.bool 27 (b := (a1.Kind == 3)) rfl c6_) ?_
     refine AW.sub (S' := mk 110 [] [(2, .ptr 2 0 0), (3, .ptr 3 0 0), (4, .ptr 4 0 0), (27, .d (.lit (.bool false)))] [(2, some (.box [.d (.mpi .string true (a0.Columns.map (MKey.sk ∘ Prod.fst)) (a0.Columns.map (cS24 ∘ Prod.snd))), .d (.mpi .string true (a0.Variables.map (MKey.sk ∘ Prod.fst)) (a0.Variables.map (cS24 ∘ Prod.snd))), .d (.sl (a0.Parameters.map cS24))])), (3, some (.box [.d (.lit (.int .i64 a1.Kind)), .d (.lit (.string a1.Name)), .d (.lit (.int .i64 a1.Index)), .d (.lit (.int .i64 a1.Value.Kind)), .d (.lit (.int .i64 a1.Value.Int)), .d (.lit (.string a1.Value.Text)), .d (.sl (a1.Args.map cS27))])), (4, some (.box [.d (.lit (.int .i64 0)), .d (.lit (.int .i64 0)), .d (.lit (.string (ByteArray.mk #[])))]))]) (by simp; exact Sub.table (by simp) (by simp)) ?_
     refine AW.skip ?_
     refine blockQ.normal ?_
     refine thenQ_normal ?_
     replace h := bsome h; obtain ⟨x11, hx11, h⟩ := h
     obtain ⟨hx11, hx11b, hx11c⟩ := idx_someN (n := 0) hx11
     replace h := bsome h; obtain ⟨r12, hr12, h⟩ := h
     refine AW.seqAnyS [[], [], [1], [1, 2], [1, 2, 3], [0, 1, 2, 3, 4], [], [0, 1, 2, 3, 4, 5, 6]] (fun (b : Nat → Bool) => mk 110 [] [(2, .ptr 2 0 0), (3, .ptr 3 0 0), (4, .ptr 4 0 0), (6, (if b 6 then .ptr 6 0 0 else .junk)), (49, (if b 0 then .agg [.d (.mpi .string true (a0.Columns.map (MKey.sk ∘ Prod.fst)) (a0.Columns.map (cS24 ∘ Prod.snd))), .d (.mpi .string true (a0.Variables.map (MKey.sk ∘ Prod.fst)) (a0.Variables.map (cS24 ∘ Prod.snd))), .d (.sl (a0.Parameters.map cS24))] else .junk)), (50, (if b 1 then .ptr 3 0 6 else .junk)), (51, (if b 2 then .d (.sl (a1.Args.map cS27)) else .junk)), (52, (if b 3 then .d (.pim [.lit (.int .i64 x11.Kind), .lit (.string x11.Name), .lit (.int .i64 x11.Index), .lit (.int .i64 x11.Value.Kind), .lit (.int .i64 x11.Value.Int), .lit (.string x11.Value.Text), .sl (x11.Args.map cS27)]) else .junk)), (53, (if b 4 then .agg [.d (.lit (.int .i64 x11.Kind)), .d (.lit (.string x11.Name)), .d (.lit (.int .i64 x11.Index)), .d (.lit (.int .i64 x11.Value.Kind)), .d (.lit (.int .i64 x11.Value.Int)), .d (.lit (.string x11.Value.Text)), .d (.sl (x11.Args.map cS27))] else .junk)), (54, (if b 5 then .agg [.d (.lit (.int .i64 r12.Kind)), .d (.lit (.int .i64 r12.Int)), .d (.lit (.string r12.Text))] else .junk))] [(2, some (.box [.d (.mpi .string true (a0.Columns.map (MKey.sk ∘ Prod.fst)) (a0.Columns.map (cS24 ∘ Prod.snd))), .d (.mpi .string true (a0.Variables.map (MKey.sk ∘ Prod.fst)) (a0.Variables.map (cS24 ∘ Prod.snd))), .d (.sl (a0.Parameters.map cS24))])), (3, some (.box [.d (.lit (.int .i64 a1.Kind)), .d (.lit (.string a1.Name)), .d (.lit (.int .i64 a1.Index)), .d (.lit (.int .i64 a1.Value.Kind)), .d (.lit (.int .i64 a1.Value.Int)), .d (.lit (.string a1.Value.Text)), .d (.sl (a1.Args.map cS27))])), (4, some (.box [.d (.lit (.int .i64 0)), .d (.lit (.int .i64 0)), .d (.lit (.string (ByteArray.mk #[])))])), (6, (if b 7 then some (.box [.d (.lit (.int .i64 r12.Kind)), .d (.lit (.int .i64 r12.Int)), .d (.lit (.string r12.Text))]) else (if b 6 then some (.box [.d (.lit (.int .i64 0)), .d (.lit (.int .i64 0)), .d (.lit (.string (ByteArray.mk #[])))]) else none)))]) (mk 110 [] [(2, .ptr 2 0 0), (3, .ptr 3 0 0), (4, .ptr 4 0 0), (6, .ptr 6 0 0)] [(2, some (.box [.d (.mpi .string true (a0.Columns.map (MKey.sk ∘ Prod.fst)) (a0.Columns.map (cS24 ∘ Prod.snd))), .d (.mpi .string true (a0.Variables.map (MKey.sk ∘ Prod.fst)) (a0.Variables.map (cS24 ∘ Prod.snd))), .d (.sl (a0.Parameters.map cS24))])), (3, some (.box [.d (.lit (.int .i64 a1.Kind)), .d (.lit (.string a1.Name)), .d (.lit (.int .i64 a1.Index)), .d (.lit (.int .i64 a1.Value.Kind)), .d (.lit (.int .i64 a1.Value.Int)), .d (.lit (.string a1.Value.Text)), .d (.sl (a1.Args.map cS27))])), (4, some (.box [.d (.lit (.int .i64 0)), .d (.lit (.int .i64 0)), .d (.lit (.string (ByteArray.mk #[])))])), (6, some (.box [.d (.lit (.int .i64 r12.Kind)), .d (.lit (.int .i64 r12.Int)), .d (.lit (.string r12.Text))]))]) (by kernel_rfl) (by kernel_rfl) Sub.tt (Steps.cons ?_ (Steps.cons ?_ (Steps.cons ?_ (Steps.cons ?_ (Steps.cons ?_ (Steps.cons ?_ (Steps.cons ?_ (Steps.cons ?_ (Steps.nil))))))))) ?_ ?_
     ·intro b h0 ha hd
      have f5 : b 5 = false := hd 5 (by decide)
      have f7 : b 7 = false := hd 7 (by decide)
      refine Chain.runK [] 1 fun K hK => ?_; simp [h0, f5, f7]; refine hK _ _ ?_; clear hK K
      exact Chain.nil (Sub.table (by simp [f5]) (by simp [f7]))
     ·intro b h0 ha hd
      have f2 : b 2 = false := hd 2 (by decide)
      have f3 : b 3 = false := hd 3 (by decide)
      have f4 : b 4 = false := hd 4 (by decide)
      have f5 : b 5 = false := hd 5 (by decide)
      have f7 : b 7 = false := hd 7 (by decide)
      refine Chain.runK [] 1 fun K hK => ?_; simp [h0, f2, f3, f4, f5, f7]; refine hK _ _ ?_; clear hK K
      exact Chain.nil (Sub.table (by simp [f2, f3, f4, f5]) (by simp [f7]))
     ·intro b h0 ha hd
      have t1 : b 1 = true := ha 1 (by decide)
      have f3 : b 3 = false := hd 3 (by decide)
      have f4 : b 4 = false := hd 4 (by decide)
      have f5 : b 5 = false := hd 5 (by decide)
      have f7 : b 7 = false := hd 7 (by decide)
      refine Chain.runK [] 1 fun K hK => ?_; simp [h0, t1, f3, f4, f5, f7]; refine hK _ _ ?_; clear hK K
      exact Chain.nil (Sub.table (by simp [t1, f3, f4, f5]) (by simp [f7]))
     ·intro b h0 ha hd
      have t1 : b 1 = true := ha 1 (by decide)
      have t2 : b 2 = true := ha 2 (by decide)
      have f4 : b 4 = false := hd 4 (by decide)
      have f5 : b 5 = false := hd 5 (by decide)
      have f7 : b 7 = false := hd 7 (by decide)
      refine Chain.runK [] 1 fun K hK => ?_; simp [h0, t1, t2, f4, f5, f7, hx11]; refine hK _ _ ?_; clear hK K
      exact Chain.nil (Sub.table (by simp [t1, t2, f4, f5]) (by simp [f7]))
     ·intro b h0 ha hd
      have t1 : b 1 = true := ha 1 (by decide)
      have t2 : b 2 = true := ha 2 (by decide)
      have t3 : b 3 = true := ha 3 (by decide)
      have f5 : b 5 = false := hd 5 (by decide)
      have f7 : b 7 = false := hd 7 (by decide)
      refine Chain.runK [] 1 fun K hK => ?_; simp [h0, t1, t2, t3, f5, f7]; refine hK _ _ ?_; clear hK K
      exact Chain.nil (Sub.table (by simp [t1, t2, t3, f5]) (by simp [f7]))
     ·intro b h0 ha hd
      have t0 : b 0 = true := ha 0 (by decide)
      have t1 : b 1 = true := ha 1 (by decide)
      have t2 : b 2 = true := ha 2 (by decide)
      have t3 : b 3 = true := ha 3 (by decide)
      have t4 : b 4 = true := ha 4 (by decide)
      have f7 : b 7 = false := hd 7 (by decide)
      simp only [h0, t0, t1, t2, t3, t4, f7, if_true, if_false, Bool.false_eq_true]
      refine Chain.callC (d := 54) (ih a0 x11 r12 hr12) (by simp) rfl rfl (by simp <;> rfl) (by simp <;> rfl) ent13 (by simp) (.inl ⟨by simp, by simp⟩) ?_
      cases q6 : b 6 <;> exact Chain.nil (by simp [t0, t1, t2, t3, t4, f7, q6]; exact Sub.table (by simp) (by simp))
     ·intro b h0 ha hd
      have f7 : b 7 = false := hd 7 (by decide)
      refine Chain.runK [] 1 fun K hK => ?_; simp [h0, f7]; refine hK _ _ ?_; clear hK K
      exact Chain.nil (Sub.table (by simp) (by simp [f7]))
     ·intro b h0 ha hd
      have t0 : b 0 = true := ha 0 (by decide)
      have t1 : b 1 = true := ha 1 (by decide)
      have t2 : b 2 = true := ha 2 (by decide)
      have t3 : b 3 = true := ha 3 (by decide)
      have t4 : b 4 = true := ha 4 (by decide)
      have t5 : b 5 = true := ha 5 (by decide)
      have t6 : b 6 = true := ha 6 (by decide)
      refine Chain.runK [] 1 fun K hK => ?_; simp [h0, t0, t1, t2, t3, t4, t5, t6]; refine hK _ _ ?_; clear hK K
      exact Chain.nil (Sub.table (by simp [t0, t1, t2, t3, t4, t5, t6]) (by simp))
     ·intro b hb
      have t0 := hb 0 (by decide)
      have t1 := hb 1 (by decide)
      have t2 := hb 2 (by decide)
      have t3 := hb 3 (by decide)
      have t4 := hb 4 (by decide)
      have t5 := hb 5 (by decide)
      have t6 := hb 6 (by decide)
      have t7 := hb 7 (by decide)
      exact Sub.table (by simp [t0, t1, t2, t3, t4, t5, t6]) (by simp [t7])
     ·skip
      refine AW.seq ?_
      refine AW.seqR ?_
      refine Chain.runK [] 2 fun K hK => ?_; simp; refine hK _ _ ?_; clear hK K
      refine Chain.sub (S' := mk 110 [] [(2, .ptr 2 0 0), (3, .ptr 3 0 0), (4, .ptr 4 0 0), (6, .ptr 6 0 0), (56, .d (.lit (.string a1.Name)))] [(2, some (.box [.d (.mpi .string true (a0.Columns.map (MKey.sk ∘ Prod.fst)) (a0.Columns.map (cS24 ∘ Prod.snd))), .d (.mpi .string true (a0.Variables.map (MKey.sk ∘ Prod.fst)) (a0.Variables.map (cS24 ∘ Prod.snd))), .d (.sl (a0.Parameters.map cS24))])), (3, some (.box [.d (.lit (.int .i64 a1.Kind)), .d (.lit (.string a1.Name)), .d (.lit (.int .i64 a1.Index)), .d (.lit (.int .i64 a1.Value.Kind)), .d (.lit (.int .i64 a1.Value.Int)), .d (.lit (.string a1.Value.Text)), .d (.sl (a1.Args.map cS27))])), (4, some (.box [.d (.lit (.int .i64 0)), .d (.lit (.int .i64 0)), .d (.lit (.string (ByteArray.mk #[])))])), (6, some (.box [.d (.lit (.int .i64 r12.Kind)), .d (.lit (.int .i64 r12.Int)), .d (.lit (.string r12.Text))]))]) Sub.tt ?_
      refine Chain.nil ?_
      refine AW.block ?_
      refine AW.seqR ?_
      refine Chain.runK [] 2 fun K hK => ?_; simp; refine hK _ _ ?_; clear hK K
      refine Chain.sub (S' := mk 110 [] [(2, .ptr 2 0 0), (3, .ptr 3 0 0), (4, .ptr 4 0 0), (6, .ptr 6 0 0), (56, .d (.lit (.string a1.Name))), (57, .d (.lit (.bool (decide (a1.Name = (ByteArray.mk #[105, 115, 32, 110, 117, 108, 108]))))))] [(2, some (.box [.d (.mpi .string true (a0.Columns.map (MKey.sk ∘ Prod.fst)) (a0.Columns.map (cS24 ∘ Prod.snd))), .d (.mpi .string true (a0.Variables.map (MKey.sk ∘ Prod.fst)) (a0.Variables.map (cS24 ∘ Prod.snd))), .d (.sl (a0.Parameters.map cS24))])), (3, some (.box [.d (.lit (.int .i64 a1.Kind)), .d (.lit (.string a1.Name)), .d (.lit (.int .i64 a1.Index)), .d (.lit (.int .i64 a1.Value.Kind)), .d (.lit (.int .i64 a1.Value.Int)), .d (.lit (.string a1.Value.Text)), .d (.sl (a1.Args.map cS27))])), (4, some (.box [.d (.lit (.int .i64 0)), .d (.lit (.int .i64 0)), .d (.lit (.string (ByteArray.mk #[])))])), (6, some (.box [.d (.lit (.int .i64 r12.Kind)), .d (.lit (.int .i64 r12.Int)), .d (.lit (.string r12.Text))]))]) Sub.tt ?_
      refine Chain.nil ?_
      replace h := isome h; rcases h with ⟨c13, h⟩ | ⟨c13, h⟩
      ·have c13_ : decide (a1.Name = (ByteArray.mk #[105, 115, 32, 110, 117, 108, 108])) = true := c13
       refine AW.condT (b := decide (a1.Name = (ByteArray.mk #[105, 115, 32, 110, 117, 108, 108]))) rfl c13_ ?_
       refine AW.sub (Sub.bool 57 (b := decide (a1.Name = (ByteArray.mk #[105, 115, 32, 110, 117, 108, 108]))) rfl c13_) ?_
       refine AW.sub (S' := mk 110 [] [(2, .ptr 2 0 0), (3, .ptr 3 0 0), (4, .ptr 4 0 0), (6, .ptr 6 0 0), (56, .d (.lit (.string a1.Name))), (57, .d (.lit (.bool true)))] [(2, some (.box [.d (.mpi .string true (a0.Columns.map (MKey.sk ∘ Prod.fst)) (a0.Columns.map (cS24 ∘ Prod.snd))), .d (.mpi .string true (a0.Variables.map (MKey.sk ∘ Prod.fst)) (a0.Variables.map (cS24 ∘ Prod.snd))), .d (.sl (a0.Parameters.map cS24))])), (3, some (.box [.d (.lit (.int .i64 a1.Kind)), .d (.lit (.string a1.Name)), .d (.lit (.int .i64 a1.Index)), .d (.lit (.int .i64 a1.Value.Kind)), .d (.lit (.int .i64 a1.Value.Int)), .d (.lit (.string a1.Value.Text)), .d (.sl (a1.Args.map cS27))])), (4, some (.box [.d (.lit (.int .i64 0)), .d (.lit (.int .i64 0)), .d (.lit (.string (ByteArray.mk #[])))])), (6, some (.box [.d (.lit (.int .i64 r12.Kind)), .d (.lit (.int .i64 r12.Int)), .d (.lit (.string r12.Text))]))]) (by simp; exact Sub.table (by simp) (by simp)) ?_
       refine AW.seqR ?_
       refine Chain.runK [] 3 fun K hK => ?_; simp; refine hK _ _ ?_; clear hK K
       refine Chain.sub (S' := mk 110 [] [(4, .ptr 4 0 0), (61, .d (.lit (.bool (r12.Kind == 0))))] [(4, some (.box [.d (.lit (.int .i64 0)), .d (.lit (.int .i64 0)), .d (.lit (.string (ByteArray.mk #[])))]))]) Sub.tt ?_
       replace h := bsome h; obtain ⟨r14, hr14, h⟩ := h
       refine Chain.callC (d := 62) (p25 N (r12.Kind == 0) r14 hr14) (by simp) rfl rfl (by simp <;> rfl) (by simp <;> rfl) ent25 (by simp) (.inl ⟨by simp, by simp⟩) ?_
       refine Chain.sub (S' := mk 110 [] [(4, .ptr 4 0 0), (61, .d (.lit (.bool (r12.Kind == 0)))), (62, .agg [.d (.lit (.int .i64 r14.Kind)), .d (.lit (.int .i64 r14.Int)), .d (.lit (.string r14.Text))])] [(4, some (.box [.d (.lit (.int .i64 0)), .d (.lit (.int .i64 0)), .d (.lit (.string (ByteArray.mk #[])))]))]) (by simp; exact Sub.table (by simp) (by simp)) ?_
       refine Chain.runK [] 1 fun K hK => ?_; simp; refine hK _ _ ?_; clear hK K
       refine Chain.sub (S' := mk 110 [] [(4, .ptr 4 0 0)] [(4, some (.box [.d (.lit (.int .i64 r14.Kind)), .d (.lit (.int .i64 r14.Int)), .d (.lit (.string r14.Text))]))]) Sub.tt ?_
       refine Chain.nil ?_
       refine AW.ret ?_
       cases h
       refine blockQ.ret ?_
       refine thenQ_pass (by simp) ?_
       exact FinC.ret (by simp) (by simp)
      ·have c13_ : decide (a1.Name = (ByteArray.mk #[105, 115, 32, 110, 117, 108, 108])) = false := Bool.eq_false_iff.2 c13
       refine AW.condF (b := decide (a1.Name = (ByteArray.mk #[105, 115, 32, 110, 117, 108, 108]))) rfl c13_ ?_
       refine AW.sub (Sub.bool 57 (b := decide (a1.Name = (ByteArray.mk #[105, 115, 32, 110, 117, 108, 108]))) rfl c13_) ?_
       refine AW.sub (S' := mk 110 [] [(2, .ptr 2 0 0), (3, .ptr 3 0 0), (4, .ptr 4 0 0), (6, .ptr 6 0 0), (56, .d (.lit (.string a1.Name))), (57, .d (.lit (.bool false)))] [(2, some (.box [.d (.mpi .string true (a0.Columns.map (MKey.sk ∘ Prod.fst)) (a0.Columns.map (cS24 ∘ Prod.snd))), .d (.mpi .string true (a0.Variables.map (MKey.sk ∘ Prod.fst)) (a0.Variables.map (cS24 ∘ Prod.snd))), .d (.sl (a0.Parameters.map cS24))])), (3, some (.box [.d (.lit (.int .i64 a1.Kind)), .d (.lit (.string a1.Name)), .d (.lit (.int .i64 a1.Index)), .d (.lit (.int .i64 a1.Value.Kind)), .d (.lit (.int .i64 a1.Value.Int)), .d (.lit (.string a1.Value.Text)), .d (.sl (a1.Args.map cS27))])), (4, some (.box [.d (.lit (.int .i64 0)), .d (.lit (.int .i64 0)), .d (.lit (.string (ByteArray.mk #[])))])), (6, some (.box [.d (.lit (.int .i64 r12.Kind)), .d (.lit (.int .i64 r12.Int)), .d (.lit (.string r12.Text))]))]) (by simp; exact Sub.table (by simp) (by simp)) ?_
       refine AW.seqR ?_
       refine Chain.runK [] 2 fun K hK => ?_; simp; refine hK _ _ ?_; clear hK K
       refine Chain.sub (S' := mk 110 [] [(2, .ptr 2 0 0), (3, .ptr 3 0 0), (4, .ptr 4 0 0), (6, .ptr 6 0 0), (56, .d (.lit (.string a1.Name))), (63, .d (.lit (.bool (decide (a1.Name = (ByteArray.mk #[110, 111, 116]))))))] [(2, some (.box [.d (.mpi .string true (a0.Columns.map (MKey.sk ∘ Prod.fst)) (a0.Columns.map (cS24 ∘ Prod.snd))), .d (.mpi .string true (a0.Variables.map (MKey.sk ∘ Prod.fst)) (a0.Variables.map (cS24 ∘ Prod.snd))), .d (.sl (a0.Parameters.map cS24))])), (3, some (.box [.d (.lit (.int .i64 a1.Kind)), .d (.lit (.string a1.Name)), .d (.lit (.int .i64 a1.Index)), .d (.lit (.int .i64 a1.Value.Kind)), .d (.lit (.int .i64 a1.Value.Int)), .d (.lit (.string a1.Value.Text)), .d (.sl (a1.Args.map cS27))])), (4, some (.box [.d (.lit (.int .i64 0)), .d (.lit (.int .i64 0)), .d (.lit (.string (ByteArray.mk #[])))])), (6, some (.box [.d (.lit (.int .i64 r12.Kind)), .d (.lit (.int .i64 r12.Int)), .d (.lit (.string r12.Text))]))]) Sub.tt ?_
       refine Chain.nil ?_
       replace h := isome h; rcases h with ⟨c15, h⟩ | ⟨c15, h⟩
       ·have c15_ : decide (a1.Name = (ByteArray.mk #[110, 111, 116])) = true := c15
        refine AW.condT (b := decide (a1.Name = (ByteArray.mk #[110, 111, 116]))) rfl c15_ ?_
        refine AW.sub (Sub.bool 63 (b := decide (a1.Name = (ByteArray.mk #[110, 111, 116]))) rfl c15_) ?_
        refine AW.sub (S' := mk 110 [] [(2, .ptr 2 0 0), (3, .ptr 3 0 0), (4, .ptr 4 0 0), (6, .ptr 6 0 0), (56, .d (.lit (.string a1.Name))), (63, .d (.lit (.bool true)))] [(2, some (.box [.d (.mpi .string true (a0.Columns.map (MKey.sk ∘ Prod.fst)) (a0.Columns.map (cS24 ∘ Prod.snd))), .d (.mpi .string true (a0.Variables.map (MKey.sk ∘ Prod.fst)) (a0.Variables.map (cS24 ∘ Prod.snd))), .d (.sl (a0.Parameters.map cS24))])), (3, some (.box [.d (.lit (.int .i64 a1.Kind)), .d (.lit (.string a1.Name)), .d (.lit (.int .i64 a1.Index)), .d (.lit (.int .i64 a1.Value.Kind)), .d (.lit (.int .i64 a1.Value.Int)), .d (.lit (.string a1.Value.Text)), .d (.sl (a1.Args.map cS27))])), (4, some (.box [.d (.lit (.int .i64 0)), .d (.lit (.int .i64 0)), .d (.lit (.string (ByteArray.mk #[])))])), (6, some (.box [.d (.lit (.int .i64 r12.Kind)), .d (.lit (.int .i64 r12.Int)), .d (.lit (.string r12.Text))]))]) (by simp; exact Sub.table (by simp) (by simp)) ?_
        refine AW.seq ?_
        refine AW.seqR ?_
        refine Chain.runK [] 3 fun K hK => ?_; simp; refine hK _ _ ?_; clear hK K
        refine Chain.sub (S' := mk 110 [] [(4, .ptr 4 0 0), (6, .ptr 6 0 0), (67, .d (.lit (.bool (r12.Kind == 0))))] [(4, some (.box [.d (.lit (.int .i64 0)), .d (.lit (.int .i64 0)), .d (.lit (.string (ByteArray.mk #[])))])), (6, some (.box [.d (.lit (.int .i64 r12.Kind)), .d (.lit (.int .i64 r12.Int)), .d (.lit (.string r12.Text))]))]) Sub.tt ?_
        refine Chain.nil ?_
        replace h := isome h; rcases h with ⟨c16, h⟩ | ⟨c16, h⟩
        ·have c16_ : (r12.Kind == 0) = true := c16
         refine AW.condT (b := (r12.Kind == 0)) rfl c16_ ?_
         refine AW.sub (Sub.bool 67 (b := (r12.Kind == 0)) rfl c16_) ?_
         refine AW.sub (S' := mk 110 [] [(4, .ptr 4 0 0), (6, .ptr 6 0 0), (67, .d (.lit (.bool true)))] [(4, some (.box [.d (.lit (.int .i64 0)), .d (.lit (.int .i64 0)), .d (.lit (.string (ByteArray.mk #[])))])), (6, some (.box [.d (.lit (.int .i64 r12.Kind)), .d (.lit (.int .i64 r12.Int)), .d (.lit (.string r12.Text))]))]) (by simp; exact Sub.table (by simp) (by simp)) ?_
         refine AW.seqR ?_
         refine Chain.runK [] 2 fun K hK => ?_; simp; refine hK _ _ ?_; clear hK K
         refine Chain.sub (S' := mk 110 [] [(4, .ptr 4 0 0)] [(4, some (.box [.d (.lit (.int .i64 r12.Kind)), .d (.lit (.int .i64 r12.Int)), .d (.lit (.string r12.Text))]))]) Sub.tt ?_
         refine Chain.nil ?_
         refine AW.ret ?_
         cases h
         refine thenQ_pass (by simp) ?_
         refine blockQ.ret ?_
         refine thenQ_pass (by simp) ?_
         exact FinC.ret (by simp) (by simp)
        ·have c16_ : (r12.Kind == 0) = false := Bool.eq_false_iff.2 c16
         refine AW.condF (b := (r12.Kind == 0)) rfl c16_ ?_
         refine AW.sub (Sub.bool 67 (b := (r12.Kind == 0)) rfl c16_) ?_
         refine AW.sub (S' := mk 110 [] [(4, .ptr 4 0 0), (6, .ptr 6 0 0), (67, .d (.lit (.bool false)))] [(4, some (.box [.d (.lit (.int .i64 0)), .d (.lit (.int .i64 0)), .d (.lit (.string (ByteArray.mk #[])))])), (6, some (.box [.d (.lit (.int .i64 r12.Kind)), .d (.lit (.int .i64 r12.Int)), .d (.lit (.string r12.Text))]))]) (by simp; exact Sub.table (by simp) (by simp)) ?_
         refine AW.skip ?_
         refine thenQ_normal ?_
         refine AW.seqR ?_
         refine Chain.runK [] 1 fun K hK => ?_; simp; refine hK _ _ ?_; clear hK K
         refine Chain.sub (S' := mk 110 [] [(4, .ptr 4 0 0), (69, .agg [.d (.lit (.int .i64 r12.Kind)), .d (.lit (.int .i64 r12.Int)), .d (.lit (.string r12.Text))])] [(4, some (.box [.d (.lit (.int .i64 0)), .d (.lit (.int .i64 0)), .d (.lit (.string (ByteArray.mk #[])))]))]) Sub.tt ?_
         replace h := bsome h; obtain ⟨r17, hr17, h⟩ := h
         refine Chain.callL (d := 70) (p26 N r12 r17 hr17) (by simp) rfl rfl (by simp <;> rfl) (by simp <;> rfl) ent26 (by simp <;> rfl) ?_
         refine Chain.sub (S' := mk 110 [] [(4, .ptr 4 0 0), (69, .agg [.d (.lit (.int .i64 r12.Kind)), .d (.lit (.int .i64 r12.Int)), .d (.lit (.string r12.Text))]), (70, .d (.lit (.int .i64 r17)))] [(4, some (.box [.d (.lit (.int .i64 0)), .d (.lit (.int .i64 0)), .d (.lit (.string (ByteArray.mk #[])))]))]) (by simp; exact Sub.table (by simp) (by simp)) ?_
         refine Chain.runK [] 1 fun K hK => ?_; simp; refine hK _ _ ?_; clear hK K
         refine Chain.sub (S' := mk 110 [] [(4, .ptr 4 0 0), (71, .d (.lit (.bool (decide (r17 < 0)))))] [(4, some (.box [.d (.lit (.int .i64 0)), .d (.lit (.int .i64 0)), .d (.lit (.string (ByteArray.mk #[])))]))]) Sub.tt ?_
         replace h := bsome h; obtain ⟨r18, hr18, h⟩ := h
         refine Chain.callC (d := 72) (p25 N (decide (r17 < 0)) r18 hr18) (by simp) rfl rfl (by simp <;> rfl) (by simp <;> rfl) ent25 (by simp) (.inl ⟨by simp, by simp⟩) ?_
         refine Chain.sub (S' := mk 110 [] [(4, .ptr 4 0 0), (71, .d (.lit (.bool (decide (r17 < 0))))), (72, .agg [.d (.lit (.int .i64 r18.Kind)), .d (.lit (.int .i64 r18.Int)), .d (.lit (.string r18.Text))])] [(4, some (.box [.d (.lit (.int .i64 0)), .d (.lit (.int .i64 0)), .d (.lit (.string (ByteArray.mk #[])))]))]) (by simp; exact Sub.table (by simp) (by simp)) ?_
         refine Chain.runK [] 1 fun K hK => ?_; simp; refine hK _ _ ?_; clear hK K
         refine Chain.sub (S' := mk 110 [] [(4, .ptr 4 0 0)] [(4, some (.box [.d (.lit (.int .i64 r18.Kind)), .d (.lit (.int .i64 r18.Int)), .d (.lit (.string r18.Text))]))]) Sub.tt ?_
         refine Chain.nil ?_
         refine AW.ret ?_
         cases h
         refine blockQ.ret ?_
         refine thenQ_pass (by simp) ?_
         exact FinC.ret (by simp) (by simp)
       ·have c15_ : decide (a1.Name = (ByteArray.mk #[110, 111, 116])) = false := Bool.eq_false_iff.2 c15
        refine AW.condF (b := decide (a1.Name = (ByteArray.mk #[110, 111, 116]))) rfl c15_ ?_
        refine AW.sub (Sub.bool 63 (b := decide (a1.Name = (ByteArray.mk #[110, 111, 116]))) rfl c15_) ?_
        refine AW.sub (S' := mk 110 [] [(2, .ptr 2 0 0), (3, .ptr 3 0 0), (4, .ptr 4 0 0), (6, .ptr 6 0 0), (56, .d (.lit (.string a1.Name))), (63, .d (.lit (.bool false)))] [(2, some (.box [.d (.mpi .string true (a0.Columns.map (MKey.sk ∘ Prod.fst)) (a0.Columns.map (cS24 ∘ Prod.snd))), .d (.mpi .string true (a0.Variables.map (MKey.sk ∘ Prod.fst)) (a0.Variables.map (cS24 ∘ Prod.snd))), .d (.sl (a0.Parameters.map cS24))])), (3, some (.box [.d (.lit (.int .i64 a1.Kind)), .d (.lit (.string a1.Name)), .d (.lit (.int .i64 a1.Index)), .d (.lit (.int .i64 a1.Value.Kind)), .d (.lit (.int .i64 a1.Value.Int)), .d (.lit (.string a1.Value.Text)), .d (.sl (a1.Args.map cS27))])), (4, some (.box [.d (.lit (.int .i64 0)), .d (.lit (.int .i64 0)), .d (.lit (.string (ByteArray.mk #[])))])), (6, some (.box [.d (.lit (.int .i64 r12.Kind)), .d (.lit (.int .i64 r12.Int)), .d (.lit (.string r12.Text))]))]) (by simp; exact Sub.table (by simp) (by simp)) ?_
        refine AW.seqR ?_
        refine Chain.runK [] 2 fun K hK => ?_; simp; refine hK _ _ ?_; clear hK K
        refine Chain.sub (S' := mk 110 [] [(2, .ptr 2 0 0), (3, .ptr 3 0 0), (4, .ptr 4 0 0), (6, .ptr 6 0 0), (56, .d (.lit (.string a1.Name))), (73, .d (.lit (.bool (decide (a1.Name = (ByteArray.mk #[108, 101, 110, 103, 116, 104]))))))] [(2, some (.box [.d (.mpi .string true (a0.Columns.map (MKey.sk ∘ Prod.fst)) (a0.Columns.map (cS24 ∘ Prod.snd))), .d (.mpi .string true (a0.Variables.map (MKey.sk ∘ Prod.fst)) (a0.Variables.map (cS24 ∘ Prod.snd))), .d (.sl (a0.Parameters.map cS24))])), (3, some (.box [.d (.lit (.int .i64 a1.Kind)), .d (.lit (.string a1.Name)), .d (.lit (.int .i64 a1.Index)), .d (.lit (.int .i64 a1.Value.Kind)), .d (.lit (.int .i64 a1.Value.Int)), .d (.lit (.string a1.Value.Text)), .d (.sl (a1.Args.map cS27))])), (4, some (.box [.d (.lit (.int .i64 0)), .d (.lit (.int .i64 0)), .d (.lit (.string (ByteArray.mk #[])))])), (6, some (.box [.d (.lit (.int .i64 r12.Kind)), .d (.lit (.int .i64 r12.Int)), .d (.lit (.string r12.Text))]))]) Sub.tt ?_
        refine Chain.nil ?_
        replace h := isome h; rcases h with ⟨c19, h⟩ | ⟨c19, h⟩
        ·have c19_ : decide (a1.Name = (ByteArray.mk #[108, 101, 110, 103, 116, 104])) = true := c19
         refine AW.condT (b := decide (a1.Name = (ByteArray.mk #[108, 101, 110, 103, 116, 104]))) rfl c19_ ?_
         refine AW.sub (Sub.bool 73 (b := decide (a1.Name = (ByteArray.mk #[108, 101, 110, 103, 116, 104]))) rfl c19_) ?_
         refine AW.sub (S' := mk 110 [] [(2, .ptr 2 0 0), (3, .ptr 3 0 0), (4, .ptr 4 0 0), (6, .ptr 6 0 0), (56, .d (.lit (.string a1.Name))), (73, .d (.lit (.bool true)))] [(2, some (.box [.d (.mpi .string true (a0.Columns.map (MKey.sk ∘ Prod.fst)) (a0.Columns.map (cS24 ∘ Prod.snd))), .d (.mpi .string true (a0.Variables.map (MKey.sk ∘ Prod.fst)) (a0.Variables.map (cS24 ∘ Prod.snd))), .d (.sl (a0.Parameters.map cS24))])), (3, some (.box [.d (.lit (.int .i64 a1.Kind)), .d (.lit (.string a1.Name)), .d (.lit (.int .i64 a1.Index)), .d (.lit (.int .i64 a1.Value.Kind)), .d (.lit (.int .i64 a1.Value.Int)), .d (.lit (.string a1.Value.Text)), .d (.sl (a1.Args.map cS27))])), (4, some (.box [.d (.lit (.int .i64 0)), .d (.lit (.int .i64 0)), .d (.lit (.string (ByteArray.mk #[])))])), (6, some (.box [.d (.lit (.int .i64 r12.Kind)), .d (.lit (.int .i64 r12.Int)), .d (.lit (.string r12.Text))]))]) (by simp; exact Sub.table (by simp) (by simp)) ?_
         refine AW.seq ?_
         refine AW.seqR ?_
         refine Chain.runK [] 3 fun K hK => ?_; simp; refine hK _ _ ?_; clear hK K
         refine Chain.sub (S' := mk 110 [] [(4, .ptr 4 0 0), (6, .ptr 6 0 0), (77, .d (.lit (.bool (r12.Kind == 0))))] [(4, some (.box [.d (.lit (.int .i64 0)), .d (.lit (.int .i64 0)), .d (.lit (.string (ByteArray.mk #[])))])), (6, some (.box [.d (.lit (.int .i64 r12.Kind)), .d (.lit (.int .i64 r12.Int)), .d (.lit (.string r12.Text))]))]) Sub.tt ?_
         refine Chain.nil ?_
         replace h := isome h; rcases h with ⟨c20, h⟩ | ⟨c20, h⟩
         ·have c20_ : (r12.Kind == 0) = true := c20
          refine AW.condT (b := (r12.Kind == 0)) rfl c20_ ?_
          refine AW.sub (Sub.bool 77 (b := (r12.Kind == 0)) rfl c20_) ?_
          refine AW.sub (S' := mk 110 [] [(4, .ptr 4 0 0), (6, .ptr 6 0 0), (77, .d (.lit (.bool true)))] [(4, some (.box [.d (.lit (.int .i64 0)), .d (.lit (.int .i64 0)), .d (.lit (.string (ByteArray.mk #[])))])), (6, some (.box [.d (.lit (.int .i64 r12.Kind)), .d (.lit (.int .i64 r12.Int)), .d (.lit (.string r12.Text))]))]) (by simp; exact Sub.table (by simp) (by simp)) ?_
          refine AW.seqR ?_
          refine Chain.runK [] 2 fun K hK => ?_; simp; refine hK _ _ ?_; clear hK K
          refine Chain.sub (S' := mk 110 [] [(4, .ptr 4 0 0)] [(4, some (.box [.d (.lit (.int .i64 r12.Kind)), .d (.lit (.int .i64 r12.Int)), .d (.lit (.string r12.Text))]))]) Sub.tt ?_
          refine Chain.nil ?_
          refine AW.ret ?_
          cases h
          refine thenQ_pass (by simp) ?_
          refine blockQ.ret ?_
          refine thenQ_pass (by simp) ?_
          exact FinC.ret (by simp) (by simp)
         ·have c20_ : (r12.Kind == 0) = false := Bool.eq_false_iff.2 c20
          refine AW.condF (b := (r12.Kind == 0)) rfl c20_ ?_
          refine AW.sub (Sub.bool 77 (b := (r12.Kind == 0)) rfl c20_) ?_
          refine AW.sub (S' := mk 110 [] [(4, .ptr 4 0 0), (6, .ptr 6 0 0), (77, .d (.lit (.bool false)))] [(4, some (.box [.d (.lit (.int .i64 0)), .d (.lit (.int .i64 0)), .d (.lit (.string (ByteArray.mk #[])))])), (6, some (.box [.d (.lit (.int .i64 r12.Kind)), .d (.lit (.int .i64 r12.Int)), .d (.lit (.string r12.Text))]))]) (by simp; exact Sub.table (by simp) (by simp)) ?_
          refine AW.skip ?_
          refine thenQ_normal ?_
          refine AW.seqR ?_
          refine Chain.runK [] 3 fun K hK => ?_; simp; refine hK _ _ ?_; clear hK K
          refine Chain.sub (S' := mk 110 [] [(4, .ptr 4 0 0), (81, .d (.lit (.int .i64 (r12.Text.size : Int))))] [(4, some (.box [.d (.lit (.int .i64 0)), .d (.lit (.int .i64 0)), .d (.lit (.string (ByteArray.mk #[])))]))]) Sub.tt ?_
          replace h := bsome h; obtain ⟨r21, hr21, h⟩ := h
          refine Chain.callC (d := 82) (p27 N (r12.Text.size : Int) r21 hr21) (by simp) rfl rfl (by simp <;> rfl) (by simp <;> rfl) ent27 (by simp) (.inl ⟨by simp, by simp⟩) ?_
          refine Chain.sub (S' := mk 110 [] [(4, .ptr 4 0 0), (81, .d (.lit (.int .i64 (r12.Text.size : Int)))), (82, .agg [.d (.lit (.int .i64 r21.Kind)), .d (.lit (.int .i64 r21.Int)), .d (.lit (.string r21.Text))])] [(4, some (.box [.d (.lit (.int .i64 0)), .d (.lit (.int .i64 0)), .d (.lit (.string (ByteArray.mk #[])))]))]) (by simp; exact Sub.table (by simp) (by simp)) ?_
          refine Chain.runK [] 1 fun K hK => ?_; simp; refine hK _ _ ?_; clear hK K
          refine Chain.sub (S' := mk 110 [] [(4, .ptr 4 0 0)] [(4, some (.box [.d (.lit (.int .i64 r21.Kind)), .d (.lit (.int .i64 r21.Int)), .d (.lit (.string r21.Text))]))]) Sub.tt ?_
          refine Chain.nil ?_
          refine AW.ret ?_
          cases h
          refine blockQ.ret ?_
          refine thenQ_pass (by simp) ?_
          exact FinC.ret (by simp) (by simp)
        ·have c19_ : decide (a1.Name = (ByteArray.mk #[108, 101, 110, 103, 116, 104])) = false := Bool.eq_false_iff.2 c19
         refine AW.condF (b := decide (a1.Name = (ByteArray.mk #[108, 101, 110, 103, 116, 104]))) rfl c19_ ?_
         refine AW.sub (Sub.bool 73 (b := decide (a1.Name = (ByteArray.mk #[108, 101, 110, 103, 116, 104]))) rfl c19_) ?_
         refine AW.sub (S' := mk 110 [] [(2, .ptr 2 0 0), (3, .ptr 3 0 0), (4, .ptr 4 0 0), (6, .ptr 6 0 0), (56, .d (.lit (.string a1.Name))), (73, .d (.lit (.bool false)))] [(2, some (.box [.d (.mpi .string true (a0.Columns.map (MKey.sk ∘ Prod.fst)) (a0.Columns.map (cS24 ∘ Prod.snd))), .d (.mpi .string true (a0.Variables.map (MKey.sk ∘ Prod.fst)) (a0.Variables.map (cS24 ∘ Prod.snd))), .d (.sl (a0.Parameters.map cS24))])), (3, some (.box [.d (.lit (.int .i64 a1.Kind)), .d (.lit (.string a1.Name)), .d (.lit (.int .i64 a1.Index)), .d (.lit (.int .i64 a1.Value.Kind)), .d (.lit (.int .i64 a1.Value.Int)), .d (.lit (.string a1.Value.Text)), .d (.sl (a1.Args.map cS27))])), (4, some (.box [.d (.lit (.int .i64 0)), .d (.lit (.int .i64 0)), .d (.lit (.string (ByteArray.mk #[])))])), (6, some (.box [.d (.lit (.int .i64 r12.Kind)), .d (.lit (.int .i64 r12.Int)), .d (.lit (.string r12.Text))]))]) (by simp; exact Sub.table (by simp) (by simp)) ?_
         refine AW.seqR ?_
         refine Chain.runK [] 2 fun K hK => ?_; simp; refine hK _ _ ?_; clear hK K
         refine Chain.sub (S' := mk 110 [] [(2, .ptr 2 0 0), (3, .ptr 3 0 0), (4, .ptr 4 0 0), (6, .ptr 6 0 0), (83, .d (.lit (.bool (decide (a1.Name = (ByteArray.mk #[105, 102]))))))] [(2, some (.box [.d (.mpi .string true (a0.Columns.map (MKey.sk ∘ Prod.fst)) (a0.Columns.map (cS24 ∘ Prod.snd))), .d (.mpi .string true (a0.Variables.map (MKey.sk ∘ Prod.fst)) (a0.Variables.map (cS24 ∘ Prod.snd))), .d (.sl (a0.Parameters.map cS24))])), (3, some (.box [.d (.lit (.int .i64 a1.Kind)), .d (.lit (.string a1.Name)), .d (.lit (.int .i64 a1.Index)), .d (.lit (.int .i64 a1.Value.Kind)), .d (.lit (.int .i64 a1.Value.Int)), .d (.lit (.string a1.Value.Text)), .d (.sl (a1.Args.map cS27))])), (4, some (.box [.d (.lit (.int .i64 0)), .d (.lit (.int .i64 0)), .d (.lit (.string (ByteArray.mk #[])))])), (6, some (.box [.d (.lit (.int .i64 r12.Kind)), .d (.lit (.int .i64 r12.Int)), .d (.lit (.string r12.Text))]))]) Sub.tt ?_
         refine Chain.nil ?_
         replace h := isome h; rcases h with ⟨c22, h⟩ | ⟨c22, h⟩
         ·have c22_ : decide (a1.Name = (ByteArray.mk #[105, 102])) = true := c22
          refine AW.condT (b := decide (a1.Name = (ByteArray.mk #[105, 102]))) rfl c22_ ?_
          refine AW.sub (Sub.bool 83 (b := decide (a1.Name = (ByteArray.mk #[105, 102]))) rfl c22_) ?_
          refine AW.sub (S' := mk 110 [] [(2, .ptr 2 0 0), (3, .ptr 3 0 0), (4, .ptr 4 0 0), (6, .ptr 6 0 0), (83, .d (.lit (.bool true)))] [(2, some (.box [.d (.mpi .string true (a0.Columns.map (MKey.sk ∘ Prod.fst)) (a0.Columns.map (cS24 ∘ Prod.snd))), .d (.mpi .string true (a0.Variables.map (MKey.sk ∘ Prod.fst)) (a0.Variables.map (cS24 ∘ Prod.snd))), .d (.sl (a0.Parameters.map cS24))])), (3, some (.box [.d (.lit (.int .i64 a1.Kind)), .d (.lit (.string a1.Name)), .d (.lit (.int .i64 a1.Index)), .d (.lit (.int .i64 a1.Value.Kind)), .d (.lit (.int .i64 a1.Value.Int)), .d (.lit (.string a1.Value.Text)), .d (.sl (a1.Args.map cS27))])), (4, some (.box [.d (.lit (.int .i64 0)), .d (.lit (.int .i64 0)), .d (.lit (.string (ByteArray.mk #[])))])), (6, some (.box [.d (.lit (.int .i64 r12.Kind)), .d (.lit (.int .i64 r12.Int)), .d (.lit (.string r12.Text))]))]) (by simp; exact Sub.table (by simp) (by simp)) ?_
          refine AW.seq ?_
          refine AW.seqR ?_
          refine Chain.runK [] 1 fun K hK => ?_; simp; refine hK _ _ ?_; clear hK K
          refine Chain.sub (S' := mk 110 [] [(2, .ptr 2 0 0), (3, .ptr 3 0 0), (4, .ptr 4 0 0), (85, .agg [.d (.lit (.int .i64 r12.Kind)), .d (.lit (.int .i64 r12.Int)), .d (.lit (.string r12.Text))])] [(2, some (.box [.d (.mpi .string true (a0.Columns.map (MKey.sk ∘ Prod.fst)) (a0.Columns.map (cS24 ∘ Prod.snd))), .d (.mpi .string true (a0.Variables.map (MKey.sk ∘ Prod.fst)) (a0.Variables.map (cS24 ∘ Prod.snd))), .d (.sl (a0.Parameters.map cS24))])), (3, some (.box [.d (.lit (.int .i64 a1.Kind)), .d (.lit (.string a1.Name)), .d (.lit (.int .i64 a1.Index)), .d (.lit (.int .i64 a1.Value.Kind)), .d (.lit (.int .i64 a1.Value.Int)), .d (.lit (.string a1.Value.Text)), .d (.sl (a1.Args.map cS27))])), (4, some (.box [.d (.lit (.int .i64 0)), .d (.lit (.int .i64 0)), .d (.lit (.string (ByteArray.mk #[])))]))]) Sub.tt ?_
          replace h := bsome h; obtain ⟨r23, hr23, h⟩ := h
          refine Chain.callL (d := 86) (p26 N r12 r23 hr23) (by simp) rfl rfl (by simp <;> rfl) (by simp <;> rfl) ent26 (by simp <;> rfl) ?_
          refine Chain.sub (S' := mk 110 [] [(2, .ptr 2 0 0), (3, .ptr 3 0 0), (4, .ptr 4 0 0), (85, .agg [.d (.lit (.int .i64 r12.Kind)), .d (.lit (.int .i64 r12.Int)), .d (.lit (.string r12.Text))]), (86, .d (.lit (.int .i64 r23)))] [(2, some (.box [.d (.mpi .string true (a0.Columns.map (MKey.sk ∘ Prod.fst)) (a0.Columns.map (cS24 ∘ Prod.snd))), .d (.mpi .string true (a0.Variables.map (MKey.sk ∘ Prod.fst)) (a0.Variables.map (cS24 ∘ Prod.snd))), .d (.sl (a0.Parameters.map cS24))])), (3, some (.box [.d (.lit (.int .i64 a1.Kind)), .d (.lit (.string a1.Name)), .d (.lit (.int .i64 a1.Index)), .d (.lit (.int .i64 a1.Value.Kind)), .d (.lit (.int .i64 a1.Value.Int)), .d (.lit (.string a1.Value.Text)), .d (.sl (a1.Args.map cS27))])), (4, some (.box [.d (.lit (.int .i64 0)), .d (.lit (.int .i64 0)), .d (.lit (.string (ByteArray.mk #[])))]))]) (by simp; exact Sub.table (by simp) (by simp)) ?_
          refine Chain.runK [] 1 fun K hK => ?_; simp; refine hK _ _ ?_; clear hK K
          refine Chain.sub (S' := mk 110 [] [(2, .ptr 2 0 0), (3, .ptr 3 0 0), (4, .ptr 4 0 0), (87, .d (.lit (.bool (decide (r23 > 0)))))] [(2, some (.box [.d (.mpi .string true (a0.Columns.map (MKey.sk ∘ Prod.fst)) (a0.Columns.map (cS24 ∘ Prod.snd))), .d (.mpi .string true (a0.Variables.map (MKey.sk ∘ Prod.fst)) (a0.Variables.map (cS24 ∘ Prod.snd))), .d (.sl (a0.Parameters.map cS24))])), (3, some (.box [.d (.lit (.int .i64 a1.Kind)), .d (.lit (.string a1.Name)), .d (.lit (.int .i64 a1.Index)), .d (.lit (.int .i64 a1.Value.Kind)), .d (.lit (.int .i64 a1.Value.Int)), .d (.lit (.string a1.Value.Text)), .d (.sl (a1.Args.map cS27))])), (4, some (.box [.d (.lit (.int .i64 0)), .d (.lit (.int .i64 0)), .d (.lit (.string (ByteArray.mk #[])))]))]) Sub.tt ?_
          refine Chain.nil ?_
          replace h := isome h; rcases h with ⟨c24, h⟩ | ⟨c24, h⟩
          ·have c24_ : decide (r23 > 0) = true := decide_eq_true c24
           refine AW.condT (b := decide (r23 > 0)) rfl c24_ ?_
           refine AW.sub (Sub.bool 87 (b := decide (r23 > 0)) rfl c24_) ?_
           refine AW.sub (S' := mk 110 [] [(2, .ptr 2 0 0), (3, .ptr 3 0 0), (4, .ptr 4 0 0), (87, .d (.lit (.bool true)))] [(2, some (.box [.d (.mpi .string true (a0.Columns.map (MKey.sk ∘ Prod.fst)) (a0.Columns.map (cS24 ∘ Prod.snd))), .d (.mpi .string true (a0.Variables.map (MKey.sk ∘ Prod.fst)) (a0.Variables.map (cS24 ∘ Prod.snd))), .d (.sl (a0.Parameters.map cS24))])), (3, some (.box [.d (.lit (.int .i64 a1.Kind)), .d (.lit (.string a1.Name)), .d (.lit (.int .i64 a1.Index)), .d (.lit (.int .i64 a1.Value.Kind)), .d (.lit (.int .i64 a1.Value.Int)), .d (.lit (.string a1.Value.Text)), .d (.sl (a1.Args.map cS27))])), (4, some (.box [.d (.lit (.int .i64 0)), .d (.lit (.int .i64 0)), .d (.lit (.string (ByteArray.mk #[])))]))]) (by simp; exact Sub.table (by simp) (by simp)) ?_
           replace h := bsome h; obtain ⟨x25, hx25, h⟩ := h
           obtain ⟨hx25, hx25b, hx25c⟩ := idx_someN (n := 1) hx25
           replace h := bsome h; obtain ⟨r26, hr26, h⟩ := h
           refine AW.seqAnyS [[], [], [1], [1, 2], [1, 2, 3], [0, 1, 2, 3, 4], [0, 1, 2, 3, 4, 5]] (fun (b : Nat → Bool) => mk 110 [] [(2, .ptr 2 0 0), (3, .ptr 3 0 0), (4, .ptr 4 0 0), (88, (if b 0 then .agg [.d (.mpi .string true (a0.Columns.map (MKey.sk ∘ Prod.fst)) (a0.Columns.map (cS24 ∘ Prod.snd))), .d (.mpi .string true (a0.Variables.map (MKey.sk ∘ Prod.fst)) (a0.Variables.map (cS24 ∘ Prod.snd))), .d (.sl (a0.Parameters.map cS24))] else .junk)), (89, (if b 1 then .ptr 3 0 6 else .junk)), (90, (if b 2 then .d (.sl (a1.Args.map cS27)) else .junk)), (91, (if b 3 then .d (.pim [.lit (.int .i64 x25.Kind), .lit (.string x25.Name), .lit (.int .i64 x25.Index), .lit (.int .i64 x25.Value.Kind), .lit (.int .i64 x25.Value.Int), .lit (.string x25.Value.Text), .sl (x25.Args.map cS27)]) else .junk)), (92, (if b 4 then .agg [.d (.lit (.int .i64 x25.Kind)), .d (.lit (.string x25.Name)), .d (.lit (.int .i64 x25.Index)), .d (.lit (.int .i64 x25.Value.Kind)), .d (.lit (.int .i64 x25.Value.Int)), .d (.lit (.string x25.Value.Text)), .d (.sl (x25.Args.map cS27))] else .junk)), (93, (if b 5 then .agg [.d (.lit (.int .i64 r26.Kind)), .d (.lit (.int .i64 r26.Int)), .d (.lit (.string r26.Text))] else .junk))] [(2, some (.box [.d (.mpi .string true (a0.Columns.map (MKey.sk ∘ Prod.fst)) (a0.Columns.map (cS24 ∘ Prod.snd))), .d (.mpi .string true (a0.Variables.map (MKey.sk ∘ Prod.fst)) (a0.Variables.map (cS24 ∘ Prod.snd))), .d (.sl (a0.Parameters.map cS24))])), (3, some (.box [.d (.lit (.int .i64 a1.Kind)), .d (.lit (.string a1.Name)), .d (.lit (.int .i64 a1.Index)), .d (.lit (.int .i64 a1.Value.Kind)), .d (.lit (.int .i64 a1.Value.Int)), .d (.lit (.string a1.Value.Text)), .d (.sl (a1.Args.map cS27))])), (4, (if b 6 then some (.box [.d (.lit (.int .i64 r26.Kind)), .d (.lit (.int .i64 r26.Int)), .d (.lit (.string r26.Text))]) else some (.box [.d (.lit (.int .i64 0)), .d (.lit (.int .i64 0)), .d (.lit (.string (ByteArray.mk #[])))])))]) (mk 110 [] [(4, .ptr 4 0 0)] [(4, some (.box [.d (.lit (.int .i64 r26.Kind)), .d (.lit (.int .i64 r26.Int)), .d (.lit (.string r26.Text))]))]) (by kernel_rfl) (by kernel_rfl) Sub.tt (Steps.cons ?_ (Steps.cons ?_ (Steps.cons ?_ (Steps.cons ?_ (Steps.cons ?_ (Steps.cons ?_ (Steps.cons ?_ (Steps.nil)))))))) ?_ ?_
           ·intro b h0 ha hd
            have f5 : b 5 = false := hd 5 (by decide)
            have f6 : b 6 = false := hd 6 (by decide)
            refine Chain.runK [] 1 fun K hK => ?_; simp [h0, f5, f6]; refine hK _ _ ?_; clear hK K
            exact Chain.nil (Sub.table (by simp [f5]) (by simp [f6]))
           ·intro b h0 ha hd
            have f2 : b 2 = false := hd 2 (by decide)
            have f3 : b 3 = false := hd 3 (by decide)
            have f4 : b 4 = false := hd 4 (by decide)
            have f5 : b 5 = false := hd 5 (by decide)
            have f6 : b 6 = false := hd 6 (by decide)
            refine Chain.runK [] 1 fun K hK => ?_; simp [h0, f2, f3, f4, f5, f6]; refine hK _ _ ?_; clear hK K
            exact Chain.nil (Sub.table (by simp [f2, f3, f4, f5]) (by simp [f6]))
           ·intro b h0 ha hd
            have t1 : b 1 = true := ha 1 (by decide)
            have f3 : b 3 = false := hd 3 (by decide)
            have f4 : b 4 = false := hd 4 (by decide)
            have f5 : b 5 = false := hd 5 (by decide)
            have f6 : b 6 = false := hd 6 (by decide)
            refine Chain.runK [] 1 fun K hK => ?_; simp [h0, t1, f3, f4, f5, f6]; refine hK _ _ ?_; clear hK K
            exact Chain.nil (Sub.table (by simp [t1, f3, f4, f5]) (by simp [f6]))
           ·intro b h0 ha hd
            have t1 : b 1 = true := ha 1 (by decide)
            have t2 : b 2 = true := ha 2 (by decide)
            have f4 : b 4 = false := hd 4 (by decide)
            have f5 : b 5 = false := hd 5 (by decide)
            have f6 : b 6 = false := hd 6 (by decide)
            refine Chain.runK [] 1 fun K hK => ?_; simp [h0, t1, t2, f4, f5, f6, hx25]; refine hK _ _ ?_; clear hK K
            exact Chain.nil (Sub.table (by simp [t1, t2, f4, f5]) (by simp [f6]))
           ·intro b h0 ha hd
            have t1 : b 1 = true := ha 1 (by decide)
            have t2 : b 2 = true := ha 2 (by decide)
            have t3 : b 3 = true := ha 3 (by decide)
            have f5 : b 5 = false := hd 5 (by decide)
            have f6 : b 6 = false := hd 6 (by decide)
            refine Chain.runK [] 1 fun K hK => ?_; simp [h0, t1, t2, t3, f5, f6]; refine hK _ _ ?_; clear hK K
            exact Chain.nil (Sub.table (by simp [t1, t2, t3, f5]) (by simp [f6]))
           ·intro b h0 ha hd
            have t0 : b 0 = true := ha 0 (by decide)
            have t1 : b 1 = true := ha 1 (by decide)
            have t2 : b 2 = true := ha 2 (by decide)
            have t3 : b 3 = true := ha 3 (by decide)
            have t4 : b 4 = true := ha 4 (by decide)
            have f6 : b 6 = false := hd 6 (by decide)
            simp only [h0, t0, t1, t2, t3, t4, f6, if_true, if_false, Bool.false_eq_true]
            refine Chain.callC (d := 93) (ih a0 x25 r26 hr26) (by simp) rfl rfl (by simp <;> rfl) (by simp <;> rfl) ent13 (by simp) (.inl ⟨by simp, by simp⟩) ?_
            exact Chain.nil (by simp [t0, t1, t2, t3, t4, f6]; exact Sub.table (by simp) (by simp))
           ·intro b h0 ha hd
            have t0 : b 0 = true := ha 0 (by decide)
            have t1 : b 1 = true := ha 1 (by decide)
            have t2 : b 2 = true := ha 2 (by decide)
            have t3 : b 3 = true := ha 3 (by decide)
            have t4 : b 4 = true := ha 4 (by decide)
            have t5 : b 5 = true := ha 5 (by decide)
            refine Chain.runK [] 1 fun K hK => ?_; simp [h0, t0, t1, t2, t3, t4, t5]; refine hK _ _ ?_; clear hK K
            exact Chain.nil (Sub.table (by simp [t0, t1, t2, t3, t4, t5]) (by simp))
           ·intro b hb
            have t0 := hb 0 (by decide)
            have t1 := hb 1 (by decide)
            have t2 := hb 2 (by decide)
            have t3 := hb 3 (by decide)
            have t4 := hb 4 (by decide)
            have t5 := hb 5 (by decide)
            have t6 := hb 6 (by decide)
            exact Sub.table (by simp [t0, t1, t2, t3, t4, t5]) (by simp [t6])
           ·skip
            refine AW.ret ?_
            cases h
            refine thenQ_pass (by simp) ?_
            refine blockQ.ret ?_
            refine thenQ_pass (by simp) ?_
            exact FinC.ret (by simp) (by simp)
          ·have c24_ : decide (r23 > 0) = false := decide_eq_false c24
           refine AW.condF (b := decide (r23 > 0)) rfl c24_ ?_
           refine AW.sub (Sub.bool 87 (b := decide (r23 > 0)) rfl c24_) ?_
           refine AW.sub (S' := mk 110 [] [(2, .ptr 2 0 0), (3, .ptr 3 0 0), (4, .ptr 4 0 0), (87, .d (.lit (.bool false)))] [(2, some (.box [.d (.mpi .string true (a0.Columns.map (MKey.sk ∘ Prod.fst)) (a0.Columns.map (cS24 ∘ Prod.snd))), .d (.mpi .string true (a0.Variables.map (MKey.sk ∘ Prod.fst)) (a0.Variables.map (cS24 ∘ Prod.snd))), .d (.sl (a0.Parameters.map cS24))])), (3, some (.box [.d (.lit (.int .i64 a1.Kind)), .d (.lit (.string a1.Name)), .d (.lit (.int .i64 a1.Index)), .d (.lit (.int .i64 a1.Value.Kind)), .d (.lit (.int .i64 a1.Value.Int)), .d (.lit (.string a1.Value.Text)), .d (.sl (a1.Args.map cS27))])), (4, some (.box [.d (.lit (.int .i64 0)), .d (.lit (.int .i64 0)), .d (.lit (.string (ByteArray.mk #[])))]))]) (by simp; exact Sub.table (by simp) (by simp)) ?_
           refine AW.skip ?_
           refine thenQ_normal ?_
           replace h := bsome h; obtain ⟨x27, hx27, h⟩ := h
           obtain ⟨hx27, hx27b, hx27c⟩ := idx_someN (n := 2) hx27
           replace h := bsome h; obtain ⟨r28, hr28, h⟩ := h
           refine AW.seqAnyS [[], [], [1], [1, 2], [1, 2, 3], [0, 1, 2, 3, 4], [0, 1, 2, 3, 4, 5]] (fun (b : Nat → Bool) => mk 110 [] [(2, .ptr 2 0 0), (3, .ptr 3 0 0), (4, .ptr 4 0 0), (94, (if b 0 then .agg [.d (.mpi .string true (a0.Columns.map (MKey.sk ∘ Prod.fst)) (a0.Columns.map (cS24 ∘ Prod.snd))), .d (.mpi .string true (a0.Variables.map (MKey.sk ∘ Prod.fst)) (a0.Variables.map (cS24 ∘ Prod.snd))), .d (.sl (a0.Parameters.map cS24))] else .junk)), (95, (if b 1 then .ptr 3 0 6 else .junk)), (96, (if b 2 then .d (.sl (a1.Args.map cS27)) else .junk)), (97, (if b 3 then .d (.pim [.lit (.int .i64 x27.Kind), .lit (.string x27.Name), .lit (.int .i64 x27.Index), .lit (.int .i64 x27.Value.Kind), .lit (.int .i64 x27.Value.Int), .lit (.string x27.Value.Text), .sl (x27.Args.map cS27)]) else .junk)), (98, (if b 4 then .agg [.d (.lit (.int .i64 x27.Kind)), .d (.lit (.string x27.Name)), .d (.lit (.int .i64 x27.Index)), .d (.lit (.int .i64 x27.Value.Kind)), .d (.lit (.int .i64 x27.Value.Int)), .d (.lit (.string x27.Value.Text)), .d (.sl (x27.Args.map cS27))] else .junk)), (99, (if b 5 then .agg [.d (.lit (.int .i64 r28.Kind)), .d (.lit (.int .i64 r28.Int)), .d (.lit (.string r28.Text))] else .junk))] [(2, some (.box [.d (.mpi .string true (a0.Columns.map (MKey.sk ∘ Prod.fst)) (a0.Columns.map (cS24 ∘ Prod.snd))), .d (.mpi .string true (a0.Variables.map (MKey.sk ∘ Prod.fst)) (a0.Variables.map (cS24 ∘ Prod.snd))), .d (.sl (a0.Parameters.map cS24))])), (3, some (.box [.d (.lit (.int .i64 a1.Kind)), .d (.lit (.string a1.Name)), .d (.lit (.int .i64 a1.Index)), .d (.lit (.int .i64 a1.Value.Kind)), .d (.lit (.int .i64 a1.Value.Int)), .d (.lit (.string a1.Value.Text)), .d (.sl (a1.Args.map cS27))])), (4, (if b 6 then some (.box [.d (.lit (.int .i64 r28.Kind)), .d (.lit (.int .i64 r28.Int)), .d (.lit (.string r28.Text))]) else some (.box [.d (.lit (.int .i64 0)), .d (.lit (.int .i64 0)), .d (.lit (.string (ByteArray.mk #[])))])))]) (mk 110 [] [(4, .ptr 4 0 0)] [(4, some (.box [.d (.lit (.int .i64 r28.Kind)), .d (.lit (.int .i64 r28.Int)), .d (.lit (.string r28.Text))]))]) (by kernel_rfl) (by kernel_rfl) Sub.tt (Steps.cons ?_ (Steps.cons ?_ (Steps.cons ?_ (Steps.cons ?_ (Steps.cons ?_ (Steps.cons ?_ (Steps.cons ?_ (Steps.nil)))))))) ?_ ?_
           ·intro b h0 ha hd
            have f5 : b 5 = false := hd 5 (by decide)
            have f6 : b 6 = false := hd 6 (by decide)
            refine Chain.runK [] 1 fun K hK => ?_; simp [h0, f5, f6]; refine hK _ _ ?_; clear hK K
            exact Chain.nil (Sub.table (by simp [f5]) (by simp [f6]))
           ·intro b h0 ha hd
            have f2 : b 2 = false := hd 2 (by decide)
            have f3 : b 3 = false := hd 3 (by decide)
            have f4 : b 4 = false := hd 4 (by decide)
            have f5 : b 5 = false := hd 5 (by decide)
            have f6 : b 6 = false := hd 6 (by decide)
            refine Chain.runK [] 1 fun K hK => ?_; simp [h0, f2, f3, f4, f5, f6]; refine hK _ _ ?_; clear hK K
            exact Chain.nil (Sub.table (by simp [f2, f3, f4, f5]) (by simp [f6]))
           ·intro b h0 ha hd
            have t1 : b 1 = true := ha 1 (by decide)
            have f3 : b 3 = false := hd 3 (by decide)
            have f4 : b 4 = false := hd 4 (by decide)
            have f5 : b 5 = false := hd 5 (by decide)
            have f6 : b 6 = false := hd 6 (by decide)
            refine Chain.runK [] 1 fun K hK => ?_; simp [h0, t1, f3, f4, f5, f6]; refine hK _ _ ?_; clear hK K
            exact Chain.nil (Sub.table (by simp [t1, f3, f4, f5]) (by simp [f6]))
           ·intro b h0 ha hd
            have t1 : b 1 = true := ha 1 (by decide)
            have t2 : b 2 = true := ha 2 (by decide)
            have f4 : b 4 = false := hd 4 (by decide)
            have f5 : b 5 = false := hd 5 (by decide)
            have f6 : b 6 = false := hd 6 (by decide)
            refine Chain.runK [] 1 fun K hK => ?_; simp [h0, t1, t2, f4, f5, f6, hx27]; refine hK _ _ ?_; clear hK K
            exact Chain.nil (Sub.table (by simp [t1, t2, f4, f5]) (by simp [f6]))
           ·intro b h0 ha hd
            have t1 : b 1 = true := ha 1 (by decide)
            have t2 : b 2 = true := ha 2 (by decide)
            have t3 : b 3 = true := ha 3 (by decide)
            have f5 : b 5 = false := hd 5 (by decide)
            have f6 : b 6 = false := hd 6 (by decide)
            refine Chain.runK [] 1 fun K hK => ?_; simp [h0, t1, t2, t3, f5, f6]; refine hK _ _ ?_; clear hK K
            exact Chain.nil (Sub.table (by simp [t1, t2, t3, f5]) (by simp [f6]))
           ·intro b h0 ha hd
            have t0 : b 0 = true := ha 0 (by decide)
            have t1 : b 1 = true := ha 1 (by decide)
            have t2 : b 2 = true := ha 2 (by decide)
            have t3 : b 3 = true := ha 3 (by decide)
            have t4 : b 4 = true := ha 4 (by decide)
            have f6 : b 6 = false := hd 6 (by decide)
            simp only [h0, t0, t1, t2, t3, t4, f6, if_true, if_false, Bool.false_eq_true]
            refine Chain.callC (d := 99) (ih a0 x27 r28 hr28) (by simp) rfl rfl (by simp <;> rfl) (by simp <;> rfl) ent13 (by simp) (.inl ⟨by simp, by simp⟩) ?_
            exact Chain.nil (by simp [t0, t1, t2, t3, t4, f6]; exact Sub.table (by simp) (by simp))
           ·intro b h0 ha hd
            have t0 : b 0 = true := ha 0 (by decide)
            have t1 : b 1 = true := ha 1 (by decide)
            have t2 : b 2 = true := ha 2 (by decide)
            have t3 : b 3 = true := ha 3 (by decide)
            have t4 : b 4 = true := ha 4 (by decide)
            have t5 : b 5 = true := ha 5 (by decide)
            refine Chain.runK [] 1 fun K hK => ?_; simp [h0, t0, t1, t2, t3, t4, t5]; refine hK _ _ ?_; clear hK K
            exact Chain.nil (Sub.table (by simp [t0, t1, t2, t3, t4, t5]) (by simp))
           ·intro b hb
            have t0 := hb 0 (by decide)
            have t1 := hb 1 (by decide)
            have t2 := hb 2 (by decide)
            have t3 := hb 3 (by decide)
            have t4 := hb 4 (by decide)
            have t5 := hb 5 (by decide)
            have t6 := hb 6 (by decide)
            exact Sub.table (by simp [t0, t1, t2, t3, t4, t5]) (by simp [t6])
           ·skip
            refine AW.ret ?_
            cases h
            refine blockQ.ret ?_
            refine thenQ_pass (by simp) ?_
            exact FinC.ret (by simp) (by simp)
         ·have c22_ : decide (a1.Name = (ByteArray.mk #[105, 102])) = false := Bool.eq_false_iff.2 c22
          refine AW.condF (b := decide (a1.Name = (ByteArray.mk #[105, 102]))) rfl c22_ ?_
          refine AW.sub (Sub.bool 83 (b := decide (a1.Name = (ByteArray.mk #[105, 102]))) rfl c22_) ?_
          refine AW.sub (S' := mk 110 [] [(2, .ptr 2 0 0), (3, .ptr 3 0 0), (4, .ptr 4 0 0), (6, .ptr 6 0 0), (83, .d (.lit (.bool false)))] [(2, some (.box [.d (.mpi .string true (a0.Columns.map (MKey.sk ∘ Prod.fst)) (a0.Columns.map (cS24 ∘ Prod.snd))), .d (.mpi .string true (a0.Variables.map (MKey.sk ∘ Prod.fst)) (a0.Variables.map (cS24 ∘ Prod.snd))), .d (.sl (a0.Parameters.map cS24))])), (3, some (.box [.d (.lit (.int .i64 a1.Kind)), .d (.lit (.string a1.Name)), .d (.lit (.int .i64 a1.Index)), .d (.lit (.int .i64 a1.Value.Kind)), .d (.lit (.int .i64 a1.Value.Int)), .d (.lit (.string a1.Value.Text)), .d (.sl (a1.Args.map cS27))])), (4, some (.box [.d (.lit (.int .i64 0)), .d (.lit (.int .i64 0)), .d (.lit (.string (ByteArray.mk #[])))])), (6, some (.box [.d (.lit (.int .i64 r12.Kind)), .d (.lit (.int .i64 r12.Int)), .d (.lit (.string r12.Text))]))]) (by simp; exact Sub.table (by simp) (by simp)) ?_
          refine AW.skip ?_
          refine blockQ.normal ?_
          refine thenQ_normal ?_
          replace h := bsome h; obtain ⟨x29, hx29, h⟩ := h
          obtain ⟨hx29, hx29b, hx29c⟩ := idx_someN (n := 1) hx29
          replace h := bsome h; obtain ⟨r30, hr30, h⟩ := h
          replace h := bsome h; obtain ⟨r31, hr31, h⟩ := h
          refine AW.seqAnyS [[], [0], [], [], [], [4], [4, 5], [4, 5, 6], [3, 4, 5, 6, 7], [0, 1, 2, 3, 4, 5, 6, 7, 8], [0, 1, 2, 3, 4, 5, 6, 7, 8, 9]] (fun (b : Nat → Bool) => mk 110 [] [(2, .ptr 2 0 0), (3, .ptr 3 0 0), (4, .ptr 4 0 0), (6, .ptr 6 0 0), (100, (if b 0 then .ptr 3 0 1 else .junk)), (101, (if b 1 then .d (.lit (.string a1.Name)) else .junk)), (102, (if b 2 then .agg [.d (.lit (.int .i64 r12.Kind)), .d (.lit (.int .i64 r12.Int)), .d (.lit (.string r12.Text))] else .junk)), (103, (if b 3 then .agg [.d (.mpi .string true (a0.Columns.map (MKey.sk ∘ Prod.fst)) (a0.Columns.map (cS24 ∘ Prod.snd))), .d (.mpi .string true (a0.Variables.map (MKey.sk ∘ Prod.fst)) (a0.Variables.map (cS24 ∘ Prod.snd))), .d (.sl (a0.Parameters.map cS24))] else .junk)), (104, (if b 4 then .ptr 3 0 6 else .junk)), (105, (if b 5 then .d (.sl (a1.Args.map cS27)) else .junk)), (106, (if b 6 then .d (.pim [.lit (.int .i64 x29.Kind), .lit (.string x29.Name), .lit (.int .i64 x29.Index), .lit (.int .i64 x29.Value.Kind), .lit (.int .i64 x29.Value.Int), .lit (.string x29.Value.Text), .sl (x29.Args.map cS27)]) else .junk)), (107, (if b 7 then .agg [.d (.lit (.int .i64 x29.Kind)), .d (.lit (.string x29.Name)), .d (.lit (.int .i64 x29.Index)), .d (.lit (.int .i64 x29.Value.Kind)), .d (.lit (.int .i64 x29.Value.Int)), .d (.lit (.string x29.Value.Text)), .d (.sl (x29.Args.map cS27))] else .junk)), (108, (if b 8 then .agg [.d (.lit (.int .i64 r30.Kind)), .d (.lit (.int .i64 r30.Int)), .d (.lit (.string r30.Text))] else .junk)), (109, (if b 9 then .agg [.d (.lit (.int .i64 r31.Kind)), .d (.lit (.int .i64 r31.Int)), .d (.lit (.string r31.Text))] else .junk))] [(2, some (.box [.d (.mpi .string true (a0.Columns.map (MKey.sk ∘ Prod.fst)) (a0.Columns.map (cS24 ∘ Prod.snd))), .d (.mpi .string true (a0.Variables.map (MKey.sk ∘ Prod.fst)) (a0.Variables.map (cS24 ∘ Prod.snd))), .d (.sl (a0.Parameters.map cS24))])), (3, some (.box [.d (.lit (.int .i64 a1.Kind)), .d (.lit (.string a1.Name)), .d (.lit (.int .i64 a1.Index)), .d (.lit (.int .i64 a1.Value.Kind)), .d (.lit (.int .i64 a1.Value.Int)), .d (.lit (.string a1.Value.Text)), .d (.sl (a1.Args.map cS27))])), (4, (if b 10 then some (.box [.d (.lit (.int .i64 r31.Kind)), .d (.lit (.int .i64 r31.Int)), .d (.lit (.string r31.Text))]) else some (.box [.d (.lit (.int .i64 0)), .d (.lit (.int .i64 0)), .d (.lit (.string (ByteArray.mk #[])))]))), (6, some (.box [.d (.lit (.int .i64 r12.Kind)), .d (.lit (.int .i64 r12.Int)), .d (.lit (.string r12.Text))]))]) (mk 110 [] [(4, .ptr 4 0 0)] [(4, some (.box [.d (.lit (.int .i64 r31.Kind)), .d (.lit (.int .i64 r31.Int)), .d (.lit (.string r31.Text))]))]) (by kernel_rfl) (by kernel_rfl) Sub.tt (Steps.cons ?_ (Steps.cons ?_ (Steps.cons ?_ (Steps.cons ?_ (Steps.cons ?_ (Steps.cons ?_ (Steps.cons ?_ (Steps.cons ?_ (Steps.cons ?_ (Steps.cons ?_ (Steps.cons ?_ (Steps.nil)))))))))))) ?_ ?_
          ·intro b h0 ha hd
           have f1 : b 1 = false := hd 1 (by decide)
           have f9 : b 9 = false := hd 9 (by decide)
           have f10 : b 10 = false := hd 10 (by decide)
           refine Chain.runK [] 1 fun K hK => ?_; simp [h0, f1, f9, f10]; refine hK _ _ ?_; clear hK K
           exact Chain.nil (Sub.table (by simp [f1, f9]) (by simp [f10]))
          ·intro b h0 ha hd
           have t0 : b 0 = true := ha 0 (by decide)
           have f9 : b 9 = false := hd 9 (by decide)
           have f10 : b 10 = false := hd 10 (by decide)
           refine Chain.runK [] 1 fun K hK => ?_; simp [h0, t0, f9, f10]; refine hK _ _ ?_; clear hK K
           exact Chain.nil (Sub.table (by simp [t0, f9]) (by simp [f10]))
          ·intro b h0 ha hd
           have f9 : b 9 = false := hd 9 (by decide)
           have f10 : b 10 = false := hd 10 (by decide)
           refine Chain.runK [] 1 fun K hK => ?_; simp [h0, f9, f10]; refine hK _ _ ?_; clear hK K
           exact Chain.nil (Sub.table (by simp [f9]) (by simp [f10]))
          ·intro b h0 ha hd
           have f8 : b 8 = false := hd 8 (by decide)
           have f9 : b 9 = false := hd 9 (by decide)
           have f10 : b 10 = false := hd 10 (by decide)
           refine Chain.runK [] 1 fun K hK => ?_; simp [h0, f8, f9, f10]; refine hK _ _ ?_; clear hK K
           exact Chain.nil (Sub.table (by simp [f8, f9]) (by simp [f10]))
          ·intro b h0 ha hd
           have f5 : b 5 = false := hd 5 (by decide)
           have f6 : b 6 = false := hd 6 (by decide)
           have f7 : b 7 = false := hd 7 (by decide)
           have f8 : b 8 = false := hd 8 (by decide)
           have f9 : b 9 = false := hd 9 (by decide)
           have f10 : b 10 = false := hd 10 (by decide)
           refine Chain.runK [] 1 fun K hK => ?_; simp [h0, f5, f6, f7, f8, f9, f10]; refine hK _ _ ?_; clear hK K
           exact Chain.nil (Sub.table (by simp [f5, f6, f7, f8, f9]) (by simp [f10]))
          ·intro b h0 ha hd
           have t4 : b 4 = true := ha 4 (by decide)
           have f6 : b 6 = false := hd 6 (by decide)
           have f7 : b 7 = false := hd 7 (by decide)
           have f8 : b 8 = false := hd 8 (by decide)
           have f9 : b 9 = false := hd 9 (by decide)
           have f10 : b 10 = false := hd 10 (by decide)
           refine Chain.runK [] 1 fun K hK => ?_; simp [h0, t4, f6, f7, f8, f9, f10]; refine hK _ _ ?_; clear hK K
           exact Chain.nil (Sub.table (by simp [t4, f6, f7, f8, f9]) (by simp [f10]))
          ·intro b h0 ha hd
           have t4 : b 4 = true := ha 4 (by decide)
           have t5 : b 5 = true := ha 5 (by decide)
           have f7 : b 7 = false := hd 7 (by decide)
           have f8 : b 8 = false := hd 8 (by decide)
           have f9 : b 9 = false := hd 9 (by decide)
           have f10 : b 10 = false := hd 10 (by decide)
           refine Chain.runK [] 1 fun K hK => ?_; simp [h0, t4, t5, f7, f8, f9, f10, hx29]; refine hK _ _ ?_; clear hK K
           exact Chain.nil (Sub.table (by simp [t4, t5, f7, f8, f9]) (by simp [f10]))
          ·intro b h0 ha hd
           have t4 : b 4 = true := ha 4 (by decide)
           have t5 : b 5 = true := ha 5 (by decide)
           have t6 : b 6 = true := ha 6 (by decide)
           have f8 : b 8 = false := hd 8 (by decide)
           have f9 : b 9 = false := hd 9 (by decide)
           have f10 : b 10 = false := hd 10 (by decide)
           refine Chain.runK [] 1 fun K hK => ?_; simp [h0, t4, t5, t6, f8, f9, f10]; refine hK _ _ ?_; clear hK K
           exact Chain.nil (Sub.table (by simp [t4, t5, t6, f8, f9]) (by simp [f10]))
          ·intro b h0 ha hd
           have t3 : b 3 = true := ha 3 (by decide)
           have t4 : b 4 = true := ha 4 (by decide)
           have t5 : b 5 = true := ha 5 (by decide)
           have t6 : b 6 = true := ha 6 (by decide)
           have t7 : b 7 = true := ha 7 (by decide)
           have f9 : b 9 = false := hd 9 (by decide)
           have f10 : b 10 = false := hd 10 (by decide)
           simp only [h0, t3, t4, t5, t6, t7, f9, f10, if_true, if_false, Bool.false_eq_true]
           refine Chain.callC (d := 108) (ih a0 x29 r30 hr30) (by simp) rfl rfl (by simp <;> rfl) (by simp <;> rfl) ent13 (by simp) (.inl ⟨by simp, by simp⟩) ?_
           exact Chain.nil (by simp [t3, t4, t5, t6, t7, f9, f10]; exact Sub.table (by simp) (by simp))
          ·intro b h0 ha hd
           have t0 : b 0 = true := ha 0 (by decide)
           have t1 : b 1 = true := ha 1 (by decide)
           have t2 : b 2 = true := ha 2 (by decide)
           have t3 : b 3 = true := ha 3 (by decide)
           have t4 : b 4 = true := ha 4 (by decide)
           have t5 : b 5 = true := ha 5 (by decide)
           have t6 : b 6 = true := ha 6 (by decide)
           have t7 : b 7 = true := ha 7 (by decide)
           have t8 : b 8 = true := ha 8 (by decide)
           have f10 : b 10 = false := hd 10 (by decide)
           simp only [h0, t0, t1, t2, t3, t4, t5, t6, t7, t8, f10, if_true, if_false, Bool.false_eq_true]
           refine Chain.callC (d := 109) (p28 N a1.Name r12 r30 r31 hr31) (by simp) rfl rfl (by simp <;> rfl) (by simp <;> rfl) ent28 (by simp) (.inl ⟨by simp, by simp⟩) ?_
           exact Chain.nil (by simp [t0, t1, t2, t3, t4, t5, t6, t7, t8, f10]; exact Sub.table (by simp) (by simp))
          ·intro b h0 ha hd
           have t0 : b 0 = true := ha 0 (by decide)
           have t1 : b 1 = true := ha 1 (by decide)
           have t2 : b 2 = true := ha 2 (by decide)
           have t3 : b 3 = true := ha 3 (by decide)
           have t4 : b 4 = true := ha 4 (by decide)
           have t5 : b 5 = true := ha 5 (by decide)
           have t6 : b 6 = true := ha 6 (by decide)
           have t7 : b 7 = true := ha 7 (by decide)
           have t8 : b 8 = true := ha 8 (by decide)
           have t9 : b 9 = true := ha 9 (by decide)
           refine Chain.runK [] 1 fun K hK => ?_; simp [h0, t0, t1, t2, t3, t4, t5, t6, t7, t8, t9]; refine hK _ _ ?_; clear hK K
           exact Chain.nil (Sub.table (by simp [t0, t1, t2, t3, t4, t5, t6, t7, t8, t9]) (by simp))
          ·intro b hb
           have t0 := hb 0 (by decide)
           have t1 := hb 1 (by decide)
           have t2 := hb 2 (by decide)
           have t3 := hb 3 (by decide)
           have t4 := hb 4 (by decide)
           have t5 := hb 5 (by decide)
           have t6 := hb 6 (by decide)
           have t7 := hb 7 (by decide)
           have t8 := hb 8 (by decide)
           have t9 := hb 9 (by decide)
           have t10 := hb 10 (by decide)
           exact Sub.table (by simp [t0, t1, t2, t3, t4, t5, t6, t7, t8, t9]) (by simp [t10])
          ·skip
           refine AW.ret ?_
           cases h
           exact FinC.ret (by simp) (by simp)

end Go.Proofs.Ytacafkegbgmnoaa
