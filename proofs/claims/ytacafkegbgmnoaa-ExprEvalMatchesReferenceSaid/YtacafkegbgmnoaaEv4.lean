/- Functions of the program as functional programs; the code computes them. -/
import Derived.Test.YtacafkegbgmnoaaEv3
namespace Go.Proofs.Ytacafkegbgmnoaa
open Go.Ab Go.Rp
attribute [-simp] List.all_eq_true Array.all_toList Array.all_eq_true

mutual
/-- stemma/expr.Eval -/
def d12 : (N : Nat) → (a0 : S41) → (a1 : S27) → Option S24
 | 0, _, _ => none
 | N + 1, a0, a1 =>
  if (a1.Kind == 1) then (
   some a1.Value
  ) else
  if (a1.Kind == 2) then (
   (d21 N a0.Columns (fun b0 => d22 N b0 a1)).bind fun r3 =>
   Option.bind (α := Bool) (
    if r3 ≥ 0 then (
     some (decide (r3 < (a0.Row.length : Int)))
    ) else
    some false
   ) fun (v5 : Bool) =>
   if v5 = true then (
    (idx a0.Row r3).bind fun x8 =>
    some x8
   ) else
   some (S24.mk 0 0 (ByteArray.mk #[]))
  ) else
  if (a1.Kind == 3) then (
   Option.bind (α := Bool) (
    if a1.Index ≥ 0 then (
     if a1.Index < (a0.Parameters.length : Int) then (
      (idx a0.Parameters a1.Index).bind fun x18 =>
      some (x18.Kind == a1.Value.Kind)
     ) else
     some false
    ) else
    some false
   ) fun (v15 : Bool) =>
   if v15 = true then (
    (idx a0.Parameters a1.Index).bind fun x21 =>
    some x21
   ) else
   some (S24.mk 0 0 (ByteArray.mk #[]))
  ) else
  if (a1.Kind == 4) then (
   (d23 N a0.VariableNames a1.Name).bind fun r24 =>
   Option.bind (α := Bool) (
    if r24 ≥ 0 then (
     some (decide (r24 < (a0.VariableValues.length : Int)))
    ) else
    some false
   ) fun (v26 : Bool) =>
   if v26 = true then (
    (idx a0.VariableValues r24).bind fun x29 =>
    some x29
   ) else
   some (S24.mk 0 0 (ByteArray.mk #[]))
  ) else
  if (a1.Kind == 5) then (
   (d24 N a0 a1).bind fun r32 =>
   some r32
  ) else
  some (S24.mk 0 0 (ByteArray.mk #[]))
/-- stemma/expr.reckon -/
def d24 : (N : Nat) → (a0 : S41) → (a1 : S27) → Option S24
 | 0, _, _ => none
 | N + 1, a0, a1 =>
  Option.bind (α := List S24) (
   iterN (σ := ((List S24) × Int)) (ρ := List S24) (fun ((l6, v7) : ((List S24) × Int)) =>
    if v7 < (a1.Args.length : Int) then (
     (idx a1.Args v7).bind fun x24 =>
     (d12 N a0 x24).bind fun r26 =>
     (appL 32 l6 [r26]).bind fun _l27 =>
     (chkI (v7 + 1)).bind fun v28 =>
     some (.inl ((l6 ++ [r26]), v28))
    ) else
    some (.inr l6)
   ) N (([] : List S24), 0)
  ) fun (l22 : List S24) =>
  (d35 N ).bind fun r29 =>
  (d23 N r29.1 a1.Name).bind fun r30 =>
  Option.bind (α := Bool) (
   if r30 < 0 then (
    some true
   ) else
   (idx r29.2 r30).bind fun x36 =>
   some (x36 != (l22.length : Int))
  ) fun (v34 : Bool) =>
  if v34 = true then (
   some (S24.mk 0 0 (ByteArray.mk #[]))
  ) else
  if decide (a1.Name = (ByteArray.mk #[105, 115, 32, 110, 117, 108, 108])) = true then (
   (idx l22 0).bind fun x40 =>
   (d15 N (x40.Kind == 0)).bind fun r41 =>
   some r41
  ) else
  if decide (a1.Name = (ByteArray.mk #[105, 102])) = true then (
   (idx l22 0).bind fun x43 =>
   (d14 N x43).bind fun r44 =>
   if r44 = true then (
    (idx l22 1).bind fun x46 =>
    some x46
   ) else
   (idx l22 2).bind fun x47 =>
   some x47
  ) else
  if decide (a1.Name = (ByteArray.mk #[97, 110, 100])) = true then (
   (idx l22 0).bind fun x49 =>
   (idx l22 1).bind fun x50 =>
   (d36 N x49 x50 0).bind fun r51 =>
   some r51
  ) else
  if decide (a1.Name = (ByteArray.mk #[111, 114])) = true then (
   (idx l22 0).bind fun x53 =>
   (idx l22 1).bind fun x54 =>
   (d36 N x53 x54 1).bind fun r55 =>
   some r55
  ) else
  (d37 N l22 (fun b0 => d38 N b0 )).bind fun r56 =>
  if r56 = true then (
   some (S24.mk 0 0 (ByteArray.mk #[]))
  ) else
  (d39 N a1.Name l22).bind fun r58 =>
  some r58
end
set_option maxRecDepth 100000 in
set_option maxHeartbeats 4000000 in
theorem pg12_24 (N : Nat) : (∀ (a0 : S41) (a1 : S27) (r : S24) (_ : d12 N a0 a1 = some r), FunC Try.prog 12 [.agg [.d (.sl (a0.Columns.map cS46)), .d (.sl (a0.Row.map cS24)), .d (.sl (a0.Parameters.map cS24)), .d (.sl (a0.VariableNames.map cS)), .d (.sl (a0.VariableValues.map cS24))], .agg [.d (.lit (.int .i64 a1.Kind)), .d (.lit (.string a1.Name)), .d (.lit (.int .i64 a1.Index)), .d (.lit (.int .i64 a1.Value.Kind)), .d (.lit (.int .i64 a1.Value.Int)), .d (.lit (.string a1.Value.Text)), .d (.sl (a1.Args.map cS27))]] (.agg [.d (.lit (.int .i64 r.Kind)), .d (.lit (.int .i64 r.Int)), .d (.lit (.string r.Text))])) ∧ (∀ (a0 : S41) (a1 : S27) (r : S24) (_ : d24 N a0 a1 = some r), FunC Try.prog 24 [.agg [.d (.sl (a0.Columns.map cS46)), .d (.sl (a0.Row.map cS24)), .d (.sl (a0.Parameters.map cS24)), .d (.sl (a0.VariableNames.map cS)), .d (.sl (a0.VariableValues.map cS24))], .agg [.d (.lit (.int .i64 a1.Kind)), .d (.lit (.string a1.Name)), .d (.lit (.int .i64 a1.Index)), .d (.lit (.int .i64 a1.Value.Kind)), .d (.lit (.int .i64 a1.Value.Int)), .d (.lit (.string a1.Value.Text)), .d (.sl (a1.Args.map cS27))]] (.agg [.d (.lit (.int .i64 r.Kind)), .d (.lit (.int .i64 r.Int)), .d (.lit (.string r.Text))])) := by
 induction N with
 | zero => exact ⟨(by intro a0 a1 r h; cases h), (by intro a0 a1 r h; cases h)⟩
 | succ N ih =>
 obtain ⟨ih12, ih24⟩ := ih
 refine ⟨?_, ?_⟩
 ·intro a0 a1 r h
  unfold d12 at h
  refine FunC.enter 92 [(0, .agg [.d (.sl (a0.Columns.map cS46)), .d (.sl (a0.Row.map cS24)), .d (.sl (a0.Parameters.map cS24)), .d (.sl (a0.VariableNames.map cS)), .d (.sl (a0.VariableValues.map cS24))]), (1, .agg [.d (.lit (.int .i64 a1.Kind)), .d (.lit (.string a1.Name)), .d (.lit (.int .i64 a1.Index)), .d (.lit (.int .i64 a1.Value.Kind)), .d (.lit (.int .i64 a1.Value.Int)), .d (.lit (.string a1.Value.Text)), .d (.sl (a1.Args.map cS27))])] (by simp) Try.func12 rfl (of_decide_eq_true rfl) rfl rfl ?_
  refine AW.seqR ?_
  refine Chain.runK [] 3 fun K hK => ?_; simp; refine hK _ _ ?_; clear hK K
  refine Chain.sub (S' := mk 92 [] [(2, .ptr 2 0 0), (3, .ptr 3 0 0), (4, .ptr 4 0 0)] [(2, some (.box [.d (.sl (a0.Columns.map cS46)), .d (.sl (a0.Row.map cS24)), .d (.sl (a0.Parameters.map cS24)), .d (.sl (a0.VariableNames.map cS)), .d (.sl (a0.VariableValues.map cS24))])), (3, some (.box [.d (.lit (.int .i64 a1.Kind)), .d (.lit (.string a1.Name)), .d (.lit (.int .i64 a1.Index)), .d (.lit (.int .i64 a1.Value.Kind)), .d (.lit (.int .i64 a1.Value.Int)), .d (.lit (.string a1.Value.Text)), .d (.sl (a1.Args.map cS27))])), (4, some (.box [.d (.lit (.int .i64 0)), .d (.lit (.int .i64 0)), .d (.lit (.string (ByteArray.mk #[])))]))]) Sub.tt ?_
  refine Chain.nil ?_
  refine AW.seq ?_
  refine AW.seqR ?_
  refine Chain.runK [] 2 fun K hK => ?_; simp; refine hK _ _ ?_; clear hK K
  refine Chain.sub (S' := mk 92 [] [(2, .ptr 2 0 0), (3, .ptr 3 0 0), (4, .ptr 4 0 0), (8, .d (.lit (.int .i64 a1.Kind)))] [(2, some (.box [.d (.sl (a0.Columns.map cS46)), .d (.sl (a0.Row.map cS24)), .d (.sl (a0.Parameters.map cS24)), .d (.sl (a0.VariableNames.map cS)), .d (.sl (a0.VariableValues.map cS24))])), (3, some (.box [.d (.lit (.int .i64 a1.Kind)), .d (.lit (.string a1.Name)), .d (.lit (.int .i64 a1.Index)), .d (.lit (.int .i64 a1.Value.Kind)), .d (.lit (.int .i64 a1.Value.Int)), .d (.lit (.string a1.Value.Text)), .d (.sl (a1.Args.map cS27))])), (4, some (.box [.d (.lit (.int .i64 0)), .d (.lit (.int .i64 0)), .d (.lit (.string (ByteArray.mk #[])))]))]) Sub.tt ?_
  refine Chain.nil ?_
  refine AW.block ?_
  refine AW.seqR ?_
  refine Chain.runK [] 2 fun K hK => ?_; simp; refine hK _ _ ?_; clear hK K
  refine Chain.sub (S' := mk 92 [] [(2, .ptr 2 0 0), (3, .ptr 3 0 0), (4, .ptr 4 0 0), (8, .d (.lit (.int .i64 a1.Kind))), (9, .d (.lit (.bool (a1.Kind == 1))))] [(2, some (.box [.d (.sl (a0.Columns.map cS46)), .d (.sl (a0.Row.map cS24)), .d (.sl (a0.Parameters.map cS24)), .d (.sl (a0.VariableNames.map cS)), .d (.sl (a0.VariableValues.map cS24))])), (3, some (.box [.d (.lit (.int .i64 a1.Kind)), .d (.lit (.string a1.Name)), .d (.lit (.int .i64 a1.Index)), .d (.lit (.int .i64 a1.Value.Kind)), .d (.lit (.int .i64 a1.Value.Int)), .d (.lit (.string a1.Value.Text)), .d (.sl (a1.Args.map cS27))])), (4, some (.box [.d (.lit (.int .i64 0)), .d (.lit (.int .i64 0)), .d (.lit (.string (ByteArray.mk #[])))]))]) Sub.tt ?_
  refine Chain.nil ?_
  replace h := isome h; rcases h with ⟨c1, h⟩ | ⟨c1, h⟩
  ·have c1_ : (a1.Kind == 1) = true := c1
   refine AW.condT (b := (a1.Kind == 1)) rfl c1_ ?_
   refine AW.sub (Sub.bool 9 (b := (a1.Kind == 1)) rfl c1_) ?_
   refine AW.sub (S' := mk 92 [] [(2, .ptr 2 0 0), (3, .ptr 3 0 0), (4, .ptr 4 0 0), (8, .d (.lit (.int .i64 a1.Kind))), (9, .d (.lit (.bool true)))] [(2, some (.box [.d (.sl (a0.Columns.map cS46)), .d (.sl (a0.Row.map cS24)), .d (.sl (a0.Parameters.map cS24)), .d (.sl (a0.VariableNames.map cS)), .d (.sl (a0.VariableValues.map cS24))])), (3, some (.box [.d (.lit (.int .i64 a1.Kind)), .d (.lit (.string a1.Name)), .d (.lit (.int .i64 a1.Index)), .d (.lit (.int .i64 a1.Value.Kind)), .d (.lit (.int .i64 a1.Value.Int)), .d (.lit (.string a1.Value.Text)), .d (.sl (a1.Args.map cS27))])), (4, some (.box [.d (.lit (.int .i64 0)), .d (.lit (.int .i64 0)), .d (.lit (.string (ByteArray.mk #[])))]))]) (by simp; exact Sub.table (by simp) (by simp)) ?_
   refine AW.seqR ?_
   refine Chain.runK [] 3 fun K hK => ?_; simp; refine hK _ _ ?_; clear hK K
   refine Chain.sub (S' := mk 92 [] [(4, .ptr 4 0 0)] [(4, some (.box [.d (.lit (.int .i64 a1.Value.Kind)), .d (.lit (.int .i64 a1.Value.Int)), .d (.lit (.string a1.Value.Text))]))]) Sub.tt ?_
   refine Chain.nil ?_
   refine AW.ret ?_
   cases h
   refine blockQ.ret ?_
   refine thenQ_pass (by simp) ?_
   exact FinC.ret (by simp) (by simp)
  ·have c1_ : (a1.Kind == 1) = false := Bool.eq_false_iff.2 c1
   refine AW.condF (b := (a1.Kind == 1)) rfl c1_ ?_
   refine AW.sub (Sub.bool 9 (b := (a1.Kind == 1)) rfl c1_) ?_
   refine AW.sub (S' := mk 92 [] [(2, .ptr 2 0 0), (3, .ptr 3 0 0), (4, .ptr 4 0 0), (8, .d (.lit (.int .i64 a1.Kind))), (9, .d (.lit (.bool false)))] [(2, some (.box [.d (.sl (a0.Columns.map cS46)), .d (.sl (a0.Row.map cS24)), .d (.sl (a0.Parameters.map cS24)), .d (.sl (a0.VariableNames.map cS)), .d (.sl (a0.VariableValues.map cS24))])), (3, some (.box [.d (.lit (.int .i64 a1.Kind)), .d (.lit (.string a1.Name)), .d (.lit (.int .i64 a1.Index)), .d (.lit (.int .i64 a1.Value.Kind)), .d (.lit (.int .i64 a1.Value.Int)), .d (.lit (.string a1.Value.Text)), .d (.sl (a1.Args.map cS27))])), (4, some (.box [.d (.lit (.int .i64 0)), .d (.lit (.int .i64 0)), .d (.lit (.string (ByteArray.mk #[])))]))]) (by simp; exact Sub.table (by simp) (by simp)) ?_
   refine AW.seqR ?_
   refine Chain.runK [] 2 fun K hK => ?_; simp; refine hK _ _ ?_; clear hK K
   refine Chain.sub (S' := mk 92 [] [(2, .ptr 2 0 0), (3, .ptr 3 0 0), (4, .ptr 4 0 0), (8, .d (.lit (.int .i64 a1.Kind))), (13, .d (.lit (.bool (a1.Kind == 2))))] [(2, some (.box [.d (.sl (a0.Columns.map cS46)), .d (.sl (a0.Row.map cS24)), .d (.sl (a0.Parameters.map cS24)), .d (.sl (a0.VariableNames.map cS)), .d (.sl (a0.VariableValues.map cS24))])), (3, some (.box [.d (.lit (.int .i64 a1.Kind)), .d (.lit (.string a1.Name)), .d (.lit (.int .i64 a1.Index)), .d (.lit (.int .i64 a1.Value.Kind)), .d (.lit (.int .i64 a1.Value.Int)), .d (.lit (.string a1.Value.Text)), .d (.sl (a1.Args.map cS27))])), (4, some (.box [.d (.lit (.int .i64 0)), .d (.lit (.int .i64 0)), .d (.lit (.string (ByteArray.mk #[])))]))]) Sub.tt ?_
   refine Chain.nil ?_
   replace h := isome h; rcases h with ⟨c2, h⟩ | ⟨c2, h⟩
   ·have c2_ : (a1.Kind == 2) = true := c2
    refine AW.condT (b := (a1.Kind == 2)) rfl c2_ ?_
    refine AW.sub (Sub.bool 13 (b := (a1.Kind == 2)) rfl c2_) ?_
    refine AW.sub (S' := mk 92 [] [(2, .ptr 2 0 0), (3, .ptr 3 0 0), (4, .ptr 4 0 0), (8, .d (.lit (.int .i64 a1.Kind))), (13, .d (.lit (.bool true)))] [(2, some (.box [.d (.sl (a0.Columns.map cS46)), .d (.sl (a0.Row.map cS24)), .d (.sl (a0.Parameters.map cS24)), .d (.sl (a0.VariableNames.map cS)), .d (.sl (a0.VariableValues.map cS24))])), (3, some (.box [.d (.lit (.int .i64 a1.Kind)), .d (.lit (.string a1.Name)), .d (.lit (.int .i64 a1.Index)), .d (.lit (.int .i64 a1.Value.Kind)), .d (.lit (.int .i64 a1.Value.Int)), .d (.lit (.string a1.Value.Text)), .d (.sl (a1.Args.map cS27))])), (4, some (.box [.d (.lit (.int .i64 0)), .d (.lit (.int .i64 0)), .d (.lit (.string (ByteArray.mk #[])))]))]) (by simp; exact Sub.table (by simp) (by simp)) ?_
    refine AW.seqR ?_
    refine Chain.runK [] 3 fun K hK => ?_; simp; refine hK _ _ ?_; clear hK K
    refine Chain.sub (S' := mk 92 [] [(2, .ptr 2 0 0), (4, .ptr 4 0 0), (16, .d (.sl (a0.Columns.map cS46))), (17, .fn (.func 22) [.ptr 3 0 0])] [(2, some (.box [.d (.sl (a0.Columns.map cS46)), .d (.sl (a0.Row.map cS24)), .d (.sl (a0.Parameters.map cS24)), .d (.sl (a0.VariableNames.map cS)), .d (.sl (a0.VariableValues.map cS24))])), (3, some (.box [.d (.lit (.int .i64 a1.Kind)), .d (.lit (.string a1.Name)), .d (.lit (.int .i64 a1.Index)), .d (.lit (.int .i64 a1.Value.Kind)), .d (.lit (.int .i64 a1.Value.Int)), .d (.lit (.string a1.Value.Text)), .d (.sl (a1.Args.map cS27))])), (4, some (.box [.d (.lit (.int .i64 0)), .d (.lit (.int .i64 0)), .d (.lit (.string (ByteArray.mk #[])))]))]) Sub.tt ?_
    replace h := bsome h; obtain ⟨r3, hr3, h⟩ := h
    refine Chain.callL (d := 18) (p21 N a0.Columns 22 [.pim [.lit (.int .i64 a1.Kind), .lit (.string a1.Name), .lit (.int .i64 a1.Index), .lit (.int .i64 a1.Value.Kind), .lit (.int .i64 a1.Value.Int), .lit (.string a1.Value.Text), .sl (a1.Args.map cS27)]] (fun b0 => d22 N b0 a1) ent22 (fun b0 r h => p22 N b0 a1 r h) r3 hr3) (by simp) rfl rfl (by simp <;> rfl) (by simp <;> rfl) ent21 (by simp <;> rfl) ?_
    refine Chain.sub (S' := mk 92 [] [(2, .ptr 2 0 0), (4, .ptr 4 0 0), (16, .d (.sl (a0.Columns.map cS46))), (17, .fn (.func 22) [.ptr 3 0 0]), (18, .d (.lit (.int .i64 r3)))] [(2, some (.box [.d (.sl (a0.Columns.map cS46)), .d (.sl (a0.Row.map cS24)), .d (.sl (a0.Parameters.map cS24)), .d (.sl (a0.VariableNames.map cS)), .d (.sl (a0.VariableValues.map cS24))])), (3, some (.box [.d (.lit (.int .i64 a1.Kind)), .d (.lit (.string a1.Name)), .d (.lit (.int .i64 a1.Index)), .d (.lit (.int .i64 a1.Value.Kind)), .d (.lit (.int .i64 a1.Value.Int)), .d (.lit (.string a1.Value.Text)), .d (.sl (a1.Args.map cS27))])), (4, some (.box [.d (.lit (.int .i64 0)), .d (.lit (.int .i64 0)), .d (.lit (.string (ByteArray.mk #[])))]))]) (by simp; exact Sub.table (by simp) (by simp)) ?_
    refine Chain.runK [] 1 fun K hK => ?_; simp; refine hK _ _ ?_; clear hK K
    refine Chain.sub (S' := mk 92 [] [(2, .ptr 2 0 0), (4, .ptr 4 0 0), (5, .d (.lit (.int .i64 r3)))] [(2, some (.box [.d (.sl (a0.Columns.map cS46)), .d (.sl (a0.Row.map cS24)), .d (.sl (a0.Parameters.map cS24)), .d (.sl (a0.VariableNames.map cS)), .d (.sl (a0.VariableValues.map cS24))])), (4, some (.box [.d (.lit (.int .i64 0)), .d (.lit (.int .i64 0)), .d (.lit (.string (ByteArray.mk #[])))]))]) Sub.tt ?_
    refine Chain.nil ?_
    replace h := bsome h; obtain ⟨v5, hj, h⟩ := h
    refine AW.cutR (mk 92 [] [(2, .ptr 2 0 0), (4, .ptr 4 0 0), (5, .d (.lit (.int .i64 r3))), (27, .d (.lit (.bool v5)))] [(2, some (.box [.d (.sl (a0.Columns.map cS46)), .d (.sl (a0.Row.map cS24)), .d (.sl (a0.Parameters.map cS24)), .d (.sl (a0.VariableNames.map cS)), .d (.sl (a0.VariableValues.map cS24))])), (4, some (.box [.d (.lit (.int .i64 0)), .d (.lit (.int .i64 0)), .d (.lit (.string (ByteArray.mk #[])))]))]) ?_ ?_
    ·clear h; have h := hj; clear hj
     refine Chain.runK [] 3 fun K hK => ?_; simp; refine hK _ _ ?_; clear hK K
     refine Chain.sub (S' := mk 92 [] [(2, .ptr 2 0 0), (4, .ptr 4 0 0), (5, .d (.lit (.int .i64 r3))), (21, .d (.lit (.bool (decide (r3 ≥ 0)))))] [(2, some (.box [.d (.sl (a0.Columns.map cS46)), .d (.sl (a0.Row.map cS24)), .d (.sl (a0.Parameters.map cS24)), .d (.sl (a0.VariableNames.map cS)), .d (.sl (a0.VariableValues.map cS24))])), (4, some (.box [.d (.lit (.int .i64 0)), .d (.lit (.int .i64 0)), .d (.lit (.string (ByteArray.mk #[])))]))]) Sub.tt ?_
     replace h := isome h; rcases h with ⟨c6, h⟩ | ⟨c6, h⟩
     ·have c6_ : decide (r3 ≥ 0) = true := decide_eq_true c6
      refine Chain.sub (Sub.bool 21 (b := decide (r3 ≥ 0)) rfl c6_) ?_
      refine Chain.sub (S' := mk 92 [] [(2, .ptr 2 0 0), (4, .ptr 4 0 0), (5, .d (.lit (.int .i64 r3))), (21, .d (.lit (.bool true)))] [(2, some (.box [.d (.sl (a0.Columns.map cS46)), .d (.sl (a0.Row.map cS24)), .d (.sl (a0.Parameters.map cS24)), .d (.sl (a0.VariableNames.map cS)), .d (.sl (a0.VariableValues.map cS24))])), (4, some (.box [.d (.lit (.int .i64 0)), .d (.lit (.int .i64 0)), .d (.lit (.string (ByteArray.mk #[])))]))]) (by simp; exact Sub.table (by simp) (by simp)) ?_
      refine Chain.runK [] 6 fun K hK => ?_; simp; refine hK _ _ ?_; clear hK K
      refine Chain.sub (S' := mk 92 [] [(2, .ptr 2 0 0), (4, .ptr 4 0 0), (5, .d (.lit (.int .i64 r3))), (27, .d (.lit (.bool (decide (r3 < (a0.Row.length : Int))))))] [(2, some (.box [.d (.sl (a0.Columns.map cS46)), .d (.sl (a0.Row.map cS24)), .d (.sl (a0.Parameters.map cS24)), .d (.sl (a0.VariableNames.map cS)), .d (.sl (a0.VariableValues.map cS24))])), (4, some (.box [.d (.lit (.int .i64 0)), .d (.lit (.int .i64 0)), .d (.lit (.string (ByteArray.mk #[])))]))]) Sub.tt ?_
      cases h
      exact Chain.nil Sub.tt
     ·have c6_ : decide (r3 ≥ 0) = false := decide_eq_false c6
      refine Chain.sub (Sub.bool 21 (b := decide (r3 ≥ 0)) rfl c6_) ?_
      refine Chain.sub (S' := mk 92 [] [(2, .ptr 2 0 0), (4, .ptr 4 0 0), (5, .d (.lit (.int .i64 r3))), (21, .d (.lit (.bool false)))] [(2, some (.box [.d (.sl (a0.Columns.map cS46)), .d (.sl (a0.Row.map cS24)), .d (.sl (a0.Parameters.map cS24)), .d (.sl (a0.VariableNames.map cS)), .d (.sl (a0.VariableValues.map cS24))])), (4, some (.box [.d (.lit (.int .i64 0)), .d (.lit (.int .i64 0)), .d (.lit (.string (ByteArray.mk #[])))]))]) (by simp; exact Sub.table (by simp) (by simp)) ?_
      refine Chain.runK [] 6 fun K hK => ?_; simp; refine hK _ _ ?_; clear hK K
      refine Chain.sub (S' := mk 92 [] [(2, .ptr 2 0 0), (4, .ptr 4 0 0), (5, .d (.lit (.int .i64 r3))), (27, .d (.lit (.bool false)))] [(2, some (.box [.d (.sl (a0.Columns.map cS46)), .d (.sl (a0.Row.map cS24)), .d (.sl (a0.Parameters.map cS24)), .d (.sl (a0.VariableNames.map cS)), .d (.sl (a0.VariableValues.map cS24))])), (4, some (.box [.d (.lit (.int .i64 0)), .d (.lit (.int .i64 0)), .d (.lit (.string (ByteArray.mk #[])))]))]) Sub.tt ?_
      cases h
      exact Chain.nil Sub.tt
    ·clear hj
     replace h := isome h; rcases h with ⟨c7, h⟩ | ⟨c7, h⟩
     ·have c7_ : v5 = true := c7
      refine AW.condT (b := v5) rfl c7_ ?_
      refine AW.sub (Sub.bool 27 (b := v5) rfl c7_) ?_
      refine AW.sub (S' := mk 92 [] [(2, .ptr 2 0 0), (4, .ptr 4 0 0), (5, .d (.lit (.int .i64 r3))), (27, .d (.lit (.bool true)))] [(2, some (.box [.d (.sl (a0.Columns.map cS46)), .d (.sl (a0.Row.map cS24)), .d (.sl (a0.Parameters.map cS24)), .d (.sl (a0.VariableNames.map cS)), .d (.sl (a0.VariableValues.map cS24))])), (4, some (.box [.d (.lit (.int .i64 0)), .d (.lit (.int .i64 0)), .d (.lit (.string (ByteArray.mk #[])))]))]) (by simp; exact Sub.table (by simp) (by simp)) ?_
      refine AW.seqR ?_
      replace h := bsome h; obtain ⟨x8, hx8, h⟩ := h
      obtain ⟨k9, hx8k, hx8, hx8a, hx8b⟩ := idx_some hx8
      refine Chain.runK [] 6 fun K hK => ?_; simp [hx8, hx8k, hx8a]; refine hK _ _ ?_; clear hK K
      refine Chain.sub (S' := mk 92 [] [(4, .ptr 4 0 0)] [(4, some (.box [.d (.lit (.int .i64 x8.Kind)), .d (.lit (.int .i64 x8.Int)), .d (.lit (.string x8.Text))]))]) Sub.tt ?_
      refine Chain.nil ?_
      refine AW.ret ?_
      cases h
      refine blockQ.ret ?_
      refine thenQ_pass (by simp) ?_
      exact FinC.ret (by simp) (by simp)
     ·have c7_ : v5 = false := Bool.eq_false_iff.2 c7
      refine AW.condF (b := v5) rfl c7_ ?_
      refine AW.sub (Sub.bool 27 (b := v5) rfl c7_) ?_
      refine AW.sub (S' := mk 92 [] [(2, .ptr 2 0 0), (4, .ptr 4 0 0), (5, .d (.lit (.int .i64 r3))), (27, .d (.lit (.bool false)))] [(2, some (.box [.d (.sl (a0.Columns.map cS46)), .d (.sl (a0.Row.map cS24)), .d (.sl (a0.Parameters.map cS24)), .d (.sl (a0.VariableNames.map cS)), .d (.sl (a0.VariableValues.map cS24))])), (4, some (.box [.d (.lit (.int .i64 0)), .d (.lit (.int .i64 0)), .d (.lit (.string (ByteArray.mk #[])))]))]) (by simp; exact Sub.table (by simp) (by simp)) ?_
      refine AW.skip ?_
      refine blockQ.normal ?_
      refine thenQ_normal ?_
      refine AW.seqR ?_
      refine Chain.runK [] 2 fun K hK => ?_; simp; refine hK _ _ ?_; clear hK K
      refine Chain.sub (S' := mk 92 [] [(4, .ptr 4 0 0)] [(4, some (.box [.d (.lit (.int .i64 0)), .d (.lit (.int .i64 0)), .d (.lit (.string (ByteArray.mk #[])))]))]) Sub.tt ?_
      refine Chain.nil ?_
      refine AW.ret ?_
      cases h
      exact FinC.ret (by simp) (by simp)
   ·have c2_ : (a1.Kind == 2) = false := Bool.eq_false_iff.2 c2
    refine AW.condF (b := (a1.Kind == 2)) rfl c2_ ?_
    refine AW.sub (Sub.bool 13 (b := (a1.Kind == 2)) rfl c2_) ?_
    refine AW.sub (S' := mk 92 [] [(2, .ptr 2 0 0), (3, .ptr 3 0 0), (4, .ptr 4 0 0), (8, .d (.lit (.int .i64 a1.Kind))), (13, .d (.lit (.bool false)))] [(2, some (.box [.d (.sl (a0.Columns.map cS46)), .d (.sl (a0.Row.map cS24)), .d (.sl (a0.Parameters.map cS24)), .d (.sl (a0.VariableNames.map cS)), .d (.sl (a0.VariableValues.map cS24))])), (3, some (.box [.d (.lit (.int .i64 a1.Kind)), .d (.lit (.string a1.Name)), .d (.lit (.int .i64 a1.Index)), .d (.lit (.int .i64 a1.Value.Kind)), .d (.lit (.int .i64 a1.Value.Int)), .d (.lit (.string a1.Value.Text)), .d (.sl (a1.Args.map cS27))])), (4, some (.box [.d (.lit (.int .i64 0)), .d (.lit (.int .i64 0)), .d (.lit (.string (ByteArray.mk #[])))]))]) (by simp; exact Sub.table (by simp) (by simp)) ?_
    refine AW.seqR ?_
    refine Chain.runK [] 2 fun K hK => ?_; simp; refine hK _ _ ?_; clear hK K
    refine Chain.sub (S' := mk 92 [] [(2, .ptr 2 0 0), (3, .ptr 3 0 0), (4, .ptr 4 0 0), (8, .d (.lit (.int .i64 a1.Kind))), (33, .d (.lit (.bool (a1.Kind == 3))))] [(2, some (.box [.d (.sl (a0.Columns.map cS46)), .d (.sl (a0.Row.map cS24)), .d (.sl (a0.Parameters.map cS24)), .d (.sl (a0.VariableNames.map cS)), .d (.sl (a0.VariableValues.map cS24))])), (3, some (.box [.d (.lit (.int .i64 a1.Kind)), .d (.lit (.string a1.Name)), .d (.lit (.int .i64 a1.Index)), .d (.lit (.int .i64 a1.Value.Kind)), .d (.lit (.int .i64 a1.Value.Int)), .d (.lit (.string a1.Value.Text)), .d (.sl (a1.Args.map cS27))])), (4, some (.box [.d (.lit (.int .i64 0)), .d (.lit (.int .i64 0)), .d (.lit (.string (ByteArray.mk #[])))]))]) Sub.tt ?_
    refine Chain.nil ?_
    replace h := isome h; rcases h with ⟨c10, h⟩ | ⟨c10, h⟩
    ·have c10_ : (a1.Kind == 3) = true := c10
     refine AW.condT (b := (a1.Kind == 3)) rfl c10_ ?_
     refine AW.sub (Sub.bool 33 (b := (a1.Kind == 3)) rfl c10_) ?_
     refine AW.sub (S' := mk 92 [] [(2, .ptr 2 0 0), (3, .ptr 3 0 0), (4, .ptr 4 0 0), (8, .d (.lit (.int .i64 a1.Kind))), (33, .d (.lit (.bool true)))] [(2, some (.box [.d (.sl (a0.Columns.map cS46)), .d (.sl (a0.Row.map cS24)), .d (.sl (a0.Parameters.map cS24)), .d (.sl (a0.VariableNames.map cS)), .d (.sl (a0.VariableValues.map cS24))])), (3, some (.box [.d (.lit (.int .i64 a1.Kind)), .d (.lit (.string a1.Name)), .d (.lit (.int .i64 a1.Index)), .d (.lit (.int .i64 a1.Value.Kind)), .d (.lit (.int .i64 a1.Value.Int)), .d (.lit (.string a1.Value.Text)), .d (.sl (a1.Args.map cS27))])), (4, some (.box [.d (.lit (.int .i64 0)), .d (.lit (.int .i64 0)), .d (.lit (.string (ByteArray.mk #[])))]))]) (by simp; exact Sub.table (by simp) (by simp)) ?_
     replace h := bsome h; obtain ⟨v15, hj, h⟩ := h
     refine AW.cutQ (by kernel_rfl) (by kernel_rfl) (mk 92 [] [(2, .ptr 2 0 0), (3, .ptr 3 0 0), (4, .ptr 4 0 0), (58, .d (.lit (.bool v15)))] [(2, some (.box [.d (.sl (a0.Columns.map cS46)), .d (.sl (a0.Row.map cS24)), .d (.sl (a0.Parameters.map cS24)), .d (.sl (a0.VariableNames.map cS)), .d (.sl (a0.VariableValues.map cS24))])), (3, some (.box [.d (.lit (.int .i64 a1.Kind)), .d (.lit (.string a1.Name)), .d (.lit (.int .i64 a1.Index)), .d (.lit (.int .i64 a1.Value.Kind)), .d (.lit (.int .i64 a1.Value.Int)), .d (.lit (.string a1.Value.Text)), .d (.sl (a1.Args.map cS27))])), (4, some (.box [.d (.lit (.int .i64 0)), .d (.lit (.int .i64 0)), .d (.lit (.string (ByteArray.mk #[])))]))]) ?_ ?_
     ·clear h; have h := hj; clear hj
      refine Chain.runQ 4 fun K hK => ?_; simp; refine hK _ _ ?_; clear hK K
      refine Chain.sub (S' := mk 92 [] [(2, .ptr 2 0 0), (3, .ptr 3 0 0), (4, .ptr 4 0 0), (38, .d (.lit (.bool (decide (a1.Index ≥ 0)))))] [(2, some (.box [.d (.sl (a0.Columns.map cS46)), .d (.sl (a0.Row.map cS24)), .d (.sl (a0.Parameters.map cS24)), .d (.sl (a0.VariableNames.map cS)), .d (.sl (a0.VariableValues.map cS24))])), (3, some (.box [.d (.lit (.int .i64 a1.Kind)), .d (.lit (.string a1.Name)), .d (.lit (.int .i64 a1.Index)), .d (.lit (.int .i64 a1.Value.Kind)), .d (.lit (.int .i64 a1.Value.Int)), .d (.lit (.string a1.Value.Text)), .d (.sl (a1.Args.map cS27))])), (4, some (.box [.d (.lit (.int .i64 0)), .d (.lit (.int .i64 0)), .d (.lit (.string (ByteArray.mk #[])))]))]) Sub.tt ?_
      replace h := isome h; rcases h with ⟨c16, h⟩ | ⟨c16, h⟩
      ·have c16_ : decide (a1.Index ≥ 0) = true := decide_eq_true c16
       refine Chain.sub (Sub.bool 38 (b := decide (a1.Index ≥ 0)) rfl c16_) ?_
       refine Chain.sub (S' := mk 92 [] [(2, .ptr 2 0 0), (3, .ptr 3 0 0), (4, .ptr 4 0 0), (38, .d (.lit (.bool true)))] [(2, some (.box [.d (.sl (a0.Columns.map cS46)), .d (.sl (a0.Row.map cS24)), .d (.sl (a0.Parameters.map cS24)), .d (.sl (a0.VariableNames.map cS)), .d (.sl (a0.VariableValues.map cS24))])), (3, some (.box [.d (.lit (.int .i64 a1.Kind)), .d (.lit (.string a1.Name)), .d (.lit (.int .i64 a1.Index)), .d (.lit (.int .i64 a1.Value.Kind)), .d (.lit (.int .i64 a1.Value.Int)), .d (.lit (.string a1.Value.Text)), .d (.sl (a1.Args.map cS27))])), (4, some (.box [.d (.lit (.int .i64 0)), .d (.lit (.int .i64 0)), .d (.lit (.string (ByteArray.mk #[])))]))]) (by simp; exact Sub.table (by simp) (by simp)) ?_
       refine Chain.runQ 8 fun K hK => ?_; simp; refine hK _ _ ?_; clear hK K
       refine Chain.sub (S' := mk 92 [] [(2, .ptr 2 0 0), (3, .ptr 3 0 0), (4, .ptr 4 0 0), (46, .d (.lit (.bool (decide (a1.Index < (a0.Parameters.length : Int))))))] [(2, some (.box [.d (.sl (a0.Columns.map cS46)), .d (.sl (a0.Row.map cS24)), .d (.sl (a0.Parameters.map cS24)), .d (.sl (a0.VariableNames.map cS)), .d (.sl (a0.VariableValues.map cS24))])), (3, some (.box [.d (.lit (.int .i64 a1.Kind)), .d (.lit (.string a1.Name)), .d (.lit (.int .i64 a1.Index)), .d (.lit (.int .i64 a1.Value.Kind)), .d (.lit (.int .i64 a1.Value.Int)), .d (.lit (.string a1.Value.Text)), .d (.sl (a1.Args.map cS27))])), (4, some (.box [.d (.lit (.int .i64 0)), .d (.lit (.int .i64 0)), .d (.lit (.string (ByteArray.mk #[])))]))]) Sub.tt ?_
       replace h := isome h; rcases h with ⟨c17, h⟩ | ⟨c17, h⟩
       ·have c17_ : decide (a1.Index < (a0.Parameters.length : Int)) = true := decide_eq_true c17
        refine Chain.sub (Sub.bool 46 (b := decide (a1.Index < (a0.Parameters.length : Int))) rfl c17_) ?_
        refine Chain.sub (S' := mk 92 [] [(2, .ptr 2 0 0), (3, .ptr 3 0 0), (4, .ptr 4 0 0), (46, .d (.lit (.bool true)))] [(2, some (.box [.d (.sl (a0.Columns.map cS46)), .d (.sl (a0.Row.map cS24)), .d (.sl (a0.Parameters.map cS24)), .d (.sl (a0.VariableNames.map cS)), .d (.sl (a0.VariableValues.map cS24))])), (3, some (.box [.d (.lit (.int .i64 a1.Kind)), .d (.lit (.string a1.Name)), .d (.lit (.int .i64 a1.Index)), .d (.lit (.int .i64 a1.Value.Kind)), .d (.lit (.int .i64 a1.Value.Int)), .d (.lit (.string a1.Value.Text)), .d (.sl (a1.Args.map cS27))])), (4, some (.box [.d (.lit (.int .i64 0)), .d (.lit (.int .i64 0)), .d (.lit (.string (ByteArray.mk #[])))]))]) (by simp; exact Sub.table (by simp) (by simp)) ?_
        replace h := bsome h; obtain ⟨x18, hx18, h⟩ := h
        obtain ⟨k19, hx18k, hx18, hx18a, hx18b⟩ := idx_some hx18
        refine Chain.runQ 12 fun K hK => ?_; simp [hx18, hx18k, hx18a]; refine hK _ _ ?_; clear hK K
        refine Chain.sub (S' := mk 92 [] [(2, .ptr 2 0 0), (3, .ptr 3 0 0), (4, .ptr 4 0 0), (58, .d (.lit (.bool (x18.Kind == a1.Value.Kind))))] [(2, some (.box [.d (.sl (a0.Columns.map cS46)), .d (.sl (a0.Row.map cS24)), .d (.sl (a0.Parameters.map cS24)), .d (.sl (a0.VariableNames.map cS)), .d (.sl (a0.VariableValues.map cS24))])), (3, some (.box [.d (.lit (.int .i64 a1.Kind)), .d (.lit (.string a1.Name)), .d (.lit (.int .i64 a1.Index)), .d (.lit (.int .i64 a1.Value.Kind)), .d (.lit (.int .i64 a1.Value.Int)), .d (.lit (.string a1.Value.Text)), .d (.sl (a1.Args.map cS27))])), (4, some (.box [.d (.lit (.int .i64 0)), .d (.lit (.int .i64 0)), .d (.lit (.string (ByteArray.mk #[])))]))]) Sub.tt ?_
        cases h
        exact Chain.nil Sub.tt
       ·have c17_ : decide (a1.Index < (a0.Parameters.length : Int)) = false := decide_eq_false c17
        refine Chain.sub (Sub.bool 46 (b := decide (a1.Index < (a0.Parameters.length : Int))) rfl c17_) ?_
        refine Chain.sub (S' := mk 92 [] [(2, .ptr 2 0 0), (3, .ptr 3 0 0), (4, .ptr 4 0 0), (46, .d (.lit (.bool false)))] [(2, some (.box [.d (.sl (a0.Columns.map cS46)), .d (.sl (a0.Row.map cS24)), .d (.sl (a0.Parameters.map cS24)), .d (.sl (a0.VariableNames.map cS)), .d (.sl (a0.VariableValues.map cS24))])), (3, some (.box [.d (.lit (.int .i64 a1.Kind)), .d (.lit (.string a1.Name)), .d (.lit (.int .i64 a1.Index)), .d (.lit (.int .i64 a1.Value.Kind)), .d (.lit (.int .i64 a1.Value.Int)), .d (.lit (.string a1.Value.Text)), .d (.sl (a1.Args.map cS27))])), (4, some (.box [.d (.lit (.int .i64 0)), .d (.lit (.int .i64 0)), .d (.lit (.string (ByteArray.mk #[])))]))]) (by simp; exact Sub.table (by simp) (by simp)) ?_
        refine Chain.runQ 12 fun K hK => ?_; simp; refine hK _ _ ?_; clear hK K
        refine Chain.sub (S' := mk 92 [] [(2, .ptr 2 0 0), (3, .ptr 3 0 0), (4, .ptr 4 0 0), (58, .d (.lit (.bool false)))] [(2, some (.box [.d (.sl (a0.Columns.map cS46)), .d (.sl (a0.Row.map cS24)), .d (.sl (a0.Parameters.map cS24)), .d (.sl (a0.VariableNames.map cS)), .d (.sl (a0.VariableValues.map cS24))])), (3, some (.box [.d (.lit (.int .i64 a1.Kind)), .d (.lit (.string a1.Name)), .d (.lit (.int .i64 a1.Index)), .d (.lit (.int .i64 a1.Value.Kind)), .d (.lit (.int .i64 a1.Value.Int)), .d (.lit (.string a1.Value.Text)), .d (.sl (a1.Args.map cS27))])), (4, some (.box [.d (.lit (.int .i64 0)), .d (.lit (.int .i64 0)), .d (.lit (.string (ByteArray.mk #[])))]))]) Sub.tt ?_
        cases h
        exact Chain.nil Sub.tt
      ·have c16_ : decide (a1.Index ≥ 0) = false := decide_eq_false c16
       refine Chain.sub (Sub.bool 38 (b := decide (a1.Index ≥ 0)) rfl c16_) ?_
       refine Chain.sub (S' := mk 92 [] [(2, .ptr 2 0 0), (3, .ptr 3 0 0), (4, .ptr 4 0 0), (38, .d (.lit (.bool false)))] [(2, some (.box [.d (.sl (a0.Columns.map cS46)), .d (.sl (a0.Row.map cS24)), .d (.sl (a0.Parameters.map cS24)), .d (.sl (a0.VariableNames.map cS)), .d (.sl (a0.VariableValues.map cS24))])), (3, some (.box [.d (.lit (.int .i64 a1.Kind)), .d (.lit (.string a1.Name)), .d (.lit (.int .i64 a1.Index)), .d (.lit (.int .i64 a1.Value.Kind)), .d (.lit (.int .i64 a1.Value.Int)), .d (.lit (.string a1.Value.Text)), .d (.sl (a1.Args.map cS27))])), (4, some (.box [.d (.lit (.int .i64 0)), .d (.lit (.int .i64 0)), .d (.lit (.string (ByteArray.mk #[])))]))]) (by simp; exact Sub.table (by simp) (by simp)) ?_
       refine Chain.runQ 20 fun K hK => ?_; simp; refine hK _ _ ?_; clear hK K
       refine Chain.sub (S' := mk 92 [] [(2, .ptr 2 0 0), (3, .ptr 3 0 0), (4, .ptr 4 0 0), (58, .d (.lit (.bool false)))] [(2, some (.box [.d (.sl (a0.Columns.map cS46)), .d (.sl (a0.Row.map cS24)), .d (.sl (a0.Parameters.map cS24)), .d (.sl (a0.VariableNames.map cS)), .d (.sl (a0.VariableValues.map cS24))])), (3, some (.box [.d (.lit (.int .i64 a1.Kind)), .d (.lit (.string a1.Name)), .d (.lit (.int .i64 a1.Index)), .d (.lit (.int .i64 a1.Value.Kind)), .d (.lit (.int .i64 a1.Value.Int)), .d (.lit (.string a1.Value.Text)), .d (.sl (a1.Args.map cS27))])), (4, some (.box [.d (.lit (.int .i64 0)), .d (.lit (.int .i64 0)), .d (.lit (.string (ByteArray.mk #[])))]))]) Sub.tt ?_
       cases h
       exact Chain.nil Sub.tt
     ·clear hj
      replace h := isome h; rcases h with ⟨c20, h⟩ | ⟨c20, h⟩
      ·have c20_ : v15 = true := c20
       refine AW.condT (b := v15) rfl c20_ ?_
       refine AW.sub (Sub.bool 58 (b := v15) rfl c20_) ?_
       refine AW.sub (S' := mk 92 [] [(2, .ptr 2 0 0), (3, .ptr 3 0 0), (4, .ptr 4 0 0), (58, .d (.lit (.bool true)))] [(2, some (.box [.d (.sl (a0.Columns.map cS46)), .d (.sl (a0.Row.map cS24)), .d (.sl (a0.Parameters.map cS24)), .d (.sl (a0.VariableNames.map cS)), .d (.sl (a0.VariableValues.map cS24))])), (3, some (.box [.d (.lit (.int .i64 a1.Kind)), .d (.lit (.string a1.Name)), .d (.lit (.int .i64 a1.Index)), .d (.lit (.int .i64 a1.Value.Kind)), .d (.lit (.int .i64 a1.Value.Int)), .d (.lit (.string a1.Value.Text)), .d (.sl (a1.Args.map cS27))])), (4, some (.box [.d (.lit (.int .i64 0)), .d (.lit (.int .i64 0)), .d (.lit (.string (ByteArray.mk #[])))]))]) (by simp; exact Sub.table (by simp) (by simp)) ?_
       refine AW.seqR ?_
       replace h := bsome h; obtain ⟨x21, hx21, h⟩ := h
       obtain ⟨k22, hx21k, hx21, hx21a, hx21b⟩ := idx_some hx21
       refine Chain.runK [] 7 fun K hK => ?_; simp [hx21, hx21k, hx21a]; refine hK _ _ ?_; clear hK K
       refine Chain.sub (S' := mk 92 [] [(4, .ptr 4 0 0)] [(4, some (.box [.d (.lit (.int .i64 x21.Kind)), .d (.lit (.int .i64 x21.Int)), .d (.lit (.string x21.Text))]))]) Sub.tt ?_
       refine Chain.nil ?_
       refine AW.ret ?_
       cases h
       refine blockQ.ret ?_
       refine thenQ_pass (by simp) ?_
       exact FinC.ret (by simp) (by simp)
      ·have c20_ : v15 = false := Bool.eq_false_iff.2 c20
       refine AW.condF (b := v15) rfl c20_ ?_
       refine AW.sub (Sub.bool 58 (b := v15) rfl c20_) ?_
       refine AW.sub (S' := mk 92 [] [(2, .ptr 2 0 0), (3, .ptr 3 0 0), (4, .ptr 4 0 0), (58, .d (.lit (.bool false)))] [(2, some (.box [.d (.sl (a0.Columns.map cS46)), .d (.sl (a0.Row.map cS24)), .d (.sl (a0.Parameters.map cS24)), .d (.sl (a0.VariableNames.map cS)), .d (.sl (a0.VariableValues.map cS24))])), (3, some (.box [.d (.lit (.int .i64 a1.Kind)), .d (.lit (.string a1.Name)), .d (.lit (.int .i64 a1.Index)), .d (.lit (.int .i64 a1.Value.Kind)), .d (.lit (.int .i64 a1.Value.Int)), .d (.lit (.string a1.Value.Text)), .d (.sl (a1.Args.map cS27))])), (4, some (.box [.d (.lit (.int .i64 0)), .d (.lit (.int .i64 0)), .d (.lit (.string (ByteArray.mk #[])))]))]) (by simp; exact Sub.table (by simp) (by simp)) ?_
       refine AW.skip ?_
       refine blockQ.normal ?_
       refine thenQ_normal ?_
       refine AW.seqR ?_
       refine Chain.runK [] 2 fun K hK => ?_; simp; refine hK _ _ ?_; clear hK K
       refine Chain.sub (S' := mk 92 [] [(4, .ptr 4 0 0)] [(4, some (.box [.d (.lit (.int .i64 0)), .d (.lit (.int .i64 0)), .d (.lit (.string (ByteArray.mk #[])))]))]) Sub.tt ?_
       refine Chain.nil ?_
       refine AW.ret ?_
       cases h
       exact FinC.ret (by simp) (by simp)
    ·have c10_ : (a1.Kind == 3) = false := Bool.eq_false_iff.2 c10
     refine AW.condF (b := (a1.Kind == 3)) rfl c10_ ?_
     refine AW.sub (Sub.bool 33 (b := (a1.Kind == 3)) rfl c10_) ?_
     refine AW.sub (S' := mk 92 [] [(2, .ptr 2 0 0), (3, .ptr 3 0 0), (4, .ptr 4 0 0), (8, .d (.lit (.int .i64 a1.Kind))), (33, .d (.lit (.bool false)))] [(2, some (.box [.d (.sl (a0.Columns.map cS46)), .d (.sl (a0.Row.map cS24)), .d (.sl (a0.Parameters.map cS24)), .d (.sl (a0.VariableNames.map cS)), .d (.sl (a0.VariableValues.map cS24))])), (3, some (.box [.d (.lit (.int .i64 a1.Kind)), .d (.lit (.string a1.Name)), .d (.lit (.int .i64 a1.Index)), .d (.lit (.int .i64 a1.Value.Kind)), .d (.lit (.int .i64 a1.Value.Int)), .d (.lit (.string a1.Value.Text)), .d (.sl (a1.Args.map cS27))])), (4, some (.box [.d (.lit (.int .i64 0)), .d (.lit (.int .i64 0)), .d (.lit (.string (ByteArray.mk #[])))]))]) (by simp; exact Sub.table (by simp) (by simp)) ?_
     refine AW.seqR ?_
     refine Chain.runK [] 2 fun K hK => ?_; simp; refine hK _ _ ?_; clear hK K
     refine Chain.sub (S' := mk 92 [] [(2, .ptr 2 0 0), (3, .ptr 3 0 0), (4, .ptr 4 0 0), (8, .d (.lit (.int .i64 a1.Kind))), (65, .d (.lit (.bool (a1.Kind == 4))))] [(2, some (.box [.d (.sl (a0.Columns.map cS46)), .d (.sl (a0.Row.map cS24)), .d (.sl (a0.Parameters.map cS24)), .d (.sl (a0.VariableNames.map cS)), .d (.sl (a0.VariableValues.map cS24))])), (3, some (.box [.d (.lit (.int .i64 a1.Kind)), .d (.lit (.string a1.Name)), .d (.lit (.int .i64 a1.Index)), .d (.lit (.int .i64 a1.Value.Kind)), .d (.lit (.int .i64 a1.Value.Int)), .d (.lit (.string a1.Value.Text)), .d (.sl (a1.Args.map cS27))])), (4, some (.box [.d (.lit (.int .i64 0)), .d (.lit (.int .i64 0)), .d (.lit (.string (ByteArray.mk #[])))]))]) Sub.tt ?_
     refine Chain.nil ?_
     replace h := isome h; rcases h with ⟨c23, h⟩ | ⟨c23, h⟩
     ·have c23_ : (a1.Kind == 4) = true := c23
      refine AW.condT (b := (a1.Kind == 4)) rfl c23_ ?_
      refine AW.sub (Sub.bool 65 (b := (a1.Kind == 4)) rfl c23_) ?_
      refine AW.sub (S' := mk 92 [] [(2, .ptr 2 0 0), (3, .ptr 3 0 0), (4, .ptr 4 0 0), (8, .d (.lit (.int .i64 a1.Kind))), (65, .d (.lit (.bool true)))] [(2, some (.box [.d (.sl (a0.Columns.map cS46)), .d (.sl (a0.Row.map cS24)), .d (.sl (a0.Parameters.map cS24)), .d (.sl (a0.VariableNames.map cS)), .d (.sl (a0.VariableValues.map cS24))])), (3, some (.box [.d (.lit (.int .i64 a1.Kind)), .d (.lit (.string a1.Name)), .d (.lit (.int .i64 a1.Index)), .d (.lit (.int .i64 a1.Value.Kind)), .d (.lit (.int .i64 a1.Value.Int)), .d (.lit (.string a1.Value.Text)), .d (.sl (a1.Args.map cS27))])), (4, some (.box [.d (.lit (.int .i64 0)), .d (.lit (.int .i64 0)), .d (.lit (.string (ByteArray.mk #[])))]))]) (by simp; exact Sub.table (by simp) (by simp)) ?_
      refine AW.seqR ?_
      refine Chain.runK [] 4 fun K hK => ?_; simp; refine hK _ _ ?_; clear hK K
      refine Chain.sub (S' := mk 92 [] [(2, .ptr 2 0 0), (4, .ptr 4 0 0), (68, .d (.sl (a0.VariableNames.map cS))), (70, .d (.lit (.string a1.Name)))] [(2, some (.box [.d (.sl (a0.Columns.map cS46)), .d (.sl (a0.Row.map cS24)), .d (.sl (a0.Parameters.map cS24)), .d (.sl (a0.VariableNames.map cS)), .d (.sl (a0.VariableValues.map cS24))])), (4, some (.box [.d (.lit (.int .i64 0)), .d (.lit (.int .i64 0)), .d (.lit (.string (ByteArray.mk #[])))]))]) Sub.tt ?_
      replace h := bsome h; obtain ⟨r24, hr24, h⟩ := h
      refine Chain.callL (d := 71) (p23 N a0.VariableNames a1.Name r24 hr24) (by simp) rfl rfl (by simp <;> rfl) (by simp <;> rfl) ent23 (by simp <;> rfl) ?_
      refine Chain.sub (S' := mk 92 [] [(2, .ptr 2 0 0), (4, .ptr 4 0 0), (68, .d (.sl (a0.VariableNames.map cS))), (70, .d (.lit (.string a1.Name))), (71, .d (.lit (.int .i64 r24)))] [(2, some (.box [.d (.sl (a0.Columns.map cS46)), .d (.sl (a0.Row.map cS24)), .d (.sl (a0.Parameters.map cS24)), .d (.sl (a0.VariableNames.map cS)), .d (.sl (a0.VariableValues.map cS24))])), (4, some (.box [.d (.lit (.int .i64 0)), .d (.lit (.int .i64 0)), .d (.lit (.string (ByteArray.mk #[])))]))]) (by simp; exact Sub.table (by simp) (by simp)) ?_
      refine Chain.runK [] 1 fun K hK => ?_; simp; refine hK _ _ ?_; clear hK K
      refine Chain.sub (S' := mk 92 [] [(2, .ptr 2 0 0), (4, .ptr 4 0 0), (6, .d (.lit (.int .i64 r24)))] [(2, some (.box [.d (.sl (a0.Columns.map cS46)), .d (.sl (a0.Row.map cS24)), .d (.sl (a0.Parameters.map cS24)), .d (.sl (a0.VariableNames.map cS)), .d (.sl (a0.VariableValues.map cS24))])), (4, some (.box [.d (.lit (.int .i64 0)), .d (.lit (.int .i64 0)), .d (.lit (.string (ByteArray.mk #[])))]))]) Sub.tt ?_
      refine Chain.nil ?_
      replace h := bsome h; obtain ⟨v26, hj, h⟩ := h
      refine AW.cutR (mk 92 [] [(2, .ptr 2 0 0), (4, .ptr 4 0 0), (6, .d (.lit (.int .i64 r24))), (80, .d (.lit (.bool v26)))] [(2, some (.box [.d (.sl (a0.Columns.map cS46)), .d (.sl (a0.Row.map cS24)), .d (.sl (a0.Parameters.map cS24)), .d (.sl (a0.VariableNames.map cS)), .d (.sl (a0.VariableValues.map cS24))])), (4, some (.box [.d (.lit (.int .i64 0)), .d (.lit (.int .i64 0)), .d (.lit (.string (ByteArray.mk #[])))]))]) ?_ ?_
      ·clear h; have h := hj; clear hj
       refine Chain.runK [] 3 fun K hK => ?_; simp; refine hK _ _ ?_; clear hK K
       refine Chain.sub (S' := mk 92 [] [(2, .ptr 2 0 0), (4, .ptr 4 0 0), (6, .d (.lit (.int .i64 r24))), (74, .d (.lit (.bool (decide (r24 ≥ 0)))))] [(2, some (.box [.d (.sl (a0.Columns.map cS46)), .d (.sl (a0.Row.map cS24)), .d (.sl (a0.Parameters.map cS24)), .d (.sl (a0.VariableNames.map cS)), .d (.sl (a0.VariableValues.map cS24))])), (4, some (.box [.d (.lit (.int .i64 0)), .d (.lit (.int .i64 0)), .d (.lit (.string (ByteArray.mk #[])))]))]) Sub.tt ?_
       replace h := isome h; rcases h with ⟨c27, h⟩ | ⟨c27, h⟩
       ·have c27_ : decide (r24 ≥ 0) = true := decide_eq_true c27
        refine Chain.sub (Sub.bool 74 (b := decide (r24 ≥ 0)) rfl c27_) ?_
        refine Chain.sub (S' := mk 92 [] [(2, .ptr 2 0 0), (4, .ptr 4 0 0), (6, .d (.lit (.int .i64 r24))), (74, .d (.lit (.bool true)))] [(2, some (.box [.d (.sl (a0.Columns.map cS46)), .d (.sl (a0.Row.map cS24)), .d (.sl (a0.Parameters.map cS24)), .d (.sl (a0.VariableNames.map cS)), .d (.sl (a0.VariableValues.map cS24))])), (4, some (.box [.d (.lit (.int .i64 0)), .d (.lit (.int .i64 0)), .d (.lit (.string (ByteArray.mk #[])))]))]) (by simp; exact Sub.table (by simp) (by simp)) ?_
        refine Chain.runK [] 6 fun K hK => ?_; simp; refine hK _ _ ?_; clear hK K
        refine Chain.sub (S' := mk 92 [] [(2, .ptr 2 0 0), (4, .ptr 4 0 0), (6, .d (.lit (.int .i64 r24))), (80, .d (.lit (.bool (decide (r24 < (a0.VariableValues.length : Int))))))] [(2, some (.box [.d (.sl (a0.Columns.map cS46)), .d (.sl (a0.Row.map cS24)), .d (.sl (a0.Parameters.map cS24)), .d (.sl (a0.VariableNames.map cS)), .d (.sl (a0.VariableValues.map cS24))])), (4, some (.box [.d (.lit (.int .i64 0)), .d (.lit (.int .i64 0)), .d (.lit (.string (ByteArray.mk #[])))]))]) Sub.tt ?_
        cases h
        exact Chain.nil Sub.tt
       ·have c27_ : decide (r24 ≥ 0) = false := decide_eq_false c27
        refine Chain.sub (Sub.bool 74 (b := decide (r24 ≥ 0)) rfl c27_) ?_
        refine Chain.sub (S' := mk 92 [] [(2, .ptr 2 0 0), (4, .ptr 4 0 0), (6, .d (.lit (.int .i64 r24))), (74, .d (.lit (.bool false)))] [(2, some (.box [.d (.sl (a0.Columns.map cS46)), .d (.sl (a0.Row.map cS24)), .d (.sl (a0.Parameters.map cS24)), .d (.sl (a0.VariableNames.map cS)), .d (.sl (a0.VariableValues.map cS24))])), (4, some (.box [.d (.lit (.int .i64 0)), .d (.lit (.int .i64 0)), .d (.lit (.string (ByteArray.mk #[])))]))]) (by simp; exact Sub.table (by simp) (by simp)) ?_
        refine Chain.runK [] 6 fun K hK => ?_; simp; refine hK _ _ ?_; clear hK K
        refine Chain.sub (S' := mk 92 [] [(2, .ptr 2 0 0), (4, .ptr 4 0 0), (6, .d (.lit (.int .i64 r24))), (80, .d (.lit (.bool false)))] [(2, some (.box [.d (.sl (a0.Columns.map cS46)), .d (.sl (a0.Row.map cS24)), .d (.sl (a0.Parameters.map cS24)), .d (.sl (a0.VariableNames.map cS)), .d (.sl (a0.VariableValues.map cS24))])), (4, some (.box [.d (.lit (.int .i64 0)), .d (.lit (.int .i64 0)), .d (.lit (.string (ByteArray.mk #[])))]))]) Sub.tt ?_
        cases h
        exact Chain.nil Sub.tt
      ·clear hj
       replace h := isome h; rcases h with ⟨c28, h⟩ | ⟨c28, h⟩
       ·have c28_ : v26 = true := c28
        refine AW.condT (b := v26) rfl c28_ ?_
        refine AW.sub (Sub.bool 80 (b := v26) rfl c28_) ?_
        refine AW.sub (S' := mk 92 [] [(2, .ptr 2 0 0), (4, .ptr 4 0 0), (6, .d (.lit (.int .i64 r24))), (80, .d (.lit (.bool true)))] [(2, some (.box [.d (.sl (a0.Columns.map cS46)), .d (.sl (a0.Row.map cS24)), .d (.sl (a0.Parameters.map cS24)), .d (.sl (a0.VariableNames.map cS)), .d (.sl (a0.VariableValues.map cS24))])), (4, some (.box [.d (.lit (.int .i64 0)), .d (.lit (.int .i64 0)), .d (.lit (.string (ByteArray.mk #[])))]))]) (by simp; exact Sub.table (by simp) (by simp)) ?_
        refine AW.seqR ?_
        replace h := bsome h; obtain ⟨x29, hx29, h⟩ := h
        obtain ⟨k30, hx29k, hx29, hx29a, hx29b⟩ := idx_some hx29
        refine Chain.runK [] 6 fun K hK => ?_; simp [hx29, hx29k, hx29a]; refine hK _ _ ?_; clear hK K
        refine Chain.sub (S' := mk 92 [] [(4, .ptr 4 0 0)] [(4, some (.box [.d (.lit (.int .i64 x29.Kind)), .d (.lit (.int .i64 x29.Int)), .d (.lit (.string x29.Text))]))]) Sub.tt ?_
        refine Chain.nil ?_
        refine AW.ret ?_
        cases h
        refine blockQ.ret ?_
        refine thenQ_pass (by simp) ?_
        exact FinC.ret (by simp) (by simp)
       ·have c28_ : v26 = false := Bool.eq_false_iff.2 c28
        refine AW.condF (b := v26) rfl c28_ ?_
        refine AW.sub (Sub.bool 80 (b := v26) rfl c28_) ?_
        refine AW.sub (S' := mk 92 [] [(2, .ptr 2 0 0), (4, .ptr 4 0 0), (6, .d (.lit (.int .i64 r24))), (80, .d (.lit (.bool false)))] [(2, some (.box [.d (.sl (a0.Columns.map cS46)), .d (.sl (a0.Row.map cS24)), .d (.sl (a0.Parameters.map cS24)), .d (.sl (a0.VariableNames.map cS)), .d (.sl (a0.VariableValues.map cS24))])), (4, some (.box [.d (.lit (.int .i64 0)), .d (.lit (.int .i64 0)), .d (.lit (.string (ByteArray.mk #[])))]))]) (by simp; exact Sub.table (by simp) (by simp)) ?_
        refine AW.skip ?_
        refine blockQ.normal ?_
        refine thenQ_normal ?_
        refine AW.seqR ?_
        refine Chain.runK [] 2 fun K hK => ?_; simp; refine hK _ _ ?_; clear hK K
        refine Chain.sub (S' := mk 92 [] [(4, .ptr 4 0 0)] [(4, some (.box [.d (.lit (.int .i64 0)), .d (.lit (.int .i64 0)), .d (.lit (.string (ByteArray.mk #[])))]))]) Sub.tt ?_
        refine Chain.nil ?_
        refine AW.ret ?_
        cases h
        exact FinC.ret (by simp) (by simp)
     ·have c23_ : (a1.Kind == 4) = false := Bool.eq_false_iff.2 c23
      refine AW.condF (b := (a1.Kind == 4)) rfl c23_ ?_
      refine AW.sub (Sub.bool 65 (b := (a1.Kind == 4)) rfl c23_) ?_
      refine AW.sub (S' := mk 92 [] [(2, .ptr 2 0 0), (3, .ptr 3 0 0), (4, .ptr 4 0 0), (8, .d (.lit (.int .i64 a1.Kind))), (65, .d (.lit (.bool false)))] [(2, some (.box [.d (.sl (a0.Columns.map cS46)), .d (.sl (a0.Row.map cS24)), .d (.sl (a0.Parameters.map cS24)), .d (.sl (a0.VariableNames.map cS)), .d (.sl (a0.VariableValues.map cS24))])), (3, some (.box [.d (.lit (.int .i64 a1.Kind)), .d (.lit (.string a1.Name)), .d (.lit (.int .i64 a1.Index)), .d (.lit (.int .i64 a1.Value.Kind)), .d (.lit (.int .i64 a1.Value.Int)), .d (.lit (.string a1.Value.Text)), .d (.sl (a1.Args.map cS27))])), (4, some (.box [.d (.lit (.int .i64 0)), .d (.lit (.int .i64 0)), .d (.lit (.string (ByteArray.mk #[])))]))]) (by simp; exact Sub.table (by simp) (by simp)) ?_
      refine AW.seqR ?_
      refine Chain.runK [] 2 fun K hK => ?_; simp; refine hK _ _ ?_; clear hK K
      refine Chain.sub (S' := mk 92 [] [(2, .ptr 2 0 0), (3, .ptr 3 0 0), (4, .ptr 4 0 0), (86, .d (.lit (.bool (a1.Kind == 5))))] [(2, some (.box [.d (.sl (a0.Columns.map cS46)), .d (.sl (a0.Row.map cS24)), .d (.sl (a0.Parameters.map cS24)), .d (.sl (a0.VariableNames.map cS)), .d (.sl (a0.VariableValues.map cS24))])), (3, some (.box [.d (.lit (.int .i64 a1.Kind)), .d (.lit (.string a1.Name)), .d (.lit (.int .i64 a1.Index)), .d (.lit (.int .i64 a1.Value.Kind)), .d (.lit (.int .i64 a1.Value.Int)), .d (.lit (.string a1.Value.Text)), .d (.sl (a1.Args.map cS27))])), (4, some (.box [.d (.lit (.int .i64 0)), .d (.lit (.int .i64 0)), .d (.lit (.string (ByteArray.mk #[])))]))]) Sub.tt ?_
      refine Chain.nil ?_
      replace h := isome h; rcases h with ⟨c31, h⟩ | ⟨c31, h⟩
      ·have c31_ : (a1.Kind == 5) = true := c31
       refine AW.condT (b := (a1.Kind == 5)) rfl c31_ ?_
       refine AW.sub (Sub.bool 86 (b := (a1.Kind == 5)) rfl c31_) ?_
       refine AW.sub (S' := mk 92 [] [(2, .ptr 2 0 0), (3, .ptr 3 0 0), (4, .ptr 4 0 0), (86, .d (.lit (.bool true)))] [(2, some (.box [.d (.sl (a0.Columns.map cS46)), .d (.sl (a0.Row.map cS24)), .d (.sl (a0.Parameters.map cS24)), .d (.sl (a0.VariableNames.map cS)), .d (.sl (a0.VariableValues.map cS24))])), (3, some (.box [.d (.lit (.int .i64 a1.Kind)), .d (.lit (.string a1.Name)), .d (.lit (.int .i64 a1.Index)), .d (.lit (.int .i64 a1.Value.Kind)), .d (.lit (.int .i64 a1.Value.Int)), .d (.lit (.string a1.Value.Text)), .d (.sl (a1.Args.map cS27))])), (4, some (.box [.d (.lit (.int .i64 0)), .d (.lit (.int .i64 0)), .d (.lit (.string (ByteArray.mk #[])))]))]) (by simp; exact Sub.table (by simp) (by simp)) ?_
       refine AW.seqR ?_
       refine Chain.runK [] 2 fun K hK => ?_; simp; refine hK _ _ ?_; clear hK K
       refine Chain.sub (S' := mk 92 [] [(4, .ptr 4 0 0), (88, .agg [.d (.sl (a0.Columns.map cS46)), .d (.sl (a0.Row.map cS24)), .d (.sl (a0.Parameters.map cS24)), .d (.sl (a0.VariableNames.map cS)), .d (.sl (a0.VariableValues.map cS24))]), (89, .agg [.d (.lit (.int .i64 a1.Kind)), .d (.lit (.string a1.Name)), .d (.lit (.int .i64 a1.Index)), .d (.lit (.int .i64 a1.Value.Kind)), .d (.lit (.int .i64 a1.Value.Int)), .d (.lit (.string a1.Value.Text)), .d (.sl (a1.Args.map cS27))])] [(4, some (.box [.d (.lit (.int .i64 0)), .d (.lit (.int .i64 0)), .d (.lit (.string (ByteArray.mk #[])))]))]) Sub.tt ?_
       replace h := bsome h; obtain ⟨r32, hr32, h⟩ := h
       refine Chain.callC (d := 90) (ih24 a0 a1 r32 hr32) (by simp) rfl rfl (by simp <;> rfl) (by simp <;> rfl) ent24 (by simp) (.inl ⟨by simp, by simp⟩) ?_
       refine Chain.sub (S' := mk 92 [] [(4, .ptr 4 0 0), (88, .agg [.d (.sl (a0.Columns.map cS46)), .d (.sl (a0.Row.map cS24)), .d (.sl (a0.Parameters.map cS24)), .d (.sl (a0.VariableNames.map cS)), .d (.sl (a0.VariableValues.map cS24))]), (89, .agg [.d (.lit (.int .i64 a1.Kind)), .d (.lit (.string a1.Name)), .d (.lit (.int .i64 a1.Index)), .d (.lit (.int .i64 a1.Value.Kind)), .d (.lit (.int .i64 a1.Value.Int)), .d (.lit (.string a1.Value.Text)), .d (.sl (a1.Args.map cS27))]), (90, .agg [.d (.lit (.int .i64 r32.Kind)), .d (.lit (.int .i64 r32.Int)), .d (.lit (.string r32.Text))])] [(4, some (.box [.d (.lit (.int .i64 0)), .d (.lit (.int .i64 0)), .d (.lit (.string (ByteArray.mk #[])))]))]) (by simp; exact Sub.table (by simp) (by simp)) ?_
       refine Chain.runK [] 1 fun K hK => ?_; simp; refine hK _ _ ?_; clear hK K
       refine Chain.sub (S' := mk 92 [] [(4, .ptr 4 0 0)] [(4, some (.box [.d (.lit (.int .i64 r32.Kind)), .d (.lit (.int .i64 r32.Int)), .d (.lit (.string r32.Text))]))]) Sub.tt ?_
       refine Chain.nil ?_
       refine AW.ret ?_
       cases h
       refine blockQ.ret ?_
       refine thenQ_pass (by simp) ?_
       exact FinC.ret (by simp) (by simp)
      ·have c31_ : (a1.Kind == 5) = false := Bool.eq_false_iff.2 c31
       refine AW.condF (b := (a1.Kind == 5)) rfl c31_ ?_
       refine AW.sub (Sub.bool 86 (b := (a1.Kind == 5)) rfl c31_) ?_
       refine AW.sub (S' := mk 92 [] [(2, .ptr 2 0 0), (3, .ptr 3 0 0), (4, .ptr 4 0 0), (86, .d (.lit (.bool false)))] [(2, some (.box [.d (.sl (a0.Columns.map cS46)), .d (.sl (a0.Row.map cS24)), .d (.sl (a0.Parameters.map cS24)), .d (.sl (a0.VariableNames.map cS)), .d (.sl (a0.VariableValues.map cS24))])), (3, some (.box [.d (.lit (.int .i64 a1.Kind)), .d (.lit (.string a1.Name)), .d (.lit (.int .i64 a1.Index)), .d (.lit (.int .i64 a1.Value.Kind)), .d (.lit (.int .i64 a1.Value.Int)), .d (.lit (.string a1.Value.Text)), .d (.sl (a1.Args.map cS27))])), (4, some (.box [.d (.lit (.int .i64 0)), .d (.lit (.int .i64 0)), .d (.lit (.string (ByteArray.mk #[])))]))]) (by simp; exact Sub.table (by simp) (by simp)) ?_
       refine AW.skip ?_
       refine blockQ.normal ?_
       refine thenQ_normal ?_
       refine AW.seqR ?_
       refine Chain.runK [] 2 fun K hK => ?_; simp; refine hK _ _ ?_; clear hK K
       refine Chain.sub (S' := mk 92 [] [(4, .ptr 4 0 0)] [(4, some (.box [.d (.lit (.int .i64 0)), .d (.lit (.int .i64 0)), .d (.lit (.string (ByteArray.mk #[])))]))]) Sub.tt ?_
       refine Chain.nil ?_
       refine AW.ret ?_
       cases h
       exact FinC.ret (by simp) (by simp)
 ·intro a0 a1 r h
  unfold d24 at h
  refine FunC.enter 92 [(0, .agg [.d (.sl (a0.Columns.map cS46)), .d (.sl (a0.Row.map cS24)), .d (.sl (a0.Parameters.map cS24)), .d (.sl (a0.VariableNames.map cS)), .d (.sl (a0.VariableValues.map cS24))]), (1, .agg [.d (.lit (.int .i64 a1.Kind)), .d (.lit (.string a1.Name)), .d (.lit (.int .i64 a1.Index)), .d (.lit (.int .i64 a1.Value.Kind)), .d (.lit (.int .i64 a1.Value.Int)), .d (.lit (.string a1.Value.Text)), .d (.sl (a1.Args.map cS27))])] (by simp) Try.func24 rfl (of_decide_eq_true rfl) rfl rfl ?_
  refine AW.seqR ?_
  refine Chain.runK [] 3 fun K hK => ?_; simp; refine hK _ _ ?_; clear hK K
  refine Chain.sub (S' := mk 92 [] [(2, .ptr 2 0 0), (3, .ptr 3 0 0), (4, .ptr 4 0 0)] [(2, some (.box [.d (.sl (a0.Columns.map cS46)), .d (.sl (a0.Row.map cS24)), .d (.sl (a0.Parameters.map cS24)), .d (.sl (a0.VariableNames.map cS)), .d (.sl (a0.VariableValues.map cS24))])), (3, some (.box [.d (.lit (.int .i64 a1.Kind)), .d (.lit (.string a1.Name)), .d (.lit (.int .i64 a1.Index)), .d (.lit (.int .i64 a1.Value.Kind)), .d (.lit (.int .i64 a1.Value.Int)), .d (.lit (.string a1.Value.Text)), .d (.sl (a1.Args.map cS27))])), (4, some (.box [.d (.lit (.int .i64 0)), .d (.lit (.int .i64 0)), .d (.lit (.string (ByteArray.mk #[])))]))]) Sub.tt ?_
  refine Chain.nil ?_
  refine AW.seqR ?_
  refine Chain.runK [] 1 fun K hK => ?_; simp; refine hK _ _ ?_; clear hK K
  refine Chain.sub (S' := mk 92 [] [(2, .ptr 2 0 0), (3, .ptr 3 0 0), (4, .ptr 4 0 0), (5, .d (.lit (.slice none 0 0)))] [(2, some (.box [.d (.sl (a0.Columns.map cS46)), .d (.sl (a0.Row.map cS24)), .d (.sl (a0.Parameters.map cS24)), .d (.sl (a0.VariableNames.map cS)), .d (.sl (a0.VariableValues.map cS24))])), (3, some (.box [.d (.lit (.int .i64 a1.Kind)), .d (.lit (.string a1.Name)), .d (.lit (.int .i64 a1.Index)), .d (.lit (.int .i64 a1.Value.Kind)), .d (.lit (.int .i64 a1.Value.Int)), .d (.lit (.string a1.Value.Text)), .d (.sl (a1.Args.map cS27))])), (4, some (.box [.d (.lit (.int .i64 0)), .d (.lit (.int .i64 0)), .d (.lit (.string (ByteArray.mk #[])))]))]) Sub.tt ?_
  refine Chain.nil ?_
  refine AW.seq ?_
  refine AW.seqR ?_
  refine Chain.runK [] 4 fun K hK => ?_; simp; refine hK _ _ ?_; clear hK K
  refine Chain.sub (S' := mk 92 [] [(2, .ptr 2 0 0), (3, .ptr 3 0 0), (4, .ptr 4 0 0), (5, .d (.lit (.slice none 0 0))), (12, .d (.sl (a1.Args.map cS27))), (13, .d (.lit (.int .i64 (a1.Args.length : Int)))), (14, .d (.lit (.int .i64 0)))] [(2, some (.box [.d (.sl (a0.Columns.map cS46)), .d (.sl (a0.Row.map cS24)), .d (.sl (a0.Parameters.map cS24)), .d (.sl (a0.VariableNames.map cS)), .d (.sl (a0.VariableValues.map cS24))])), (3, some (.box [.d (.lit (.int .i64 a1.Kind)), .d (.lit (.string a1.Name)), .d (.lit (.int .i64 a1.Index)), .d (.lit (.int .i64 a1.Value.Kind)), .d (.lit (.int .i64 a1.Value.Int)), .d (.lit (.string a1.Value.Text)), .d (.sl (a1.Args.map cS27))])), (4, some (.box [.d (.lit (.int .i64 0)), .d (.lit (.int .i64 0)), .d (.lit (.string (ByteArray.mk #[])))]))]) Sub.tt ?_
  refine Chain.nil ?_
  refine AW.lastN (fun (l22 : List S24) => mk 92 [] [(3, .ptr 3 0 0), (4, .ptr 4 0 0), (5, .ref 23 0 l22.length)] [(3, some (.box [.d (.lit (.int .i64 a1.Kind)), .d (.lit (.string a1.Name)), .d (.lit (.int .i64 a1.Index)), .d (.lit (.int .i64 a1.Value.Kind)), .d (.lit (.int .i64 a1.Value.Int)), .d (.lit (.string a1.Value.Text)), .d (.sl (a1.Args.map cS27))])), (4, some (.box [.d (.lit (.int .i64 0)), .d (.lit (.int .i64 0)), .d (.lit (.string (ByteArray.mk #[])))])), (23, some (.arr 24 3 (l22.map cS24)))]) h ?_ ?_ <;> clear h
  ·intro o h
   refine AW.block ?_
   refine AW.iter (fun ((l6, v7) : ((List S24) × Int)) => mk 92 [] [(2, .ptr 2 0 0), (3, .ptr 3 0 0), (4, .ptr 4 0 0), (5, .ref 23 0 l6.length), (12, .d (.sl (a1.Args.map cS27))), (13, .d (.lit (.int .i64 (a1.Args.length : Int)))), (14, .d (.lit (.int .i64 v7)))] [(2, some (.box [.d (.sl (a0.Columns.map cS46)), .d (.sl (a0.Row.map cS24)), .d (.sl (a0.Parameters.map cS24)), .d (.sl (a0.VariableNames.map cS)), .d (.sl (a0.VariableValues.map cS24))])), (3, some (.box [.d (.lit (.int .i64 a1.Kind)), .d (.lit (.string a1.Name)), .d (.lit (.int .i64 a1.Index)), .d (.lit (.int .i64 a1.Value.Kind)), .d (.lit (.int .i64 a1.Value.Int)), .d (.lit (.string a1.Value.Text)), .d (.sl (a1.Args.map cS27))])), (4, some (.box [.d (.lit (.int .i64 0)), .d (.lit (.int .i64 0)), .d (.lit (.string (ByteArray.mk #[])))])), (23, some (.arr 24 3 (l6.map cS24)))]) h (Sub.trans (Sub.nilOwn (t := 5) (id := 23) (T := 24) (n := 3) rfl rfl (by decide)) (by simp; exact Sub.table (by simp) (by simp))) ?_
   clear h
   rintro ⟨l6, v7⟩ x h
   dsimp only at h ⊢
   refine AW.seqR ?_
   refine Chain.runK [] 1 fun K hK => ?_; simp; refine hK _ _ ?_; clear hK K
   refine Chain.sub (S' := mk 92 [] [(2, .ptr 2 0 0), (3, .ptr 3 0 0), (4, .ptr 4 0 0), (5, .ref 23 0 l6.length), (12, .d (.sl (a1.Args.map cS27))), (13, .d (.lit (.int .i64 (a1.Args.length : Int)))), (14, .d (.lit (.int .i64 v7))), (15, .d (.lit (.bool (decide (v7 < (a1.Args.length : Int))))))] [(2, some (.box [.d (.sl (a0.Columns.map cS46)), .d (.sl (a0.Row.map cS24)), .d (.sl (a0.Parameters.map cS24)), .d (.sl (a0.VariableNames.map cS)), .d (.sl (a0.VariableValues.map cS24))])), (3, some (.box [.d (.lit (.int .i64 a1.Kind)), .d (.lit (.string a1.Name)), .d (.lit (.int .i64 a1.Index)), .d (.lit (.int .i64 a1.Value.Kind)), .d (.lit (.int .i64 a1.Value.Int)), .d (.lit (.string a1.Value.Text)), .d (.sl (a1.Args.map cS27))])), (4, some (.box [.d (.lit (.int .i64 0)), .d (.lit (.int .i64 0)), .d (.lit (.string (ByteArray.mk #[])))])), (23, some (.arr 24 3 (l6.map cS24)))]) Sub.tt ?_
   refine Chain.nil ?_
   refine AW.seq ?_
   replace h := isome h; rcases h with ⟨c23, h⟩ | ⟨c23, h⟩
   ·have c23_ : decide (v7 < (a1.Args.length : Int)) = true := decide_eq_true c23
    refine AW.condT (b := decide (v7 < (a1.Args.length : Int))) rfl c23_ ?_
    refine AW.sub (Sub.bool 15 (b := decide (v7 < (a1.Args.length : Int))) rfl c23_) ?_
    refine AW.sub (S' := mk 92 [] [(2, .ptr 2 0 0), (3, .ptr 3 0 0), (4, .ptr 4 0 0), (5, .ref 23 0 l6.length), (12, .d (.sl (a1.Args.map cS27))), (13, .d (.lit (.int .i64 (a1.Args.length : Int)))), (14, .d (.lit (.int .i64 v7))), (15, .d (.lit (.bool true)))] [(2, some (.box [.d (.sl (a0.Columns.map cS46)), .d (.sl (a0.Row.map cS24)), .d (.sl (a0.Parameters.map cS24)), .d (.sl (a0.VariableNames.map cS)), .d (.sl (a0.VariableValues.map cS24))])), (3, some (.box [.d (.lit (.int .i64 a1.Kind)), .d (.lit (.string a1.Name)), .d (.lit (.int .i64 a1.Index)), .d (.lit (.int .i64 a1.Value.Kind)), .d (.lit (.int .i64 a1.Value.Int)), .d (.lit (.string a1.Value.Text)), .d (.sl (a1.Args.map cS27))])), (4, some (.box [.d (.lit (.int .i64 0)), .d (.lit (.int .i64 0)), .d (.lit (.string (ByteArray.mk #[])))])), (23, some (.arr 24 3 (l6.map cS24)))]) (by simp; exact Sub.table (by simp) (by simp)) ?_
    refine AW.skip ?_
    refine thenQ_normal ?_
    refine AW.seq ?_
    refine AW.block ?_
    refine AW.seqR ?_
    replace h := bsome h; obtain ⟨x24, hx24, h⟩ := h
    obtain ⟨k25, hx24k, hx24, hx24a, hx24b⟩ := idx_some hx24
    refine Chain.runK [] 4 fun K hK => ?_; simp [hx24, hx24k, hx24a]; refine hK _ _ ?_; clear hK K
    refine Chain.sub (S' := mk 92 [] [(2, .ptr 2 0 0), (3, .ptr 3 0 0), (4, .ptr 4 0 0), (5, .ref 23 0 l6.length), (7, .ptr 7 0 0), (12, .d (.sl (a1.Args.map cS27))), (13, .d (.lit (.int .i64 (a1.Args.length : Int)))), (14, .d (.lit (.int .i64 v7)))] [(2, some (.box [.d (.sl (a0.Columns.map cS46)), .d (.sl (a0.Row.map cS24)), .d (.sl (a0.Parameters.map cS24)), .d (.sl (a0.VariableNames.map cS)), .d (.sl (a0.VariableValues.map cS24))])), (3, some (.box [.d (.lit (.int .i64 a1.Kind)), .d (.lit (.string a1.Name)), .d (.lit (.int .i64 a1.Index)), .d (.lit (.int .i64 a1.Value.Kind)), .d (.lit (.int .i64 a1.Value.Int)), .d (.lit (.string a1.Value.Text)), .d (.sl (a1.Args.map cS27))])), (4, some (.box [.d (.lit (.int .i64 0)), .d (.lit (.int .i64 0)), .d (.lit (.string (ByteArray.mk #[])))])), (7, some (.box [.d (.lit (.int .i64 x24.Kind)), .d (.lit (.string x24.Name)), .d (.lit (.int .i64 x24.Index)), .d (.lit (.int .i64 x24.Value.Kind)), .d (.lit (.int .i64 x24.Value.Int)), .d (.lit (.string x24.Value.Text)), .d (.sl (x24.Args.map cS27))])), (23, some (.arr 24 3 (l6.map cS24)))]) Sub.tt ?_
    refine Chain.nil ?_
    refine AW.region ?_
    refine Chain.runK [22] 3 fun K hK => ?_; simp; refine hK _ _ ?_; clear hK K
    refine Chain.sub (S' := mk 92 [] [(2, .ptr 2 0 0), (3, .ptr 3 0 0), (4, .ptr 4 0 0), (12, .d (.sl (a1.Args.map cS27))), (13, .d (.lit (.int .i64 (a1.Args.length : Int)))), (14, .d (.lit (.int .i64 v7))), (18, .ref 23 0 l6.length), (19, .agg [.d (.sl (a0.Columns.map cS46)), .d (.sl (a0.Row.map cS24)), .d (.sl (a0.Parameters.map cS24)), .d (.sl (a0.VariableNames.map cS)), .d (.sl (a0.VariableValues.map cS24))]), (20, .agg [.d (.lit (.int .i64 x24.Kind)), .d (.lit (.string x24.Name)), .d (.lit (.int .i64 x24.Index)), .d (.lit (.int .i64 x24.Value.Kind)), .d (.lit (.int .i64 x24.Value.Int)), .d (.lit (.string x24.Value.Text)), .d (.sl (x24.Args.map cS27))])] [(2, some (.box [.d (.sl (a0.Columns.map cS46)), .d (.sl (a0.Row.map cS24)), .d (.sl (a0.Parameters.map cS24)), .d (.sl (a0.VariableNames.map cS)), .d (.sl (a0.VariableValues.map cS24))])), (3, some (.box [.d (.lit (.int .i64 a1.Kind)), .d (.lit (.string a1.Name)), .d (.lit (.int .i64 a1.Index)), .d (.lit (.int .i64 a1.Value.Kind)), .d (.lit (.int .i64 a1.Value.Int)), .d (.lit (.string a1.Value.Text)), .d (.sl (a1.Args.map cS27))])), (4, some (.box [.d (.lit (.int .i64 0)), .d (.lit (.int .i64 0)), .d (.lit (.string (ByteArray.mk #[])))])), (23, some (.arr 24 3 (l6.map cS24)))]) Sub.tt ?_
    replace h := bsome h; obtain ⟨r26, hr26, h⟩ := h
    refine Chain.callC (d := 21) (ih12 a0 x24 r26 hr26) (by simp) rfl rfl (by simp <;> rfl) (by simp <;> rfl) ent12 (by simp) (.inl ⟨by simp, by simp⟩) ?_
    refine Chain.sub (S' := mk 92 [] [(2, .ptr 2 0 0), (3, .ptr 3 0 0), (4, .ptr 4 0 0), (12, .d (.sl (a1.Args.map cS27))), (13, .d (.lit (.int .i64 (a1.Args.length : Int)))), (14, .d (.lit (.int .i64 v7))), (18, .ref 23 0 l6.length), (19, .agg [.d (.sl (a0.Columns.map cS46)), .d (.sl (a0.Row.map cS24)), .d (.sl (a0.Parameters.map cS24)), .d (.sl (a0.VariableNames.map cS)), .d (.sl (a0.VariableValues.map cS24))]), (20, .agg [.d (.lit (.int .i64 x24.Kind)), .d (.lit (.string x24.Name)), .d (.lit (.int .i64 x24.Index)), .d (.lit (.int .i64 x24.Value.Kind)), .d (.lit (.int .i64 x24.Value.Int)), .d (.lit (.string x24.Value.Text)), .d (.sl (x24.Args.map cS27))]), (21, .agg [.d (.lit (.int .i64 r26.Kind)), .d (.lit (.int .i64 r26.Int)), .d (.lit (.string r26.Text))])] [(2, some (.box [.d (.sl (a0.Columns.map cS46)), .d (.sl (a0.Row.map cS24)), .d (.sl (a0.Parameters.map cS24)), .d (.sl (a0.VariableNames.map cS)), .d (.sl (a0.VariableValues.map cS24))])), (3, some (.box [.d (.lit (.int .i64 a1.Kind)), .d (.lit (.string a1.Name)), .d (.lit (.int .i64 a1.Index)), .d (.lit (.int .i64 a1.Value.Kind)), .d (.lit (.int .i64 a1.Value.Int)), .d (.lit (.string a1.Value.Text)), .d (.sl (a1.Args.map cS27))])), (4, some (.box [.d (.lit (.int .i64 0)), .d (.lit (.int .i64 0)), .d (.lit (.string (ByteArray.mk #[])))])), (23, some (.arr 24 3 (l6.map cS24)))]) (by simp; exact Sub.table (by simp) (by simp)) ?_
    replace h := bsome h; obtain ⟨l27, hl27, h⟩ := h
    obtain ⟨hl27a, hl27⟩ := appL_some hl27
    subst hl27
    try simp only [List.length_cons, List.length_nil, Nat.zero_add] at hl27a
    refine Chain.runK [22] 3 fun K hK => ?_; simp [hl27a]; refine hK _ _ ?_; clear hK K
    refine Chain.sub (S' := mk 92 [] [(2, .ptr 2 0 0), (3, .ptr 3 0 0), (4, .ptr 4 0 0), (5, .ref 23 0 ((l6 ++ [r26]).length)), (12, .d (.sl (a1.Args.map cS27))), (13, .d (.lit (.int .i64 (a1.Args.length : Int)))), (14, .d (.lit (.int .i64 v7)))] [(2, some (.box [.d (.sl (a0.Columns.map cS46)), .d (.sl (a0.Row.map cS24)), .d (.sl (a0.Parameters.map cS24)), .d (.sl (a0.VariableNames.map cS)), .d (.sl (a0.VariableValues.map cS24))])), (3, some (.box [.d (.lit (.int .i64 a1.Kind)), .d (.lit (.string a1.Name)), .d (.lit (.int .i64 a1.Index)), .d (.lit (.int .i64 a1.Value.Kind)), .d (.lit (.int .i64 a1.Value.Int)), .d (.lit (.string a1.Value.Text)), .d (.sl (a1.Args.map cS27))])), (4, some (.box [.d (.lit (.int .i64 0)), .d (.lit (.int .i64 0)), .d (.lit (.string (ByteArray.mk #[])))])), (23, some (.arr 24 3 ((l6 ++ [r26]).map cS24)))]) Sub.tt ?_
    refine Chain.nil ?_
    refine blockQ.normal ?_
    refine thenQ_normal ?_
    refine AW.region ?_
    replace h := bsome h; obtain ⟨v28, hv28, h⟩ := h
    have hv28 := chkI_some hv28
    refine Chain.runK [] 2 fun K hK => ?_; simp [hv28]; refine hK _ _ ?_; clear hK K
    refine Chain.sub (S' := mk 92 [] [(2, .ptr 2 0 0), (3, .ptr 3 0 0), (4, .ptr 4 0 0), (5, .ref 23 0 ((l6 ++ [r26]).length)), (12, .d (.sl (a1.Args.map cS27))), (13, .d (.lit (.int .i64 (a1.Args.length : Int)))), (14, .d (.lit (.int .i64 v28)))] [(2, some (.box [.d (.sl (a0.Columns.map cS46)), .d (.sl (a0.Row.map cS24)), .d (.sl (a0.Parameters.map cS24)), .d (.sl (a0.VariableNames.map cS)), .d (.sl (a0.VariableValues.map cS24))])), (3, some (.box [.d (.lit (.int .i64 a1.Kind)), .d (.lit (.string a1.Name)), .d (.lit (.int .i64 a1.Index)), .d (.lit (.int .i64 a1.Value.Kind)), .d (.lit (.int .i64 a1.Value.Int)), .d (.lit (.string a1.Value.Text)), .d (.sl (a1.Args.map cS27))])), (4, some (.box [.d (.lit (.int .i64 0)), .d (.lit (.int .i64 0)), .d (.lit (.string (ByteArray.mk #[])))])), (23, some (.arr 24 3 ((l6 ++ [r26]).map cS24)))]) Sub.tt ?_
    refine Chain.nil ?_
    cases h
    refine PostI.next ?_
    exact Sub.tt
   ·have c23_ : decide (v7 < (a1.Args.length : Int)) = false := decide_eq_false c23
    refine AW.condF (b := decide (v7 < (a1.Args.length : Int))) rfl c23_ ?_
    refine AW.sub (Sub.bool 15 (b := decide (v7 < (a1.Args.length : Int))) rfl c23_) ?_
    refine AW.sub (S' := mk 92 [] [(2, .ptr 2 0 0), (3, .ptr 3 0 0), (4, .ptr 4 0 0), (5, .ref 23 0 l6.length), (12, .d (.sl (a1.Args.map cS27))), (13, .d (.lit (.int .i64 (a1.Args.length : Int)))), (14, .d (.lit (.int .i64 v7))), (15, .d (.lit (.bool false)))] [(2, some (.box [.d (.sl (a0.Columns.map cS46)), .d (.sl (a0.Row.map cS24)), .d (.sl (a0.Parameters.map cS24)), .d (.sl (a0.VariableNames.map cS)), .d (.sl (a0.VariableValues.map cS24))])), (3, some (.box [.d (.lit (.int .i64 a1.Kind)), .d (.lit (.string a1.Name)), .d (.lit (.int .i64 a1.Index)), .d (.lit (.int .i64 a1.Value.Kind)), .d (.lit (.int .i64 a1.Value.Int)), .d (.lit (.string a1.Value.Text)), .d (.sl (a1.Args.map cS27))])), (4, some (.box [.d (.lit (.int .i64 0)), .d (.lit (.int .i64 0)), .d (.lit (.string (ByteArray.mk #[])))])), (23, some (.arr 24 3 (l6.map cS24)))]) (by simp; exact Sub.table (by simp) (by simp)) ?_
    refine AW.exit ?_
    cases h
    refine thenQ_pass (by simp) ?_
    refine PostI.out (by simp) ?_
    rintro rfl
    refine blockQ.hit ?_
    refine PostN.next ?_
    exact Sub.tt
  ·rintro l22 h
   refine thenQ_normal ?_
   refine AW.seqR ?_
   replace h := bsome h; obtain ⟨r29, hr29, h⟩ := h
   refine Chain.callC (d := 26) (p35 N  r29 hr29) (by simp) rfl rfl (by simp <;> rfl) (by simp <;> rfl) ent35 (by simp) (.inl ⟨by simp, by simp⟩) ?_
   refine Chain.sub (S' := mk 92 [] [(3, .ptr 3 0 0), (4, .ptr 4 0 0), (5, .ref 23 0 l22.length), (26, .tup [.d (.sl (r29.1.map cS)), .d (.sl (r29.2.map (cI .i64)))])] [(3, some (.box [.d (.lit (.int .i64 a1.Kind)), .d (.lit (.string a1.Name)), .d (.lit (.int .i64 a1.Index)), .d (.lit (.int .i64 a1.Value.Kind)), .d (.lit (.int .i64 a1.Value.Int)), .d (.lit (.string a1.Value.Text)), .d (.sl (a1.Args.map cS27))])), (4, some (.box [.d (.lit (.int .i64 0)), .d (.lit (.int .i64 0)), .d (.lit (.string (ByteArray.mk #[])))])), (23, some (.arr 24 3 (l22.map cS24)))]) (by simp; exact Sub.table (by simp) (by simp)) ?_
   refine Chain.runK [] 5 fun K hK => ?_; simp; refine hK _ _ ?_; clear hK K
   refine Chain.sub (S' := mk 92 [] [(3, .ptr 3 0 0), (4, .ptr 4 0 0), (5, .ref 23 0 l22.length), (8, .d (.sl (r29.1.map cS))), (9, .d (.sl (r29.2.map (cI .i64))))] [(3, some (.box [.d (.lit (.int .i64 a1.Kind)), .d (.lit (.string a1.Name)), .d (.lit (.int .i64 a1.Index)), .d (.lit (.int .i64 a1.Value.Kind)), .d (.lit (.int .i64 a1.Value.Int)), .d (.lit (.string a1.Value.Text)), .d (.sl (a1.Args.map cS27))])), (4, some (.box [.d (.lit (.int .i64 0)), .d (.lit (.int .i64 0)), .d (.lit (.string (ByteArray.mk #[])))])), (23, some (.arr 24 3 (l22.map cS24)))]) Sub.tt ?_
   refine Chain.nil ?_
   refine AW.seq ?_
   refine AW.seqR ?_
   refine Chain.runK [] 3 fun K hK => ?_; simp; refine hK _ _ ?_; clear hK K
   refine Chain.sub (S' := mk 92 [] [(3, .ptr 3 0 0), (4, .ptr 4 0 0), (5, .ref 23 0 l22.length), (9, .d (.sl (r29.2.map (cI .i64)))), (29, .d (.sl (r29.1.map cS))), (31, .d (.lit (.string a1.Name)))] [(3, some (.box [.d (.lit (.int .i64 a1.Kind)), .d (.lit (.string a1.Name)), .d (.lit (.int .i64 a1.Index)), .d (.lit (.int .i64 a1.Value.Kind)), .d (.lit (.int .i64 a1.Value.Int)), .d (.lit (.string a1.Value.Text)), .d (.sl (a1.Args.map cS27))])), (4, some (.box [.d (.lit (.int .i64 0)), .d (.lit (.int .i64 0)), .d (.lit (.string (ByteArray.mk #[])))])), (23, some (.arr 24 3 (l22.map cS24)))]) Sub.tt ?_
   replace h := bsome h; obtain ⟨r30, hr30, h⟩ := h
   refine Chain.callL (d := 32) (p23 N r29.1 a1.Name r30 hr30) (by simp) rfl rfl (by simp <;> rfl) (by simp <;> rfl) ent23 (by simp <;> rfl) ?_
   refine Chain.sub (S' := mk 92 [] [(3, .ptr 3 0 0), (4, .ptr 4 0 0), (5, .ref 23 0 l22.length), (9, .d (.sl (r29.2.map (cI .i64)))), (29, .d (.sl (r29.1.map cS))), (31, .d (.lit (.string a1.Name))), (32, .d (.lit (.int .i64 r30)))] [(3, some (.box [.d (.lit (.int .i64 a1.Kind)), .d (.lit (.string a1.Name)), .d (.lit (.int .i64 a1.Index)), .d (.lit (.int .i64 a1.Value.Kind)), .d (.lit (.int .i64 a1.Value.Int)), .d (.lit (.string a1.Value.Text)), .d (.sl (a1.Args.map cS27))])), (4, some (.box [.d (.lit (.int .i64 0)), .d (.lit (.int .i64 0)), .d (.lit (.string (ByteArray.mk #[])))])), (23, some (.arr 24 3 (l22.map cS24)))]) (by simp; exact Sub.table (by simp) (by simp)) ?_
   refine Chain.runK [] 1 fun K hK => ?_; simp; refine hK _ _ ?_; clear hK K
   refine Chain.sub (S' := mk 92 [] [(3, .ptr 3 0 0), (4, .ptr 4 0 0), (5, .ref 23 0 l22.length), (9, .d (.sl (r29.2.map (cI .i64)))), (10, .d (.lit (.int .i64 r30)))] [(3, some (.box [.d (.lit (.int .i64 a1.Kind)), .d (.lit (.string a1.Name)), .d (.lit (.int .i64 a1.Index)), .d (.lit (.int .i64 a1.Value.Kind)), .d (.lit (.int .i64 a1.Value.Int)), .d (.lit (.string a1.Value.Text)), .d (.sl (a1.Args.map cS27))])), (4, some (.box [.d (.lit (.int .i64 0)), .d (.lit (.int .i64 0)), .d (.lit (.string (ByteArray.mk #[])))])), (23, some (.arr 24 3 (l22.map cS24)))]) Sub.tt ?_
   refine Chain.nil ?_
   replace h := bsome h; obtain ⟨v34, hj, h⟩ := h
   refine AW.cutR (mk 92 [] [(3, .ptr 3 0 0), (4, .ptr 4 0 0), (5, .ref 23 0 l22.length), (43, .d (.lit (.bool v34)))] [(3, some (.box [.d (.lit (.int .i64 a1.Kind)), .d (.lit (.string a1.Name)), .d (.lit (.int .i64 a1.Index)), .d (.lit (.int .i64 a1.Value.Kind)), .d (.lit (.int .i64 a1.Value.Int)), .d (.lit (.string a1.Value.Text)), .d (.sl (a1.Args.map cS27))])), (4, some (.box [.d (.lit (.int .i64 0)), .d (.lit (.int .i64 0)), .d (.lit (.string (ByteArray.mk #[])))])), (23, some (.arr 24 3 (l22.map cS24)))]) ?_ ?_
   ·clear h; have h := hj; clear hj
    refine Chain.runK [] 3 fun K hK => ?_; simp; refine hK _ _ ?_; clear hK K
    refine Chain.sub (S' := mk 92 [] [(3, .ptr 3 0 0), (4, .ptr 4 0 0), (5, .ref 23 0 l22.length), (9, .d (.sl (r29.2.map (cI .i64)))), (10, .d (.lit (.int .i64 r30))), (35, .d (.lit (.bool (decide (r30 < 0)))))] [(3, some (.box [.d (.lit (.int .i64 a1.Kind)), .d (.lit (.string a1.Name)), .d (.lit (.int .i64 a1.Index)), .d (.lit (.int .i64 a1.Value.Kind)), .d (.lit (.int .i64 a1.Value.Int)), .d (.lit (.string a1.Value.Text)), .d (.sl (a1.Args.map cS27))])), (4, some (.box [.d (.lit (.int .i64 0)), .d (.lit (.int .i64 0)), .d (.lit (.string (ByteArray.mk #[])))])), (23, some (.arr 24 3 (l22.map cS24)))]) Sub.tt ?_
    replace h := isome h; rcases h with ⟨c35, h⟩ | ⟨c35, h⟩
    ·have c35_ : decide (r30 < 0) = true := decide_eq_true c35
     refine Chain.sub (Sub.bool 35 (b := decide (r30 < 0)) rfl c35_) ?_
     refine Chain.sub (S' := mk 92 [] [(3, .ptr 3 0 0), (4, .ptr 4 0 0), (5, .ref 23 0 l22.length), (9, .d (.sl (r29.2.map (cI .i64)))), (10, .d (.lit (.int .i64 r30))), (35, .d (.lit (.bool true)))] [(3, some (.box [.d (.lit (.int .i64 a1.Kind)), .d (.lit (.string a1.Name)), .d (.lit (.int .i64 a1.Index)), .d (.lit (.int .i64 a1.Value.Kind)), .d (.lit (.int .i64 a1.Value.Int)), .d (.lit (.string a1.Value.Text)), .d (.sl (a1.Args.map cS27))])), (4, some (.box [.d (.lit (.int .i64 0)), .d (.lit (.int .i64 0)), .d (.lit (.string (ByteArray.mk #[])))])), (23, some (.arr 24 3 (l22.map cS24)))]) (by simp; exact Sub.table (by simp) (by simp)) ?_
     refine Chain.runK [] 8 fun K hK => ?_; simp; refine hK _ _ ?_; clear hK K
     refine Chain.sub (S' := mk 92 [] [(3, .ptr 3 0 0), (4, .ptr 4 0 0), (5, .ref 23 0 l22.length), (43, .d (.lit (.bool true)))] [(3, some (.box [.d (.lit (.int .i64 a1.Kind)), .d (.lit (.string a1.Name)), .d (.lit (.int .i64 a1.Index)), .d (.lit (.int .i64 a1.Value.Kind)), .d (.lit (.int .i64 a1.Value.Int)), .d (.lit (.string a1.Value.Text)), .d (.sl (a1.Args.map cS27))])), (4, some (.box [.d (.lit (.int .i64 0)), .d (.lit (.int .i64 0)), .d (.lit (.string (ByteArray.mk #[])))])), (23, some (.arr 24 3 (l22.map cS24)))]) Sub.tt ?_
     cases h
     exact Chain.nil Sub.tt
    ·have c35_ : decide (r30 < 0) = false := decide_eq_false c35
     refine Chain.sub (Sub.bool 35 (b := decide (r30 < 0)) rfl c35_) ?_
     refine Chain.sub (S' := mk 92 [] [(3, .ptr 3 0 0), (4, .ptr 4 0 0), (5, .ref 23 0 l22.length), (9, .d (.sl (r29.2.map (cI .i64)))), (10, .d (.lit (.int .i64 r30))), (35, .d (.lit (.bool false)))] [(3, some (.box [.d (.lit (.int .i64 a1.Kind)), .d (.lit (.string a1.Name)), .d (.lit (.int .i64 a1.Index)), .d (.lit (.int .i64 a1.Value.Kind)), .d (.lit (.int .i64 a1.Value.Int)), .d (.lit (.string a1.Value.Text)), .d (.sl (a1.Args.map cS27))])), (4, some (.box [.d (.lit (.int .i64 0)), .d (.lit (.int .i64 0)), .d (.lit (.string (ByteArray.mk #[])))])), (23, some (.arr 24 3 (l22.map cS24)))]) (by simp; exact Sub.table (by simp) (by simp)) ?_
     replace h := bsome h; obtain ⟨x36, hx36, h⟩ := h
     obtain ⟨k37, hx36k, hx36, hx36a, hx36b⟩ := idx_some hx36
     refine Chain.runK [] 8 fun K hK => ?_; simp [hx36, hx36k, hx36a]; refine hK _ _ ?_; clear hK K
     refine Chain.sub (S' := mk 92 [] [(3, .ptr 3 0 0), (4, .ptr 4 0 0), (5, .ref 23 0 l22.length), (43, .d (.lit (.bool (x36 != (l22.length : Int)))))] [(3, some (.box [.d (.lit (.int .i64 a1.Kind)), .d (.lit (.string a1.Name)), .d (.lit (.int .i64 a1.Index)), .d (.lit (.int .i64 a1.Value.Kind)), .d (.lit (.int .i64 a1.Value.Int)), .d (.lit (.string a1.Value.Text)), .d (.sl (a1.Args.map cS27))])), (4, some (.box [.d (.lit (.int .i64 0)), .d (.lit (.int .i64 0)), .d (.lit (.string (ByteArray.mk #[])))])), (23, some (.arr 24 3 (l22.map cS24)))]) Sub.tt ?_
     cases h
     exact Chain.nil Sub.tt
   ·clear hj
    replace h := isome h; rcases h with ⟨c38, h⟩ | ⟨c38, h⟩
    ·have c38_ : v34 = true := c38
     refine AW.condT (b := v34) rfl c38_ ?_
     refine AW.sub (Sub.bool 43 (b := v34) rfl c38_) ?_
     refine AW.sub (S' := mk 92 [] [(3, .ptr 3 0 0), (4, .ptr 4 0 0), (5, .ref 23 0 l22.length), (43, .d (.lit (.bool true)))] [(3, some (.box [.d (.lit (.int .i64 a1.Kind)), .d (.lit (.string a1.Name)), .d (.lit (.int .i64 a1.Index)), .d (.lit (.int .i64 a1.Value.Kind)), .d (.lit (.int .i64 a1.Value.Int)), .d (.lit (.string a1.Value.Text)), .d (.sl (a1.Args.map cS27))])), (4, some (.box [.d (.lit (.int .i64 0)), .d (.lit (.int .i64 0)), .d (.lit (.string (ByteArray.mk #[])))])), (23, some (.arr 24 3 (l22.map cS24)))]) (by simp; exact Sub.table (by simp) (by simp)) ?_
     refine AW.seqR ?_
     refine Chain.runK [] 2 fun K hK => ?_; simp; refine hK _ _ ?_; clear hK K
     refine Chain.sub (S' := mk 92 [] [(4, .ptr 4 0 0)] [(4, some (.box [.d (.lit (.int .i64 0)), .d (.lit (.int .i64 0)), .d (.lit (.string (ByteArray.mk #[])))]))]) Sub.tt ?_
     refine Chain.nil ?_
     refine AW.ret ?_
     cases h
     refine thenQ_pass (by simp) ?_
     exact FinC.ret (by simp) (by simp)
    ·have c38_ : v34 = false := Bool.eq_false_iff.2 c38
     refine AW.condF (b := v34) rfl c38_ ?_
     refine AW.sub (Sub.bool 43 (b := v34) rfl c38_) ?_
     refine AW.sub (S' := mk 92 [] [(3, .ptr 3 0 0), (4, .ptr 4 0 0), (5, .ref 23 0 l22.length), (43, .d (.lit (.bool false)))] [(3, some (.box [.d (.lit (.int .i64 a1.Kind)), .d (.lit (.string a1.Name)), .d (.lit (.int .i64 a1.Index)), .d (.lit (.int .i64 a1.Value.Kind)), .d (.lit (.int .i64 a1.Value.Int)), .d (.lit (.string a1.Value.Text)), .d (.sl (a1.Args.map cS27))])), (4, some (.box [.d (.lit (.int .i64 0)), .d (.lit (.int .i64 0)), .d (.lit (.string (ByteArray.mk #[])))])), (23, some (.arr 24 3 (l22.map cS24)))]) (by simp; exact Sub.table (by simp) (by simp)) ?_
     refine AW.skip ?_
     refine thenQ_normal ?_
     refine AW.seq ?_
     refine AW.seqR ?_
     refine Chain.runK [] 2 fun K hK => ?_; simp; refine hK _ _ ?_; clear hK K
     refine Chain.sub (S' := mk 92 [] [(3, .ptr 3 0 0), (4, .ptr 4 0 0), (5, .ref 23 0 l22.length), (46, .d (.lit (.string a1.Name)))] [(3, some (.box [.d (.lit (.int .i64 a1.Kind)), .d (.lit (.string a1.Name)), .d (.lit (.int .i64 a1.Index)), .d (.lit (.int .i64 a1.Value.Kind)), .d (.lit (.int .i64 a1.Value.Int)), .d (.lit (.string a1.Value.Text)), .d (.sl (a1.Args.map cS27))])), (4, some (.box [.d (.lit (.int .i64 0)), .d (.lit (.int .i64 0)), .d (.lit (.string (ByteArray.mk #[])))])), (23, some (.arr 24 3 (l22.map cS24)))]) Sub.tt ?_
     refine Chain.nil ?_
     refine AW.block ?_
     refine AW.seqR ?_
     refine Chain.runK [] 2 fun K hK => ?_; simp; refine hK _ _ ?_; clear hK K
     refine Chain.sub (S' := mk 92 [] [(3, .ptr 3 0 0), (4, .ptr 4 0 0), (5, .ref 23 0 l22.length), (46, .d (.lit (.string a1.Name))), (47, .d (.lit (.bool (decide (a1.Name = (ByteArray.mk #[105, 115, 32, 110, 117, 108, 108]))))))] [(3, some (.box [.d (.lit (.int .i64 a1.Kind)), .d (.lit (.string a1.Name)), .d (.lit (.int .i64 a1.Index)), .d (.lit (.int .i64 a1.Value.Kind)), .d (.lit (.int .i64 a1.Value.Int)), .d (.lit (.string a1.Value.Text)), .d (.sl (a1.Args.map cS27))])), (4, some (.box [.d (.lit (.int .i64 0)), .d (.lit (.int .i64 0)), .d (.lit (.string (ByteArray.mk #[])))])), (23, some (.arr 24 3 (l22.map cS24)))]) Sub.tt ?_
     refine Chain.nil ?_
     replace h := isome h; rcases h with ⟨c39, h⟩ | ⟨c39, h⟩
     ·have c39_ : decide (a1.Name = (ByteArray.mk #[105, 115, 32, 110, 117, 108, 108])) = true := c39
      refine AW.condT (b := decide (a1.Name = (ByteArray.mk #[105, 115, 32, 110, 117, 108, 108]))) rfl c39_ ?_
      refine AW.sub (Sub.bool 47 (b := decide (a1.Name = (ByteArray.mk #[105, 115, 32, 110, 117, 108, 108]))) rfl c39_) ?_
      refine AW.sub (S' := mk 92 [] [(3, .ptr 3 0 0), (4, .ptr 4 0 0), (5, .ref 23 0 l22.length), (46, .d (.lit (.string a1.Name))), (47, .d (.lit (.bool true)))] [(3, some (.box [.d (.lit (.int .i64 a1.Kind)), .d (.lit (.string a1.Name)), .d (.lit (.int .i64 a1.Index)), .d (.lit (.int .i64 a1.Value.Kind)), .d (.lit (.int .i64 a1.Value.Int)), .d (.lit (.string a1.Value.Text)), .d (.sl (a1.Args.map cS27))])), (4, some (.box [.d (.lit (.int .i64 0)), .d (.lit (.int .i64 0)), .d (.lit (.string (ByteArray.mk #[])))])), (23, some (.arr 24 3 (l22.map cS24)))]) (by simp; exact Sub.table (by simp) (by simp)) ?_
      refine AW.seqR ?_
      replace h := bsome h; obtain ⟨x40, hx40, h⟩ := h
      obtain ⟨hx40, hx40b, hx40c⟩ := idx_someN (n := 0) hx40
      have hx40d : (0 : Int) < (l22.length : Int) := by omega
      refine Chain.runK [] 5 fun K hK => ?_; simp [hx40b, hx40c]; refine hK _ _ ?_; clear hK K
      refine Chain.sub (S' := mk 92 [] [(4, .ptr 4 0 0), (53, .d (.lit (.bool (x40.Kind == 0))))] [(4, some (.box [.d (.lit (.int .i64 0)), .d (.lit (.int .i64 0)), .d (.lit (.string (ByteArray.mk #[])))]))]) Sub.tt ?_
      replace h := bsome h; obtain ⟨r41, hr41, h⟩ := h
      refine Chain.callC (d := 54) (p15 N (x40.Kind == 0) r41 hr41) (by simp) rfl rfl (by simp <;> rfl) (by simp <;> rfl) ent15 (by simp) (.inl ⟨by simp, by simp⟩) ?_
      refine Chain.sub (S' := mk 92 [] [(4, .ptr 4 0 0), (53, .d (.lit (.bool (x40.Kind == 0)))), (54, .agg [.d (.lit (.int .i64 r41.Kind)), .d (.lit (.int .i64 r41.Int)), .d (.lit (.string r41.Text))])] [(4, some (.box [.d (.lit (.int .i64 0)), .d (.lit (.int .i64 0)), .d (.lit (.string (ByteArray.mk #[])))]))]) (by simp; exact Sub.table (by simp) (by simp)) ?_
      refine Chain.runK [] 1 fun K hK => ?_; simp; refine hK _ _ ?_; clear hK K
      refine Chain.sub (S' := mk 92 [] [(4, .ptr 4 0 0)] [(4, some (.box [.d (.lit (.int .i64 r41.Kind)), .d (.lit (.int .i64 r41.Int)), .d (.lit (.string r41.Text))]))]) Sub.tt ?_
      refine Chain.nil ?_
      refine AW.ret ?_
      cases h
      refine blockQ.ret ?_
      refine thenQ_pass (by simp) ?_
      exact FinC.ret (by simp) (by simp)
     ·have c39_ : decide (a1.Name = (ByteArray.mk #[105, 115, 32, 110, 117, 108, 108])) = false := Bool.eq_false_iff.2 c39
      refine AW.condF (b := decide (a1.Name = (ByteArray.mk #[105, 115, 32, 110, 117, 108, 108]))) rfl c39_ ?_
      refine AW.sub (Sub.bool 47 (b := decide (a1.Name = (ByteArray.mk #[105, 115, 32, 110, 117, 108, 108]))) rfl c39_) ?_
      refine AW.sub (S' := mk 92 [] [(3, .ptr 3 0 0), (4, .ptr 4 0 0), (5, .ref 23 0 l22.length), (46, .d (.lit (.string a1.Name))), (47, .d (.lit (.bool false)))] [(3, some (.box [.d (.lit (.int .i64 a1.Kind)), .d (.lit (.string a1.Name)), .d (.lit (.int .i64 a1.Index)), .d (.lit (.int .i64 a1.Value.Kind)), .d (.lit (.int .i64 a1.Value.Int)), .d (.lit (.string a1.Value.Text)), .d (.sl (a1.Args.map cS27))])), (4, some (.box [.d (.lit (.int .i64 0)), .d (.lit (.int .i64 0)), .d (.lit (.string (ByteArray.mk #[])))])), (23, some (.arr 24 3 (l22.map cS24)))]) (by simp; exact Sub.table (by simp) (by simp)) ?_
      refine AW.seqR ?_
      refine Chain.runK [] 2 fun K hK => ?_; simp; refine hK _ _ ?_; clear hK K
      refine Chain.sub (S' := mk 92 [] [(3, .ptr 3 0 0), (4, .ptr 4 0 0), (5, .ref 23 0 l22.length), (46, .d (.lit (.string a1.Name))), (55, .d (.lit (.bool (decide (a1.Name = (ByteArray.mk #[105, 102]))))))] [(3, some (.box [.d (.lit (.int .i64 a1.Kind)), .d (.lit (.string a1.Name)), .d (.lit (.int .i64 a1.Index)), .d (.lit (.int .i64 a1.Value.Kind)), .d (.lit (.int .i64 a1.Value.Int)), .d (.lit (.string a1.Value.Text)), .d (.sl (a1.Args.map cS27))])), (4, some (.box [.d (.lit (.int .i64 0)), .d (.lit (.int .i64 0)), .d (.lit (.string (ByteArray.mk #[])))])), (23, some (.arr 24 3 (l22.map cS24)))]) Sub.tt ?_
      refine Chain.nil ?_
      replace h := isome h; rcases h with ⟨c42, h⟩ | ⟨c42, h⟩
      ·have c42_ : decide (a1.Name = (ByteArray.mk #[105, 102])) = true := c42
       refine AW.condT (b := decide (a1.Name = (ByteArray.mk #[105, 102]))) rfl c42_ ?_
       refine AW.sub (Sub.bool 55 (b := decide (a1.Name = (ByteArray.mk #[105, 102]))) rfl c42_) ?_
       refine AW.sub (S' := mk 92 [] [(3, .ptr 3 0 0), (4, .ptr 4 0 0), (5, .ref 23 0 l22.length), (46, .d (.lit (.string a1.Name))), (55, .d (.lit (.bool true)))] [(3, some (.box [.d (.lit (.int .i64 a1.Kind)), .d (.lit (.string a1.Name)), .d (.lit (.int .i64 a1.Index)), .d (.lit (.int .i64 a1.Value.Kind)), .d (.lit (.int .i64 a1.Value.Int)), .d (.lit (.string a1.Value.Text)), .d (.sl (a1.Args.map cS27))])), (4, some (.box [.d (.lit (.int .i64 0)), .d (.lit (.int .i64 0)), .d (.lit (.string (ByteArray.mk #[])))])), (23, some (.arr 24 3 (l22.map cS24)))]) (by simp; exact Sub.table (by simp) (by simp)) ?_
       refine AW.seq ?_
       refine AW.seqR ?_
       replace h := bsome h; obtain ⟨x43, hx43, h⟩ := h
       obtain ⟨hx43, hx43b, hx43c⟩ := idx_someN (n := 0) hx43
       have hx43d : (0 : Int) < (l22.length : Int) := by omega
       refine Chain.runK [] 3 fun K hK => ?_; simp [hx43b, hx43c]; refine hK _ _ ?_; clear hK K
       refine Chain.sub (S' := mk 92 [] [(4, .ptr 4 0 0), (5, .ref 23 0 l22.length), (59, .agg [.d (.lit (.int .i64 x43.Kind)), .d (.lit (.int .i64 x43.Int)), .d (.lit (.string x43.Text))])] [(4, some (.box [.d (.lit (.int .i64 0)), .d (.lit (.int .i64 0)), .d (.lit (.string (ByteArray.mk #[])))])), (23, some (.arr 24 3 (l22.map cS24)))]) Sub.tt ?_
       replace h := bsome h; obtain ⟨r44, hr44, h⟩ := h
       refine Chain.callL (d := 60) (p14 N x43 r44 hr44) (by simp) rfl rfl (by simp <;> rfl) (by simp <;> rfl) ent14 (by simp <;> rfl) ?_
       refine Chain.sub (S' := mk 92 [] [(4, .ptr 4 0 0), (5, .ref 23 0 l22.length), (59, .agg [.d (.lit (.int .i64 x43.Kind)), .d (.lit (.int .i64 x43.Int)), .d (.lit (.string x43.Text))]), (60, .d (.lit (.bool r44)))] [(4, some (.box [.d (.lit (.int .i64 0)), .d (.lit (.int .i64 0)), .d (.lit (.string (ByteArray.mk #[])))])), (23, some (.arr 24 3 (l22.map cS24)))]) (by simp; exact Sub.table (by simp) (by simp)) ?_
       refine Chain.nil ?_
       replace h := isome h; rcases h with ⟨c45, h⟩ | ⟨c45, h⟩
       ·have c45_ : r44 = true := c45
        refine AW.condT (b := r44) rfl c45_ ?_
        refine AW.sub (Sub.bool 60 (b := r44) rfl c45_) ?_
        refine AW.sub (S' := mk 92 [] [(4, .ptr 4 0 0), (5, .ref 23 0 l22.length), (59, .agg [.d (.lit (.int .i64 x43.Kind)), .d (.lit (.int .i64 x43.Int)), .d (.lit (.string x43.Text))]), (60, .d (.lit (.bool true)))] [(4, some (.box [.d (.lit (.int .i64 0)), .d (.lit (.int .i64 0)), .d (.lit (.string (ByteArray.mk #[])))])), (23, some (.arr 24 3 (l22.map cS24)))]) (by simp; exact Sub.table (by simp) (by simp)) ?_
        refine AW.seqR ?_
        replace h := bsome h; obtain ⟨x46, hx46, h⟩ := h
        obtain ⟨hx46, hx46b, hx46c⟩ := idx_someN (n := 1) hx46
        have hx46d : (1 : Int) < (l22.length : Int) := by omega
        refine Chain.runK [] 4 fun K hK => ?_; simp [hx46b, hx46c, hx46d]; refine hK _ _ ?_; clear hK K
        refine Chain.sub (S' := mk 92 [] [(4, .ptr 4 0 0)] [(4, some (.box [.d (.lit (.int .i64 x46.Kind)), .d (.lit (.int .i64 x46.Int)), .d (.lit (.string x46.Text))]))]) Sub.tt ?_
        refine Chain.nil ?_
        refine AW.ret ?_
        cases h
        refine thenQ_pass (by simp) ?_
        refine blockQ.ret ?_
        refine thenQ_pass (by simp) ?_
        exact FinC.ret (by simp) (by simp)
       ·have c45_ : r44 = false := Bool.eq_false_iff.2 c45
        refine AW.condF (b := r44) rfl c45_ ?_
        refine AW.sub (Sub.bool 60 (b := r44) rfl c45_) ?_
        refine AW.sub (S' := mk 92 [] [(4, .ptr 4 0 0), (5, .ref 23 0 l22.length), (59, .agg [.d (.lit (.int .i64 x43.Kind)), .d (.lit (.int .i64 x43.Int)), .d (.lit (.string x43.Text))]), (60, .d (.lit (.bool false)))] [(4, some (.box [.d (.lit (.int .i64 0)), .d (.lit (.int .i64 0)), .d (.lit (.string (ByteArray.mk #[])))])), (23, some (.arr 24 3 (l22.map cS24)))]) (by simp; exact Sub.table (by simp) (by simp)) ?_
        refine AW.skip ?_
        refine thenQ_normal ?_
        refine AW.seqR ?_
        replace h := bsome h; obtain ⟨x47, hx47, h⟩ := h
        obtain ⟨hx47, hx47b, hx47c⟩ := idx_someN (n := 2) hx47
        have hx47d : (2 : Int) < (l22.length : Int) := by omega
        refine Chain.runK [] 4 fun K hK => ?_; simp [hx47b, hx47c, hx47d]; refine hK _ _ ?_; clear hK K
        refine Chain.sub (S' := mk 92 [] [(4, .ptr 4 0 0)] [(4, some (.box [.d (.lit (.int .i64 x47.Kind)), .d (.lit (.int .i64 x47.Int)), .d (.lit (.string x47.Text))]))]) Sub.tt ?_
        refine Chain.nil ?_
        refine AW.ret ?_
        cases h
        refine blockQ.ret ?_
        refine thenQ_pass (by simp) ?_
        exact FinC.ret (by simp) (by simp)
      ·have c42_ : decide (a1.Name = (ByteArray.mk #[105, 102])) = false := Bool.eq_false_iff.2 c42
       refine AW.condF (b := decide (a1.Name = (ByteArray.mk #[105, 102]))) rfl c42_ ?_
       refine AW.sub (Sub.bool 55 (b := decide (a1.Name = (ByteArray.mk #[105, 102]))) rfl c42_) ?_
       refine AW.sub (S' := mk 92 [] [(3, .ptr 3 0 0), (4, .ptr 4 0 0), (5, .ref 23 0 l22.length), (46, .d (.lit (.string a1.Name))), (55, .d (.lit (.bool false)))] [(3, some (.box [.d (.lit (.int .i64 a1.Kind)), .d (.lit (.string a1.Name)), .d (.lit (.int .i64 a1.Index)), .d (.lit (.int .i64 a1.Value.Kind)), .d (.lit (.int .i64 a1.Value.Int)), .d (.lit (.string a1.Value.Text)), .d (.sl (a1.Args.map cS27))])), (4, some (.box [.d (.lit (.int .i64 0)), .d (.lit (.int .i64 0)), .d (.lit (.string (ByteArray.mk #[])))])), (23, some (.arr 24 3 (l22.map cS24)))]) (by simp; exact Sub.table (by simp) (by simp)) ?_
       refine AW.seqR ?_
       refine Chain.runK [] 2 fun K hK => ?_; simp; refine hK _ _ ?_; clear hK K
       refine Chain.sub (S' := mk 92 [] [(3, .ptr 3 0 0), (4, .ptr 4 0 0), (5, .ref 23 0 l22.length), (46, .d (.lit (.string a1.Name))), (67, .d (.lit (.bool (decide (a1.Name = (ByteArray.mk #[97, 110, 100]))))))] [(3, some (.box [.d (.lit (.int .i64 a1.Kind)), .d (.lit (.string a1.Name)), .d (.lit (.int .i64 a1.Index)), .d (.lit (.int .i64 a1.Value.Kind)), .d (.lit (.int .i64 a1.Value.Int)), .d (.lit (.string a1.Value.Text)), .d (.sl (a1.Args.map cS27))])), (4, some (.box [.d (.lit (.int .i64 0)), .d (.lit (.int .i64 0)), .d (.lit (.string (ByteArray.mk #[])))])), (23, some (.arr 24 3 (l22.map cS24)))]) Sub.tt ?_
       refine Chain.nil ?_
       replace h := isome h; rcases h with ⟨c48, h⟩ | ⟨c48, h⟩
       ·have c48_ : decide (a1.Name = (ByteArray.mk #[97, 110, 100])) = true := c48
        refine AW.condT (b := decide (a1.Name = (ByteArray.mk #[97, 110, 100]))) rfl c48_ ?_
        refine AW.sub (Sub.bool 67 (b := decide (a1.Name = (ByteArray.mk #[97, 110, 100]))) rfl c48_) ?_
        refine AW.sub (S' := mk 92 [] [(3, .ptr 3 0 0), (4, .ptr 4 0 0), (5, .ref 23 0 l22.length), (46, .d (.lit (.string a1.Name))), (67, .d (.lit (.bool true)))] [(3, some (.box [.d (.lit (.int .i64 a1.Kind)), .d (.lit (.string a1.Name)), .d (.lit (.int .i64 a1.Index)), .d (.lit (.int .i64 a1.Value.Kind)), .d (.lit (.int .i64 a1.Value.Int)), .d (.lit (.string a1.Value.Text)), .d (.sl (a1.Args.map cS27))])), (4, some (.box [.d (.lit (.int .i64 0)), .d (.lit (.int .i64 0)), .d (.lit (.string (ByteArray.mk #[])))])), (23, some (.arr 24 3 (l22.map cS24)))]) (by simp; exact Sub.table (by simp) (by simp)) ?_
        replace h := bsome h; obtain ⟨x49, hx49, h⟩ := h
        obtain ⟨hx49, hx49b, hx49c⟩ := idx_someN (n := 0) hx49
        have hx49d : (0 : Int) < (l22.length : Int) := by omega
        replace h := bsome h; obtain ⟨x50, hx50, h⟩ := h
        obtain ⟨hx50, hx50b, hx50c⟩ := idx_someN (n := 1) hx50
        have hx50d : (1 : Int) < (l22.length : Int) := by omega
        replace h := bsome h; obtain ⟨r51, hr51, h⟩ := h
        refine AW.seqAnyS [[], [0], [0, 1], [], [3], [3, 4], [0, 1, 2, 3, 4, 5], [0, 1, 2, 3, 4, 5, 6]] (fun (b : Nat → Bool) => mk 92 [] [(4, .ptr 4 0 0), (5, .ref 23 0 l22.length), (69, (if b 0 then .ref 23 0 l22.length else .junk)), (70, (if b 1 then .ptr 23 0 0 else .junk)), (71, (if b 2 then .agg [.d (.lit (.int .i64 x49.Kind)), .d (.lit (.int .i64 x49.Int)), .d (.lit (.string x49.Text))] else .junk)), (72, (if b 3 then .ref 23 0 l22.length else .junk)), (73, (if b 4 then .ptr 23 1 0 else .junk)), (74, (if b 5 then .agg [.d (.lit (.int .i64 x50.Kind)), .d (.lit (.int .i64 x50.Int)), .d (.lit (.string x50.Text))] else .junk)), (75, (if b 6 then .agg [.d (.lit (.int .i64 r51.Kind)), .d (.lit (.int .i64 r51.Int)), .d (.lit (.string r51.Text))] else .junk))] [(4, (if b 7 then some (.box [.d (.lit (.int .i64 r51.Kind)), .d (.lit (.int .i64 r51.Int)), .d (.lit (.string r51.Text))]) else some (.box [.d (.lit (.int .i64 0)), .d (.lit (.int .i64 0)), .d (.lit (.string (ByteArray.mk #[])))]))), (23, some (.arr 24 3 (l22.map cS24)))]) (mk 92 [] [(4, .ptr 4 0 0)] [(4, some (.box [.d (.lit (.int .i64 r51.Kind)), .d (.lit (.int .i64 r51.Int)), .d (.lit (.string r51.Text))]))]) (by kernel_rfl) (by kernel_rfl) Sub.tt (Steps.cons ?_ (Steps.cons ?_ (Steps.cons ?_ (Steps.cons ?_ (Steps.cons ?_ (Steps.cons ?_ (Steps.cons ?_ (Steps.cons ?_ (Steps.nil))))))))) ?_ ?_
        ·intro b h0 ha hd
         have f1 : b 1 = false := hd 1 (by decide)
         have f2 : b 2 = false := hd 2 (by decide)
         have f6 : b 6 = false := hd 6 (by decide)
         have f7 : b 7 = false := hd 7 (by decide)
         refine Chain.runK [] 1 fun K hK => ?_; simp [h0, f1, f2, f6, f7]; refine hK _ _ ?_; clear hK K
         exact Chain.nil (Sub.table (by simp [f1, f2, f6]) (by simp [f7]))
        ·intro b h0 ha hd
         have t0 : b 0 = true := ha 0 (by decide)
         have f2 : b 2 = false := hd 2 (by decide)
         have f6 : b 6 = false := hd 6 (by decide)
         have f7 : b 7 = false := hd 7 (by decide)
         refine Chain.runK [] 1 fun K hK => ?_; simp [h0, t0, f2, f6, f7, hx49b]; refine hK _ _ ?_; clear hK K
         exact Chain.nil (Sub.table (by simp [t0, f2, f6]) (by simp [f7]))
        ·intro b h0 ha hd
         have t0 : b 0 = true := ha 0 (by decide)
         have t1 : b 1 = true := ha 1 (by decide)
         have f6 : b 6 = false := hd 6 (by decide)
         have f7 : b 7 = false := hd 7 (by decide)
         refine Chain.runK [] 1 fun K hK => ?_; simp [h0, t0, t1, f6, f7, hx49b, hx49c]; refine hK _ _ ?_; clear hK K
         exact Chain.nil (Sub.table (by simp [t0, t1, f6]) (by simp [f7]))
        ·intro b h0 ha hd
         have f4 : b 4 = false := hd 4 (by decide)
         have f5 : b 5 = false := hd 5 (by decide)
         have f6 : b 6 = false := hd 6 (by decide)
         have f7 : b 7 = false := hd 7 (by decide)
         refine Chain.runK [] 1 fun K hK => ?_; simp [h0, f4, f5, f6, f7]; refine hK _ _ ?_; clear hK K
         exact Chain.nil (Sub.table (by simp [f4, f5, f6]) (by simp [f7]))
        ·intro b h0 ha hd
         have t3 : b 3 = true := ha 3 (by decide)
         have f5 : b 5 = false := hd 5 (by decide)
         have f6 : b 6 = false := hd 6 (by decide)
         have f7 : b 7 = false := hd 7 (by decide)
         refine Chain.runK [] 1 fun K hK => ?_; simp [h0, t3, f5, f6, f7, hx50d]; refine hK _ _ ?_; clear hK K
         exact Chain.nil (Sub.table (by simp [t3, f5, f6]) (by simp [f7]))
        ·intro b h0 ha hd
         have t3 : b 3 = true := ha 3 (by decide)
         have t4 : b 4 = true := ha 4 (by decide)
         have f6 : b 6 = false := hd 6 (by decide)
         have f7 : b 7 = false := hd 7 (by decide)
         refine Chain.runK [] 1 fun K hK => ?_; simp [h0, t3, t4, f6, f7, hx50b, hx50c]; refine hK _ _ ?_; clear hK K
         exact Chain.nil (Sub.table (by simp [t3, t4, f6]) (by simp [f7]))
        ·intro b h0 ha hd
         have t0 : b 0 = true := ha 0 (by decide)
         have t1 : b 1 = true := ha 1 (by decide)
         have t2 : b 2 = true := ha 2 (by decide)
         have t3 : b 3 = true := ha 3 (by decide)
         have t4 : b 4 = true := ha 4 (by decide)
         have t5 : b 5 = true := ha 5 (by decide)
         have f7 : b 7 = false := hd 7 (by decide)
         simp only [h0, t0, t1, t2, t3, t4, t5, f7, if_true, if_false, Bool.false_eq_true]
         refine Chain.callC (d := 75) (p36 N x49 x50 0 r51 hr51) (by simp) rfl rfl (by simp <;> rfl) (by simp <;> rfl) ent36 (by simp) (.inl ⟨by simp, by simp⟩) ?_
         exact Chain.nil (by simp [t0, t1, t2, t3, t4, t5, f7]; exact Sub.table (by simp) (by simp))
        ·intro b h0 ha hd
         have t0 : b 0 = true := ha 0 (by decide)
         have t1 : b 1 = true := ha 1 (by decide)
         have t2 : b 2 = true := ha 2 (by decide)
         have t3 : b 3 = true := ha 3 (by decide)
         have t4 : b 4 = true := ha 4 (by decide)
         have t5 : b 5 = true := ha 5 (by decide)
         have t6 : b 6 = true := ha 6 (by decide)
         refine Chain.runK [] 1 fun K hK => ?_; simp [h0, t0, t1, t2, t3, t4, t5, t6]; refine hK _ _ ?_; clear hK K
         exact Chain.nil (Sub.table (by simp [t0, t1, t2, t3, t4, t5, t6]) (by simp))
        ·intro b hb
         have t0 := hb 0 (by decide)
         have t1 := hb 1 (by decide)
         have t2 := hb 2 (by decide)
         have t3 := hb 3 (by decide)
         have t4 := hb 4 (by decide)
         have t5 := hb 5 (by decide)
         have t6 := hb 6 (by decide)
         have t7 := hb 7 (by decide)
         exact Sub.table (by simp [t0, t1, t2, t3, t4, t5, t6]) (by simp [t7])
        ·skip
         refine AW.ret ?_
         cases h
         refine blockQ.ret ?_
         refine thenQ_pass (by simp) ?_
         exact FinC.ret (by simp) (by simp)
       ·have c48_ : decide (a1.Name = (ByteArray.mk #[97, 110, 100])) = false := Bool.eq_false_iff.2 c48
        refine AW.condF (b := decide (a1.Name = (ByteArray.mk #[97, 110, 100]))) rfl c48_ ?_
        refine AW.sub (Sub.bool 67 (b := decide (a1.Name = (ByteArray.mk #[97, 110, 100]))) rfl c48_) ?_
        refine AW.sub (S' := mk 92 [] [(3, .ptr 3 0 0), (4, .ptr 4 0 0), (5, .ref 23 0 l22.length), (46, .d (.lit (.string a1.Name))), (67, .d (.lit (.bool false)))] [(3, some (.box [.d (.lit (.int .i64 a1.Kind)), .d (.lit (.string a1.Name)), .d (.lit (.int .i64 a1.Index)), .d (.lit (.int .i64 a1.Value.Kind)), .d (.lit (.int .i64 a1.Value.Int)), .d (.lit (.string a1.Value.Text)), .d (.sl (a1.Args.map cS27))])), (4, some (.box [.d (.lit (.int .i64 0)), .d (.lit (.int .i64 0)), .d (.lit (.string (ByteArray.mk #[])))])), (23, some (.arr 24 3 (l22.map cS24)))]) (by simp; exact Sub.table (by simp) (by simp)) ?_
        refine AW.seqR ?_
        refine Chain.runK [] 2 fun K hK => ?_; simp; refine hK _ _ ?_; clear hK K
        refine Chain.sub (S' := mk 92 [] [(3, .ptr 3 0 0), (4, .ptr 4 0 0), (5, .ref 23 0 l22.length), (76, .d (.lit (.bool (decide (a1.Name = (ByteArray.mk #[111, 114]))))))] [(3, some (.box [.d (.lit (.int .i64 a1.Kind)), .d (.lit (.string a1.Name)), .d (.lit (.int .i64 a1.Index)), .d (.lit (.int .i64 a1.Value.Kind)), .d (.lit (.int .i64 a1.Value.Int)), .d (.lit (.string a1.Value.Text)), .d (.sl (a1.Args.map cS27))])), (4, some (.box [.d (.lit (.int .i64 0)), .d (.lit (.int .i64 0)), .d (.lit (.string (ByteArray.mk #[])))])), (23, some (.arr 24 3 (l22.map cS24)))]) Sub.tt ?_
        refine Chain.nil ?_
        replace h := isome h; rcases h with ⟨c52, h⟩ | ⟨c52, h⟩
        ·have c52_ : decide (a1.Name = (ByteArray.mk #[111, 114])) = true := c52
         refine AW.condT (b := decide (a1.Name = (ByteArray.mk #[111, 114]))) rfl c52_ ?_
         refine AW.sub (Sub.bool 76 (b := decide (a1.Name = (ByteArray.mk #[111, 114]))) rfl c52_) ?_
         refine AW.sub (S' := mk 92 [] [(3, .ptr 3 0 0), (4, .ptr 4 0 0), (5, .ref 23 0 l22.length), (76, .d (.lit (.bool true)))] [(3, some (.box [.d (.lit (.int .i64 a1.Kind)), .d (.lit (.string a1.Name)), .d (.lit (.int .i64 a1.Index)), .d (.lit (.int .i64 a1.Value.Kind)), .d (.lit (.int .i64 a1.Value.Int)), .d (.lit (.string a1.Value.Text)), .d (.sl (a1.Args.map cS27))])), (4, some (.box [.d (.lit (.int .i64 0)), .d (.lit (.int .i64 0)), .d (.lit (.string (ByteArray.mk #[])))])), (23, some (.arr 24 3 (l22.map cS24)))]) (by simp; exact Sub.table (by simp) (by simp)) ?_
         replace h := bsome h; obtain ⟨x53, hx53, h⟩ := h
         obtain ⟨hx53, hx53b, hx53c⟩ := idx_someN (n := 0) hx53
         have hx53d : (0 : Int) < (l22.length : Int) := by omega
         replace h := bsome h; obtain ⟨x54, hx54, h⟩ := h
         obtain ⟨hx54, hx54b, hx54c⟩ := idx_someN (n := 1) hx54
         have hx54d : (1 : Int) < (l22.length : Int) := by omega
         replace h := bsome h; obtain ⟨r55, hr55, h⟩ := h
         refine AW.seqAnyS [[], [0], [0, 1], [], [3], [3, 4], [0, 1, 2, 3, 4, 5], [0, 1, 2, 3, 4, 5, 6]] (fun (b : Nat → Bool) => mk 92 [] [(4, .ptr 4 0 0), (5, .ref 23 0 l22.length), (78, (if b 0 then .ref 23 0 l22.length else .junk)), (79, (if b 1 then .ptr 23 0 0 else .junk)), (80, (if b 2 then .agg [.d (.lit (.int .i64 x53.Kind)), .d (.lit (.int .i64 x53.Int)), .d (.lit (.string x53.Text))] else .junk)), (81, (if b 3 then .ref 23 0 l22.length else .junk)), (82, (if b 4 then .ptr 23 1 0 else .junk)), (83, (if b 5 then .agg [.d (.lit (.int .i64 x54.Kind)), .d (.lit (.int .i64 x54.Int)), .d (.lit (.string x54.Text))] else .junk)), (84, (if b 6 then .agg [.d (.lit (.int .i64 r55.Kind)), .d (.lit (.int .i64 r55.Int)), .d (.lit (.string r55.Text))] else .junk))] [(4, (if b 7 then some (.box [.d (.lit (.int .i64 r55.Kind)), .d (.lit (.int .i64 r55.Int)), .d (.lit (.string r55.Text))]) else some (.box [.d (.lit (.int .i64 0)), .d (.lit (.int .i64 0)), .d (.lit (.string (ByteArray.mk #[])))]))), (23, some (.arr 24 3 (l22.map cS24)))]) (mk 92 [] [(4, .ptr 4 0 0)] [(4, some (.box [.d (.lit (.int .i64 r55.Kind)), .d (.lit (.int .i64 r55.Int)), .d (.lit (.string r55.Text))]))]) (by kernel_rfl) (by kernel_rfl) Sub.tt (Steps.cons ?_ (Steps.cons ?_ (Steps.cons ?_ (Steps.cons ?_ (Steps.cons ?_ (Steps.cons ?_ (Steps.cons ?_ (Steps.cons ?_ (Steps.nil))))))))) ?_ ?_
         ·intro b h0 ha hd
          have f1 : b 1 = false := hd 1 (by decide)
          have f2 : b 2 = false := hd 2 (by decide)
          have f6 : b 6 = false := hd 6 (by decide)
          have f7 : b 7 = false := hd 7 (by decide)
          refine Chain.runK [] 1 fun K hK => ?_; simp [h0, f1, f2, f6, f7]; refine hK _ _ ?_; clear hK K
          exact Chain.nil (Sub.table (by simp [f1, f2, f6]) (by simp [f7]))
         ·intro b h0 ha hd
          have t0 : b 0 = true := ha 0 (by decide)
          have f2 : b 2 = false := hd 2 (by decide)
          have f6 : b 6 = false := hd 6 (by decide)
          have f7 : b 7 = false := hd 7 (by decide)
          refine Chain.runK [] 1 fun K hK => ?_; simp [h0, t0, f2, f6, f7, hx53b]; refine hK _ _ ?_; clear hK K
          exact Chain.nil (Sub.table (by simp [t0, f2, f6]) (by simp [f7]))
         ·intro b h0 ha hd
          have t0 : b 0 = true := ha 0 (by decide)
          have t1 : b 1 = true := ha 1 (by decide)
          have f6 : b 6 = false := hd 6 (by decide)
          have f7 : b 7 = false := hd 7 (by decide)
          refine Chain.runK [] 1 fun K hK => ?_; simp [h0, t0, t1, f6, f7, hx53b, hx53c]; refine hK _ _ ?_; clear hK K
          exact Chain.nil (Sub.table (by simp [t0, t1, f6]) (by simp [f7]))
         ·intro b h0 ha hd
          have f4 : b 4 = false := hd 4 (by decide)
          have f5 : b 5 = false := hd 5 (by decide)
          have f6 : b 6 = false := hd 6 (by decide)
          have f7 : b 7 = false := hd 7 (by decide)
          refine Chain.runK [] 1 fun K hK => ?_; simp [h0, f4, f5, f6, f7]; refine hK _ _ ?_; clear hK K
          exact Chain.nil (Sub.table (by simp [f4, f5, f6]) (by simp [f7]))
         ·intro b h0 ha hd
          have t3 : b 3 = true := ha 3 (by decide)
          have f5 : b 5 = false := hd 5 (by decide)
          have f6 : b 6 = false := hd 6 (by decide)
          have f7 : b 7 = false := hd 7 (by decide)
          refine Chain.runK [] 1 fun K hK => ?_; simp [h0, t3, f5, f6, f7, hx54d]; refine hK _ _ ?_; clear hK K
          exact Chain.nil (Sub.table (by simp [t3, f5, f6]) (by simp [f7]))
         ·intro b h0 ha hd
          have t3 : b 3 = true := ha 3 (by decide)
          have t4 : b 4 = true := ha 4 (by decide)
          have f6 : b 6 = false := hd 6 (by decide)
          have f7 : b 7 = false := hd 7 (by decide)
          refine Chain.runK [] 1 fun K hK => ?_; simp [h0, t3, t4, f6, f7, hx54b, hx54c]; refine hK _ _ ?_; clear hK K
          exact Chain.nil (Sub.table (by simp [t3, t4, f6]) (by simp [f7]))
         ·intro b h0 ha hd
          have t0 : b 0 = true := ha 0 (by decide)
          have t1 : b 1 = true := ha 1 (by decide)
          have t2 : b 2 = true := ha 2 (by decide)
          have t3 : b 3 = true := ha 3 (by decide)
          have t4 : b 4 = true := ha 4 (by decide)
          have t5 : b 5 = true := ha 5 (by decide)
          have f7 : b 7 = false := hd 7 (by decide)
          simp only [h0, t0, t1, t2, t3, t4, t5, f7, if_true, if_false, Bool.false_eq_true]
          refine Chain.callC (d := 84) (p36 N x53 x54 1 r55 hr55) (by simp) rfl rfl (by simp <;> rfl) (by simp <;> rfl) ent36 (by simp) (.inl ⟨by simp, by simp⟩) ?_
          exact Chain.nil (by simp [t0, t1, t2, t3, t4, t5, f7]; exact Sub.table (by simp) (by simp))
         ·intro b h0 ha hd
          have t0 : b 0 = true := ha 0 (by decide)
          have t1 : b 1 = true := ha 1 (by decide)
          have t2 : b 2 = true := ha 2 (by decide)
          have t3 : b 3 = true := ha 3 (by decide)
          have t4 : b 4 = true := ha 4 (by decide)
          have t5 : b 5 = true := ha 5 (by decide)
          have t6 : b 6 = true := ha 6 (by decide)
          refine Chain.runK [] 1 fun K hK => ?_; simp [h0, t0, t1, t2, t3, t4, t5, t6]; refine hK _ _ ?_; clear hK K
          exact Chain.nil (Sub.table (by simp [t0, t1, t2, t3, t4, t5, t6]) (by simp))
         ·intro b hb
          have t0 := hb 0 (by decide)
          have t1 := hb 1 (by decide)
          have t2 := hb 2 (by decide)
          have t3 := hb 3 (by decide)
          have t4 := hb 4 (by decide)
          have t5 := hb 5 (by decide)
          have t6 := hb 6 (by decide)
          have t7 := hb 7 (by decide)
          exact Sub.table (by simp [t0, t1, t2, t3, t4, t5, t6]) (by simp [t7])
         ·skip
          refine AW.ret ?_
          cases h
          refine blockQ.ret ?_
          refine thenQ_pass (by simp) ?_
          exact FinC.ret (by simp) (by simp)
        ·have c52_ : decide (a1.Name = (ByteArray.mk #[111, 114])) = false := Bool.eq_false_iff.2 c52
         refine AW.condF (b := decide (a1.Name = (ByteArray.mk #[111, 114]))) rfl c52_ ?_
         refine AW.sub (Sub.bool 76 (b := decide (a1.Name = (ByteArray.mk #[111, 114]))) rfl c52_) ?_
         refine AW.sub (S' := mk 92 [] [(3, .ptr 3 0 0), (4, .ptr 4 0 0), (5, .ref 23 0 l22.length), (76, .d (.lit (.bool false)))] [(3, some (.box [.d (.lit (.int .i64 a1.Kind)), .d (.lit (.string a1.Name)), .d (.lit (.int .i64 a1.Index)), .d (.lit (.int .i64 a1.Value.Kind)), .d (.lit (.int .i64 a1.Value.Int)), .d (.lit (.string a1.Value.Text)), .d (.sl (a1.Args.map cS27))])), (4, some (.box [.d (.lit (.int .i64 0)), .d (.lit (.int .i64 0)), .d (.lit (.string (ByteArray.mk #[])))])), (23, some (.arr 24 3 (l22.map cS24)))]) (by simp; exact Sub.table (by simp) (by simp)) ?_
         refine AW.skip ?_
         refine blockQ.normal ?_
         refine thenQ_normal ?_
         refine AW.seq ?_
         refine AW.seqR ?_
         refine Chain.runK [] 1 fun K hK => ?_; simp; refine hK _ _ ?_; clear hK K
         refine Chain.sub (S' := mk 92 [] [(3, .ptr 3 0 0), (4, .ptr 4 0 0), (5, .ref 23 0 l22.length), (85, .ref 23 0 l22.length)] [(3, some (.box [.d (.lit (.int .i64 a1.Kind)), .d (.lit (.string a1.Name)), .d (.lit (.int .i64 a1.Index)), .d (.lit (.int .i64 a1.Value.Kind)), .d (.lit (.int .i64 a1.Value.Int)), .d (.lit (.string a1.Value.Text)), .d (.sl (a1.Args.map cS27))])), (4, some (.box [.d (.lit (.int .i64 0)), .d (.lit (.int .i64 0)), .d (.lit (.string (ByteArray.mk #[])))])), (23, some (.arr 24 3 (l22.map cS24)))]) Sub.tt ?_
         replace h := bsome h; obtain ⟨r56, hr56, h⟩ := h
         refine Chain.callL (d := 86) (FunC.argsF (args := [.d (.sl (l22.map cS24)), .d (.lit (.func (.func 38) #[] #[]))]) (p37 N l22 38 [] (fun b0 => d38 N b0 ) ent38 (fun b0 r h => p38 N b0  r h) r56 hr56) (by simp [V.wf]) rfl) (by simp) rfl rfl (by simp <;> rfl) (by simp <;> rfl) ent37 (by simp <;> rfl) ?_
         refine Chain.sub (S' := mk 92 [] [(3, .ptr 3 0 0), (4, .ptr 4 0 0), (5, .ref 23 0 l22.length), (85, .ref 23 0 l22.length), (86, .d (.lit (.bool r56)))] [(3, some (.box [.d (.lit (.int .i64 a1.Kind)), .d (.lit (.string a1.Name)), .d (.lit (.int .i64 a1.Index)), .d (.lit (.int .i64 a1.Value.Kind)), .d (.lit (.int .i64 a1.Value.Int)), .d (.lit (.string a1.Value.Text)), .d (.sl (a1.Args.map cS27))])), (4, some (.box [.d (.lit (.int .i64 0)), .d (.lit (.int .i64 0)), .d (.lit (.string (ByteArray.mk #[])))])), (23, some (.arr 24 3 (l22.map cS24)))]) (by simp; exact Sub.table (by simp) (by simp)) ?_
         refine Chain.nil ?_
         replace h := isome h; rcases h with ⟨c57, h⟩ | ⟨c57, h⟩
         ·have c57_ : r56 = true := c57
          refine AW.condT (b := r56) rfl c57_ ?_
          refine AW.sub (Sub.bool 86 (b := r56) rfl c57_) ?_
          refine AW.sub (S' := mk 92 [] [(3, .ptr 3 0 0), (4, .ptr 4 0 0), (5, .ref 23 0 l22.length), (85, .ref 23 0 l22.length), (86, .d (.lit (.bool true)))] [(3, some (.box [.d (.lit (.int .i64 a1.Kind)), .d (.lit (.string a1.Name)), .d (.lit (.int .i64 a1.Index)), .d (.lit (.int .i64 a1.Value.Kind)), .d (.lit (.int .i64 a1.Value.Int)), .d (.lit (.string a1.Value.Text)), .d (.sl (a1.Args.map cS27))])), (4, some (.box [.d (.lit (.int .i64 0)), .d (.lit (.int .i64 0)), .d (.lit (.string (ByteArray.mk #[])))])), (23, some (.arr 24 3 (l22.map cS24)))]) (by simp; exact Sub.table (by simp) (by simp)) ?_
          refine AW.seqR ?_
          refine Chain.runK [] 2 fun K hK => ?_; simp; refine hK _ _ ?_; clear hK K
          refine Chain.sub (S' := mk 92 [] [(4, .ptr 4 0 0)] [(4, some (.box [.d (.lit (.int .i64 0)), .d (.lit (.int .i64 0)), .d (.lit (.string (ByteArray.mk #[])))]))]) Sub.tt ?_
          refine Chain.nil ?_
          refine AW.ret ?_
          cases h
          refine thenQ_pass (by simp) ?_
          exact FinC.ret (by simp) (by simp)
         ·have c57_ : r56 = false := Bool.eq_false_iff.2 c57
          refine AW.condF (b := r56) rfl c57_ ?_
          refine AW.sub (Sub.bool 86 (b := r56) rfl c57_) ?_
          refine AW.sub (S' := mk 92 [] [(3, .ptr 3 0 0), (4, .ptr 4 0 0), (5, .ref 23 0 l22.length), (85, .ref 23 0 l22.length), (86, .d (.lit (.bool false)))] [(3, some (.box [.d (.lit (.int .i64 a1.Kind)), .d (.lit (.string a1.Name)), .d (.lit (.int .i64 a1.Index)), .d (.lit (.int .i64 a1.Value.Kind)), .d (.lit (.int .i64 a1.Value.Int)), .d (.lit (.string a1.Value.Text)), .d (.sl (a1.Args.map cS27))])), (4, some (.box [.d (.lit (.int .i64 0)), .d (.lit (.int .i64 0)), .d (.lit (.string (ByteArray.mk #[])))])), (23, some (.arr 24 3 (l22.map cS24)))]) (by simp; exact Sub.table (by simp) (by simp)) ?_
          refine AW.skip ?_
          refine thenQ_normal ?_
          refine AW.seqR ?_
          refine Chain.runK [] 3 fun K hK => ?_; simp; refine hK _ _ ?_; clear hK K
          refine Chain.sub (S' := mk 92 [] [(4, .ptr 4 0 0), (89, .d (.lit (.string a1.Name))), (90, .ref 23 0 l22.length)] [(4, some (.box [.d (.lit (.int .i64 0)), .d (.lit (.int .i64 0)), .d (.lit (.string (ByteArray.mk #[])))])), (23, some (.arr 24 3 (l22.map cS24)))]) Sub.tt ?_
          replace h := bsome h; obtain ⟨r58, hr58, h⟩ := h
          refine Chain.callC (d := 91) (p39 N a1.Name l22 r58 hr58) (by simp) rfl rfl (by simp <;> rfl) (by simp <;> rfl) ent39 (by simp) (.inr (by simp)) ?_
          refine Chain.sub (S' := mk 92 [] [(4, .ptr 4 0 0), (89, .d (.lit (.string a1.Name))), (90, .ref 23 0 l22.length), (91, .agg [.d (.lit (.int .i64 r58.Kind)), .d (.lit (.int .i64 r58.Int)), .d (.lit (.string r58.Text))])] [(4, some (.box [.d (.lit (.int .i64 0)), .d (.lit (.int .i64 0)), .d (.lit (.string (ByteArray.mk #[])))])), (23, some (.arr 24 3 (l22.map cS24)))]) (by simp; exact Sub.table (by simp) (by simp)) ?_
          refine Chain.runK [] 1 fun K hK => ?_; simp; refine hK _ _ ?_; clear hK K
          refine Chain.sub (S' := mk 92 [] [(4, .ptr 4 0 0)] [(4, some (.box [.d (.lit (.int .i64 r58.Kind)), .d (.lit (.int .i64 r58.Int)), .d (.lit (.string r58.Text))]))]) Sub.tt ?_
          refine Chain.nil ?_
          refine AW.ret ?_
          cases h
          exact FinC.ret (by simp) (by simp)
theorem p12 (N : Nat) : ∀ (a0 : S41) (a1 : S27) (r : S24) (_ : d12 N a0 a1 = some r), FunC Try.prog 12 [.agg [.d (.sl (a0.Columns.map cS46)), .d (.sl (a0.Row.map cS24)), .d (.sl (a0.Parameters.map cS24)), .d (.sl (a0.VariableNames.map cS)), .d (.sl (a0.VariableValues.map cS24))], .agg [.d (.lit (.int .i64 a1.Kind)), .d (.lit (.string a1.Name)), .d (.lit (.int .i64 a1.Index)), .d (.lit (.int .i64 a1.Value.Kind)), .d (.lit (.int .i64 a1.Value.Int)), .d (.lit (.string a1.Value.Text)), .d (.sl (a1.Args.map cS27))]] (.agg [.d (.lit (.int .i64 r.Kind)), .d (.lit (.int .i64 r.Int)), .d (.lit (.string r.Text))]) := (pg12_24 N).1
theorem p24 (N : Nat) : ∀ (a0 : S41) (a1 : S27) (r : S24) (_ : d24 N a0 a1 = some r), FunC Try.prog 24 [.agg [.d (.sl (a0.Columns.map cS46)), .d (.sl (a0.Row.map cS24)), .d (.sl (a0.Parameters.map cS24)), .d (.sl (a0.VariableNames.map cS)), .d (.sl (a0.VariableValues.map cS24))], .agg [.d (.lit (.int .i64 a1.Kind)), .d (.lit (.string a1.Name)), .d (.lit (.int .i64 a1.Index)), .d (.lit (.int .i64 a1.Value.Kind)), .d (.lit (.int .i64 a1.Value.Int)), .d (.lit (.string a1.Value.Text)), .d (.sl (a1.Args.map cS27))]] (.agg [.d (.lit (.int .i64 r.Kind)), .d (.lit (.int .i64 r.Int)), .d (.lit (.string r.Text))]) := (pg12_24 N).2

end Go.Proofs.Ytacafkegbgmnoaa
