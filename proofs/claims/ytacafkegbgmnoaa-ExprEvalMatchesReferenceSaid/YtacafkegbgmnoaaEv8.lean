/- Functions of the program as functional programs; the code computes them. -/
import Derived.Test.YtacafkegbgmnoaaEv7
namespace Go.Proofs.Ytacafkegbgmnoaa
open Go.Ab Go.Rp
attribute [-simp] List.all_eq_true Array.all_toList Array.all_eq_true

mutual
/-- stemma/expr.kindOf -/
def d17 : (N : Nat) → (a0 : (List S46)) → (a1 : (List S46)) → (a2 : S27) → Option (Int × Bool × Int)
 | 0, _, _, _ => none
 | N + 1, a0, a1, a2 =>
  Option.bind (α := Bool) (
   if (a2.Kind != 5) then (
    some (decide ((a2.Args.length : Int) > 0))
   ) else
   some false
  ) fun (v2 : Bool) =>
  if v2 = true then (
   some (0, false, 3)
  ) else
  if (a2.Kind == 1) then (
   Option.bind (α := Bool) (
    (d29 N a2.Value).bind fun r10 =>
    if (!r10) = true then (
     some true
    ) else
    if (!decide (a2.Name = (ByteArray.mk #[]))) = true then (
     some true
    ) else
    some (a2.Index != 0)
   ) fun (v9 : Bool) =>
   if v9 = true then (
    some (0, false, 3)
   ) else
   some (a2.Value.Kind, (a2.Value.Kind == 0), 0)
  ) else
  if (a2.Kind == 3) then (
   Option.bind (α := Bool) (
    if a2.Index < 0 then (
     some true
    ) else
    if a2.Index ≥ 8 then (
     some true
    ) else
    if (!decide (a2.Name = (ByteArray.mk #[]))) = true then (
     some true
    ) else
    if a2.Value.Kind < 1 then (
     some true
    ) else
    if a2.Value.Kind > 3 then (
     some true
    ) else
    some (!beqS24 a2.Value (S24.mk a2.Value.Kind 0 (ByteArray.mk #[])))
   ) fun (v20 : Bool) =>
   if v20 = true then (
    some (0, false, 3)
   ) else
   some (a2.Value.Kind, true, 0)
  ) else
  Option.bind (α := Bool) (
   if (a2.Kind == 2) then (
    some true
   ) else
   some (a2.Kind == 4)
  ) fun (v28 : Bool) =>
  if v28 = true then (
   Option.bind (α := List S46) (
    if (a2.Kind == 4) then (
     some a1
    ) else
    some a0
   ) fun (l32 : List S46) =>
   Option.bind (α := Bool) (
    (d30 N a2.Name).bind fun r38 =>
    if (!r38) = true then (
     some true
    ) else
    if (a2.Index != 0) then (
     some true
    ) else
    some (!beqS24 a2.Value (S24.mk 0 0 (ByteArray.mk #[])))
   ) fun (v37 : Bool) =>
   if v37 = true then (
    some (0, false, 3)
   ) else
   (d31 N l32 a2.Name).bind fun r42 =>
   if (!r42.2) = true then (
    some (0, false, 23)
   ) else
   some (r42.1.Kind, r42.1.Nullable, 0)
  ) else
  if (a2.Kind == 5) then (
   (d32 N a0 a1 a2).bind fun r45 =>
   some (r45.1, r45.2.1, r45.2.2)
  ) else
  some (0, false, 3)
/-- stemma/expr.opKind -/
def d32 : (N : Nat) → (a0 : (List S46)) → (a1 : (List S46)) → (a2 : S27) → Option (Int × Bool × Int)
 | 0, _, _, _ => none
 | N + 1, a0, a1, a2 =>
  (d35 N ).bind fun r1 =>
  (d23 N r1.1 a2.Name).bind fun r2 =>
  Option.bind (α := Bool) (
   if r2 < 0 then (
    some true
   ) else
   (idx r1.2 r2).bind fun x10 =>
   if (x10 != (a2.Args.length : Int)) then (
    some true
   ) else
   if (a2.Index != 0) then (
    some true
   ) else
   some (!beqS24 a2.Value (S24.mk 0 0 (ByteArray.mk #[])))
  ) fun (v8 : Bool) =>
  if v8 = true then (
   some (0, false, 3)
  ) else
  bindO (β := ((List Int) × Bool)) (ρ := (Int × Bool × Int)) (
   iterN (σ := ((List Int) × Bool × Int)) (ρ := (Out ((List Int) × Bool) (Int × Bool × Int))) (fun ((l22, v23, v24) : ((List Int) × Bool × Int)) =>
    if v24 < (a2.Args.length : Int) then (
     (idx a2.Args v24).bind fun x53 =>
     (d17 N a0 a1 x53).bind fun r55 =>
     if (r55.2.2 != 0) then (
      some (.inr (.ret (0, false, r55.2.2)))
     ) else
     Option.bind (α := Bool) (
      (appL 8 l22 [r55.1]).bind fun _l60 =>
      if v23 = true then (
       some true
      ) else
      some r55.2.1
     ) fun (v59 : Bool) =>
     (chkI (v24 + 1)).bind fun v62 =>
     some (.inl ((l22 ++ [r55.1]), v59, v62))
    ) else
    some (.inr (.go (l22, v23)))
   ) N (([] : List Int), false, 0)
  ) fun ((l50, v51) : ((List Int) × Bool)) =>
  Option.bind (α := Bool) (
   if decide (a2.Name = (ByteArray.mk #[43])) = true then (
    some true
   ) else
   if decide (a2.Name = (ByteArray.mk #[45])) = true then (
    some true
   ) else
   some (decide (a2.Name = (ByteArray.mk #[42])))
  ) fun (v65 : Bool) =>
  if v65 = true then (
   (d44 N 1 l50).bind fun r69 =>
   (d48 N 1 true r69).bind fun r70 =>
   some (r70.1, r70.2.1, r70.2.2)
  ) else
  if decide (a2.Name = (ByteArray.mk #[124, 124])) = true then (
   (d44 N 3 l50).bind fun r72 =>
   (d48 N 3 true r72).bind fun r73 =>
   some (r73.1, r73.2.1, r73.2.2)
  ) else
  if decide (a2.Name = (ByteArray.mk #[108, 101, 110, 103, 116, 104])) = true then (
   (d44 N 3 l50).bind fun r75 =>
   (d48 N 1 v51 r75).bind fun r76 =>
   some (r76.1, r76.2.1, r76.2.2)
  ) else
  Option.bind (α := Bool) (
   if decide (a2.Name = (ByteArray.mk #[97, 110, 100])) = true then (
    some true
   ) else
   if decide (a2.Name = (ByteArray.mk #[111, 114])) = true then (
    some true
   ) else
   some (decide (a2.Name = (ByteArray.mk #[110, 111, 116])))
  ) fun (v79 : Bool) =>
  if v79 = true then (
   (d44 N 2 l50).bind fun r83 =>
   (d48 N 2 v51 r83).bind fun r84 =>
   some (r84.1, r84.2.1, r84.2.2)
  ) else
  if decide (a2.Name = (ByteArray.mk #[105, 115, 32, 110, 117, 108, 108])) = true then (
   some (2, false, 0)
  ) else
  if decide (a2.Name = (ByteArray.mk #[105, 102])) = true then (
   Option.bind (α := (Int × Bool × Int)) (
    (idx l50 1).bind fun x99 =>
    (idx l50 2).bind fun x100 =>
    letv (maxI x99 x100) fun v101 =>
    (idx l50 0).bind fun x102 =>
    (d47 N x102 2).bind fun r103 =>
    if r103 = true then (
     (d47 N x99 x100).bind fun r105 =>
     (d48 N v101 v51 r105).bind fun r106 =>
     some (r106.1, r106.2.1, r106.2.2)
    ) else
    (d48 N v101 v51 false).bind fun r107 =>
    some (r107.1, r107.2.1, r107.2.2)
   ) fun ((v96, v97, v98) : (Int × Bool × Int)) =>
   some (v96, v97, v98)
  ) else
  (idx l50 0).bind fun x108 =>
  (idx l50 1).bind fun x109 =>
  (d47 N x108 x109).bind fun r110 =>
  (d48 N 2 v51 r110).bind fun r111 =>
  some (r111.1, r111.2.1, r111.2.2)
end
set_option maxRecDepth 100000 in
set_option maxHeartbeats 4000000 in
theorem pg17_32 (N : Nat) : (∀ (a0 : (List S46)) (a1 : (List S46)) (a2 : S27) (r : (Int × Bool × Int)) (_ : d17 N a0 a1 a2 = some r), FunC Try.prog 17 [.d (.sl (a0.map cS46)), .d (.sl (a1.map cS46)), .agg [.d (.lit (.int .i64 a2.Kind)), .d (.lit (.string a2.Name)), .d (.lit (.int .i64 a2.Index)), .d (.lit (.int .i64 a2.Value.Kind)), .d (.lit (.int .i64 a2.Value.Int)), .d (.lit (.string a2.Value.Text)), .d (.sl (a2.Args.map cS27))]] (.tup [.d (.lit (.int .i64 r.1)), .d (.lit (.bool r.2.1)), .d (.lit (.int .i64 r.2.2))])) ∧ (∀ (a0 : (List S46)) (a1 : (List S46)) (a2 : S27) (r : (Int × Bool × Int)) (_ : d32 N a0 a1 a2 = some r), FunC Try.prog 32 [.d (.sl (a0.map cS46)), .d (.sl (a1.map cS46)), .agg [.d (.lit (.int .i64 a2.Kind)), .d (.lit (.string a2.Name)), .d (.lit (.int .i64 a2.Index)), .d (.lit (.int .i64 a2.Value.Kind)), .d (.lit (.int .i64 a2.Value.Int)), .d (.lit (.string a2.Value.Text)), .d (.sl (a2.Args.map cS27))]] (.tup [.d (.lit (.int .i64 r.1)), .d (.lit (.bool r.2.1)), .d (.lit (.int .i64 r.2.2))])) := by
 induction N with
 | zero => exact ⟨(by intro a0 a1 a2 r h; cases h), (by intro a0 a1 a2 r h; cases h)⟩
 | succ N ih =>
 obtain ⟨ih17, ih32⟩ := ih
 refine ⟨?_, ?_⟩
 ·intro a0 a1 a2 r h
  unfold d17 at h
  refine FunC.enter 130 [(0, .d (.sl (a0.map cS46))), (1, .d (.sl (a1.map cS46))), (2, .agg [.d (.lit (.int .i64 a2.Kind)), .d (.lit (.string a2.Name)), .d (.lit (.int .i64 a2.Index)), .d (.lit (.int .i64 a2.Value.Kind)), .d (.lit (.int .i64 a2.Value.Int)), .d (.lit (.string a2.Value.Text)), .d (.sl (a2.Args.map cS27))])] (by simp) Try.func17 rfl (of_decide_eq_true rfl) rfl rfl ?_
  refine AW.seqR ?_
  refine Chain.runK [] 4 fun K hK => ?_; simp; refine hK _ _ ?_; clear hK K
  refine Chain.sub (S' := mk 130 [] [(0, .d (.sl (a0.map cS46))), (1, .d (.sl (a1.map cS46))), (5, .ptr 5 0 0)] [(5, some (.box [.d (.lit (.int .i64 a2.Kind)), .d (.lit (.string a2.Name)), .d (.lit (.int .i64 a2.Index)), .d (.lit (.int .i64 a2.Value.Kind)), .d (.lit (.int .i64 a2.Value.Int)), .d (.lit (.string a2.Value.Text)), .d (.sl (a2.Args.map cS27))]))]) Sub.tt ?_
  refine Chain.nil ?_
  refine AW.seq ?_
  replace h := bsome h; obtain ⟨v2, hj, h⟩ := h
  refine AW.cutR (mk 130 [] [(0, .d (.sl (a0.map cS46))), (1, .d (.sl (a1.map cS46))), (5, .ptr 5 0 0), (20, .d (.lit (.bool v2)))] [(5, some (.box [.d (.lit (.int .i64 a2.Kind)), .d (.lit (.string a2.Name)), .d (.lit (.int .i64 a2.Index)), .d (.lit (.int .i64 a2.Value.Kind)), .d (.lit (.int .i64 a2.Value.Int)), .d (.lit (.string a2.Value.Text)), .d (.sl (a2.Args.map cS27))]))]) ?_ ?_
  ·clear h; have h := hj; clear hj
   refine Chain.runK [] 4 fun K hK => ?_; simp; refine hK _ _ ?_; clear hK K
   refine Chain.sub (S' := mk 130 [] [(0, .d (.sl (a0.map cS46))), (1, .d (.sl (a1.map cS46))), (5, .ptr 5 0 0), (15, .d (.lit (.bool (a2.Kind != 5))))] [(5, some (.box [.d (.lit (.int .i64 a2.Kind)), .d (.lit (.string a2.Name)), .d (.lit (.int .i64 a2.Index)), .d (.lit (.int .i64 a2.Value.Kind)), .d (.lit (.int .i64 a2.Value.Int)), .d (.lit (.string a2.Value.Text)), .d (.sl (a2.Args.map cS27))]))]) Sub.tt ?_
   replace h := isome h; rcases h with ⟨c3, h⟩ | ⟨c3, h⟩
   ·have c3_ : (a2.Kind != 5) = true := c3
    refine Chain.sub (Sub.bool 15 (b := (a2.Kind != 5)) rfl c3_) ?_
    refine Chain.sub (S' := mk 130 [] [(0, .d (.sl (a0.map cS46))), (1, .d (.sl (a1.map cS46))), (5, .ptr 5 0 0), (15, .d (.lit (.bool true)))] [(5, some (.box [.d (.lit (.int .i64 a2.Kind)), .d (.lit (.string a2.Name)), .d (.lit (.int .i64 a2.Index)), .d (.lit (.int .i64 a2.Value.Kind)), .d (.lit (.int .i64 a2.Value.Int)), .d (.lit (.string a2.Value.Text)), .d (.sl (a2.Args.map cS27))]))]) (by simp; exact Sub.table (by simp) (by simp)) ?_
    refine Chain.runK [] 5 fun K hK => ?_; simp; refine hK _ _ ?_; clear hK K
    refine Chain.sub (S' := mk 130 [] [(0, .d (.sl (a0.map cS46))), (1, .d (.sl (a1.map cS46))), (5, .ptr 5 0 0), (20, .d (.lit (.bool (decide ((a2.Args.length : Int) > 0)))))] [(5, some (.box [.d (.lit (.int .i64 a2.Kind)), .d (.lit (.string a2.Name)), .d (.lit (.int .i64 a2.Index)), .d (.lit (.int .i64 a2.Value.Kind)), .d (.lit (.int .i64 a2.Value.Int)), .d (.lit (.string a2.Value.Text)), .d (.sl (a2.Args.map cS27))]))]) Sub.tt ?_
    cases h
    exact Chain.nil Sub.tt
   ·have c3_ : (a2.Kind != 5) = false := Bool.eq_false_iff.2 c3
    refine Chain.sub (Sub.bool 15 (b := (a2.Kind != 5)) rfl c3_) ?_
    refine Chain.sub (S' := mk 130 [] [(0, .d (.sl (a0.map cS46))), (1, .d (.sl (a1.map cS46))), (5, .ptr 5 0 0), (15, .d (.lit (.bool false)))] [(5, some (.box [.d (.lit (.int .i64 a2.Kind)), .d (.lit (.string a2.Name)), .d (.lit (.int .i64 a2.Index)), .d (.lit (.int .i64 a2.Value.Kind)), .d (.lit (.int .i64 a2.Value.Int)), .d (.lit (.string a2.Value.Text)), .d (.sl (a2.Args.map cS27))]))]) (by simp; exact Sub.table (by simp) (by simp)) ?_
    refine Chain.runK [] 5 fun K hK => ?_; simp; refine hK _ _ ?_; clear hK K
    refine Chain.sub (S' := mk 130 [] [(0, .d (.sl (a0.map cS46))), (1, .d (.sl (a1.map cS46))), (5, .ptr 5 0 0), (20, .d (.lit (.bool false)))] [(5, some (.box [.d (.lit (.int .i64 a2.Kind)), .d (.lit (.string a2.Name)), .d (.lit (.int .i64 a2.Index)), .d (.lit (.int .i64 a2.Value.Kind)), .d (.lit (.int .i64 a2.Value.Int)), .d (.lit (.string a2.Value.Text)), .d (.sl (a2.Args.map cS27))]))]) Sub.tt ?_
    cases h
    exact Chain.nil Sub.tt
  ·clear hj
   replace h := isome h; rcases h with ⟨c4, h⟩ | ⟨c4, h⟩
   ·have c4_ : v2 = true := c4
    refine AW.condT (b := v2) rfl c4_ ?_
    refine AW.sub (Sub.bool 20 (b := v2) rfl c4_) ?_
    refine AW.sub (S' := mk 130 [] [(0, .d (.sl (a0.map cS46))), (1, .d (.sl (a1.map cS46))), (5, .ptr 5 0 0), (20, .d (.lit (.bool true)))] [(5, some (.box [.d (.lit (.int .i64 a2.Kind)), .d (.lit (.string a2.Name)), .d (.lit (.int .i64 a2.Index)), .d (.lit (.int .i64 a2.Value.Kind)), .d (.lit (.int .i64 a2.Value.Int)), .d (.lit (.string a2.Value.Text)), .d (.sl (a2.Args.map cS27))]))]) (by simp; exact Sub.table (by simp) (by simp)) ?_
    refine AW.seqR ?_
    refine Chain.runK [] 3 fun K hK => ?_; simp; refine hK _ _ ?_; clear hK K
    refine Chain.sub (S' := mk 130 [] [(6, .d (.lit (.int .i64 0))), (7, .d (.lit (.bool false))), (8, .d (.lit (.int .i64 3)))] []) Sub.tt ?_
    refine Chain.nil ?_
    refine AW.ret ?_
    cases h
    refine thenQ_pass (by simp) ?_
    exact FinC.ret (by simp) (by simp)
   ·have c4_ : v2 = false := Bool.eq_false_iff.2 c4
    refine AW.condF (b := v2) rfl c4_ ?_
    refine AW.sub (Sub.bool 20 (b := v2) rfl c4_) ?_
    refine AW.sub (S' := mk 130 [] [(0, .d (.sl (a0.map cS46))), (1, .d (.sl (a1.map cS46))), (5, .ptr 5 0 0), (20, .d (.lit (.bool false)))] [(5, some (.box [.d (.lit (.int .i64 a2.Kind)), .d (.lit (.string a2.Name)), .d (.lit (.int .i64 a2.Index)), .d (.lit (.int .i64 a2.Value.Kind)), .d (.lit (.int .i64 a2.Value.Int)), .d (.lit (.string a2.Value.Text)), .d (.sl (a2.Args.map cS27))]))]) (by simp; exact Sub.table (by simp) (by simp)) ?_
    refine AW.skip ?_
    refine thenQ_normal ?_
    refine AW.seq ?_
    refine AW.seqR ?_
    refine Chain.runK [] 2 fun K hK => ?_; simp; refine hK _ _ ?_; clear hK K
    refine Chain.sub (S' := mk 130 [] [(0, .d (.sl (a0.map cS46))), (1, .d (.sl (a1.map cS46))), (5, .ptr 5 0 0), (22, .d (.lit (.int .i64 a2.Kind)))] [(5, some (.box [.d (.lit (.int .i64 a2.Kind)), .d (.lit (.string a2.Name)), .d (.lit (.int .i64 a2.Index)), .d (.lit (.int .i64 a2.Value.Kind)), .d (.lit (.int .i64 a2.Value.Int)), .d (.lit (.string a2.Value.Text)), .d (.sl (a2.Args.map cS27))]))]) Sub.tt ?_
    refine Chain.nil ?_
    refine AW.block ?_
    refine AW.seqR ?_
    refine Chain.runK [] 2 fun K hK => ?_; simp; refine hK _ _ ?_; clear hK K
    refine Chain.sub (S' := mk 130 [] [(0, .d (.sl (a0.map cS46))), (1, .d (.sl (a1.map cS46))), (5, .ptr 5 0 0), (22, .d (.lit (.int .i64 a2.Kind))), (23, .d (.lit (.bool (a2.Kind == 1))))] [(5, some (.box [.d (.lit (.int .i64 a2.Kind)), .d (.lit (.string a2.Name)), .d (.lit (.int .i64 a2.Index)), .d (.lit (.int .i64 a2.Value.Kind)), .d (.lit (.int .i64 a2.Value.Int)), .d (.lit (.string a2.Value.Text)), .d (.sl (a2.Args.map cS27))]))]) Sub.tt ?_
    refine Chain.nil ?_
    replace h := isome h; rcases h with ⟨c5, h⟩ | ⟨c5, h⟩
    ·have c5_ : (a2.Kind == 1) = true := c5
     refine AW.condT (b := (a2.Kind == 1)) rfl c5_ ?_
     refine AW.sub (Sub.bool 23 (b := (a2.Kind == 1)) rfl c5_) ?_
     refine AW.sub (S' := mk 130 [] [(0, .d (.sl (a0.map cS46))), (1, .d (.sl (a1.map cS46))), (5, .ptr 5 0 0), (22, .d (.lit (.int .i64 a2.Kind))), (23, .d (.lit (.bool true)))] [(5, some (.box [.d (.lit (.int .i64 a2.Kind)), .d (.lit (.string a2.Name)), .d (.lit (.int .i64 a2.Index)), .d (.lit (.int .i64 a2.Value.Kind)), .d (.lit (.int .i64 a2.Value.Int)), .d (.lit (.string a2.Value.Text)), .d (.sl (a2.Args.map cS27))]))]) (by simp; exact Sub.table (by simp) (by simp)) ?_
     refine AW.seq ?_
     replace h := bsome h; obtain ⟨v9, hj, h⟩ := h
     refine AW.cutR (mk 130 [] [(5, .ptr 5 0 0), (38, .d (.lit (.bool v9)))] [(5, some (.box [.d (.lit (.int .i64 a2.Kind)), .d (.lit (.string a2.Name)), .d (.lit (.int .i64 a2.Index)), .d (.lit (.int .i64 a2.Value.Kind)), .d (.lit (.int .i64 a2.Value.Int)), .d (.lit (.string a2.Value.Text)), .d (.sl (a2.Args.map cS27))]))]) ?_ ?_
     ·clear h; have h := hj; clear hj
      refine Chain.runK [] 2 fun K hK => ?_; simp; refine hK _ _ ?_; clear hK K
      refine Chain.sub (S' := mk 130 [] [(5, .ptr 5 0 0), (26, .agg [.d (.lit (.int .i64 a2.Value.Kind)), .d (.lit (.int .i64 a2.Value.Int)), .d (.lit (.string a2.Value.Text))])] [(5, some (.box [.d (.lit (.int .i64 a2.Kind)), .d (.lit (.string a2.Name)), .d (.lit (.int .i64 a2.Index)), .d (.lit (.int .i64 a2.Value.Kind)), .d (.lit (.int .i64 a2.Value.Int)), .d (.lit (.string a2.Value.Text)), .d (.sl (a2.Args.map cS27))]))]) Sub.tt ?_
      replace h := bsome h; obtain ⟨r10, hr10, h⟩ := h
      refine Chain.callL (d := 27) (p29 N a2.Value r10 hr10) (by simp) rfl rfl (by simp <;> rfl) (by simp <;> rfl) ent29 (by simp <;> rfl) ?_
      refine Chain.sub (S' := mk 130 [] [(5, .ptr 5 0 0), (26, .agg [.d (.lit (.int .i64 a2.Value.Kind)), .d (.lit (.int .i64 a2.Value.Int)), .d (.lit (.string a2.Value.Text))]), (27, .d (.lit (.bool r10)))] [(5, some (.box [.d (.lit (.int .i64 a2.Kind)), .d (.lit (.string a2.Name)), .d (.lit (.int .i64 a2.Index)), .d (.lit (.int .i64 a2.Value.Kind)), .d (.lit (.int .i64 a2.Value.Int)), .d (.lit (.string a2.Value.Text)), .d (.sl (a2.Args.map cS27))]))]) (by simp; exact Sub.table (by simp) (by simp)) ?_
      refine Chain.runK [] 2 fun K hK => ?_; simp; refine hK _ _ ?_; clear hK K
      refine Chain.sub (S' := mk 130 [] [(5, .ptr 5 0 0), (29, .d (.lit (.bool (!r10))))] [(5, some (.box [.d (.lit (.int .i64 a2.Kind)), .d (.lit (.string a2.Name)), .d (.lit (.int .i64 a2.Index)), .d (.lit (.int .i64 a2.Value.Kind)), .d (.lit (.int .i64 a2.Value.Int)), .d (.lit (.string a2.Value.Text)), .d (.sl (a2.Args.map cS27))]))]) Sub.tt ?_
      replace h := isome h; rcases h with ⟨c11, h⟩ | ⟨c11, h⟩
      ·have c11_ : (!r10) = true := c11
       refine Chain.sub (Sub.bool 29 (b := (!r10)) rfl c11_) ?_
       refine Chain.sub (S' := mk 130 [] [(5, .ptr 5 0 0), (29, .d (.lit (.bool true)))] [(5, some (.box [.d (.lit (.int .i64 a2.Kind)), .d (.lit (.string a2.Name)), .d (.lit (.int .i64 a2.Index)), .d (.lit (.int .i64 a2.Value.Kind)), .d (.lit (.int .i64 a2.Value.Int)), .d (.lit (.string a2.Value.Text)), .d (.sl (a2.Args.map cS27))]))]) (by simp; exact Sub.table (by simp) (by simp)) ?_
       refine Chain.runK [] 9 fun K hK => ?_; simp; refine hK _ _ ?_; clear hK K
       refine Chain.sub (S' := mk 130 [] [(5, .ptr 5 0 0), (38, .d (.lit (.bool true)))] [(5, some (.box [.d (.lit (.int .i64 a2.Kind)), .d (.lit (.string a2.Name)), .d (.lit (.int .i64 a2.Index)), .d (.lit (.int .i64 a2.Value.Kind)), .d (.lit (.int .i64 a2.Value.Int)), .d (.lit (.string a2.Value.Text)), .d (.sl (a2.Args.map cS27))]))]) Sub.tt ?_
       cases h
       exact Chain.nil Sub.tt
      ·have c11_ : (!r10) = false := Bool.eq_false_iff.2 c11
       refine Chain.sub (Sub.bool 29 (b := (!r10)) rfl c11_) ?_
       refine Chain.sub (S' := mk 130 [] [(5, .ptr 5 0 0), (29, .d (.lit (.bool false)))] [(5, some (.box [.d (.lit (.int .i64 a2.Kind)), .d (.lit (.string a2.Name)), .d (.lit (.int .i64 a2.Index)), .d (.lit (.int .i64 a2.Value.Kind)), .d (.lit (.int .i64 a2.Value.Int)), .d (.lit (.string a2.Value.Text)), .d (.sl (a2.Args.map cS27))]))]) (by simp; exact Sub.table (by simp) (by simp)) ?_
       refine Chain.runK [] 5 fun K hK => ?_; simp; refine hK _ _ ?_; clear hK K
       refine Chain.sub (S' := mk 130 [] [(5, .ptr 5 0 0), (34, .d (.lit (.bool (!decide (a2.Name = (ByteArray.mk #[]))))))] [(5, some (.box [.d (.lit (.int .i64 a2.Kind)), .d (.lit (.string a2.Name)), .d (.lit (.int .i64 a2.Index)), .d (.lit (.int .i64 a2.Value.Kind)), .d (.lit (.int .i64 a2.Value.Int)), .d (.lit (.string a2.Value.Text)), .d (.sl (a2.Args.map cS27))]))]) Sub.tt ?_
       replace h := isome h; rcases h with ⟨c12, h⟩ | ⟨c12, h⟩
       ·have c12_ : (!decide (a2.Name = (ByteArray.mk #[]))) = true := c12
        refine Chain.sub (Sub.bool 34 (b := (!decide (a2.Name = (ByteArray.mk #[])))) rfl c12_) ?_
        refine Chain.sub (S' := mk 130 [] [(5, .ptr 5 0 0), (34, .d (.lit (.bool true)))] [(5, some (.box [.d (.lit (.int .i64 a2.Kind)), .d (.lit (.string a2.Name)), .d (.lit (.int .i64 a2.Index)), .d (.lit (.int .i64 a2.Value.Kind)), .d (.lit (.int .i64 a2.Value.Int)), .d (.lit (.string a2.Value.Text)), .d (.sl (a2.Args.map cS27))]))]) (by simp; exact Sub.table (by simp) (by simp)) ?_
        refine Chain.runK [] 4 fun K hK => ?_; simp; refine hK _ _ ?_; clear hK K
        refine Chain.sub (S' := mk 130 [] [(5, .ptr 5 0 0), (38, .d (.lit (.bool true)))] [(5, some (.box [.d (.lit (.int .i64 a2.Kind)), .d (.lit (.string a2.Name)), .d (.lit (.int .i64 a2.Index)), .d (.lit (.int .i64 a2.Value.Kind)), .d (.lit (.int .i64 a2.Value.Int)), .d (.lit (.string a2.Value.Text)), .d (.sl (a2.Args.map cS27))]))]) Sub.tt ?_
        cases h
        exact Chain.nil Sub.tt
       ·have c12_ : (!decide (a2.Name = (ByteArray.mk #[]))) = false := Bool.eq_false_iff.2 c12
        refine Chain.sub (Sub.bool 34 (b := (!decide (a2.Name = (ByteArray.mk #[])))) rfl c12_) ?_
        refine Chain.sub (S' := mk 130 [] [(5, .ptr 5 0 0), (34, .d (.lit (.bool false)))] [(5, some (.box [.d (.lit (.int .i64 a2.Kind)), .d (.lit (.string a2.Name)), .d (.lit (.int .i64 a2.Index)), .d (.lit (.int .i64 a2.Value.Kind)), .d (.lit (.int .i64 a2.Value.Int)), .d (.lit (.string a2.Value.Text)), .d (.sl (a2.Args.map cS27))]))]) (by simp; exact Sub.table (by simp) (by simp)) ?_
        refine Chain.runK [] 4 fun K hK => ?_; simp; refine hK _ _ ?_; clear hK K
        refine Chain.sub (S' := mk 130 [] [(5, .ptr 5 0 0), (38, .d (.lit (.bool (a2.Index != 0))))] [(5, some (.box [.d (.lit (.int .i64 a2.Kind)), .d (.lit (.string a2.Name)), .d (.lit (.int .i64 a2.Index)), .d (.lit (.int .i64 a2.Value.Kind)), .d (.lit (.int .i64 a2.Value.Int)), .d (.lit (.string a2.Value.Text)), .d (.sl (a2.Args.map cS27))]))]) Sub.tt ?_
        cases h
        exact Chain.nil Sub.tt
     ·clear hj
      replace h := isome h; rcases h with ⟨c13, h⟩ | ⟨c13, h⟩
      ·have c13_ : v9 = true := c13
       refine AW.condT (b := v9) rfl c13_ ?_
       refine AW.sub (Sub.bool 38 (b := v9) rfl c13_) ?_
       refine AW.sub (S' := mk 130 [] [(5, .ptr 5 0 0), (38, .d (.lit (.bool true)))] [(5, some (.box [.d (.lit (.int .i64 a2.Kind)), .d (.lit (.string a2.Name)), .d (.lit (.int .i64 a2.Index)), .d (.lit (.int .i64 a2.Value.Kind)), .d (.lit (.int .i64 a2.Value.Int)), .d (.lit (.string a2.Value.Text)), .d (.sl (a2.Args.map cS27))]))]) (by simp; exact Sub.table (by simp) (by simp)) ?_
       refine AW.seqR ?_
       refine Chain.runK [] 3 fun K hK => ?_; simp; refine hK _ _ ?_; clear hK K
       refine Chain.sub (S' := mk 130 [] [(6, .d (.lit (.int .i64 0))), (7, .d (.lit (.bool false))), (8, .d (.lit (.int .i64 3)))] []) Sub.tt ?_
       refine Chain.nil ?_
       refine AW.ret ?_
       cases h
       refine thenQ_pass (by simp) ?_
       refine blockQ.ret ?_
       refine thenQ_pass (by simp) ?_
       exact FinC.ret (by simp) (by simp)
      ·have c13_ : v9 = false := Bool.eq_false_iff.2 c13
       refine AW.condF (b := v9) rfl c13_ ?_
       refine AW.sub (Sub.bool 38 (b := v9) rfl c13_) ?_
       refine AW.sub (S' := mk 130 [] [(5, .ptr 5 0 0), (38, .d (.lit (.bool false)))] [(5, some (.box [.d (.lit (.int .i64 a2.Kind)), .d (.lit (.string a2.Name)), .d (.lit (.int .i64 a2.Index)), .d (.lit (.int .i64 a2.Value.Kind)), .d (.lit (.int .i64 a2.Value.Int)), .d (.lit (.string a2.Value.Text)), .d (.sl (a2.Args.map cS27))]))]) (by simp; exact Sub.table (by simp) (by simp)) ?_
       refine AW.skip ?_
       refine thenQ_normal ?_
       refine AW.seqQ (by kernel_rfl) (by kernel_rfl) ?_
       refine Chain.runQ 10 fun K hK => ?_; simp; refine hK _ _ ?_; clear hK K
       refine Chain.sub (S' := mk 130 [] [(6, .d (.lit (.int .i64 a2.Value.Kind))), (7, .d (.lit (.bool (a2.Value.Kind == 0)))), (8, .d (.lit (.int .i64 0)))] []) Sub.tt ?_
       refine Chain.nil ?_
       refine AW.ret ?_
       cases h
       refine blockQ.ret ?_
       refine thenQ_pass (by simp) ?_
       exact FinC.ret (by simp) (by simp)
    ·have c5_ : (a2.Kind == 1) = false := Bool.eq_false_iff.2 c5
     refine AW.condF (b := (a2.Kind == 1)) rfl c5_ ?_
     refine AW.sub (Sub.bool 23 (b := (a2.Kind == 1)) rfl c5_) ?_
     refine AW.sub (S' := mk 130 [] [(0, .d (.sl (a0.map cS46))), (1, .d (.sl (a1.map cS46))), (5, .ptr 5 0 0), (22, .d (.lit (.int .i64 a2.Kind))), (23, .d (.lit (.bool false)))] [(5, some (.box [.d (.lit (.int .i64 a2.Kind)), .d (.lit (.string a2.Name)), .d (.lit (.int .i64 a2.Index)), .d (.lit (.int .i64 a2.Value.Kind)), .d (.lit (.int .i64 a2.Value.Int)), .d (.lit (.string a2.Value.Text)), .d (.sl (a2.Args.map cS27))]))]) (by simp; exact Sub.table (by simp) (by simp)) ?_
     refine AW.seqR ?_
     refine Chain.runK [] 2 fun K hK => ?_; simp; refine hK _ _ ?_; clear hK K
     refine Chain.sub (S' := mk 130 [] [(0, .d (.sl (a0.map cS46))), (1, .d (.sl (a1.map cS46))), (5, .ptr 5 0 0), (22, .d (.lit (.int .i64 a2.Kind))), (46, .d (.lit (.bool (a2.Kind == 3))))] [(5, some (.box [.d (.lit (.int .i64 a2.Kind)), .d (.lit (.string a2.Name)), .d (.lit (.int .i64 a2.Index)), .d (.lit (.int .i64 a2.Value.Kind)), .d (.lit (.int .i64 a2.Value.Int)), .d (.lit (.string a2.Value.Text)), .d (.sl (a2.Args.map cS27))]))]) Sub.tt ?_
     refine Chain.nil ?_
     replace h := isome h; rcases h with ⟨c14, h⟩ | ⟨c14, h⟩
     ·have c14_ : (a2.Kind == 3) = true := c14
      refine AW.condT (b := (a2.Kind == 3)) rfl c14_ ?_
      refine AW.sub (Sub.bool 46 (b := (a2.Kind == 3)) rfl c14_) ?_
      refine AW.sub (S' := mk 130 [] [(0, .d (.sl (a0.map cS46))), (1, .d (.sl (a1.map cS46))), (5, .ptr 5 0 0), (22, .d (.lit (.int .i64 a2.Kind))), (46, .d (.lit (.bool true)))] [(5, some (.box [.d (.lit (.int .i64 a2.Kind)), .d (.lit (.string a2.Name)), .d (.lit (.int .i64 a2.Index)), .d (.lit (.int .i64 a2.Value.Kind)), .d (.lit (.int .i64 a2.Value.Int)), .d (.lit (.string a2.Value.Text)), .d (.sl (a2.Args.map cS27))]))]) (by simp; exact Sub.table (by simp) (by simp)) ?_
      refine AW.seq ?_
      replace h := bsome h; obtain ⟨v20, hj, h⟩ := h
      refine AW.cutR (mk 130 [] [(5, .ptr 5 0 0), (81, .d (.lit (.bool v20)))] [(5, some (.box [.d (.lit (.int .i64 a2.Kind)), .d (.lit (.string a2.Name)), .d (.lit (.int .i64 a2.Index)), .d (.lit (.int .i64 a2.Value.Kind)), .d (.lit (.int .i64 a2.Value.Int)), .d (.lit (.string a2.Value.Text)), .d (.sl (a2.Args.map cS27))]))]) ?_ ?_
      ·clear h; have h := hj; clear hj
       refine Chain.runK [] 4 fun K hK => ?_; simp; refine hK _ _ ?_; clear hK K
       refine Chain.sub (S' := mk 130 [] [(5, .ptr 5 0 0), (51, .d (.lit (.bool (decide (a2.Index < 0)))))] [(5, some (.box [.d (.lit (.int .i64 a2.Kind)), .d (.lit (.string a2.Name)), .d (.lit (.int .i64 a2.Index)), .d (.lit (.int .i64 a2.Value.Kind)), .d (.lit (.int .i64 a2.Value.Int)), .d (.lit (.string a2.Value.Text)), .d (.sl (a2.Args.map cS27))]))]) Sub.tt ?_
       replace h := isome h; rcases h with ⟨c21, h⟩ | ⟨c21, h⟩
       ·have c21_ : decide (a2.Index < 0) = true := decide_eq_true c21
        refine Chain.sub (Sub.bool 51 (b := decide (a2.Index < 0)) rfl c21_) ?_
        refine Chain.sub (S' := mk 130 [] [(5, .ptr 5 0 0), (51, .d (.lit (.bool true)))] [(5, some (.box [.d (.lit (.int .i64 a2.Kind)), .d (.lit (.string a2.Name)), .d (.lit (.int .i64 a2.Index)), .d (.lit (.int .i64 a2.Value.Kind)), .d (.lit (.int .i64 a2.Value.Int)), .d (.lit (.string a2.Value.Text)), .d (.sl (a2.Args.map cS27))]))]) (by simp; exact Sub.table (by simp) (by simp)) ?_
        refine Chain.runK [] 30 fun K hK => ?_; simp; refine hK _ _ ?_; clear hK K
        refine Chain.sub (S' := mk 130 [] [(5, .ptr 5 0 0), (81, .d (.lit (.bool true)))] [(5, some (.box [.d (.lit (.int .i64 a2.Kind)), .d (.lit (.string a2.Name)), .d (.lit (.int .i64 a2.Index)), .d (.lit (.int .i64 a2.Value.Kind)), .d (.lit (.int .i64 a2.Value.Int)), .d (.lit (.string a2.Value.Text)), .d (.sl (a2.Args.map cS27))]))]) Sub.tt ?_
        cases h
        exact Chain.nil Sub.tt
       ·have c21_ : decide (a2.Index < 0) = false := decide_eq_false c21
        refine Chain.sub (Sub.bool 51 (b := decide (a2.Index < 0)) rfl c21_) ?_
        refine Chain.sub (S' := mk 130 [] [(5, .ptr 5 0 0), (51, .d (.lit (.bool false)))] [(5, some (.box [.d (.lit (.int .i64 a2.Kind)), .d (.lit (.string a2.Name)), .d (.lit (.int .i64 a2.Index)), .d (.lit (.int .i64 a2.Value.Kind)), .d (.lit (.int .i64 a2.Value.Int)), .d (.lit (.string a2.Value.Text)), .d (.sl (a2.Args.map cS27))]))]) (by simp; exact Sub.table (by simp) (by simp)) ?_
        refine Chain.runK [] 5 fun K hK => ?_; simp; refine hK _ _ ?_; clear hK K
        refine Chain.sub (S' := mk 130 [] [(5, .ptr 5 0 0), (56, .d (.lit (.bool (decide (a2.Index ≥ 8)))))] [(5, some (.box [.d (.lit (.int .i64 a2.Kind)), .d (.lit (.string a2.Name)), .d (.lit (.int .i64 a2.Index)), .d (.lit (.int .i64 a2.Value.Kind)), .d (.lit (.int .i64 a2.Value.Int)), .d (.lit (.string a2.Value.Text)), .d (.sl (a2.Args.map cS27))]))]) Sub.tt ?_
        replace h := isome h; rcases h with ⟨c22, h⟩ | ⟨c22, h⟩
        ·have c22_ : decide (a2.Index ≥ 8) = true := decide_eq_true c22
         refine Chain.sub (Sub.bool 56 (b := decide (a2.Index ≥ 8)) rfl c22_) ?_
         refine Chain.sub (S' := mk 130 [] [(5, .ptr 5 0 0), (56, .d (.lit (.bool true)))] [(5, some (.box [.d (.lit (.int .i64 a2.Kind)), .d (.lit (.string a2.Name)), .d (.lit (.int .i64 a2.Index)), .d (.lit (.int .i64 a2.Value.Kind)), .d (.lit (.int .i64 a2.Value.Int)), .d (.lit (.string a2.Value.Text)), .d (.sl (a2.Args.map cS27))]))]) (by simp; exact Sub.table (by simp) (by simp)) ?_
         refine Chain.runK [] 25 fun K hK => ?_; simp; refine hK _ _ ?_; clear hK K
         refine Chain.sub (S' := mk 130 [] [(5, .ptr 5 0 0), (81, .d (.lit (.bool true)))] [(5, some (.box [.d (.lit (.int .i64 a2.Kind)), .d (.lit (.string a2.Name)), .d (.lit (.int .i64 a2.Index)), .d (.lit (.int .i64 a2.Value.Kind)), .d (.lit (.int .i64 a2.Value.Int)), .d (.lit (.string a2.Value.Text)), .d (.sl (a2.Args.map cS27))]))]) Sub.tt ?_
         cases h
         exact Chain.nil Sub.tt
        ·have c22_ : decide (a2.Index ≥ 8) = false := decide_eq_false c22
         refine Chain.sub (Sub.bool 56 (b := decide (a2.Index ≥ 8)) rfl c22_) ?_
         refine Chain.sub (S' := mk 130 [] [(5, .ptr 5 0 0), (56, .d (.lit (.bool false)))] [(5, some (.box [.d (.lit (.int .i64 a2.Kind)), .d (.lit (.string a2.Name)), .d (.lit (.int .i64 a2.Index)), .d (.lit (.int .i64 a2.Value.Kind)), .d (.lit (.int .i64 a2.Value.Int)), .d (.lit (.string a2.Value.Text)), .d (.sl (a2.Args.map cS27))]))]) (by simp; exact Sub.table (by simp) (by simp)) ?_
         refine Chain.runK [] 5 fun K hK => ?_; simp; refine hK _ _ ?_; clear hK K
         refine Chain.sub (S' := mk 130 [] [(5, .ptr 5 0 0), (61, .d (.lit (.bool (!decide (a2.Name = (ByteArray.mk #[]))))))] [(5, some (.box [.d (.lit (.int .i64 a2.Kind)), .d (.lit (.string a2.Name)), .d (.lit (.int .i64 a2.Index)), .d (.lit (.int .i64 a2.Value.Kind)), .d (.lit (.int .i64 a2.Value.Int)), .d (.lit (.string a2.Value.Text)), .d (.sl (a2.Args.map cS27))]))]) Sub.tt ?_
         replace h := isome h; rcases h with ⟨c23, h⟩ | ⟨c23, h⟩
         ·have c23_ : (!decide (a2.Name = (ByteArray.mk #[]))) = true := c23
          refine Chain.sub (Sub.bool 61 (b := (!decide (a2.Name = (ByteArray.mk #[])))) rfl c23_) ?_
          refine Chain.sub (S' := mk 130 [] [(5, .ptr 5 0 0), (61, .d (.lit (.bool true)))] [(5, some (.box [.d (.lit (.int .i64 a2.Kind)), .d (.lit (.string a2.Name)), .d (.lit (.int .i64 a2.Index)), .d (.lit (.int .i64 a2.Value.Kind)), .d (.lit (.int .i64 a2.Value.Int)), .d (.lit (.string a2.Value.Text)), .d (.sl (a2.Args.map cS27))]))]) (by simp; exact Sub.table (by simp) (by simp)) ?_
          refine Chain.runK [] 20 fun K hK => ?_; simp; refine hK _ _ ?_; clear hK K
          refine Chain.sub (S' := mk 130 [] [(5, .ptr 5 0 0), (81, .d (.lit (.bool true)))] [(5, some (.box [.d (.lit (.int .i64 a2.Kind)), .d (.lit (.string a2.Name)), .d (.lit (.int .i64 a2.Index)), .d (.lit (.int .i64 a2.Value.Kind)), .d (.lit (.int .i64 a2.Value.Int)), .d (.lit (.string a2.Value.Text)), .d (.sl (a2.Args.map cS27))]))]) Sub.tt ?_
          cases h
          exact Chain.nil Sub.tt
         ·have c23_ : (!decide (a2.Name = (ByteArray.mk #[]))) = false := Bool.eq_false_iff.2 c23
          refine Chain.sub (Sub.bool 61 (b := (!decide (a2.Name = (ByteArray.mk #[])))) rfl c23_) ?_
          refine Chain.sub (S' := mk 130 [] [(5, .ptr 5 0 0), (61, .d (.lit (.bool false)))] [(5, some (.box [.d (.lit (.int .i64 a2.Kind)), .d (.lit (.string a2.Name)), .d (.lit (.int .i64 a2.Index)), .d (.lit (.int .i64 a2.Value.Kind)), .d (.lit (.int .i64 a2.Value.Int)), .d (.lit (.string a2.Value.Text)), .d (.sl (a2.Args.map cS27))]))]) (by simp; exact Sub.table (by simp) (by simp)) ?_
          refine Chain.runK [] 6 fun K hK => ?_; simp; refine hK _ _ ?_; clear hK K
          refine Chain.sub (S' := mk 130 [] [(5, .ptr 5 0 0), (67, .d (.lit (.bool (decide (a2.Value.Kind < 1)))))] [(5, some (.box [.d (.lit (.int .i64 a2.Kind)), .d (.lit (.string a2.Name)), .d (.lit (.int .i64 a2.Index)), .d (.lit (.int .i64 a2.Value.Kind)), .d (.lit (.int .i64 a2.Value.Int)), .d (.lit (.string a2.Value.Text)), .d (.sl (a2.Args.map cS27))]))]) Sub.tt ?_
          replace h := isome h; rcases h with ⟨c24, h⟩ | ⟨c24, h⟩
          ·have c24_ : decide (a2.Value.Kind < 1) = true := decide_eq_true c24
           refine Chain.sub (Sub.bool 67 (b := decide (a2.Value.Kind < 1)) rfl c24_) ?_
           refine Chain.sub (S' := mk 130 [] [(5, .ptr 5 0 0), (67, .d (.lit (.bool true)))] [(5, some (.box [.d (.lit (.int .i64 a2.Kind)), .d (.lit (.string a2.Name)), .d (.lit (.int .i64 a2.Index)), .d (.lit (.int .i64 a2.Value.Kind)), .d (.lit (.int .i64 a2.Value.Int)), .d (.lit (.string a2.Value.Text)), .d (.sl (a2.Args.map cS27))]))]) (by simp; exact Sub.table (by simp) (by simp)) ?_
           refine Chain.runK [] 14 fun K hK => ?_; simp; refine hK _ _ ?_; clear hK K
           refine Chain.sub (S' := mk 130 [] [(5, .ptr 5 0 0), (81, .d (.lit (.bool true)))] [(5, some (.box [.d (.lit (.int .i64 a2.Kind)), .d (.lit (.string a2.Name)), .d (.lit (.int .i64 a2.Index)), .d (.lit (.int .i64 a2.Value.Kind)), .d (.lit (.int .i64 a2.Value.Int)), .d (.lit (.string a2.Value.Text)), .d (.sl (a2.Args.map cS27))]))]) Sub.tt ?_
           cases h
           exact Chain.nil Sub.tt
          ·have c24_ : decide (a2.Value.Kind < 1) = false := decide_eq_false c24
           refine Chain.sub (Sub.bool 67 (b := decide (a2.Value.Kind < 1)) rfl c24_) ?_
           refine Chain.sub (S' := mk 130 [] [(5, .ptr 5 0 0), (67, .d (.lit (.bool false)))] [(5, some (.box [.d (.lit (.int .i64 a2.Kind)), .d (.lit (.string a2.Name)), .d (.lit (.int .i64 a2.Index)), .d (.lit (.int .i64 a2.Value.Kind)), .d (.lit (.int .i64 a2.Value.Int)), .d (.lit (.string a2.Value.Text)), .d (.sl (a2.Args.map cS27))]))]) (by simp; exact Sub.table (by simp) (by simp)) ?_
           refine Chain.runK [] 6 fun K hK => ?_; simp; refine hK _ _ ?_; clear hK K
           refine Chain.sub (S' := mk 130 [] [(5, .ptr 5 0 0), (73, .d (.lit (.bool (decide (a2.Value.Kind > 3)))))] [(5, some (.box [.d (.lit (.int .i64 a2.Kind)), .d (.lit (.string a2.Name)), .d (.lit (.int .i64 a2.Index)), .d (.lit (.int .i64 a2.Value.Kind)), .d (.lit (.int .i64 a2.Value.Int)), .d (.lit (.string a2.Value.Text)), .d (.sl (a2.Args.map cS27))]))]) Sub.tt ?_
           replace h := isome h; rcases h with ⟨c25, h⟩ | ⟨c25, h⟩
           ·have c25_ : decide (a2.Value.Kind > 3) = true := decide_eq_true c25
            refine Chain.sub (Sub.bool 73 (b := decide (a2.Value.Kind > 3)) rfl c25_) ?_
            refine Chain.sub (S' := mk 130 [] [(5, .ptr 5 0 0), (73, .d (.lit (.bool true)))] [(5, some (.box [.d (.lit (.int .i64 a2.Kind)), .d (.lit (.string a2.Name)), .d (.lit (.int .i64 a2.Index)), .d (.lit (.int .i64 a2.Value.Kind)), .d (.lit (.int .i64 a2.Value.Int)), .d (.lit (.string a2.Value.Text)), .d (.sl (a2.Args.map cS27))]))]) (by simp; exact Sub.table (by simp) (by simp)) ?_
            refine Chain.runK [] 8 fun K hK => ?_; simp; refine hK _ _ ?_; clear hK K
            refine Chain.sub (S' := mk 130 [] [(5, .ptr 5 0 0), (81, .d (.lit (.bool true)))] [(5, some (.box [.d (.lit (.int .i64 a2.Kind)), .d (.lit (.string a2.Name)), .d (.lit (.int .i64 a2.Index)), .d (.lit (.int .i64 a2.Value.Kind)), .d (.lit (.int .i64 a2.Value.Int)), .d (.lit (.string a2.Value.Text)), .d (.sl (a2.Args.map cS27))]))]) Sub.tt ?_
            cases h
            exact Chain.nil Sub.tt
           ·have c25_ : decide (a2.Value.Kind > 3) = false := decide_eq_false c25
            refine Chain.sub (Sub.bool 73 (b := decide (a2.Value.Kind > 3)) rfl c25_) ?_
            refine Chain.sub (S' := mk 130 [] [(5, .ptr 5 0 0), (73, .d (.lit (.bool false)))] [(5, some (.box [.d (.lit (.int .i64 a2.Kind)), .d (.lit (.string a2.Name)), .d (.lit (.int .i64 a2.Index)), .d (.lit (.int .i64 a2.Value.Kind)), .d (.lit (.int .i64 a2.Value.Int)), .d (.lit (.string a2.Value.Text)), .d (.sl (a2.Args.map cS27))]))]) (by simp; exact Sub.table (by simp) (by simp)) ?_
            refine Chain.runK [] 6 fun K hK => ?_; simp; refine hK _ _ ?_; clear hK K
            refine Chain.sub (S' := mk 130 [] [(5, .ptr 5 0 0), (73, .d (.lit (.bool false))), (75, .agg [.d (.lit (.int .i64 a2.Value.Kind)), .d (.lit (.int .i64 a2.Value.Int)), .d (.lit (.string a2.Value.Text))]), (79, .agg [.d (.lit (.int .i64 a2.Value.Kind)), .d (.lit (.int .i64 0)), .d (.lit (.string (ByteArray.mk #[])))])] [(5, some (.box [.d (.lit (.int .i64 a2.Kind)), .d (.lit (.string a2.Name)), .d (.lit (.int .i64 a2.Index)), .d (.lit (.int .i64 a2.Value.Kind)), .d (.lit (.int .i64 a2.Value.Int)), .d (.lit (.string a2.Value.Text)), .d (.sl (a2.Args.map cS27))]))]) Sub.tt ?_
            refine Chain.pureP (by simp) (pure_eqA true rfl rfl rfl rfl (by kernel_rfl) (eqv24 a2.Value (S24.mk a2.Value.Kind 0 (ByteArray.mk #[])))) ?_
            refine Chain.sub (S' := mk 130 [] [(5, .ptr 5 0 0), (73, .d (.lit (.bool false))), (75, .agg [.d (.lit (.int .i64 a2.Value.Kind)), .d (.lit (.int .i64 a2.Value.Int)), .d (.lit (.string a2.Value.Text))]), (79, .agg [.d (.lit (.int .i64 a2.Value.Kind)), .d (.lit (.int .i64 0)), .d (.lit (.string (ByteArray.mk #[])))]), (80, .d (.lit (.bool (!beqS24 a2.Value (S24.mk a2.Value.Kind 0 (ByteArray.mk #[]))))))] [(5, some (.box [.d (.lit (.int .i64 a2.Kind)), .d (.lit (.string a2.Name)), .d (.lit (.int .i64 a2.Index)), .d (.lit (.int .i64 a2.Value.Kind)), .d (.lit (.int .i64 a2.Value.Int)), .d (.lit (.string a2.Value.Text)), .d (.sl (a2.Args.map cS27))]))]) (by simp; exact Sub.table (by simp) (by simp)) ?_
            refine Chain.runK [] 1 fun K hK => ?_; simp; refine hK _ _ ?_; clear hK K
            refine Chain.sub (S' := mk 130 [] [(5, .ptr 5 0 0), (81, .d (.lit (.bool (!beqS24 a2.Value (S24.mk a2.Value.Kind 0 (ByteArray.mk #[]))))))] [(5, some (.box [.d (.lit (.int .i64 a2.Kind)), .d (.lit (.string a2.Name)), .d (.lit (.int .i64 a2.Index)), .d (.lit (.int .i64 a2.Value.Kind)), .d (.lit (.int .i64 a2.Value.Int)), .d (.lit (.string a2.Value.Text)), .d (.sl (a2.Args.map cS27))]))]) Sub.tt ?_
            cases h
            exact Chain.nil Sub.tt
      ·clear hj
       replace h := isome h; rcases h with ⟨c26, h⟩ | ⟨c26, h⟩
       ·have c26_ : v20 = true := c26
        refine AW.condT (b := v20) rfl c26_ ?_
        refine AW.sub (Sub.bool 81 (b := v20) rfl c26_) ?_
        refine AW.sub (S' := mk 130 [] [(5, .ptr 5 0 0), (81, .d (.lit (.bool true)))] [(5, some (.box [.d (.lit (.int .i64 a2.Kind)), .d (.lit (.string a2.Name)), .d (.lit (.int .i64 a2.Index)), .d (.lit (.int .i64 a2.Value.Kind)), .d (.lit (.int .i64 a2.Value.Int)), .d (.lit (.string a2.Value.Text)), .d (.sl (a2.Args.map cS27))]))]) (by simp; exact Sub.table (by simp) (by simp)) ?_
        refine AW.seqR ?_
        refine Chain.runK [] 3 fun K hK => ?_; simp; refine hK _ _ ?_; clear hK K
        refine Chain.sub (S' := mk 130 [] [(6, .d (.lit (.int .i64 0))), (7, .d (.lit (.bool false))), (8, .d (.lit (.int .i64 3)))] []) Sub.tt ?_
        refine Chain.nil ?_
        refine AW.ret ?_
        cases h
        refine thenQ_pass (by simp) ?_
        refine blockQ.ret ?_
        refine thenQ_pass (by simp) ?_
        exact FinC.ret (by simp) (by simp)
       ·have c26_ : v20 = false := Bool.eq_false_iff.2 c26
        refine AW.condF (b := v20) rfl c26_ ?_
        refine AW.sub (Sub.bool 81 (b := v20) rfl c26_) ?_
        refine AW.sub (S' := mk 130 [] [(5, .ptr 5 0 0), (81, .d (.lit (.bool false)))] [(5, some (.box [.d (.lit (.int .i64 a2.Kind)), .d (.lit (.string a2.Name)), .d (.lit (.int .i64 a2.Index)), .d (.lit (.int .i64 a2.Value.Kind)), .d (.lit (.int .i64 a2.Value.Int)), .d (.lit (.string a2.Value.Text)), .d (.sl (a2.Args.map cS27))]))]) (by simp; exact Sub.table (by simp) (by simp)) ?_
        refine AW.skip ?_
        refine thenQ_normal ?_
        refine AW.seqR ?_
        refine Chain.runK [] 6 fun K hK => ?_; simp; refine hK _ _ ?_; clear hK K
        refine Chain.sub (S' := mk 130 [] [(6, .d (.lit (.int .i64 a2.Value.Kind))), (7, .d (.lit (.bool true))), (8, .d (.lit (.int .i64 0)))] []) Sub.tt ?_
        refine Chain.nil ?_
        refine AW.ret ?_
        cases h
        refine blockQ.ret ?_
        refine thenQ_pass (by simp) ?_
        exact FinC.ret (by simp) (by simp)
     ·have c14_ : (a2.Kind == 3) = false := Bool.eq_false_iff.2 c14
      refine AW.condF (b := (a2.Kind == 3)) rfl c14_ ?_
      refine AW.sub (Sub.bool 46 (b := (a2.Kind == 3)) rfl c14_) ?_
      refine AW.sub (S' := mk 130 [] [(0, .d (.sl (a0.map cS46))), (1, .d (.sl (a1.map cS46))), (5, .ptr 5 0 0), (22, .d (.lit (.int .i64 a2.Kind))), (46, .d (.lit (.bool false)))] [(5, some (.box [.d (.lit (.int .i64 a2.Kind)), .d (.lit (.string a2.Name)), .d (.lit (.int .i64 a2.Index)), .d (.lit (.int .i64 a2.Value.Kind)), .d (.lit (.int .i64 a2.Value.Int)), .d (.lit (.string a2.Value.Text)), .d (.sl (a2.Args.map cS27))]))]) (by simp; exact Sub.table (by simp) (by simp)) ?_
      refine AW.seq ?_
      refine AW.seqR ?_
      refine Chain.runK [] 2 fun K hK => ?_; simp; refine hK _ _ ?_; clear hK K
      refine Chain.sub (S' := mk 130 [] [(0, .d (.sl (a0.map cS46))), (1, .d (.sl (a1.map cS46))), (5, .ptr 5 0 0), (22, .d (.lit (.int .i64 a2.Kind))), (85, .d (.lit (.bool (a2.Kind == 2))))] [(5, some (.box [.d (.lit (.int .i64 a2.Kind)), .d (.lit (.string a2.Name)), .d (.lit (.int .i64 a2.Index)), .d (.lit (.int .i64 a2.Value.Kind)), .d (.lit (.int .i64 a2.Value.Int)), .d (.lit (.string a2.Value.Text)), .d (.sl (a2.Args.map cS27))]))]) Sub.tt ?_
      refine Chain.nil ?_
      refine AW.lastN (fun (v28 : Bool) => mk 130 [] [(0, .d (.sl (a0.map cS46))), (1, .d (.sl (a1.map cS46))), (5, .ptr 5 0 0), (22, .d (.lit (.int .i64 a2.Kind))), (85, .d (.lit (.bool v28)))] [(5, some (.box [.d (.lit (.int .i64 a2.Kind)), .d (.lit (.string a2.Name)), .d (.lit (.int .i64 a2.Index)), .d (.lit (.int .i64 a2.Value.Kind)), .d (.lit (.int .i64 a2.Value.Int)), .d (.lit (.string a2.Value.Text)), .d (.sl (a2.Args.map cS27))]))]) h ?_ ?_ <;> clear h
      ·intro o h
       replace h := isome h; rcases h with ⟨c29, h⟩ | ⟨c29, h⟩
       ·have c29_ : (a2.Kind == 2) = true := c29
        refine AW.condT (b := (a2.Kind == 2)) rfl c29_ ?_
        refine AW.sub (Sub.bool 85 (b := (a2.Kind == 2)) rfl c29_) ?_
        refine AW.sub (S' := mk 130 [] [(0, .d (.sl (a0.map cS46))), (1, .d (.sl (a1.map cS46))), (5, .ptr 5 0 0), (22, .d (.lit (.int .i64 a2.Kind))), (85, .d (.lit (.bool true)))] [(5, some (.box [.d (.lit (.int .i64 a2.Kind)), .d (.lit (.string a2.Name)), .d (.lit (.int .i64 a2.Index)), .d (.lit (.int .i64 a2.Value.Kind)), .d (.lit (.int .i64 a2.Value.Int)), .d (.lit (.string a2.Value.Text)), .d (.sl (a2.Args.map cS27))]))]) (by simp; exact Sub.table (by simp) (by simp)) ?_
        refine AW.skip ?_
        cases h
        refine PostN.next ?_
        exact Sub.tt
       ·have c29_ : (a2.Kind == 2) = false := Bool.eq_false_iff.2 c29
        refine AW.condF (b := (a2.Kind == 2)) rfl c29_ ?_
        refine AW.sub (Sub.bool 85 (b := (a2.Kind == 2)) rfl c29_) ?_
        refine AW.sub (S' := mk 130 [] [(0, .d (.sl (a0.map cS46))), (1, .d (.sl (a1.map cS46))), (5, .ptr 5 0 0), (22, .d (.lit (.int .i64 a2.Kind))), (85, .d (.lit (.bool false)))] [(5, some (.box [.d (.lit (.int .i64 a2.Kind)), .d (.lit (.string a2.Name)), .d (.lit (.int .i64 a2.Index)), .d (.lit (.int .i64 a2.Value.Kind)), .d (.lit (.int .i64 a2.Value.Int)), .d (.lit (.string a2.Value.Text)), .d (.sl (a2.Args.map cS27))]))]) (by simp; exact Sub.table (by simp) (by simp)) ?_
        refine AW.region ?_
        refine Chain.runK [] 2 fun K hK => ?_; simp; refine hK _ _ ?_; clear hK K
        refine Chain.sub (S' := mk 130 [] [(0, .d (.sl (a0.map cS46))), (1, .d (.sl (a1.map cS46))), (5, .ptr 5 0 0), (22, .d (.lit (.int .i64 a2.Kind))), (85, .d (.lit (.bool (a2.Kind == 4))))] [(5, some (.box [.d (.lit (.int .i64 a2.Kind)), .d (.lit (.string a2.Name)), .d (.lit (.int .i64 a2.Index)), .d (.lit (.int .i64 a2.Value.Kind)), .d (.lit (.int .i64 a2.Value.Int)), .d (.lit (.string a2.Value.Text)), .d (.sl (a2.Args.map cS27))]))]) Sub.tt ?_
        refine Chain.nil ?_
        cases h
        refine PostN.next ?_
        exact Sub.tt
      ·rintro v28 h
       refine thenQ_normal ?_
       replace h := isome h; rcases h with ⟨c30, h⟩ | ⟨c30, h⟩
       ·have c30_ : v28 = true := c30
        refine AW.condT (b := v28) rfl c30_ ?_
        refine AW.sub (Sub.bool 85 (b := v28) rfl c30_) ?_
        refine AW.sub (S' := mk 130 [] [(0, .d (.sl (a0.map cS46))), (1, .d (.sl (a1.map cS46))), (5, .ptr 5 0 0), (22, .d (.lit (.int .i64 a2.Kind))), (85, .d (.lit (.bool true)))] [(5, some (.box [.d (.lit (.int .i64 a2.Kind)), .d (.lit (.string a2.Name)), .d (.lit (.int .i64 a2.Index)), .d (.lit (.int .i64 a2.Value.Kind)), .d (.lit (.int .i64 a2.Value.Int)), .d (.lit (.string a2.Value.Text)), .d (.sl (a2.Args.map cS27))]))]) (by simp; exact Sub.table (by simp) (by simp)) ?_
        refine AW.seqR ?_
        refine Chain.runK [] 2 fun K hK => ?_; simp; refine hK _ _ ?_; clear hK K
        refine Chain.sub (S' := mk 130 [] [(1, .d (.sl (a1.map cS46))), (5, .ptr 5 0 0), (9, .d (.sl (a0.map cS46)))] [(5, some (.box [.d (.lit (.int .i64 a2.Kind)), .d (.lit (.string a2.Name)), .d (.lit (.int .i64 a2.Index)), .d (.lit (.int .i64 a2.Value.Kind)), .d (.lit (.int .i64 a2.Value.Int)), .d (.lit (.string a2.Value.Text)), .d (.sl (a2.Args.map cS27))]))]) Sub.tt ?_
        refine Chain.nil ?_
        refine AW.seq ?_
        refine AW.seqR ?_
        refine Chain.runK [] 3 fun K hK => ?_; simp; refine hK _ _ ?_; clear hK K
        refine Chain.sub (S' := mk 130 [] [(1, .d (.sl (a1.map cS46))), (5, .ptr 5 0 0), (9, .d (.sl (a0.map cS46))), (91, .d (.lit (.bool (a2.Kind == 4))))] [(5, some (.box [.d (.lit (.int .i64 a2.Kind)), .d (.lit (.string a2.Name)), .d (.lit (.int .i64 a2.Index)), .d (.lit (.int .i64 a2.Value.Kind)), .d (.lit (.int .i64 a2.Value.Int)), .d (.lit (.string a2.Value.Text)), .d (.sl (a2.Args.map cS27))]))]) Sub.tt ?_
        refine Chain.nil ?_
        refine AW.lastN (fun (l32 : List S46) => mk 130 [] [(5, .ptr 5 0 0), (9, .d (.sl (l32.map cS46)))] [(5, some (.box [.d (.lit (.int .i64 a2.Kind)), .d (.lit (.string a2.Name)), .d (.lit (.int .i64 a2.Index)), .d (.lit (.int .i64 a2.Value.Kind)), .d (.lit (.int .i64 a2.Value.Int)), .d (.lit (.string a2.Value.Text)), .d (.sl (a2.Args.map cS27))]))]) h ?_ ?_ <;> clear h
        ·intro o h
         replace h := isome h; rcases h with ⟨c33, h⟩ | ⟨c33, h⟩
         ·have c33_ : (a2.Kind == 4) = true := c33
          refine AW.condT (b := (a2.Kind == 4)) rfl c33_ ?_
          refine AW.sub (Sub.bool 91 (b := (a2.Kind == 4)) rfl c33_) ?_
          refine AW.sub (S' := mk 130 [] [(1, .d (.sl (a1.map cS46))), (5, .ptr 5 0 0), (9, .d (.sl (a0.map cS46))), (91, .d (.lit (.bool true)))] [(5, some (.box [.d (.lit (.int .i64 a2.Kind)), .d (.lit (.string a2.Name)), .d (.lit (.int .i64 a2.Index)), .d (.lit (.int .i64 a2.Value.Kind)), .d (.lit (.int .i64 a2.Value.Int)), .d (.lit (.string a2.Value.Text)), .d (.sl (a2.Args.map cS27))]))]) (by simp; exact Sub.table (by simp) (by simp)) ?_
          refine AW.region ?_
          refine Chain.runK [] 2 fun K hK => ?_; simp; refine hK _ _ ?_; clear hK K
          refine Chain.sub (S' := mk 130 [] [(5, .ptr 5 0 0), (9, .d (.sl (a1.map cS46)))] [(5, some (.box [.d (.lit (.int .i64 a2.Kind)), .d (.lit (.string a2.Name)), .d (.lit (.int .i64 a2.Index)), .d (.lit (.int .i64 a2.Value.Kind)), .d (.lit (.int .i64 a2.Value.Int)), .d (.lit (.string a2.Value.Text)), .d (.sl (a2.Args.map cS27))]))]) Sub.tt ?_
          refine Chain.nil ?_
          cases h
          refine PostN.next ?_
          exact Sub.tt
         ·have c33_ : (a2.Kind == 4) = false := Bool.eq_false_iff.2 c33
          refine AW.condF (b := (a2.Kind == 4)) rfl c33_ ?_
          refine AW.sub (Sub.bool 91 (b := (a2.Kind == 4)) rfl c33_) ?_
          refine AW.sub (S' := mk 130 [] [(1, .d (.sl (a1.map cS46))), (5, .ptr 5 0 0), (9, .d (.sl (a0.map cS46))), (91, .d (.lit (.bool false)))] [(5, some (.box [.d (.lit (.int .i64 a2.Kind)), .d (.lit (.string a2.Name)), .d (.lit (.int .i64 a2.Index)), .d (.lit (.int .i64 a2.Value.Kind)), .d (.lit (.int .i64 a2.Value.Int)), .d (.lit (.string a2.Value.Text)), .d (.sl (a2.Args.map cS27))]))]) (by simp; exact Sub.table (by simp) (by simp)) ?_
          refine AW.skip ?_
          cases h
          refine PostN.next ?_
          exact Sub.tt
        ·rintro l32 h
         refine thenQ_normal ?_
         refine AW.seq ?_
         replace h := bsome h; obtain ⟨v37, hj, h⟩ := h
         refine AW.cutR (mk 130 [] [(5, .ptr 5 0 0), (9, .d (.sl (l32.map cS46))), (107, .d (.lit (.bool v37)))] [(5, some (.box [.d (.lit (.int .i64 a2.Kind)), .d (.lit (.string a2.Name)), .d (.lit (.int .i64 a2.Index)), .d (.lit (.int .i64 a2.Value.Kind)), .d (.lit (.int .i64 a2.Value.Int)), .d (.lit (.string a2.Value.Text)), .d (.sl (a2.Args.map cS27))]))]) ?_ ?_
         ·clear h; have h := hj; clear hj
          refine Chain.runK [] 2 fun K hK => ?_; simp; refine hK _ _ ?_; clear hK K
          refine Chain.sub (S' := mk 130 [] [(5, .ptr 5 0 0), (9, .d (.sl (l32.map cS46))), (94, .d (.lit (.string a2.Name)))] [(5, some (.box [.d (.lit (.int .i64 a2.Kind)), .d (.lit (.string a2.Name)), .d (.lit (.int .i64 a2.Index)), .d (.lit (.int .i64 a2.Value.Kind)), .d (.lit (.int .i64 a2.Value.Int)), .d (.lit (.string a2.Value.Text)), .d (.sl (a2.Args.map cS27))]))]) Sub.tt ?_
          replace h := bsome h; obtain ⟨r38, hr38, h⟩ := h
          refine Chain.callL (d := 95) (p30 N a2.Name r38 hr38) (by simp) rfl rfl (by simp <;> rfl) (by simp <;> rfl) ent30 (by simp <;> rfl) ?_
          refine Chain.sub (S' := mk 130 [] [(5, .ptr 5 0 0), (9, .d (.sl (l32.map cS46))), (94, .d (.lit (.string a2.Name))), (95, .d (.lit (.bool r38)))] [(5, some (.box [.d (.lit (.int .i64 a2.Kind)), .d (.lit (.string a2.Name)), .d (.lit (.int .i64 a2.Index)), .d (.lit (.int .i64 a2.Value.Kind)), .d (.lit (.int .i64 a2.Value.Int)), .d (.lit (.string a2.Value.Text)), .d (.sl (a2.Args.map cS27))]))]) (by simp; exact Sub.table (by simp) (by simp)) ?_
          refine Chain.runK [] 2 fun K hK => ?_; simp; refine hK _ _ ?_; clear hK K
          refine Chain.sub (S' := mk 130 [] [(5, .ptr 5 0 0), (9, .d (.sl (l32.map cS46))), (97, .d (.lit (.bool (!r38))))] [(5, some (.box [.d (.lit (.int .i64 a2.Kind)), .d (.lit (.string a2.Name)), .d (.lit (.int .i64 a2.Index)), .d (.lit (.int .i64 a2.Value.Kind)), .d (.lit (.int .i64 a2.Value.Int)), .d (.lit (.string a2.Value.Text)), .d (.sl (a2.Args.map cS27))]))]) Sub.tt ?_
          replace h := isome h; rcases h with ⟨c39, h⟩ | ⟨c39, h⟩
          ·have c39_ : (!r38) = true := c39
           refine Chain.sub (Sub.bool 97 (b := (!r38)) rfl c39_) ?_
           refine Chain.sub (S' := mk 130 [] [(5, .ptr 5 0 0), (9, .d (.sl (l32.map cS46))), (97, .d (.lit (.bool true)))] [(5, some (.box [.d (.lit (.int .i64 a2.Kind)), .d (.lit (.string a2.Name)), .d (.lit (.int .i64 a2.Index)), .d (.lit (.int .i64 a2.Value.Kind)), .d (.lit (.int .i64 a2.Value.Int)), .d (.lit (.string a2.Value.Text)), .d (.sl (a2.Args.map cS27))]))]) (by simp; exact Sub.table (by simp) (by simp)) ?_
           refine Chain.runK [] 10 fun K hK => ?_; simp; refine hK _ _ ?_; clear hK K
           refine Chain.sub (S' := mk 130 [] [(5, .ptr 5 0 0), (9, .d (.sl (l32.map cS46))), (107, .d (.lit (.bool true)))] [(5, some (.box [.d (.lit (.int .i64 a2.Kind)), .d (.lit (.string a2.Name)), .d (.lit (.int .i64 a2.Index)), .d (.lit (.int .i64 a2.Value.Kind)), .d (.lit (.int .i64 a2.Value.Int)), .d (.lit (.string a2.Value.Text)), .d (.sl (a2.Args.map cS27))]))]) Sub.tt ?_
           cases h
           exact Chain.nil Sub.tt
          ·have c39_ : (!r38) = false := Bool.eq_false_iff.2 c39
           refine Chain.sub (Sub.bool 97 (b := (!r38)) rfl c39_) ?_
           refine Chain.sub (S' := mk 130 [] [(5, .ptr 5 0 0), (9, .d (.sl (l32.map cS46))), (97, .d (.lit (.bool false)))] [(5, some (.box [.d (.lit (.int .i64 a2.Kind)), .d (.lit (.string a2.Name)), .d (.lit (.int .i64 a2.Index)), .d (.lit (.int .i64 a2.Value.Kind)), .d (.lit (.int .i64 a2.Value.Int)), .d (.lit (.string a2.Value.Text)), .d (.sl (a2.Args.map cS27))]))]) (by simp; exact Sub.table (by simp) (by simp)) ?_
           refine Chain.runK [] 5 fun K hK => ?_; simp; refine hK _ _ ?_; clear hK K
           refine Chain.sub (S' := mk 130 [] [(5, .ptr 5 0 0), (9, .d (.sl (l32.map cS46))), (102, .d (.lit (.bool (a2.Index != 0))))] [(5, some (.box [.d (.lit (.int .i64 a2.Kind)), .d (.lit (.string a2.Name)), .d (.lit (.int .i64 a2.Index)), .d (.lit (.int .i64 a2.Value.Kind)), .d (.lit (.int .i64 a2.Value.Int)), .d (.lit (.string a2.Value.Text)), .d (.sl (a2.Args.map cS27))]))]) Sub.tt ?_
           replace h := isome h; rcases h with ⟨c40, h⟩ | ⟨c40, h⟩
           ·have c40_ : (a2.Index != 0) = true := c40
            refine Chain.sub (Sub.bool 102 (b := (a2.Index != 0)) rfl c40_) ?_
            refine Chain.sub (S' := mk 130 [] [(5, .ptr 5 0 0), (9, .d (.sl (l32.map cS46))), (102, .d (.lit (.bool true)))] [(5, some (.box [.d (.lit (.int .i64 a2.Kind)), .d (.lit (.string a2.Name)), .d (.lit (.int .i64 a2.Index)), .d (.lit (.int .i64 a2.Value.Kind)), .d (.lit (.int .i64 a2.Value.Int)), .d (.lit (.string a2.Value.Text)), .d (.sl (a2.Args.map cS27))]))]) (by simp; exact Sub.table (by simp) (by simp)) ?_
            refine Chain.runK [] 5 fun K hK => ?_; simp; refine hK _ _ ?_; clear hK K
            refine Chain.sub (S' := mk 130 [] [(5, .ptr 5 0 0), (9, .d (.sl (l32.map cS46))), (107, .d (.lit (.bool true)))] [(5, some (.box [.d (.lit (.int .i64 a2.Kind)), .d (.lit (.string a2.Name)), .d (.lit (.int .i64 a2.Index)), .d (.lit (.int .i64 a2.Value.Kind)), .d (.lit (.int .i64 a2.Value.Int)), .d (.lit (.string a2.Value.Text)), .d (.sl (a2.Args.map cS27))]))]) Sub.tt ?_
            cases h
            exact Chain.nil Sub.tt
           ·have c40_ : (a2.Index != 0) = false := Bool.eq_false_iff.2 c40
            refine Chain.sub (Sub.bool 102 (b := (a2.Index != 0)) rfl c40_) ?_
            refine Chain.sub (S' := mk 130 [] [(5, .ptr 5 0 0), (9, .d (.sl (l32.map cS46))), (102, .d (.lit (.bool false)))] [(5, some (.box [.d (.lit (.int .i64 a2.Kind)), .d (.lit (.string a2.Name)), .d (.lit (.int .i64 a2.Index)), .d (.lit (.int .i64 a2.Value.Kind)), .d (.lit (.int .i64 a2.Value.Int)), .d (.lit (.string a2.Value.Text)), .d (.sl (a2.Args.map cS27))]))]) (by simp; exact Sub.table (by simp) (by simp)) ?_
            refine Chain.runK [] 3 fun K hK => ?_; simp; refine hK _ _ ?_; clear hK K
            refine Chain.sub (S' := mk 130 [] [(5, .ptr 5 0 0), (9, .d (.sl (l32.map cS46))), (102, .d (.lit (.bool false))), (104, .agg [.d (.lit (.int .i64 a2.Value.Kind)), .d (.lit (.int .i64 a2.Value.Int)), .d (.lit (.string a2.Value.Text))]), (105, .agg [.d (.lit (.int .i64 0)), .d (.lit (.int .i64 0)), .d (.lit (.string (ByteArray.mk #[])))])] [(5, some (.box [.d (.lit (.int .i64 a2.Kind)), .d (.lit (.string a2.Name)), .d (.lit (.int .i64 a2.Index)), .d (.lit (.int .i64 a2.Value.Kind)), .d (.lit (.int .i64 a2.Value.Int)), .d (.lit (.string a2.Value.Text)), .d (.sl (a2.Args.map cS27))]))]) Sub.tt ?_
            refine Chain.pureP (by simp) (pure_eqA true rfl rfl rfl rfl (by kernel_rfl) (eqv24 a2.Value (S24.mk 0 0 (ByteArray.mk #[])))) ?_
            refine Chain.sub (S' := mk 130 [] [(5, .ptr 5 0 0), (9, .d (.sl (l32.map cS46))), (102, .d (.lit (.bool false))), (104, .agg [.d (.lit (.int .i64 a2.Value.Kind)), .d (.lit (.int .i64 a2.Value.Int)), .d (.lit (.string a2.Value.Text))]), (105, .agg [.d (.lit (.int .i64 0)), .d (.lit (.int .i64 0)), .d (.lit (.string (ByteArray.mk #[])))]), (106, .d (.lit (.bool (!beqS24 a2.Value (S24.mk 0 0 (ByteArray.mk #[]))))))] [(5, some (.box [.d (.lit (.int .i64 a2.Kind)), .d (.lit (.string a2.Name)), .d (.lit (.int .i64 a2.Index)), .d (.lit (.int .i64 a2.Value.Kind)), .d (.lit (.int .i64 a2.Value.Int)), .d (.lit (.string a2.Value.Text)), .d (.sl (a2.Args.map cS27))]))]) (by simp; exact Sub.table (by simp) (by simp)) ?_
            refine Chain.runK [] 1 fun K hK => ?_; simp; refine hK _ _ ?_; clear hK K
            refine Chain.sub (S' := mk 130 [] [(5, .ptr 5 0 0), (9, .d (.sl (l32.map cS46))), (107, .d (.lit (.bool (!beqS24 a2.Value (S24.mk 0 0 (ByteArray.mk #[]))))))] [(5, some (.box [.d (.lit (.int .i64 a2.Kind)), .d (.lit (.string a2.Name)), .d (.lit (.int .i64 a2.Index)), .d (.lit (.int .i64 a2.Value.Kind)), .d (.lit (.int .i64 a2.Value.Int)), .d (.lit (.string a2.Value.Text)), .d (.sl (a2.Args.map cS27))]))]) Sub.tt ?_
            cases h
            exact Chain.nil Sub.tt
         ·clear hj
          replace h := isome h; rcases h with ⟨c41, h⟩ | ⟨c41, h⟩
          ·have c41_ : v37 = true := c41
           refine AW.condT (b := v37) rfl c41_ ?_
           refine AW.sub (Sub.bool 107 (b := v37) rfl c41_) ?_
           refine AW.sub (S' := mk 130 [] [(5, .ptr 5 0 0), (9, .d (.sl (l32.map cS46))), (107, .d (.lit (.bool true)))] [(5, some (.box [.d (.lit (.int .i64 a2.Kind)), .d (.lit (.string a2.Name)), .d (.lit (.int .i64 a2.Index)), .d (.lit (.int .i64 a2.Value.Kind)), .d (.lit (.int .i64 a2.Value.Int)), .d (.lit (.string a2.Value.Text)), .d (.sl (a2.Args.map cS27))]))]) (by simp; exact Sub.table (by simp) (by simp)) ?_
           refine AW.seqR ?_
           refine Chain.runK [] 3 fun K hK => ?_; simp; refine hK _ _ ?_; clear hK K
           refine Chain.sub (S' := mk 130 [] [(6, .d (.lit (.int .i64 0))), (7, .d (.lit (.bool false))), (8, .d (.lit (.int .i64 3)))] []) Sub.tt ?_
           refine Chain.nil ?_
           refine AW.ret ?_
           cases h
           refine thenQ_pass (by simp) ?_
           refine blockQ.ret ?_
           refine thenQ_pass (by simp) ?_
           exact FinC.ret (by simp) (by simp)
          ·have c41_ : v37 = false := Bool.eq_false_iff.2 c41
           refine AW.condF (b := v37) rfl c41_ ?_
           refine AW.sub (Sub.bool 107 (b := v37) rfl c41_) ?_
           refine AW.sub (S' := mk 130 [] [(5, .ptr 5 0 0), (9, .d (.sl (l32.map cS46))), (107, .d (.lit (.bool false)))] [(5, some (.box [.d (.lit (.int .i64 a2.Kind)), .d (.lit (.string a2.Name)), .d (.lit (.int .i64 a2.Index)), .d (.lit (.int .i64 a2.Value.Kind)), .d (.lit (.int .i64 a2.Value.Int)), .d (.lit (.string a2.Value.Text)), .d (.sl (a2.Args.map cS27))]))]) (by simp; exact Sub.table (by simp) (by simp)) ?_
           refine AW.skip ?_
           refine thenQ_normal ?_
           refine AW.seqR ?_
           refine Chain.runK [] 3 fun K hK => ?_; simp; refine hK _ _ ?_; clear hK K
           refine Chain.sub (S' := mk 130 [] [(109, .d (.sl (l32.map cS46))), (111, .d (.lit (.string a2.Name)))] []) Sub.tt ?_
           replace h := bsome h; obtain ⟨r42, hr42, h⟩ := h
           refine Chain.callC (d := 112) (p31 N l32 a2.Name r42 hr42) (by simp) rfl rfl (by simp <;> rfl) (by simp <;> rfl) ent31 (by simp) (.inl ⟨by simp, by simp⟩) ?_
           refine Chain.sub (S' := mk 130 [] [(109, .d (.sl (l32.map cS46))), (111, .d (.lit (.string a2.Name))), (112, .tup [.agg [.d (.lit (.string r42.1.Name)), .d (.lit (.int .i64 r42.1.Kind)), .d (.lit (.bool r42.1.Nullable))], .d (.lit (.bool r42.2))])] []) (by simp; exact Sub.table (by simp) (by simp)) ?_
           refine Chain.runK [] 6 fun K hK => ?_; simp; refine hK _ _ ?_; clear hK K
           refine Chain.sub (S' := mk 130 [] [(10, .ptr 10 0 0), (11, .d (.lit (.bool r42.2)))] [(10, some (.box [.d (.lit (.string r42.1.Name)), .d (.lit (.int .i64 r42.1.Kind)), .d (.lit (.bool r42.1.Nullable))]))]) Sub.tt ?_
           refine Chain.nil ?_
           refine AW.seq ?_
           refine AW.seqR ?_
           refine Chain.runK [] 2 fun K hK => ?_; simp; refine hK _ _ ?_; clear hK K
           refine Chain.sub (S' := mk 130 [] [(10, .ptr 10 0 0), (116, .d (.lit (.bool (!r42.2))))] [(10, some (.box [.d (.lit (.string r42.1.Name)), .d (.lit (.int .i64 r42.1.Kind)), .d (.lit (.bool r42.1.Nullable))]))]) Sub.tt ?_
           refine Chain.nil ?_
           replace h := isome h; rcases h with ⟨c43, h⟩ | ⟨c43, h⟩
           ·have c43_ : (!r42.2) = true := c43
            refine AW.condT (b := (!r42.2)) rfl c43_ ?_
            refine AW.sub (Sub.bool 116 (b := (!r42.2)) rfl c43_) ?_
            refine AW.sub (S' := mk 130 [] [(10, .ptr 10 0 0), (116, .d (.lit (.bool true)))] [(10, some (.box [.d (.lit (.string r42.1.Name)), .d (.lit (.int .i64 r42.1.Kind)), .d (.lit (.bool r42.1.Nullable))]))]) (by simp; exact Sub.table (by simp) (by simp)) ?_
            refine AW.seqR ?_
            refine Chain.runK [] 3 fun K hK => ?_; simp; refine hK _ _ ?_; clear hK K
            refine Chain.sub (S' := mk 130 [] [(6, .d (.lit (.int .i64 0))), (7, .d (.lit (.bool false))), (8, .d (.lit (.int .i64 23)))] []) Sub.tt ?_
            refine Chain.nil ?_
            refine AW.ret ?_
            cases h
            refine thenQ_pass (by simp) ?_
            refine blockQ.ret ?_
            refine thenQ_pass (by simp) ?_
            exact FinC.ret (by simp) (by simp)
           ·have c43_ : (!r42.2) = false := Bool.eq_false_iff.2 c43
            refine AW.condF (b := (!r42.2)) rfl c43_ ?_
            refine AW.sub (Sub.bool 116 (b := (!r42.2)) rfl c43_) ?_
            refine AW.sub (S' := mk 130 [] [(10, .ptr 10 0 0), (116, .d (.lit (.bool false)))] [(10, some (.box [.d (.lit (.string r42.1.Name)), .d (.lit (.int .i64 r42.1.Kind)), .d (.lit (.bool r42.1.Nullable))]))]) (by simp; exact Sub.table (by simp) (by simp)) ?_
            refine AW.skip ?_
            refine thenQ_normal ?_
            refine AW.seqQ (by kernel_rfl) (by kernel_rfl) ?_
            refine Chain.runQ 7 fun K hK => ?_; simp; refine hK _ _ ?_; clear hK K
            refine Chain.sub (S' := mk 130 [] [(6, .d (.lit (.int .i64 r42.1.Kind))), (7, .d (.lit (.bool r42.1.Nullable))), (8, .d (.lit (.int .i64 0)))] []) Sub.tt ?_
            refine Chain.nil ?_
            refine AW.ret ?_
            cases h
            refine blockQ.ret ?_
            refine thenQ_pass (by simp) ?_
            exact FinC.ret (by simp) (by simp)
       ·have c30_ : v28 = false := Bool.eq_false_iff.2 c30
        refine AW.condF (b := v28) rfl c30_ ?_
        refine AW.sub (Sub.bool 85 (b := v28) rfl c30_) ?_
        refine AW.sub (S' := mk 130 [] [(0, .d (.sl (a0.map cS46))), (1, .d (.sl (a1.map cS46))), (5, .ptr 5 0 0), (22, .d (.lit (.int .i64 a2.Kind))), (85, .d (.lit (.bool false)))] [(5, some (.box [.d (.lit (.int .i64 a2.Kind)), .d (.lit (.string a2.Name)), .d (.lit (.int .i64 a2.Index)), .d (.lit (.int .i64 a2.Value.Kind)), .d (.lit (.int .i64 a2.Value.Int)), .d (.lit (.string a2.Value.Text)), .d (.sl (a2.Args.map cS27))]))]) (by simp; exact Sub.table (by simp) (by simp)) ?_
        refine AW.seqR ?_
        refine Chain.runK [] 2 fun K hK => ?_; simp; refine hK _ _ ?_; clear hK K
        refine Chain.sub (S' := mk 130 [] [(0, .d (.sl (a0.map cS46))), (1, .d (.sl (a1.map cS46))), (5, .ptr 5 0 0), (121, .d (.lit (.bool (a2.Kind == 5))))] [(5, some (.box [.d (.lit (.int .i64 a2.Kind)), .d (.lit (.string a2.Name)), .d (.lit (.int .i64 a2.Index)), .d (.lit (.int .i64 a2.Value.Kind)), .d (.lit (.int .i64 a2.Value.Int)), .d (.lit (.string a2.Value.Text)), .d (.sl (a2.Args.map cS27))]))]) Sub.tt ?_
        refine Chain.nil ?_
        replace h := isome h; rcases h with ⟨c44, h⟩ | ⟨c44, h⟩
        ·have c44_ : (a2.Kind == 5) = true := c44
         refine AW.condT (b := (a2.Kind == 5)) rfl c44_ ?_
         refine AW.sub (Sub.bool 121 (b := (a2.Kind == 5)) rfl c44_) ?_
         refine AW.sub (S' := mk 130 [] [(0, .d (.sl (a0.map cS46))), (1, .d (.sl (a1.map cS46))), (5, .ptr 5 0 0), (121, .d (.lit (.bool true)))] [(5, some (.box [.d (.lit (.int .i64 a2.Kind)), .d (.lit (.string a2.Name)), .d (.lit (.int .i64 a2.Index)), .d (.lit (.int .i64 a2.Value.Kind)), .d (.lit (.int .i64 a2.Value.Int)), .d (.lit (.string a2.Value.Text)), .d (.sl (a2.Args.map cS27))]))]) (by simp; exact Sub.table (by simp) (by simp)) ?_
         refine AW.seqR ?_
         refine Chain.runK [] 3 fun K hK => ?_; simp; refine hK _ _ ?_; clear hK K
         refine Chain.sub (S' := mk 130 [] [(123, .d (.sl (a0.map cS46))), (124, .d (.sl (a1.map cS46))), (125, .agg [.d (.lit (.int .i64 a2.Kind)), .d (.lit (.string a2.Name)), .d (.lit (.int .i64 a2.Index)), .d (.lit (.int .i64 a2.Value.Kind)), .d (.lit (.int .i64 a2.Value.Int)), .d (.lit (.string a2.Value.Text)), .d (.sl (a2.Args.map cS27))])] []) Sub.tt ?_
         replace h := bsome h; obtain ⟨r45, hr45, h⟩ := h
         refine Chain.callL (d := 126) (ih32 a0 a1 a2 r45 hr45) (by simp) rfl rfl (by simp <;> rfl) (by simp <;> rfl) ent32 (by simp <;> rfl) ?_
         refine Chain.sub (S' := mk 130 [] [(123, .d (.sl (a0.map cS46))), (124, .d (.sl (a1.map cS46))), (125, .agg [.d (.lit (.int .i64 a2.Kind)), .d (.lit (.string a2.Name)), .d (.lit (.int .i64 a2.Index)), .d (.lit (.int .i64 a2.Value.Kind)), .d (.lit (.int .i64 a2.Value.Int)), .d (.lit (.string a2.Value.Text)), .d (.sl (a2.Args.map cS27))]), (126, .tup [.d (.lit (.int .i64 r45.1)), .d (.lit (.bool r45.2.1)), .d (.lit (.int .i64 r45.2.2))])] []) (by simp; exact Sub.table (by simp) (by simp)) ?_
         refine Chain.runK [] 6 fun K hK => ?_; simp; refine hK _ _ ?_; clear hK K
         refine Chain.sub (S' := mk 130 [] [(6, .d (.lit (.int .i64 r45.1))), (7, .d (.lit (.bool r45.2.1))), (8, .d (.lit (.int .i64 r45.2.2)))] []) Sub.tt ?_
         refine Chain.nil ?_
         refine AW.ret ?_
         cases h
         refine blockQ.ret ?_
         refine thenQ_pass (by simp) ?_
         exact FinC.ret (by simp) (by simp)
        ·have c44_ : (a2.Kind == 5) = false := Bool.eq_false_iff.2 c44
         refine AW.condF (b := (a2.Kind == 5)) rfl c44_ ?_
         refine AW.sub (Sub.bool 121 (b := (a2.Kind == 5)) rfl c44_) ?_
         refine AW.sub (S' := mk 130 [] [(0, .d (.sl (a0.map cS46))), (1, .d (.sl (a1.map cS46))), (5, .ptr 5 0 0), (121, .d (.lit (.bool false)))] [(5, some (.box [.d (.lit (.int .i64 a2.Kind)), .d (.lit (.string a2.Name)), .d (.lit (.int .i64 a2.Index)), .d (.lit (.int .i64 a2.Value.Kind)), .d (.lit (.int .i64 a2.Value.Int)), .d (.lit (.string a2.Value.Text)), .d (.sl (a2.Args.map cS27))]))]) (by simp; exact Sub.table (by simp) (by simp)) ?_
         refine AW.skip ?_
         refine blockQ.normal ?_
         refine thenQ_normal ?_
         refine AW.seqR ?_
         refine Chain.runK [] 3 fun K hK => ?_; simp; refine hK _ _ ?_; clear hK K
         refine Chain.sub (S' := mk 130 [] [(6, .d (.lit (.int .i64 0))), (7, .d (.lit (.bool false))), (8, .d (.lit (.int .i64 3)))] []) Sub.tt ?_
         refine Chain.nil ?_
         refine AW.ret ?_
         cases h
         exact FinC.ret (by simp) (by simp)
 ·intro a0 a1 a2 r h
  unfold d32 at h
  refine FunC.enter 164 [(0, .d (.sl (a0.map cS46))), (1, .d (.sl (a1.map cS46))), (2, .agg [.d (.lit (.int .i64 a2.Kind)), .d (.lit (.string a2.Name)), .d (.lit (.int .i64 a2.Index)), .d (.lit (.int .i64 a2.Value.Kind)), .d (.lit (.int .i64 a2.Value.Int)), .d (.lit (.string a2.Value.Text)), .d (.sl (a2.Args.map cS27))])] (by simp) Try.func32 rfl (of_decide_eq_true rfl) rfl rfl ?_
  refine AW.seqR ?_
  refine Chain.runK [] 4 fun K hK => ?_; simp; refine hK _ _ ?_; clear hK K
  refine Chain.sub (S' := mk 164 [] [(0, .d (.sl (a0.map cS46))), (1, .d (.sl (a1.map cS46))), (5, .ptr 5 0 0)] [(5, some (.box [.d (.lit (.int .i64 a2.Kind)), .d (.lit (.string a2.Name)), .d (.lit (.int .i64 a2.Index)), .d (.lit (.int .i64 a2.Value.Kind)), .d (.lit (.int .i64 a2.Value.Int)), .d (.lit (.string a2.Value.Text)), .d (.sl (a2.Args.map cS27))]))]) Sub.tt ?_
  refine Chain.nil ?_
  refine AW.seqR ?_
  replace h := bsome h; obtain ⟨r1, hr1, h⟩ := h
  refine Chain.callC (d := 22) (p35 N  r1 hr1) (by simp) rfl rfl (by simp <;> rfl) (by simp <;> rfl) ent35 (by simp) (.inl ⟨by simp, by simp⟩) ?_
  refine Chain.sub (S' := mk 164 [] [(0, .d (.sl (a0.map cS46))), (1, .d (.sl (a1.map cS46))), (5, .ptr 5 0 0), (22, .tup [.d (.sl (r1.1.map cS)), .d (.sl (r1.2.map (cI .i64)))])] [(5, some (.box [.d (.lit (.int .i64 a2.Kind)), .d (.lit (.string a2.Name)), .d (.lit (.int .i64 a2.Index)), .d (.lit (.int .i64 a2.Value.Kind)), .d (.lit (.int .i64 a2.Value.Int)), .d (.lit (.string a2.Value.Text)), .d (.sl (a2.Args.map cS27))]))]) (by simp; exact Sub.table (by simp) (by simp)) ?_
  refine Chain.runK [] 5 fun K hK => ?_; simp; refine hK _ _ ?_; clear hK K
  refine Chain.sub (S' := mk 164 [] [(0, .d (.sl (a0.map cS46))), (1, .d (.sl (a1.map cS46))), (5, .ptr 5 0 0), (9, .d (.sl (r1.1.map cS))), (10, .d (.sl (r1.2.map (cI .i64))))] [(5, some (.box [.d (.lit (.int .i64 a2.Kind)), .d (.lit (.string a2.Name)), .d (.lit (.int .i64 a2.Index)), .d (.lit (.int .i64 a2.Value.Kind)), .d (.lit (.int .i64 a2.Value.Int)), .d (.lit (.string a2.Value.Text)), .d (.sl (a2.Args.map cS27))]))]) Sub.tt ?_
  refine Chain.nil ?_
  refine AW.seqR ?_
  refine Chain.runK [] 3 fun K hK => ?_; simp; refine hK _ _ ?_; clear hK K
  refine Chain.sub (S' := mk 164 [] [(0, .d (.sl (a0.map cS46))), (1, .d (.sl (a1.map cS46))), (5, .ptr 5 0 0), (10, .d (.sl (r1.2.map (cI .i64)))), (25, .d (.sl (r1.1.map cS))), (27, .d (.lit (.string a2.Name)))] [(5, some (.box [.d (.lit (.int .i64 a2.Kind)), .d (.lit (.string a2.Name)), .d (.lit (.int .i64 a2.Index)), .d (.lit (.int .i64 a2.Value.Kind)), .d (.lit (.int .i64 a2.Value.Int)), .d (.lit (.string a2.Value.Text)), .d (.sl (a2.Args.map cS27))]))]) Sub.tt ?_
  replace h := bsome h; obtain ⟨r2, hr2, h⟩ := h
  refine Chain.callL (d := 28) (p23 N r1.1 a2.Name r2 hr2) (by simp) rfl rfl (by simp <;> rfl) (by simp <;> rfl) ent23 (by simp <;> rfl) ?_
  refine Chain.sub (S' := mk 164 [] [(0, .d (.sl (a0.map cS46))), (1, .d (.sl (a1.map cS46))), (5, .ptr 5 0 0), (10, .d (.sl (r1.2.map (cI .i64)))), (25, .d (.sl (r1.1.map cS))), (27, .d (.lit (.string a2.Name))), (28, .d (.lit (.int .i64 r2)))] [(5, some (.box [.d (.lit (.int .i64 a2.Kind)), .d (.lit (.string a2.Name)), .d (.lit (.int .i64 a2.Index)), .d (.lit (.int .i64 a2.Value.Kind)), .d (.lit (.int .i64 a2.Value.Int)), .d (.lit (.string a2.Value.Text)), .d (.sl (a2.Args.map cS27))]))]) (by simp; exact Sub.table (by simp) (by simp)) ?_
  refine Chain.runK [] 1 fun K hK => ?_; simp; refine hK _ _ ?_; clear hK K
  refine Chain.sub (S' := mk 164 [] [(0, .d (.sl (a0.map cS46))), (1, .d (.sl (a1.map cS46))), (5, .ptr 5 0 0), (10, .d (.sl (r1.2.map (cI .i64)))), (11, .d (.lit (.int .i64 r2)))] [(5, some (.box [.d (.lit (.int .i64 a2.Kind)), .d (.lit (.string a2.Name)), .d (.lit (.int .i64 a2.Index)), .d (.lit (.int .i64 a2.Value.Kind)), .d (.lit (.int .i64 a2.Value.Int)), .d (.lit (.string a2.Value.Text)), .d (.sl (a2.Args.map cS27))]))]) Sub.tt ?_
  refine Chain.nil ?_
  refine AW.seq ?_
  replace h := bsome h; obtain ⟨v8, hj, h⟩ := h
  refine AW.cutQ (by kernel_rfl) (by kernel_rfl) (mk 164 [] [(0, .d (.sl (a0.map cS46))), (1, .d (.sl (a1.map cS46))), (5, .ptr 5 0 0), (51, .d (.lit (.bool v8)))] [(5, some (.box [.d (.lit (.int .i64 a2.Kind)), .d (.lit (.string a2.Name)), .d (.lit (.int .i64 a2.Index)), .d (.lit (.int .i64 a2.Value.Kind)), .d (.lit (.int .i64 a2.Value.Int)), .d (.lit (.string a2.Value.Text)), .d (.sl (a2.Args.map cS27))]))]) ?_ ?_
  ·clear h; have h := hj; clear hj
   refine Chain.runQ 3 fun K hK => ?_; simp; refine hK _ _ ?_; clear hK K
   refine Chain.sub (S' := mk 164 [] [(0, .d (.sl (a0.map cS46))), (1, .d (.sl (a1.map cS46))), (5, .ptr 5 0 0), (10, .d (.sl (r1.2.map (cI .i64)))), (11, .d (.lit (.int .i64 r2))), (31, .d (.lit (.bool (decide (r2 < 0)))))] [(5, some (.box [.d (.lit (.int .i64 a2.Kind)), .d (.lit (.string a2.Name)), .d (.lit (.int .i64 a2.Index)), .d (.lit (.int .i64 a2.Value.Kind)), .d (.lit (.int .i64 a2.Value.Int)), .d (.lit (.string a2.Value.Text)), .d (.sl (a2.Args.map cS27))]))]) Sub.tt ?_
   replace h := isome h; rcases h with ⟨c9, h⟩ | ⟨c9, h⟩
   ·have c9_ : decide (r2 < 0) = true := decide_eq_true c9
    refine Chain.sub (Sub.bool 31 (b := decide (r2 < 0)) rfl c9_) ?_
    refine Chain.sub (S' := mk 164 [] [(0, .d (.sl (a0.map cS46))), (1, .d (.sl (a1.map cS46))), (5, .ptr 5 0 0), (10, .d (.sl (r1.2.map (cI .i64)))), (11, .d (.lit (.int .i64 r2))), (31, .d (.lit (.bool true)))] [(5, some (.box [.d (.lit (.int .i64 a2.Kind)), .d (.lit (.string a2.Name)), .d (.lit (.int .i64 a2.Index)), .d (.lit (.int .i64 a2.Value.Kind)), .d (.lit (.int .i64 a2.Value.Int)), .d (.lit (.string a2.Value.Text)), .d (.sl (a2.Args.map cS27))]))]) (by simp; exact Sub.table (by simp) (by simp)) ?_
    refine Chain.runQ 20 fun K hK => ?_; simp; refine hK _ _ ?_; clear hK K
    refine Chain.sub (S' := mk 164 [] [(0, .d (.sl (a0.map cS46))), (1, .d (.sl (a1.map cS46))), (5, .ptr 5 0 0), (51, .d (.lit (.bool true)))] [(5, some (.box [.d (.lit (.int .i64 a2.Kind)), .d (.lit (.string a2.Name)), .d (.lit (.int .i64 a2.Index)), .d (.lit (.int .i64 a2.Value.Kind)), .d (.lit (.int .i64 a2.Value.Int)), .d (.lit (.string a2.Value.Text)), .d (.sl (a2.Args.map cS27))]))]) Sub.tt ?_
    cases h
    exact Chain.nil Sub.tt
   ·have c9_ : decide (r2 < 0) = false := decide_eq_false c9
    refine Chain.sub (Sub.bool 31 (b := decide (r2 < 0)) rfl c9_) ?_
    refine Chain.sub (S' := mk 164 [] [(0, .d (.sl (a0.map cS46))), (1, .d (.sl (a1.map cS46))), (5, .ptr 5 0 0), (10, .d (.sl (r1.2.map (cI .i64)))), (11, .d (.lit (.int .i64 r2))), (31, .d (.lit (.bool false)))] [(5, some (.box [.d (.lit (.int .i64 a2.Kind)), .d (.lit (.string a2.Name)), .d (.lit (.int .i64 a2.Index)), .d (.lit (.int .i64 a2.Value.Kind)), .d (.lit (.int .i64 a2.Value.Int)), .d (.lit (.string a2.Value.Text)), .d (.sl (a2.Args.map cS27))]))]) (by simp; exact Sub.table (by simp) (by simp)) ?_
    replace h := bsome h; obtain ⟨x10, hx10, h⟩ := h
    obtain ⟨k11, hx10k, hx10, hx10a, hx10b⟩ := idx_some hx10
    refine Chain.runQ 10 fun K hK => ?_; simp [hx10, hx10k, hx10a]; refine hK _ _ ?_; clear hK K
    refine Chain.sub (S' := mk 164 [] [(0, .d (.sl (a0.map cS46))), (1, .d (.sl (a1.map cS46))), (5, .ptr 5 0 0), (41, .d (.lit (.bool (x10 != (a2.Args.length : Int)))))] [(5, some (.box [.d (.lit (.int .i64 a2.Kind)), .d (.lit (.string a2.Name)), .d (.lit (.int .i64 a2.Index)), .d (.lit (.int .i64 a2.Value.Kind)), .d (.lit (.int .i64 a2.Value.Int)), .d (.lit (.string a2.Value.Text)), .d (.sl (a2.Args.map cS27))]))]) Sub.tt ?_
    replace h := isome h; rcases h with ⟨c12, h⟩ | ⟨c12, h⟩
    ·have c12_ : (x10 != (a2.Args.length : Int)) = true := c12
     refine Chain.sub (Sub.bool 41 (b := (x10 != (a2.Args.length : Int))) rfl c12_) ?_
     refine Chain.sub (S' := mk 164 [] [(0, .d (.sl (a0.map cS46))), (1, .d (.sl (a1.map cS46))), (5, .ptr 5 0 0), (41, .d (.lit (.bool true)))] [(5, some (.box [.d (.lit (.int .i64 a2.Kind)), .d (.lit (.string a2.Name)), .d (.lit (.int .i64 a2.Index)), .d (.lit (.int .i64 a2.Value.Kind)), .d (.lit (.int .i64 a2.Value.Int)), .d (.lit (.string a2.Value.Text)), .d (.sl (a2.Args.map cS27))]))]) (by simp; exact Sub.table (by simp) (by simp)) ?_
     refine Chain.runQ 10 fun K hK => ?_; simp; refine hK _ _ ?_; clear hK K
     refine Chain.sub (S' := mk 164 [] [(0, .d (.sl (a0.map cS46))), (1, .d (.sl (a1.map cS46))), (5, .ptr 5 0 0), (51, .d (.lit (.bool true)))] [(5, some (.box [.d (.lit (.int .i64 a2.Kind)), .d (.lit (.string a2.Name)), .d (.lit (.int .i64 a2.Index)), .d (.lit (.int .i64 a2.Value.Kind)), .d (.lit (.int .i64 a2.Value.Int)), .d (.lit (.string a2.Value.Text)), .d (.sl (a2.Args.map cS27))]))]) Sub.tt ?_
     cases h
     exact Chain.nil Sub.tt
    ·have c12_ : (x10 != (a2.Args.length : Int)) = false := Bool.eq_false_iff.2 c12
     refine Chain.sub (Sub.bool 41 (b := (x10 != (a2.Args.length : Int))) rfl c12_) ?_
     refine Chain.sub (S' := mk 164 [] [(0, .d (.sl (a0.map cS46))), (1, .d (.sl (a1.map cS46))), (5, .ptr 5 0 0), (41, .d (.lit (.bool false)))] [(5, some (.box [.d (.lit (.int .i64 a2.Kind)), .d (.lit (.string a2.Name)), .d (.lit (.int .i64 a2.Index)), .d (.lit (.int .i64 a2.Value.Kind)), .d (.lit (.int .i64 a2.Value.Int)), .d (.lit (.string a2.Value.Text)), .d (.sl (a2.Args.map cS27))]))]) (by simp; exact Sub.table (by simp) (by simp)) ?_
     refine Chain.runQ 5 fun K hK => ?_; simp; refine hK _ _ ?_; clear hK K
     refine Chain.sub (S' := mk 164 [] [(0, .d (.sl (a0.map cS46))), (1, .d (.sl (a1.map cS46))), (5, .ptr 5 0 0), (46, .d (.lit (.bool (a2.Index != 0))))] [(5, some (.box [.d (.lit (.int .i64 a2.Kind)), .d (.lit (.string a2.Name)), .d (.lit (.int .i64 a2.Index)), .d (.lit (.int .i64 a2.Value.Kind)), .d (.lit (.int .i64 a2.Value.Int)), .d (.lit (.string a2.Value.Text)), .d (.sl (a2.Args.map cS27))]))]) Sub.tt ?_
     replace h := isome h; rcases h with ⟨c13, h⟩ | ⟨c13, h⟩
     ·have c13_ : (a2.Index != 0) = true := c13
      refine Chain.sub (Sub.bool 46 (b := (a2.Index != 0)) rfl c13_) ?_
      refine Chain.sub (S' := mk 164 [] [(0, .d (.sl (a0.map cS46))), (1, .d (.sl (a1.map cS46))), (5, .ptr 5 0 0), (46, .d (.lit (.bool true)))] [(5, some (.box [.d (.lit (.int .i64 a2.Kind)), .d (.lit (.string a2.Name)), .d (.lit (.int .i64 a2.Index)), .d (.lit (.int .i64 a2.Value.Kind)), .d (.lit (.int .i64 a2.Value.Int)), .d (.lit (.string a2.Value.Text)), .d (.sl (a2.Args.map cS27))]))]) (by simp; exact Sub.table (by simp) (by simp)) ?_
      refine Chain.runQ 5 fun K hK => ?_; simp; refine hK _ _ ?_; clear hK K
      refine Chain.sub (S' := mk 164 [] [(0, .d (.sl (a0.map cS46))), (1, .d (.sl (a1.map cS46))), (5, .ptr 5 0 0), (51, .d (.lit (.bool true)))] [(5, some (.box [.d (.lit (.int .i64 a2.Kind)), .d (.lit (.string a2.Name)), .d (.lit (.int .i64 a2.Index)), .d (.lit (.int .i64 a2.Value.Kind)), .d (.lit (.int .i64 a2.Value.Int)), .d (.lit (.string a2.Value.Text)), .d (.sl (a2.Args.map cS27))]))]) Sub.tt ?_
      cases h
      exact Chain.nil Sub.tt
     ·have c13_ : (a2.Index != 0) = false := Bool.eq_false_iff.2 c13
      refine Chain.sub (Sub.bool 46 (b := (a2.Index != 0)) rfl c13_) ?_
      refine Chain.sub (S' := mk 164 [] [(0, .d (.sl (a0.map cS46))), (1, .d (.sl (a1.map cS46))), (5, .ptr 5 0 0), (46, .d (.lit (.bool false)))] [(5, some (.box [.d (.lit (.int .i64 a2.Kind)), .d (.lit (.string a2.Name)), .d (.lit (.int .i64 a2.Index)), .d (.lit (.int .i64 a2.Value.Kind)), .d (.lit (.int .i64 a2.Value.Int)), .d (.lit (.string a2.Value.Text)), .d (.sl (a2.Args.map cS27))]))]) (by simp; exact Sub.table (by simp) (by simp)) ?_
      refine Chain.runQ 3 fun K hK => ?_; simp; refine hK _ _ ?_; clear hK K
      refine Chain.sub (S' := mk 164 [] [(0, .d (.sl (a0.map cS46))), (1, .d (.sl (a1.map cS46))), (5, .ptr 5 0 0), (46, .d (.lit (.bool false))), (48, .agg [.d (.lit (.int .i64 a2.Value.Kind)), .d (.lit (.int .i64 a2.Value.Int)), .d (.lit (.string a2.Value.Text))]), (49, .agg [.d (.lit (.int .i64 0)), .d (.lit (.int .i64 0)), .d (.lit (.string (ByteArray.mk #[])))])] [(5, some (.box [.d (.lit (.int .i64 a2.Kind)), .d (.lit (.string a2.Name)), .d (.lit (.int .i64 a2.Index)), .d (.lit (.int .i64 a2.Value.Kind)), .d (.lit (.int .i64 a2.Value.Int)), .d (.lit (.string a2.Value.Text)), .d (.sl (a2.Args.map cS27))]))]) Sub.tt ?_
      refine Chain.pureP (by simp) (pure_eqA true rfl rfl rfl rfl (by kernel_rfl) (eqv24 a2.Value (S24.mk 0 0 (ByteArray.mk #[])))) ?_
      refine Chain.sub (S' := mk 164 [] [(0, .d (.sl (a0.map cS46))), (1, .d (.sl (a1.map cS46))), (5, .ptr 5 0 0), (46, .d (.lit (.bool false))), (48, .agg [.d (.lit (.int .i64 a2.Value.Kind)), .d (.lit (.int .i64 a2.Value.Int)), .d (.lit (.string a2.Value.Text))]), (49, .agg [.d (.lit (.int .i64 0)), .d (.lit (.int .i64 0)), .d (.lit (.string (ByteArray.mk #[])))]), (50, .d (.lit (.bool (!beqS24 a2.Value (S24.mk 0 0 (ByteArray.mk #[]))))))] [(5, some (.box [.d (.lit (.int .i64 a2.Kind)), .d (.lit (.string a2.Name)), .d (.lit (.int .i64 a2.Index)), .d (.lit (.int .i64 a2.Value.Kind)), .d (.lit (.int .i64 a2.Value.Int)), .d (.lit (.string a2.Value.Text)), .d (.sl (a2.Args.map cS27))]))]) (by simp; exact Sub.table (by simp) (by simp)) ?_
      refine Chain.runQ 1 fun K hK => ?_; simp; refine hK _ _ ?_; clear hK K
      refine Chain.sub (S' := mk 164 [] [(0, .d (.sl (a0.map cS46))), (1, .d (.sl (a1.map cS46))), (5, .ptr 5 0 0), (51, .d (.lit (.bool (!beqS24 a2.Value (S24.mk 0 0 (ByteArray.mk #[]))))))] [(5, some (.box [.d (.lit (.int .i64 a2.Kind)), .d (.lit (.string a2.Name)), .d (.lit (.int .i64 a2.Index)), .d (.lit (.int .i64 a2.Value.Kind)), .d (.lit (.int .i64 a2.Value.Int)), .d (.lit (.string a2.Value.Text)), .d (.sl (a2.Args.map cS27))]))]) Sub.tt ?_
      cases h
      exact Chain.nil Sub.tt
  ·clear hj
   replace h := isome h; rcases h with ⟨c14, h⟩ | ⟨c14, h⟩
   ·have c14_ : v8 = true := c14
    refine AW.condT (b := v8) rfl c14_ ?_
    refine AW.sub (Sub.bool 51 (b := v8) rfl c14_) ?_
    refine AW.sub (S' := mk 164 [] [(0, .d (.sl (a0.map cS46))), (1, .d (.sl (a1.map cS46))), (5, .ptr 5 0 0), (51, .d (.lit (.bool true)))] [(5, some (.box [.d (.lit (.int .i64 a2.Kind)), .d (.lit (.string a2.Name)), .d (.lit (.int .i64 a2.Index)), .d (.lit (.int .i64 a2.Value.Kind)), .d (.lit (.int .i64 a2.Value.Int)), .d (.lit (.string a2.Value.Text)), .d (.sl (a2.Args.map cS27))]))]) (by simp; exact Sub.table (by simp) (by simp)) ?_
    refine AW.seqR ?_
    refine Chain.runK [] 3 fun K hK => ?_; simp; refine hK _ _ ?_; clear hK K
    refine Chain.sub (S' := mk 164 [] [(6, .d (.lit (.int .i64 0))), (7, .d (.lit (.bool false))), (8, .d (.lit (.int .i64 3)))] []) Sub.tt ?_
    refine Chain.nil ?_
    refine AW.ret ?_
    cases h
    refine thenQ_pass (by simp) ?_
    exact FinC.ret (by simp) (by simp)
   ·have c14_ : v8 = false := Bool.eq_false_iff.2 c14
    refine AW.condF (b := v8) rfl c14_ ?_
    refine AW.sub (Sub.bool 51 (b := v8) rfl c14_) ?_
    refine AW.sub (S' := mk 164 [] [(0, .d (.sl (a0.map cS46))), (1, .d (.sl (a1.map cS46))), (5, .ptr 5 0 0), (51, .d (.lit (.bool false)))] [(5, some (.box [.d (.lit (.int .i64 a2.Kind)), .d (.lit (.string a2.Name)), .d (.lit (.int .i64 a2.Index)), .d (.lit (.int .i64 a2.Value.Kind)), .d (.lit (.int .i64 a2.Value.Int)), .d (.lit (.string a2.Value.Text)), .d (.sl (a2.Args.map cS27))]))]) (by simp; exact Sub.table (by simp) (by simp)) ?_
    refine AW.skip ?_
    refine thenQ_normal ?_
    refine AW.seqR ?_
    refine Chain.runK [] 1 fun K hK => ?_; simp; refine hK _ _ ?_; clear hK K
    refine Chain.sub (S' := mk 164 [] [(0, .d (.sl (a0.map cS46))), (1, .d (.sl (a1.map cS46))), (5, .ptr 5 0 0), (12, .ptr 12 0 0)] [(5, some (.box [.d (.lit (.int .i64 a2.Kind)), .d (.lit (.string a2.Name)), .d (.lit (.int .i64 a2.Index)), .d (.lit (.int .i64 a2.Value.Kind)), .d (.lit (.int .i64 a2.Value.Int)), .d (.lit (.string a2.Value.Text)), .d (.sl (a2.Args.map cS27))])), (12, some (.box [.d (.lit (.slice none 0 0))]))]) Sub.tt ?_
    refine Chain.nil ?_
    refine AW.seqR ?_
    refine Chain.runK [] 1 fun K hK => ?_; simp; refine hK _ _ ?_; clear hK K
    refine Chain.sub (S' := mk 164 [] [(0, .d (.sl (a0.map cS46))), (1, .d (.sl (a1.map cS46))), (5, .ptr 5 0 0), (12, .ptr 12 0 0), (13, .d (.lit (.bool false)))] [(5, some (.box [.d (.lit (.int .i64 a2.Kind)), .d (.lit (.string a2.Name)), .d (.lit (.int .i64 a2.Index)), .d (.lit (.int .i64 a2.Value.Kind)), .d (.lit (.int .i64 a2.Value.Int)), .d (.lit (.string a2.Value.Text)), .d (.sl (a2.Args.map cS27))])), (12, some (.box [.d (.lit (.slice none 0 0))]))]) Sub.tt ?_
    refine Chain.nil ?_
    refine AW.seq ?_
    refine AW.seqR ?_
    refine Chain.runK [] 4 fun K hK => ?_; simp; refine hK _ _ ?_; clear hK K
    refine Chain.sub (S' := mk 164 [] [(0, .d (.sl (a0.map cS46))), (1, .d (.sl (a1.map cS46))), (5, .ptr 5 0 0), (12, .ptr 12 0 0), (13, .d (.lit (.bool false))), (53, .d (.sl (a2.Args.map cS27))), (54, .d (.lit (.int .i64 (a2.Args.length : Int)))), (55, .d (.lit (.int .i64 0)))] [(5, some (.box [.d (.lit (.int .i64 a2.Kind)), .d (.lit (.string a2.Name)), .d (.lit (.int .i64 a2.Index)), .d (.lit (.int .i64 a2.Value.Kind)), .d (.lit (.int .i64 a2.Value.Int)), .d (.lit (.string a2.Value.Text)), .d (.sl (a2.Args.map cS27))])), (12, some (.box [.d (.lit (.slice none 0 0))]))]) Sub.tt ?_
    refine Chain.nil ?_
    refine AW.lastJ (fun ((l50, v51) : ((List Int) × Bool)) => mk 164 [] [(5, .ptr 5 0 0), (12, .ptr 12 0 0), (13, .d (.lit (.bool v51)))] [(5, some (.box [.d (.lit (.int .i64 a2.Kind)), .d (.lit (.string a2.Name)), .d (.lit (.int .i64 a2.Index)), .d (.lit (.int .i64 a2.Value.Kind)), .d (.lit (.int .i64 a2.Value.Int)), .d (.lit (.string a2.Value.Text)), .d (.sl (a2.Args.map cS27))])), (12, some (.box [.ref 73 0 l50.length])), (73, some (.arr 3 1 (l50.map (cI .i64))))]) h ?_ ?_ <;> clear h
    ·intro o h
     refine AW.block ?_
     refine AW.iter (fun ((l22, v23, v24) : ((List Int) × Bool × Int)) => mk 164 [] [(0, .d (.sl (a0.map cS46))), (1, .d (.sl (a1.map cS46))), (5, .ptr 5 0 0), (12, .ptr 12 0 0), (13, .d (.lit (.bool v23))), (53, .d (.sl (a2.Args.map cS27))), (54, .d (.lit (.int .i64 (a2.Args.length : Int)))), (55, .d (.lit (.int .i64 v24)))] [(5, some (.box [.d (.lit (.int .i64 a2.Kind)), .d (.lit (.string a2.Name)), .d (.lit (.int .i64 a2.Index)), .d (.lit (.int .i64 a2.Value.Kind)), .d (.lit (.int .i64 a2.Value.Int)), .d (.lit (.string a2.Value.Text)), .d (.sl (a2.Args.map cS27))])), (12, some (.box [.ref 73 0 l22.length])), (73, some (.arr 3 1 (l22.map (cI .i64))))]) h (Sub.trans (Sub.nilOwnBox (bid := 12) (j := 0) (id := 73) (T := 3) (n := 1) rfl rfl (by decide) rfl (by decide)) (by simp; exact Sub.table (by simp) (by simp))) ?_
     clear h
     rintro ⟨l22, v23, v24⟩ x h
     dsimp only at h ⊢
     refine AW.seqR ?_
     refine Chain.runK [] 1 fun K hK => ?_; simp; refine hK _ _ ?_; clear hK K
     refine Chain.sub (S' := mk 164 [] [(0, .d (.sl (a0.map cS46))), (1, .d (.sl (a1.map cS46))), (5, .ptr 5 0 0), (12, .ptr 12 0 0), (13, .d (.lit (.bool v23))), (53, .d (.sl (a2.Args.map cS27))), (54, .d (.lit (.int .i64 (a2.Args.length : Int)))), (55, .d (.lit (.int .i64 v24))), (56, .d (.lit (.bool (decide (v24 < (a2.Args.length : Int))))))] [(5, some (.box [.d (.lit (.int .i64 a2.Kind)), .d (.lit (.string a2.Name)), .d (.lit (.int .i64 a2.Index)), .d (.lit (.int .i64 a2.Value.Kind)), .d (.lit (.int .i64 a2.Value.Int)), .d (.lit (.string a2.Value.Text)), .d (.sl (a2.Args.map cS27))])), (12, some (.box [.ref 73 0 l22.length])), (73, some (.arr 3 1 (l22.map (cI .i64))))]) Sub.tt ?_
     refine Chain.nil ?_
     refine AW.seq ?_
     replace h := isome h; rcases h with ⟨c52, h⟩ | ⟨c52, h⟩
     ·have c52_ : decide (v24 < (a2.Args.length : Int)) = true := decide_eq_true c52
      refine AW.condT (b := decide (v24 < (a2.Args.length : Int))) rfl c52_ ?_
      refine AW.sub (Sub.bool 56 (b := decide (v24 < (a2.Args.length : Int))) rfl c52_) ?_
      refine AW.sub (S' := mk 164 [] [(0, .d (.sl (a0.map cS46))), (1, .d (.sl (a1.map cS46))), (5, .ptr 5 0 0), (12, .ptr 12 0 0), (13, .d (.lit (.bool v23))), (53, .d (.sl (a2.Args.map cS27))), (54, .d (.lit (.int .i64 (a2.Args.length : Int)))), (55, .d (.lit (.int .i64 v24))), (56, .d (.lit (.bool true)))] [(5, some (.box [.d (.lit (.int .i64 a2.Kind)), .d (.lit (.string a2.Name)), .d (.lit (.int .i64 a2.Index)), .d (.lit (.int .i64 a2.Value.Kind)), .d (.lit (.int .i64 a2.Value.Int)), .d (.lit (.string a2.Value.Text)), .d (.sl (a2.Args.map cS27))])), (12, some (.box [.ref 73 0 l22.length])), (73, some (.arr 3 1 (l22.map (cI .i64))))]) (by simp; exact Sub.table (by simp) (by simp)) ?_
      refine AW.skip ?_
      refine thenQ_normal ?_
      refine AW.seq ?_
      refine AW.block ?_
      refine AW.seqR ?_
      replace h := bsome h; obtain ⟨x53, hx53, h⟩ := h
      obtain ⟨k54, hx53k, hx53, hx53a, hx53b⟩ := idx_some hx53
      refine Chain.runK [] 4 fun K hK => ?_; simp [hx53, hx53k, hx53a]; refine hK _ _ ?_; clear hK K
      refine Chain.sub (S' := mk 164 [] [(0, .d (.sl (a0.map cS46))), (1, .d (.sl (a1.map cS46))), (5, .ptr 5 0 0), (12, .ptr 12 0 0), (13, .d (.lit (.bool v23))), (15, .ptr 15 0 0), (53, .d (.sl (a2.Args.map cS27))), (54, .d (.lit (.int .i64 (a2.Args.length : Int)))), (55, .d (.lit (.int .i64 v24)))] [(5, some (.box [.d (.lit (.int .i64 a2.Kind)), .d (.lit (.string a2.Name)), .d (.lit (.int .i64 a2.Index)), .d (.lit (.int .i64 a2.Value.Kind)), .d (.lit (.int .i64 a2.Value.Int)), .d (.lit (.string a2.Value.Text)), .d (.sl (a2.Args.map cS27))])), (12, some (.box [.ref 73 0 l22.length])), (15, some (.box [.d (.lit (.int .i64 x53.Kind)), .d (.lit (.string x53.Name)), .d (.lit (.int .i64 x53.Index)), .d (.lit (.int .i64 x53.Value.Kind)), .d (.lit (.int .i64 x53.Value.Int)), .d (.lit (.string x53.Value.Text)), .d (.sl (x53.Args.map cS27))])), (73, some (.arr 3 1 (l22.map (cI .i64))))]) Sub.tt ?_
      refine Chain.nil ?_
      refine AW.seqR ?_
      refine Chain.runK [] 3 fun K hK => ?_; simp; refine hK _ _ ?_; clear hK K
      refine Chain.sub (S' := mk 164 [] [(0, .d (.sl (a0.map cS46))), (1, .d (.sl (a1.map cS46))), (5, .ptr 5 0 0), (12, .ptr 12 0 0), (13, .d (.lit (.bool v23))), (53, .d (.sl (a2.Args.map cS27))), (54, .d (.lit (.int .i64 (a2.Args.length : Int)))), (55, .d (.lit (.int .i64 v24))), (60, .d (.sl (a0.map cS46))), (61, .d (.sl (a1.map cS46))), (62, .agg [.d (.lit (.int .i64 x53.Kind)), .d (.lit (.string x53.Name)), .d (.lit (.int .i64 x53.Index)), .d (.lit (.int .i64 x53.Value.Kind)), .d (.lit (.int .i64 x53.Value.Int)), .d (.lit (.string x53.Value.Text)), .d (.sl (x53.Args.map cS27))])] [(5, some (.box [.d (.lit (.int .i64 a2.Kind)), .d (.lit (.string a2.Name)), .d (.lit (.int .i64 a2.Index)), .d (.lit (.int .i64 a2.Value.Kind)), .d (.lit (.int .i64 a2.Value.Int)), .d (.lit (.string a2.Value.Text)), .d (.sl (a2.Args.map cS27))])), (12, some (.box [.ref 73 0 l22.length])), (73, some (.arr 3 1 (l22.map (cI .i64))))]) Sub.tt ?_
      replace h := bsome h; obtain ⟨r55, hr55, h⟩ := h
      refine Chain.callL (d := 63) (ih17 a0 a1 x53 r55 hr55) (by simp) rfl rfl (by simp <;> rfl) (by simp <;> rfl) ent17 (by simp <;> rfl) ?_
      refine Chain.sub (S' := mk 164 [] [(0, .d (.sl (a0.map cS46))), (1, .d (.sl (a1.map cS46))), (5, .ptr 5 0 0), (12, .ptr 12 0 0), (13, .d (.lit (.bool v23))), (53, .d (.sl (a2.Args.map cS27))), (54, .d (.lit (.int .i64 (a2.Args.length : Int)))), (55, .d (.lit (.int .i64 v24))), (60, .d (.sl (a0.map cS46))), (61, .d (.sl (a1.map cS46))), (62, .agg [.d (.lit (.int .i64 x53.Kind)), .d (.lit (.string x53.Name)), .d (.lit (.int .i64 x53.Index)), .d (.lit (.int .i64 x53.Value.Kind)), .d (.lit (.int .i64 x53.Value.Int)), .d (.lit (.string x53.Value.Text)), .d (.sl (x53.Args.map cS27))]), (63, .tup [.d (.lit (.int .i64 r55.1)), .d (.lit (.bool r55.2.1)), .d (.lit (.int .i64 r55.2.2))])] [(5, some (.box [.d (.lit (.int .i64 a2.Kind)), .d (.lit (.string a2.Name)), .d (.lit (.int .i64 a2.Index)), .d (.lit (.int .i64 a2.Value.Kind)), .d (.lit (.int .i64 a2.Value.Int)), .d (.lit (.string a2.Value.Text)), .d (.sl (a2.Args.map cS27))])), (12, some (.box [.ref 73 0 l22.length])), (73, some (.arr 3 1 (l22.map (cI .i64))))]) (by simp; exact Sub.table (by simp) (by simp)) ?_
      refine Chain.runK [] 7 fun K hK => ?_; simp; refine hK _ _ ?_; clear hK K
      refine Chain.sub (S' := mk 164 [] [(0, .d (.sl (a0.map cS46))), (1, .d (.sl (a1.map cS46))), (5, .ptr 5 0 0), (12, .ptr 12 0 0), (13, .d (.lit (.bool v23))), (16, .d (.lit (.int .i64 r55.1))), (17, .d (.lit (.bool r55.2.1))), (18, .d (.lit (.int .i64 r55.2.2))), (53, .d (.sl (a2.Args.map cS27))), (54, .d (.lit (.int .i64 (a2.Args.length : Int)))), (55, .d (.lit (.int .i64 v24)))] [(5, some (.box [.d (.lit (.int .i64 a2.Kind)), .d (.lit (.string a2.Name)), .d (.lit (.int .i64 a2.Index)), .d (.lit (.int .i64 a2.Value.Kind)), .d (.lit (.int .i64 a2.Value.Int)), .d (.lit (.string a2.Value.Text)), .d (.sl (a2.Args.map cS27))])), (12, some (.box [.ref 73 0 l22.length])), (73, some (.arr 3 1 (l22.map (cI .i64))))]) Sub.tt ?_
      refine Chain.nil ?_
      refine AW.seq ?_
      refine AW.seqR ?_
      refine Chain.runK [] 2 fun K hK => ?_; simp; refine hK _ _ ?_; clear hK K
      refine Chain.sub (S' := mk 164 [] [(0, .d (.sl (a0.map cS46))), (1, .d (.sl (a1.map cS46))), (5, .ptr 5 0 0), (12, .ptr 12 0 0), (13, .d (.lit (.bool v23))), (16, .d (.lit (.int .i64 r55.1))), (17, .d (.lit (.bool r55.2.1))), (18, .d (.lit (.int .i64 r55.2.2))), (53, .d (.sl (a2.Args.map cS27))), (54, .d (.lit (.int .i64 (a2.Args.length : Int)))), (55, .d (.lit (.int .i64 v24))), (68, .d (.lit (.bool (r55.2.2 != 0))))] [(5, some (.box [.d (.lit (.int .i64 a2.Kind)), .d (.lit (.string a2.Name)), .d (.lit (.int .i64 a2.Index)), .d (.lit (.int .i64 a2.Value.Kind)), .d (.lit (.int .i64 a2.Value.Int)), .d (.lit (.string a2.Value.Text)), .d (.sl (a2.Args.map cS27))])), (12, some (.box [.ref 73 0 l22.length])), (73, some (.arr 3 1 (l22.map (cI .i64))))]) Sub.tt ?_
      refine Chain.nil ?_
      replace h := isome h; rcases h with ⟨c56, h⟩ | ⟨c56, h⟩
      ·have c56_ : (r55.2.2 != 0) = true := c56
       refine AW.condT (b := (r55.2.2 != 0)) rfl c56_ ?_
       refine AW.sub (Sub.bool 68 (b := (r55.2.2 != 0)) rfl c56_) ?_
       refine AW.sub (S' := mk 164 [] [(0, .d (.sl (a0.map cS46))), (1, .d (.sl (a1.map cS46))), (5, .ptr 5 0 0), (12, .ptr 12 0 0), (13, .d (.lit (.bool v23))), (16, .d (.lit (.int .i64 r55.1))), (17, .d (.lit (.bool r55.2.1))), (18, .d (.lit (.int .i64 r55.2.2))), (53, .d (.sl (a2.Args.map cS27))), (54, .d (.lit (.int .i64 (a2.Args.length : Int)))), (55, .d (.lit (.int .i64 v24))), (68, .d (.lit (.bool true)))] [(5, some (.box [.d (.lit (.int .i64 a2.Kind)), .d (.lit (.string a2.Name)), .d (.lit (.int .i64 a2.Index)), .d (.lit (.int .i64 a2.Value.Kind)), .d (.lit (.int .i64 a2.Value.Int)), .d (.lit (.string a2.Value.Text)), .d (.sl (a2.Args.map cS27))])), (12, some (.box [.ref 73 0 l22.length])), (73, some (.arr 3 1 (l22.map (cI .i64))))]) (by simp; exact Sub.table (by simp) (by simp)) ?_
       refine AW.seqR ?_
       refine Chain.runK [] 4 fun K hK => ?_; simp; refine hK _ _ ?_; clear hK K
       refine Chain.sub (S' := mk 164 [] [(6, .d (.lit (.int .i64 0))), (7, .d (.lit (.bool false))), (8, .d (.lit (.int .i64 r55.2.2)))] []) Sub.tt ?_
       refine Chain.nil ?_
       refine AW.ret ?_
       cases h
       refine thenQ_pass (by simp) ?_
       refine blockQ.ret ?_
       refine thenQ_pass (by simp) ?_
       refine PostI.out (by simp) ?_
       rintro rfl
       refine blockQ.ret ?_
       refine PostJ.out (by simp) ?_
       rintro rfl
       refine thenQ_pass (by simp) ?_
       exact FinC.ret (by simp) (by simp)
      ·have c56_ : (r55.2.2 != 0) = false := Bool.eq_false_iff.2 c56
       refine AW.condF (b := (r55.2.2 != 0)) rfl c56_ ?_
       refine AW.sub (Sub.bool 68 (b := (r55.2.2 != 0)) rfl c56_) ?_
       refine AW.sub (S' := mk 164 [] [(0, .d (.sl (a0.map cS46))), (1, .d (.sl (a1.map cS46))), (5, .ptr 5 0 0), (12, .ptr 12 0 0), (13, .d (.lit (.bool v23))), (16, .d (.lit (.int .i64 r55.1))), (17, .d (.lit (.bool r55.2.1))), (18, .d (.lit (.int .i64 r55.2.2))), (53, .d (.sl (a2.Args.map cS27))), (54, .d (.lit (.int .i64 (a2.Args.length : Int)))), (55, .d (.lit (.int .i64 v24))), (68, .d (.lit (.bool false)))] [(5, some (.box [.d (.lit (.int .i64 a2.Kind)), .d (.lit (.string a2.Name)), .d (.lit (.int .i64 a2.Index)), .d (.lit (.int .i64 a2.Value.Kind)), .d (.lit (.int .i64 a2.Value.Int)), .d (.lit (.string a2.Value.Text)), .d (.sl (a2.Args.map cS27))])), (12, some (.box [.ref 73 0 l22.length])), (73, some (.arr 3 1 (l22.map (cI .i64))))]) (by simp; exact Sub.table (by simp) (by simp)) ?_
       refine AW.skip ?_
       refine thenQ_normal ?_
       replace h := bsome h; obtain ⟨v59, hj, h⟩ := h
       refine AW.region (Chain.cut (mk 164 [] [(0, .d (.sl (a0.map cS46))), (1, .d (.sl (a1.map cS46))), (5, .ptr 5 0 0), (12, .ptr 12 0 0), (13, .d (.lit (.bool v59))), (53, .d (.sl (a2.Args.map cS27))), (54, .d (.lit (.int .i64 (a2.Args.length : Int)))), (55, .d (.lit (.int .i64 v24)))] [(5, some (.box [.d (.lit (.int .i64 a2.Kind)), .d (.lit (.string a2.Name)), .d (.lit (.int .i64 a2.Index)), .d (.lit (.int .i64 a2.Value.Kind)), .d (.lit (.int .i64 a2.Value.Int)), .d (.lit (.string a2.Value.Text)), .d (.sl (a2.Args.map cS27))])), (12, some (.box [.ref 73 0 ((l22 ++ [r55.1]).length)])), (73, some (.arr 3 1 ((l22 ++ [r55.1]).map (cI .i64))))]) ?_ fun S' hS => ?_)
       ·clear h; have h := hj; clear hj
        replace h := bsome h; obtain ⟨l60, hl60, h⟩ := h
        obtain ⟨hl60a, hl60⟩ := appL_some hl60
        subst hl60
        try simp only [List.length_cons, List.length_nil, Nat.zero_add] at hl60a
        refine Chain.runK [72] 6 fun K hK => ?_; simp [hl60a]; refine hK _ _ ?_; clear hK K
        refine Chain.sub (S' := mk 164 [] [(0, .d (.sl (a0.map cS46))), (1, .d (.sl (a1.map cS46))), (5, .ptr 5 0 0), (12, .ptr 12 0 0), (17, .d (.lit (.bool r55.2.1))), (53, .d (.sl (a2.Args.map cS27))), (54, .d (.lit (.int .i64 (a2.Args.length : Int)))), (55, .d (.lit (.int .i64 v24))), (73, .ref 73 0 ((l22 ++ [r55.1]).length)), (75, .d (.lit (.bool v23)))] [(5, some (.box [.d (.lit (.int .i64 a2.Kind)), .d (.lit (.string a2.Name)), .d (.lit (.int .i64 a2.Index)), .d (.lit (.int .i64 a2.Value.Kind)), .d (.lit (.int .i64 a2.Value.Int)), .d (.lit (.string a2.Value.Text)), .d (.sl (a2.Args.map cS27))])), (12, some (.box [.hole])), (73, some (.arr 3 1 ((l22 ++ [r55.1]).map (cI .i64))))]) Sub.tt ?_
        replace h := isome h; rcases h with ⟨c61, h⟩ | ⟨c61, h⟩
        ·have c61_ : v23 = true := c61
         refine Chain.sub (Sub.bool 75 (b := v23) rfl c61_) ?_
         refine Chain.sub (S' := mk 164 [] [(0, .d (.sl (a0.map cS46))), (1, .d (.sl (a1.map cS46))), (5, .ptr 5 0 0), (12, .ptr 12 0 0), (17, .d (.lit (.bool r55.2.1))), (53, .d (.sl (a2.Args.map cS27))), (54, .d (.lit (.int .i64 (a2.Args.length : Int)))), (55, .d (.lit (.int .i64 v24))), (73, .ref 73 0 ((l22 ++ [r55.1]).length)), (75, .d (.lit (.bool true)))] [(5, some (.box [.d (.lit (.int .i64 a2.Kind)), .d (.lit (.string a2.Name)), .d (.lit (.int .i64 a2.Index)), .d (.lit (.int .i64 a2.Value.Kind)), .d (.lit (.int .i64 a2.Value.Int)), .d (.lit (.string a2.Value.Text)), .d (.sl (a2.Args.map cS27))])), (12, some (.box [.hole])), (73, some (.arr 3 1 ((l22 ++ [r55.1]).map (cI .i64))))]) (by simp; exact Sub.table (by simp) (by simp)) ?_
         refine Chain.runK [72] 4 fun K hK => ?_; simp; refine hK _ _ ?_; clear hK K
         refine Chain.sub (S' := mk 164 [] [(0, .d (.sl (a0.map cS46))), (1, .d (.sl (a1.map cS46))), (5, .ptr 5 0 0), (12, .ptr 12 0 0), (13, .d (.lit (.bool true))), (53, .d (.sl (a2.Args.map cS27))), (54, .d (.lit (.int .i64 (a2.Args.length : Int)))), (55, .d (.lit (.int .i64 v24))), (76, .tup [])] [(5, some (.box [.d (.lit (.int .i64 a2.Kind)), .d (.lit (.string a2.Name)), .d (.lit (.int .i64 a2.Index)), .d (.lit (.int .i64 a2.Value.Kind)), .d (.lit (.int .i64 a2.Value.Int)), .d (.lit (.string a2.Value.Text)), .d (.sl (a2.Args.map cS27))])), (12, some (.box [.ref 73 0 ((l22 ++ [r55.1]).length)])), (73, some (.arr 3 1 ((l22 ++ [r55.1]).map (cI .i64))))]) Sub.tt ?_
         cases h
         exact Chain.nil Sub.tt
        ·have c61_ : v23 = false := Bool.eq_false_iff.2 c61
         refine Chain.sub (Sub.bool 75 (b := v23) rfl c61_) ?_
         refine Chain.sub (S' := mk 164 [] [(0, .d (.sl (a0.map cS46))), (1, .d (.sl (a1.map cS46))), (5, .ptr 5 0 0), (12, .ptr 12 0 0), (17, .d (.lit (.bool r55.2.1))), (53, .d (.sl (a2.Args.map cS27))), (54, .d (.lit (.int .i64 (a2.Args.length : Int)))), (55, .d (.lit (.int .i64 v24))), (73, .ref 73 0 ((l22 ++ [r55.1]).length)), (75, .d (.lit (.bool false)))] [(5, some (.box [.d (.lit (.int .i64 a2.Kind)), .d (.lit (.string a2.Name)), .d (.lit (.int .i64 a2.Index)), .d (.lit (.int .i64 a2.Value.Kind)), .d (.lit (.int .i64 a2.Value.Int)), .d (.lit (.string a2.Value.Text)), .d (.sl (a2.Args.map cS27))])), (12, some (.box [.hole])), (73, some (.arr 3 1 ((l22 ++ [r55.1]).map (cI .i64))))]) (by simp; exact Sub.table (by simp) (by simp)) ?_
         refine Chain.runK [72] 4 fun K hK => ?_; simp; refine hK _ _ ?_; clear hK K
         refine Chain.sub (S' := mk 164 [] [(0, .d (.sl (a0.map cS46))), (1, .d (.sl (a1.map cS46))), (5, .ptr 5 0 0), (12, .ptr 12 0 0), (13, .d (.lit (.bool r55.2.1))), (53, .d (.sl (a2.Args.map cS27))), (54, .d (.lit (.int .i64 (a2.Args.length : Int)))), (55, .d (.lit (.int .i64 v24))), (76, .d (.lit (.bool r55.2.1)))] [(5, some (.box [.d (.lit (.int .i64 a2.Kind)), .d (.lit (.string a2.Name)), .d (.lit (.int .i64 a2.Index)), .d (.lit (.int .i64 a2.Value.Kind)), .d (.lit (.int .i64 a2.Value.Int)), .d (.lit (.string a2.Value.Text)), .d (.sl (a2.Args.map cS27))])), (12, some (.box [.ref 73 0 ((l22 ++ [r55.1]).length)])), (73, some (.arr 3 1 ((l22 ++ [r55.1]).map (cI .i64))))]) Sub.tt ?_
         cases h
         exact Chain.nil Sub.tt
       ·clear hj
        refine blockQ.normal ?_
        refine thenQ_normal ?_
        refine AW.sub hS ?_
        refine AW.region ?_
        replace h := bsome h; obtain ⟨v62, hv62, h⟩ := h
        have hv62 := chkI_some hv62
        refine Chain.runK [] 2 fun K hK => ?_; simp [hv62]; refine hK _ _ ?_; clear hK K
        refine Chain.sub (S' := mk 164 [] [(0, .d (.sl (a0.map cS46))), (1, .d (.sl (a1.map cS46))), (5, .ptr 5 0 0), (12, .ptr 12 0 0), (13, .d (.lit (.bool v59))), (53, .d (.sl (a2.Args.map cS27))), (54, .d (.lit (.int .i64 (a2.Args.length : Int)))), (55, .d (.lit (.int .i64 v62)))] [(5, some (.box [.d (.lit (.int .i64 a2.Kind)), .d (.lit (.string a2.Name)), .d (.lit (.int .i64 a2.Index)), .d (.lit (.int .i64 a2.Value.Kind)), .d (.lit (.int .i64 a2.Value.Int)), .d (.lit (.string a2.Value.Text)), .d (.sl (a2.Args.map cS27))])), (12, some (.box [.ref 73 0 ((l22 ++ [r55.1]).length)])), (73, some (.arr 3 1 ((l22 ++ [r55.1]).map (cI .i64))))]) Sub.tt ?_
        refine Chain.nil ?_
        cases h
        refine PostI.next ?_
        exact Sub.tt
     ·have c52_ : decide (v24 < (a2.Args.length : Int)) = false := decide_eq_false c52
      refine AW.condF (b := decide (v24 < (a2.Args.length : Int))) rfl c52_ ?_
      refine AW.sub (Sub.bool 56 (b := decide (v24 < (a2.Args.length : Int))) rfl c52_) ?_
      refine AW.sub (S' := mk 164 [] [(0, .d (.sl (a0.map cS46))), (1, .d (.sl (a1.map cS46))), (5, .ptr 5 0 0), (12, .ptr 12 0 0), (13, .d (.lit (.bool v23))), (53, .d (.sl (a2.Args.map cS27))), (54, .d (.lit (.int .i64 (a2.Args.length : Int)))), (55, .d (.lit (.int .i64 v24))), (56, .d (.lit (.bool false)))] [(5, some (.box [.d (.lit (.int .i64 a2.Kind)), .d (.lit (.string a2.Name)), .d (.lit (.int .i64 a2.Index)), .d (.lit (.int .i64 a2.Value.Kind)), .d (.lit (.int .i64 a2.Value.Int)), .d (.lit (.string a2.Value.Text)), .d (.sl (a2.Args.map cS27))])), (12, some (.box [.ref 73 0 l22.length])), (73, some (.arr 3 1 (l22.map (cI .i64))))]) (by simp; exact Sub.table (by simp) (by simp)) ?_
      refine AW.exit ?_
      cases h
      refine thenQ_pass (by simp) ?_
      refine PostI.out (by simp) ?_
      rintro rfl
      refine blockQ.hit ?_
      refine PostJ.next ?_
      exact Sub.tt
    ·rintro ⟨l50, v51⟩ h
     dsimp only at h ⊢
     refine thenQ_normal ?_
     refine AW.seqR ?_
     refine Chain.runK [] 2 fun K hK => ?_; simp; refine hK _ _ ?_; clear hK K
     refine Chain.sub (S' := mk 164 [] [(5, .ptr 5 0 0), (12, .ptr 12 0 0), (13, .d (.lit (.bool v51))), (19, .fn (.func 44) [.ptr 12 0 0])] [(5, some (.box [.d (.lit (.int .i64 a2.Kind)), .d (.lit (.string a2.Name)), .d (.lit (.int .i64 a2.Index)), .d (.lit (.int .i64 a2.Value.Kind)), .d (.lit (.int .i64 a2.Value.Int)), .d (.lit (.string a2.Value.Text)), .d (.sl (a2.Args.map cS27))])), (12, some (.box [.ref 73 0 l50.length])), (73, some (.arr 3 1 (l50.map (cI .i64))))]) Sub.tt ?_
     refine Chain.nil ?_
     refine AW.seqR ?_
     refine Chain.runK [] 1 fun K hK => ?_; simp; refine hK _ _ ?_; clear hK K
     refine Chain.sub (S' := mk 164 [] [(5, .ptr 5 0 0), (12, .ptr 12 0 0), (13, .d (.lit (.bool v51))), (19, .fn (.func 44) [.ptr 12 0 0]), (20, .d (.lit (.func (.func 47) #[] #[])))] [(5, some (.box [.d (.lit (.int .i64 a2.Kind)), .d (.lit (.string a2.Name)), .d (.lit (.int .i64 a2.Index)), .d (.lit (.int .i64 a2.Value.Kind)), .d (.lit (.int .i64 a2.Value.Int)), .d (.lit (.string a2.Value.Text)), .d (.sl (a2.Args.map cS27))])), (12, some (.box [.ref 73 0 l50.length])), (73, some (.arr 3 1 (l50.map (cI .i64))))]) Sub.tt ?_
     refine Chain.nil ?_
     refine AW.seq ?_
     refine AW.seqR ?_
     refine Chain.runK [] 2 fun K hK => ?_; simp; refine hK _ _ ?_; clear hK K
     refine Chain.sub (S' := mk 164 [] [(12, .ptr 12 0 0), (13, .d (.lit (.bool v51))), (19, .fn (.func 44) [.ptr 12 0 0]), (20, .d (.lit (.func (.func 47) #[] #[]))), (81, .d (.lit (.string a2.Name)))] [(12, some (.box [.ref 73 0 l50.length])), (73, some (.arr 3 1 (l50.map (cI .i64))))]) Sub.tt ?_
     refine Chain.nil ?_
     refine AW.block ?_
     refine AW.seq ?_
     refine AW.seqR ?_
     refine Chain.runK [] 2 fun K hK => ?_; simp; refine hK _ _ ?_; clear hK K
     refine Chain.sub (S' := mk 164 [] [(12, .ptr 12 0 0), (13, .d (.lit (.bool v51))), (19, .fn (.func 44) [.ptr 12 0 0]), (20, .d (.lit (.func (.func 47) #[] #[]))), (81, .d (.lit (.string a2.Name))), (82, .d (.lit (.bool (decide (a2.Name = (ByteArray.mk #[43]))))))] [(12, some (.box [.ref 73 0 l50.length])), (73, some (.arr 3 1 (l50.map (cI .i64))))]) Sub.tt ?_
     refine Chain.nil ?_
     refine AW.lastN (fun (v65 : Bool) => mk 164 [] [(12, .ptr 12 0 0), (13, .d (.lit (.bool v51))), (19, .fn (.func 44) [.ptr 12 0 0]), (20, .d (.lit (.func (.func 47) #[] #[]))), (81, .d (.lit (.string a2.Name))), (82, .d (.lit (.bool v65)))] [(12, some (.box [.ref 73 0 l50.length])), (73, some (.arr 3 1 (l50.map (cI .i64))))]) h ?_ ?_ <;> clear h
     ·intro o h
      replace h := isome h; rcases h with ⟨c66, h⟩ | ⟨c66, h⟩
      ·have c66_ : decide (a2.Name = (ByteArray.mk #[43])) = true := c66
       refine AW.condT (b := decide (a2.Name = (ByteArray.mk #[43]))) rfl c66_ ?_
       refine AW.sub (Sub.bool 82 (b := decide (a2.Name = (ByteArray.mk #[43]))) rfl c66_) ?_
       refine AW.sub (S' := mk 164 [] [(12, .ptr 12 0 0), (13, .d (.lit (.bool v51))), (19, .fn (.func 44) [.ptr 12 0 0]), (20, .d (.lit (.func (.func 47) #[] #[]))), (81, .d (.lit (.string a2.Name))), (82, .d (.lit (.bool true)))] [(12, some (.box [.ref 73 0 l50.length])), (73, some (.arr 3 1 (l50.map (cI .i64))))]) (by simp; exact Sub.table (by simp) (by simp)) ?_
       refine AW.skip ?_
       cases h
       refine PostN.next ?_
       exact Sub.tt
      ·have c66_ : decide (a2.Name = (ByteArray.mk #[43])) = false := Bool.eq_false_iff.2 c66
       refine AW.condF (b := decide (a2.Name = (ByteArray.mk #[43]))) rfl c66_ ?_
       refine AW.sub (Sub.bool 82 (b := decide (a2.Name = (ByteArray.mk #[43]))) rfl c66_) ?_
       refine AW.sub (S' := mk 164 [] [(12, .ptr 12 0 0), (13, .d (.lit (.bool v51))), (19, .fn (.func 44) [.ptr 12 0 0]), (20, .d (.lit (.func (.func 47) #[] #[]))), (81, .d (.lit (.string a2.Name))), (82, .d (.lit (.bool false)))] [(12, some (.box [.ref 73 0 l50.length])), (73, some (.arr 3 1 (l50.map (cI .i64))))]) (by simp; exact Sub.table (by simp) (by simp)) ?_
       refine AW.seqR ?_
       refine Chain.runK [] 2 fun K hK => ?_; simp; refine hK _ _ ?_; clear hK K
       refine Chain.sub (S' := mk 164 [] [(12, .ptr 12 0 0), (13, .d (.lit (.bool v51))), (19, .fn (.func 44) [.ptr 12 0 0]), (20, .d (.lit (.func (.func 47) #[] #[]))), (81, .d (.lit (.string a2.Name))), (82, .d (.lit (.bool (decide (a2.Name = (ByteArray.mk #[45]))))))] [(12, some (.box [.ref 73 0 l50.length])), (73, some (.arr 3 1 (l50.map (cI .i64))))]) Sub.tt ?_
       refine Chain.nil ?_
       replace h := isome h; rcases h with ⟨c67, h⟩ | ⟨c67, h⟩
       ·have c67_ : decide (a2.Name = (ByteArray.mk #[45])) = true := c67
        refine AW.condT (b := decide (a2.Name = (ByteArray.mk #[45]))) rfl c67_ ?_
        refine AW.sub (Sub.bool 82 (b := decide (a2.Name = (ByteArray.mk #[45]))) rfl c67_) ?_
        refine AW.sub (S' := mk 164 [] [(12, .ptr 12 0 0), (13, .d (.lit (.bool v51))), (19, .fn (.func 44) [.ptr 12 0 0]), (20, .d (.lit (.func (.func 47) #[] #[]))), (81, .d (.lit (.string a2.Name))), (82, .d (.lit (.bool true)))] [(12, some (.box [.ref 73 0 l50.length])), (73, some (.arr 3 1 (l50.map (cI .i64))))]) (by simp; exact Sub.table (by simp) (by simp)) ?_
        refine AW.skip ?_
        cases h
        refine PostN.next ?_
        exact Sub.tt
       ·have c67_ : decide (a2.Name = (ByteArray.mk #[45])) = false := Bool.eq_false_iff.2 c67
        refine AW.condF (b := decide (a2.Name = (ByteArray.mk #[45]))) rfl c67_ ?_
        refine AW.sub (Sub.bool 82 (b := decide (a2.Name = (ByteArray.mk #[45]))) rfl c67_) ?_
        refine AW.sub (S' := mk 164 [] [(12, .ptr 12 0 0), (13, .d (.lit (.bool v51))), (19, .fn (.func 44) [.ptr 12 0 0]), (20, .d (.lit (.func (.func 47) #[] #[]))), (81, .d (.lit (.string a2.Name))), (82, .d (.lit (.bool false)))] [(12, some (.box [.ref 73 0 l50.length])), (73, some (.arr 3 1 (l50.map (cI .i64))))]) (by simp; exact Sub.table (by simp) (by simp)) ?_
        refine AW.region ?_
        refine Chain.runK [] 2 fun K hK => ?_; simp; refine hK _ _ ?_; clear hK K
        refine Chain.sub (S' := mk 164 [] [(12, .ptr 12 0 0), (13, .d (.lit (.bool v51))), (19, .fn (.func 44) [.ptr 12 0 0]), (20, .d (.lit (.func (.func 47) #[] #[]))), (81, .d (.lit (.string a2.Name))), (82, .d (.lit (.bool (decide (a2.Name = (ByteArray.mk #[42]))))))] [(12, some (.box [.ref 73 0 l50.length])), (73, some (.arr 3 1 (l50.map (cI .i64))))]) Sub.tt ?_
        refine Chain.nil ?_
        cases h
        refine PostN.next ?_
        exact Sub.tt
     ·rintro v65 h
      refine thenQ_normal ?_
      replace h := isome h; rcases h with ⟨c68, h⟩ | ⟨c68, h⟩
      ·have c68_ : v65 = true := c68
       refine AW.condT (b := v65) rfl c68_ ?_
       refine AW.sub (Sub.bool 82 (b := v65) rfl c68_) ?_
       refine AW.sub (S' := mk 164 [] [(12, .ptr 12 0 0), (13, .d (.lit (.bool v51))), (19, .fn (.func 44) [.ptr 12 0 0]), (20, .d (.lit (.func (.func 47) #[] #[]))), (81, .d (.lit (.string a2.Name))), (82, .d (.lit (.bool true)))] [(12, some (.box [.ref 73 0 l50.length])), (73, some (.arr 3 1 (l50.map (cI .i64))))]) (by simp; exact Sub.table (by simp) (by simp)) ?_
       refine AW.seqR ?_
       refine Chain.runK [] 1 fun K hK => ?_; simp; refine hK _ _ ?_; clear hK K
       refine Chain.sub (S' := mk 164 [] [(86, .fn (.func 44) [.ptr 12 0 0])] [(12, some (.box [.ref 73 0 l50.length])), (73, some (.arr 3 1 (l50.map (cI .i64))))]) Sub.tt ?_
       replace h := bsome h; obtain ⟨r69, hr69, h⟩ := h
       refine Chain.callL (d := 87) (p44 N 1 l50 r69 hr69) (by simp) rfl rfl (by simp <;> rfl) (by simp <;> rfl) ent44 (by simp <;> rfl) ?_
       refine Chain.sub (S' := mk 164 [] [(86, .fn (.func 44) [.ptr 12 0 0]), (87, .d (.lit (.bool r69)))] [(12, some (.box [.ref 73 0 l50.length])), (73, some (.arr 3 1 (l50.map (cI .i64))))]) (by simp; exact Sub.table (by simp) (by simp)) ?_
       replace h := bsome h; obtain ⟨r70, hr70, h⟩ := h
       refine Chain.callL (d := 88) (p48 N 1 true r69 r70 hr70) (by simp) rfl rfl (by simp <;> rfl) (by simp <;> rfl) ent48 (by simp <;> rfl) ?_
       refine Chain.sub (S' := mk 164 [] [(86, .fn (.func 44) [.ptr 12 0 0]), (87, .d (.lit (.bool r69))), (88, .tup [.d (.lit (.int .i64 r70.1)), .d (.lit (.bool r70.2.1)), .d (.lit (.int .i64 r70.2.2))])] [(12, some (.box [.ref 73 0 l50.length])), (73, some (.arr 3 1 (l50.map (cI .i64))))]) (by simp; exact Sub.table (by simp) (by simp)) ?_
       refine Chain.runK [] 6 fun K hK => ?_; simp; refine hK _ _ ?_; clear hK K
       refine Chain.sub (S' := mk 164 [] [(6, .d (.lit (.int .i64 r70.1))), (7, .d (.lit (.bool r70.2.1))), (8, .d (.lit (.int .i64 r70.2.2)))] []) Sub.tt ?_
       refine Chain.nil ?_
       refine AW.ret ?_
       cases h
       refine blockQ.ret ?_
       refine thenQ_pass (by simp) ?_
       exact FinC.ret (by simp) (by simp)
      ·have c68_ : v65 = false := Bool.eq_false_iff.2 c68
       refine AW.condF (b := v65) rfl c68_ ?_
       refine AW.sub (Sub.bool 82 (b := v65) rfl c68_) ?_
       refine AW.sub (S' := mk 164 [] [(12, .ptr 12 0 0), (13, .d (.lit (.bool v51))), (19, .fn (.func 44) [.ptr 12 0 0]), (20, .d (.lit (.func (.func 47) #[] #[]))), (81, .d (.lit (.string a2.Name))), (82, .d (.lit (.bool false)))] [(12, some (.box [.ref 73 0 l50.length])), (73, some (.arr 3 1 (l50.map (cI .i64))))]) (by simp; exact Sub.table (by simp) (by simp)) ?_
       refine AW.seqR ?_
       refine Chain.runK [] 2 fun K hK => ?_; simp; refine hK _ _ ?_; clear hK K
       refine Chain.sub (S' := mk 164 [] [(12, .ptr 12 0 0), (13, .d (.lit (.bool v51))), (19, .fn (.func 44) [.ptr 12 0 0]), (20, .d (.lit (.func (.func 47) #[] #[]))), (81, .d (.lit (.string a2.Name))), (92, .d (.lit (.bool (decide (a2.Name = (ByteArray.mk #[124, 124]))))))] [(12, some (.box [.ref 73 0 l50.length])), (73, some (.arr 3 1 (l50.map (cI .i64))))]) Sub.tt ?_
       refine Chain.nil ?_
       replace h := isome h; rcases h with ⟨c71, h⟩ | ⟨c71, h⟩
       ·have c71_ : decide (a2.Name = (ByteArray.mk #[124, 124])) = true := c71
        refine AW.condT (b := decide (a2.Name = (ByteArray.mk #[124, 124]))) rfl c71_ ?_
        refine AW.sub (Sub.bool 92 (b := decide (a2.Name = (ByteArray.mk #[124, 124]))) rfl c71_) ?_
        refine AW.sub (S' := mk 164 [] [(12, .ptr 12 0 0), (13, .d (.lit (.bool v51))), (19, .fn (.func 44) [.ptr 12 0 0]), (20, .d (.lit (.func (.func 47) #[] #[]))), (81, .d (.lit (.string a2.Name))), (92, .d (.lit (.bool true)))] [(12, some (.box [.ref 73 0 l50.length])), (73, some (.arr 3 1 (l50.map (cI .i64))))]) (by simp; exact Sub.table (by simp) (by simp)) ?_
        refine AW.seqR ?_
        refine Chain.runK [] 1 fun K hK => ?_; simp; refine hK _ _ ?_; clear hK K
        refine Chain.sub (S' := mk 164 [] [(94, .fn (.func 44) [.ptr 12 0 0])] [(12, some (.box [.ref 73 0 l50.length])), (73, some (.arr 3 1 (l50.map (cI .i64))))]) Sub.tt ?_
        replace h := bsome h; obtain ⟨r72, hr72, h⟩ := h
        refine Chain.callL (d := 95) (p44 N 3 l50 r72 hr72) (by simp) rfl rfl (by simp <;> rfl) (by simp <;> rfl) ent44 (by simp <;> rfl) ?_
        refine Chain.sub (S' := mk 164 [] [(94, .fn (.func 44) [.ptr 12 0 0]), (95, .d (.lit (.bool r72)))] [(12, some (.box [.ref 73 0 l50.length])), (73, some (.arr 3 1 (l50.map (cI .i64))))]) (by simp; exact Sub.table (by simp) (by simp)) ?_
        replace h := bsome h; obtain ⟨r73, hr73, h⟩ := h
        refine Chain.callL (d := 96) (p48 N 3 true r72 r73 hr73) (by simp) rfl rfl (by simp <;> rfl) (by simp <;> rfl) ent48 (by simp <;> rfl) ?_
        refine Chain.sub (S' := mk 164 [] [(94, .fn (.func 44) [.ptr 12 0 0]), (95, .d (.lit (.bool r72))), (96, .tup [.d (.lit (.int .i64 r73.1)), .d (.lit (.bool r73.2.1)), .d (.lit (.int .i64 r73.2.2))])] [(12, some (.box [.ref 73 0 l50.length])), (73, some (.arr 3 1 (l50.map (cI .i64))))]) (by simp; exact Sub.table (by simp) (by simp)) ?_
        refine Chain.runK [] 6 fun K hK => ?_; simp; refine hK _ _ ?_; clear hK K
        refine Chain.sub (S' := mk 164 [] [(6, .d (.lit (.int .i64 r73.1))), (7, .d (.lit (.bool r73.2.1))), (8, .d (.lit (.int .i64 r73.2.2)))] []) Sub.tt ?_
        refine Chain.nil ?_
        refine AW.ret ?_
        cases h
        refine blockQ.ret ?_
        refine thenQ_pass (by simp) ?_
        exact FinC.ret (by simp) (by simp)
       ·have c71_ : decide (a2.Name = (ByteArray.mk #[124, 124])) = false := Bool.eq_false_iff.2 c71
        refine AW.condF (b := decide (a2.Name = (ByteArray.mk #[124, 124]))) rfl c71_ ?_
        refine AW.sub (Sub.bool 92 (b := decide (a2.Name = (ByteArray.mk #[124, 124]))) rfl c71_) ?_
        refine AW.sub (S' := mk 164 [] [(12, .ptr 12 0 0), (13, .d (.lit (.bool v51))), (19, .fn (.func 44) [.ptr 12 0 0]), (20, .d (.lit (.func (.func 47) #[] #[]))), (81, .d (.lit (.string a2.Name))), (92, .d (.lit (.bool false)))] [(12, some (.box [.ref 73 0 l50.length])), (73, some (.arr 3 1 (l50.map (cI .i64))))]) (by simp; exact Sub.table (by simp) (by simp)) ?_
        refine AW.seqR ?_
        refine Chain.runK [] 2 fun K hK => ?_; simp; refine hK _ _ ?_; clear hK K
        refine Chain.sub (S' := mk 164 [] [(12, .ptr 12 0 0), (13, .d (.lit (.bool v51))), (19, .fn (.func 44) [.ptr 12 0 0]), (20, .d (.lit (.func (.func 47) #[] #[]))), (81, .d (.lit (.string a2.Name))), (100, .d (.lit (.bool (decide (a2.Name = (ByteArray.mk #[108, 101, 110, 103, 116, 104]))))))] [(12, some (.box [.ref 73 0 l50.length])), (73, some (.arr 3 1 (l50.map (cI .i64))))]) Sub.tt ?_
        refine Chain.nil ?_
        replace h := isome h; rcases h with ⟨c74, h⟩ | ⟨c74, h⟩
        ·have c74_ : decide (a2.Name = (ByteArray.mk #[108, 101, 110, 103, 116, 104])) = true := c74
         refine AW.condT (b := decide (a2.Name = (ByteArray.mk #[108, 101, 110, 103, 116, 104]))) rfl c74_ ?_
         refine AW.sub (Sub.bool 100 (b := decide (a2.Name = (ByteArray.mk #[108, 101, 110, 103, 116, 104]))) rfl c74_) ?_
         refine AW.sub (S' := mk 164 [] [(12, .ptr 12 0 0), (13, .d (.lit (.bool v51))), (19, .fn (.func 44) [.ptr 12 0 0]), (20, .d (.lit (.func (.func 47) #[] #[]))), (81, .d (.lit (.string a2.Name))), (100, .d (.lit (.bool true)))] [(12, some (.box [.ref 73 0 l50.length])), (73, some (.arr 3 1 (l50.map (cI .i64))))]) (by simp; exact Sub.table (by simp) (by simp)) ?_
         refine AW.seqR ?_
         refine Chain.runK [] 2 fun K hK => ?_; simp; refine hK _ _ ?_; clear hK K
         refine Chain.sub (S' := mk 164 [] [(102, .d (.lit (.bool v51))), (103, .fn (.func 44) [.ptr 12 0 0])] [(12, some (.box [.ref 73 0 l50.length])), (73, some (.arr 3 1 (l50.map (cI .i64))))]) Sub.tt ?_
         replace h := bsome h; obtain ⟨r75, hr75, h⟩ := h
         refine Chain.callL (d := 104) (p44 N 3 l50 r75 hr75) (by simp) rfl rfl (by simp <;> rfl) (by simp <;> rfl) ent44 (by simp <;> rfl) ?_
         refine Chain.sub (S' := mk 164 [] [(102, .d (.lit (.bool v51))), (103, .fn (.func 44) [.ptr 12 0 0]), (104, .d (.lit (.bool r75)))] [(12, some (.box [.ref 73 0 l50.length])), (73, some (.arr 3 1 (l50.map (cI .i64))))]) (by simp; exact Sub.table (by simp) (by simp)) ?_
         replace h := bsome h; obtain ⟨r76, hr76, h⟩ := h
         refine Chain.callL (d := 105) (p48 N 1 v51 r75 r76 hr76) (by simp) rfl rfl (by simp <;> rfl) (by simp <;> rfl) ent48 (by simp <;> rfl) ?_
         refine Chain.sub (S' := mk 164 [] [(102, .d (.lit (.bool v51))), (103, .fn (.func 44) [.ptr 12 0 0]), (104, .d (.lit (.bool r75))), (105, .tup [.d (.lit (.int .i64 r76.1)), .d (.lit (.bool r76.2.1)), .d (.lit (.int .i64 r76.2.2))])] [(12, some (.box [.ref 73 0 l50.length])), (73, some (.arr 3 1 (l50.map (cI .i64))))]) (by simp; exact Sub.table (by simp) (by simp)) ?_
         refine Chain.runK [] 6 fun K hK => ?_; simp; refine hK _ _ ?_; clear hK K
         refine Chain.sub (S' := mk 164 [] [(6, .d (.lit (.int .i64 r76.1))), (7, .d (.lit (.bool r76.2.1))), (8, .d (.lit (.int .i64 r76.2.2)))] []) Sub.tt ?_
         refine Chain.nil ?_
         refine AW.ret ?_
         cases h
         refine blockQ.ret ?_
         refine thenQ_pass (by simp) ?_
         exact FinC.ret (by simp) (by simp)
        ·have c74_ : decide (a2.Name = (ByteArray.mk #[108, 101, 110, 103, 116, 104])) = false := Bool.eq_false_iff.2 c74
         refine AW.condF (b := decide (a2.Name = (ByteArray.mk #[108, 101, 110, 103, 116, 104]))) rfl c74_ ?_
         refine AW.sub (Sub.bool 100 (b := decide (a2.Name = (ByteArray.mk #[108, 101, 110, 103, 116, 104]))) rfl c74_) ?_
         refine AW.sub (S' := mk 164 [] [(12, .ptr 12 0 0), (13, .d (.lit (.bool v51))), (19, .fn (.func 44) [.ptr 12 0 0]), (20, .d (.lit (.func (.func 47) #[] #[]))), (81, .d (.lit (.string a2.Name))), (100, .d (.lit (.bool false)))] [(12, some (.box [.ref 73 0 l50.length])), (73, some (.arr 3 1 (l50.map (cI .i64))))]) (by simp; exact Sub.table (by simp) (by simp)) ?_
         refine AW.seq ?_
         refine AW.seqR ?_
         refine Chain.runK [] 2 fun K hK => ?_; simp; refine hK _ _ ?_; clear hK K
         refine Chain.sub (S' := mk 164 [] [(12, .ptr 12 0 0), (13, .d (.lit (.bool v51))), (19, .fn (.func 44) [.ptr 12 0 0]), (20, .d (.lit (.func (.func 47) #[] #[]))), (81, .d (.lit (.string a2.Name))), (109, .d (.lit (.bool (decide (a2.Name = (ByteArray.mk #[97, 110, 100]))))))] [(12, some (.box [.ref 73 0 l50.length])), (73, some (.arr 3 1 (l50.map (cI .i64))))]) Sub.tt ?_
         refine Chain.nil ?_
         refine AW.lastN (fun (v79 : Bool) => mk 164 [] [(12, .ptr 12 0 0), (13, .d (.lit (.bool v51))), (19, .fn (.func 44) [.ptr 12 0 0]), (20, .d (.lit (.func (.func 47) #[] #[]))), (81, .d (.lit (.string a2.Name))), (109, .d (.lit (.bool v79)))] [(12, some (.box [.ref 73 0 l50.length])), (73, some (.arr 3 1 (l50.map (cI .i64))))]) h ?_ ?_ <;> clear h
         ·intro o h
          replace h := isome h; rcases h with ⟨c80, h⟩ | ⟨c80, h⟩
          ·have c80_ : decide (a2.Name = (ByteArray.mk #[97, 110, 100])) = true := c80
           refine AW.condT (b := decide (a2.Name = (ByteArray.mk #[97, 110, 100]))) rfl c80_ ?_
           refine AW.sub (Sub.bool 109 (b := decide (a2.Name = (ByteArray.mk #[97, 110, 100]))) rfl c80_) ?_
           refine AW.sub (S' := mk 164 [] [(12, .ptr 12 0 0), (13, .d (.lit (.bool v51))), (19, .fn (.func 44) [.ptr 12 0 0]), (20, .d (.lit (.func (.func 47) #[] #[]))), (81, .d (.lit (.string a2.Name))), (109, .d (.lit (.bool true)))] [(12, some (.box [.ref 73 0 l50.length])), (73, some (.arr 3 1 (l50.map (cI .i64))))]) (by simp; exact Sub.table (by simp) (by simp)) ?_
           refine AW.skip ?_
           cases h
           refine PostN.next ?_
           exact Sub.tt
          ·have c80_ : decide (a2.Name = (ByteArray.mk #[97, 110, 100])) = false := Bool.eq_false_iff.2 c80
           refine AW.condF (b := decide (a2.Name = (ByteArray.mk #[97, 110, 100]))) rfl c80_ ?_
           refine AW.sub (Sub.bool 109 (b := decide (a2.Name = (ByteArray.mk #[97, 110, 100]))) rfl c80_) ?_
           refine AW.sub (S' := mk 164 [] [(12, .ptr 12 0 0), (13, .d (.lit (.bool v51))), (19, .fn (.func 44) [.ptr 12 0 0]), (20, .d (.lit (.func (.func 47) #[] #[]))), (81, .d (.lit (.string a2.Name))), (109, .d (.lit (.bool false)))] [(12, some (.box [.ref 73 0 l50.length])), (73, some (.arr 3 1 (l50.map (cI .i64))))]) (by simp; exact Sub.table (by simp) (by simp)) ?_
           refine AW.seqR ?_
           refine Chain.runK [] 2 fun K hK => ?_; simp; refine hK _ _ ?_; clear hK K
           refine Chain.sub (S' := mk 164 [] [(12, .ptr 12 0 0), (13, .d (.lit (.bool v51))), (19, .fn (.func 44) [.ptr 12 0 0]), (20, .d (.lit (.func (.func 47) #[] #[]))), (81, .d (.lit (.string a2.Name))), (109, .d (.lit (.bool (decide (a2.Name = (ByteArray.mk #[111, 114]))))))] [(12, some (.box [.ref 73 0 l50.length])), (73, some (.arr 3 1 (l50.map (cI .i64))))]) Sub.tt ?_
           refine Chain.nil ?_
           replace h := isome h; rcases h with ⟨c81, h⟩ | ⟨c81, h⟩
           ·have c81_ : decide (a2.Name = (ByteArray.mk #[111, 114])) = true := c81
            refine AW.condT (b := decide (a2.Name = (ByteArray.mk #[111, 114]))) rfl c81_ ?_
            refine AW.sub (Sub.bool 109 (b := decide (a2.Name = (ByteArray.mk #[111, 114]))) rfl c81_) ?_
            refine AW.sub (S' := mk 164 [] [(12, .ptr 12 0 0), (13, .d (.lit (.bool v51))), (19, .fn (.func 44) [.ptr 12 0 0]), (20, .d (.lit (.func (.func 47) #[] #[]))), (81, .d (.lit (.string a2.Name))), (109, .d (.lit (.bool true)))] [(12, some (.box [.ref 73 0 l50.length])), (73, some (.arr 3 1 (l50.map (cI .i64))))]) (by simp; exact Sub.table (by simp) (by simp)) ?_
            refine AW.skip ?_
            cases h
            refine PostN.next ?_
            exact Sub.tt
           ·have c81_ : decide (a2.Name = (ByteArray.mk #[111, 114])) = false := Bool.eq_false_iff.2 c81
            refine AW.condF (b := decide (a2.Name = (ByteArray.mk #[111, 114]))) rfl c81_ ?_
            refine AW.sub (Sub.bool 109 (b := decide (a2.Name = (ByteArray.mk #[111, 114]))) rfl c81_) ?_
            refine AW.sub (S' := mk 164 [] [(12, .ptr 12 0 0), (13, .d (.lit (.bool v51))), (19, .fn (.func 44) [.ptr 12 0 0]), (20, .d (.lit (.func (.func 47) #[] #[]))), (81, .d (.lit (.string a2.Name))), (109, .d (.lit (.bool false)))] [(12, some (.box [.ref 73 0 l50.length])), (73, some (.arr 3 1 (l50.map (cI .i64))))]) (by simp; exact Sub.table (by simp) (by simp)) ?_
            refine AW.region ?_
            refine Chain.runK [] 2 fun K hK => ?_; simp; refine hK _ _ ?_; clear hK K
            refine Chain.sub (S' := mk 164 [] [(12, .ptr 12 0 0), (13, .d (.lit (.bool v51))), (19, .fn (.func 44) [.ptr 12 0 0]), (20, .d (.lit (.func (.func 47) #[] #[]))), (81, .d (.lit (.string a2.Name))), (109, .d (.lit (.bool (decide (a2.Name = (ByteArray.mk #[110, 111, 116]))))))] [(12, some (.box [.ref 73 0 l50.length])), (73, some (.arr 3 1 (l50.map (cI .i64))))]) Sub.tt ?_
            refine Chain.nil ?_
            cases h
            refine PostN.next ?_
            exact Sub.tt
         ·rintro v79 h
          refine thenQ_normal ?_
          replace h := isome h; rcases h with ⟨c82, h⟩ | ⟨c82, h⟩
          ·have c82_ : v79 = true := c82
           refine AW.condT (b := v79) rfl c82_ ?_
           refine AW.sub (Sub.bool 109 (b := v79) rfl c82_) ?_
           refine AW.sub (S' := mk 164 [] [(12, .ptr 12 0 0), (13, .d (.lit (.bool v51))), (19, .fn (.func 44) [.ptr 12 0 0]), (20, .d (.lit (.func (.func 47) #[] #[]))), (81, .d (.lit (.string a2.Name))), (109, .d (.lit (.bool true)))] [(12, some (.box [.ref 73 0 l50.length])), (73, some (.arr 3 1 (l50.map (cI .i64))))]) (by simp; exact Sub.table (by simp) (by simp)) ?_
           refine AW.seqR ?_
           refine Chain.runK [] 2 fun K hK => ?_; simp; refine hK _ _ ?_; clear hK K
           refine Chain.sub (S' := mk 164 [] [(113, .d (.lit (.bool v51))), (114, .fn (.func 44) [.ptr 12 0 0])] [(12, some (.box [.ref 73 0 l50.length])), (73, some (.arr 3 1 (l50.map (cI .i64))))]) Sub.tt ?_
           replace h := bsome h; obtain ⟨r83, hr83, h⟩ := h
           refine Chain.callL (d := 115) (p44 N 2 l50 r83 hr83) (by simp) rfl rfl (by simp <;> rfl) (by simp <;> rfl) ent44 (by simp <;> rfl) ?_
           refine Chain.sub (S' := mk 164 [] [(113, .d (.lit (.bool v51))), (114, .fn (.func 44) [.ptr 12 0 0]), (115, .d (.lit (.bool r83)))] [(12, some (.box [.ref 73 0 l50.length])), (73, some (.arr 3 1 (l50.map (cI .i64))))]) (by simp; exact Sub.table (by simp) (by simp)) ?_
           replace h := bsome h; obtain ⟨r84, hr84, h⟩ := h
           refine Chain.callL (d := 116) (p48 N 2 v51 r83 r84 hr84) (by simp) rfl rfl (by simp <;> rfl) (by simp <;> rfl) ent48 (by simp <;> rfl) ?_
           refine Chain.sub (S' := mk 164 [] [(113, .d (.lit (.bool v51))), (114, .fn (.func 44) [.ptr 12 0 0]), (115, .d (.lit (.bool r83))), (116, .tup [.d (.lit (.int .i64 r84.1)), .d (.lit (.bool r84.2.1)), .d (.lit (.int .i64 r84.2.2))])] [(12, some (.box [.ref 73 0 l50.length])), (73, some (.arr 3 1 (l50.map (cI .i64))))]) (by simp; exact Sub.table (by simp) (by simp)) ?_
           refine Chain.runK [] 6 fun K hK => ?_; simp; refine hK _ _ ?_; clear hK K
           refine Chain.sub (S' := mk 164 [] [(6, .d (.lit (.int .i64 r84.1))), (7, .d (.lit (.bool r84.2.1))), (8, .d (.lit (.int .i64 r84.2.2)))] []) Sub.tt ?_
           refine Chain.nil ?_
           refine AW.ret ?_
           cases h
           refine blockQ.ret ?_
           refine thenQ_pass (by simp) ?_
           exact FinC.ret (by simp) (by simp)
          ·have c82_ : v79 = false := Bool.eq_false_iff.2 c82
           refine AW.condF (b := v79) rfl c82_ ?_
           refine AW.sub (Sub.bool 109 (b := v79) rfl c82_) ?_
           refine AW.sub (S' := mk 164 [] [(12, .ptr 12 0 0), (13, .d (.lit (.bool v51))), (19, .fn (.func 44) [.ptr 12 0 0]), (20, .d (.lit (.func (.func 47) #[] #[]))), (81, .d (.lit (.string a2.Name))), (109, .d (.lit (.bool false)))] [(12, some (.box [.ref 73 0 l50.length])), (73, some (.arr 3 1 (l50.map (cI .i64))))]) (by simp; exact Sub.table (by simp) (by simp)) ?_
           refine AW.seqR ?_
           refine Chain.runK [] 2 fun K hK => ?_; simp; refine hK _ _ ?_; clear hK K
           refine Chain.sub (S' := mk 164 [] [(12, .ptr 12 0 0), (13, .d (.lit (.bool v51))), (20, .d (.lit (.func (.func 47) #[] #[]))), (81, .d (.lit (.string a2.Name))), (120, .d (.lit (.bool (decide (a2.Name = (ByteArray.mk #[105, 115, 32, 110, 117, 108, 108]))))))] [(12, some (.box [.ref 73 0 l50.length])), (73, some (.arr 3 1 (l50.map (cI .i64))))]) Sub.tt ?_
           refine Chain.nil ?_
           replace h := isome h; rcases h with ⟨c85, h⟩ | ⟨c85, h⟩
           ·have c85_ : decide (a2.Name = (ByteArray.mk #[105, 115, 32, 110, 117, 108, 108])) = true := c85
            refine AW.condT (b := decide (a2.Name = (ByteArray.mk #[105, 115, 32, 110, 117, 108, 108]))) rfl c85_ ?_
            refine AW.sub (Sub.bool 120 (b := decide (a2.Name = (ByteArray.mk #[105, 115, 32, 110, 117, 108, 108]))) rfl c85_) ?_
            refine AW.sub (S' := mk 164 [] [(12, .ptr 12 0 0), (13, .d (.lit (.bool v51))), (20, .d (.lit (.func (.func 47) #[] #[]))), (81, .d (.lit (.string a2.Name))), (120, .d (.lit (.bool true)))] [(12, some (.box [.ref 73 0 l50.length])), (73, some (.arr 3 1 (l50.map (cI .i64))))]) (by simp; exact Sub.table (by simp) (by simp)) ?_
            refine AW.seqR ?_
            refine Chain.runK [] 3 fun K hK => ?_; simp; refine hK _ _ ?_; clear hK K
            refine Chain.sub (S' := mk 164 [] [(6, .d (.lit (.int .i64 2))), (7, .d (.lit (.bool false))), (8, .d (.lit (.int .i64 0)))] []) Sub.tt ?_
            refine Chain.nil ?_
            refine AW.ret ?_
            cases h
            refine blockQ.ret ?_
            refine thenQ_pass (by simp) ?_
            exact FinC.ret (by simp) (by simp)
           ·have c85_ : decide (a2.Name = (ByteArray.mk #[105, 115, 32, 110, 117, 108, 108])) = false := Bool.eq_false_iff.2 c85
            refine AW.condF (b := decide (a2.Name = (ByteArray.mk #[105, 115, 32, 110, 117, 108, 108]))) rfl c85_ ?_
            refine AW.sub (Sub.bool 120 (b := decide (a2.Name = (ByteArray.mk #[105, 115, 32, 110, 117, 108, 108]))) rfl c85_) ?_
            refine AW.sub (S' := mk 164 [] [(12, .ptr 12 0 0), (13, .d (.lit (.bool v51))), (20, .d (.lit (.func (.func 47) #[] #[]))), (81, .d (.lit (.string a2.Name))), (120, .d (.lit (.bool false)))] [(12, some (.box [.ref 73 0 l50.length])), (73, some (.arr 3 1 (l50.map (cI .i64))))]) (by simp; exact Sub.table (by simp) (by simp)) ?_
            refine AW.seqR ?_
            refine Chain.runK [] 2 fun K hK => ?_; simp; refine hK _ _ ?_; clear hK K
            refine Chain.sub (S' := mk 164 [] [(12, .ptr 12 0 0), (13, .d (.lit (.bool v51))), (20, .d (.lit (.func (.func 47) #[] #[]))), (122, .d (.lit (.bool (decide (a2.Name = (ByteArray.mk #[105, 102]))))))] [(12, some (.box [.ref 73 0 l50.length])), (73, some (.arr 3 1 (l50.map (cI .i64))))]) Sub.tt ?_
            refine Chain.nil ?_
            replace h := isome h; rcases h with ⟨c86, h⟩ | ⟨c86, h⟩
            ·have c86_ : decide (a2.Name = (ByteArray.mk #[105, 102])) = true := c86
             refine AW.condT (b := decide (a2.Name = (ByteArray.mk #[105, 102]))) rfl c86_ ?_
             refine AW.sub (Sub.bool 122 (b := decide (a2.Name = (ByteArray.mk #[105, 102]))) rfl c86_) ?_
             refine AW.sub (S' := mk 164 [] [(12, .ptr 12 0 0), (13, .d (.lit (.bool v51))), (20, .d (.lit (.func (.func 47) #[] #[]))), (122, .d (.lit (.bool true)))] [(12, some (.box [.ref 73 0 l50.length])), (73, some (.arr 3 1 (l50.map (cI .i64))))]) (by simp; exact Sub.table (by simp) (by simp)) ?_
             replace h := bsome h; obtain ⟨⟨v96, v97, v98⟩, hj, h⟩ := h
             dsimp only at h
             refine AW.cutQ (by kernel_rfl) (by kernel_rfl) (mk 164 [] [(6, .d (.lit (.int .i64 v96))), (7, .d (.lit (.bool v97))), (8, .d (.lit (.int .i64 v98)))] []) ?_ ?_
             ·clear h; have h := hj; clear hj
              replace h := bsome h; obtain ⟨x99, hx99, h⟩ := h
              obtain ⟨hx99, hx99b, hx99c⟩ := idx_someN (n := 1) hx99
              have hx99d : (1 : Int) < (l50.length : Int) := by omega
              replace h := bsome h; obtain ⟨x100, hx100, h⟩ := h
              obtain ⟨hx100, hx100b, hx100c⟩ := idx_someN (n := 2) hx100
              have hx100d : (2 : Int) < (l50.length : Int) := by omega
              replace h := lsome h; obtain ⟨v101, hv101, h⟩ := h
              unfold maxI at hv101
              replace h := bsome h; obtain ⟨x102, hx102, h⟩ := h
              obtain ⟨hx102, hx102b, hx102c⟩ := idx_someN (n := 0) hx102
              have hx102d : (0 : Int) < (l50.length : Int) := by omega
              refine Chain.runQ 12 fun K hK => ?_; simp [hx99b, hx99c, hx99d, hx100b, hx100c, hx100d, hv101, hx102b, hx102c]; refine hK _ _ ?_; clear hK K
              refine Chain.sub (S' := mk 164 [] [(12, .ptr 12 0 0), (20, .d (.lit (.func (.func 47) #[] #[]))), (130, .d (.lit (.int .i64 v101))), (131, .d (.lit (.bool v51))), (132, .d (.lit (.func (.func 47) #[] #[]))), (135, .d (.lit (.int .i64 x102)))] [(12, some (.box [.ref 73 0 l50.length])), (73, some (.arr 3 1 (l50.map (cI .i64))))]) Sub.tt ?_
              replace h := bsome h; obtain ⟨r103, hr103, h⟩ := h
              refine Chain.callL (d := 136) (p47 N x102 2 r103 hr103) (by simp) rfl rfl (by simp <;> rfl) (by simp <;> rfl) ent47 (by simp <;> rfl) ?_
              refine Chain.sub (S' := mk 164 [] [(12, .ptr 12 0 0), (20, .d (.lit (.func (.func 47) #[] #[]))), (130, .d (.lit (.int .i64 v101))), (131, .d (.lit (.bool v51))), (132, .d (.lit (.func (.func 47) #[] #[]))), (135, .d (.lit (.int .i64 x102))), (136, .d (.lit (.bool r103)))] [(12, some (.box [.ref 73 0 l50.length])), (73, some (.arr 3 1 (l50.map (cI .i64))))]) (by simp; exact Sub.table (by simp) (by simp)) ?_
              refine Chain.runQ 1 fun K hK => ?_; simp; refine hK _ _ ?_; clear hK K
              refine Chain.sub (S' := mk 164 [] [(12, .ptr 12 0 0), (20, .d (.lit (.func (.func 47) #[] #[]))), (130, .d (.lit (.int .i64 v101))), (131, .d (.lit (.bool v51))), (137, .d (.lit (.bool r103)))] [(12, some (.box [.ref 73 0 l50.length])), (73, some (.arr 3 1 (l50.map (cI .i64))))]) Sub.tt ?_
              replace h := isome h; rcases h with ⟨c104, h⟩ | ⟨c104, h⟩
              ·have c104_ : r103 = true := c104
               refine Chain.sub (Sub.bool 137 (b := r103) rfl c104_) ?_
               refine Chain.sub (S' := mk 164 [] [(12, .ptr 12 0 0), (20, .d (.lit (.func (.func 47) #[] #[]))), (130, .d (.lit (.int .i64 v101))), (131, .d (.lit (.bool v51))), (137, .d (.lit (.bool true)))] [(12, some (.box [.ref 73 0 l50.length])), (73, some (.arr 3 1 (l50.map (cI .i64))))]) (by simp; exact Sub.table (by simp) (by simp)) ?_
               refine Chain.runQ 7 fun K hK => ?_; simp [hx99b, hx99c, hx99d, hx100b, hx100c, hx100d]; refine hK _ _ ?_; clear hK K
               refine Chain.sub (S' := mk 164 [] [(130, .d (.lit (.int .i64 v101))), (131, .d (.lit (.bool v51))), (137, .d (.lit (.bool true))), (138, .d (.lit (.func (.func 47) #[] #[]))), (141, .d (.lit (.int .i64 x99))), (144, .d (.lit (.int .i64 x100)))] []) Sub.tt ?_
               replace h := bsome h; obtain ⟨r105, hr105, h⟩ := h
               refine Chain.callL (d := 145) (p47 N x99 x100 r105 hr105) (by simp) rfl rfl (by simp <;> rfl) (by simp <;> rfl) ent47 (by simp <;> rfl) ?_
               refine Chain.sub (S' := mk 164 [] [(130, .d (.lit (.int .i64 v101))), (131, .d (.lit (.bool v51))), (137, .d (.lit (.bool true))), (138, .d (.lit (.func (.func 47) #[] #[]))), (141, .d (.lit (.int .i64 x99))), (144, .d (.lit (.int .i64 x100))), (145, .d (.lit (.bool r105)))] []) (by simp; exact Sub.table (by simp) (by simp)) ?_
               refine Chain.runQ 1 fun K hK => ?_; simp; refine hK _ _ ?_; clear hK K
               refine Chain.sub (S' := mk 164 [] [(130, .d (.lit (.int .i64 v101))), (131, .d (.lit (.bool v51))), (146, .d (.lit (.bool r105)))] []) Sub.tt ?_
               replace h := bsome h; obtain ⟨r106, hr106, h⟩ := h
               refine Chain.callL (d := 147) (p48 N v101 v51 r105 r106 hr106) (by simp) rfl rfl (by simp <;> rfl) (by simp <;> rfl) ent48 (by simp <;> rfl) ?_
               refine Chain.sub (S' := mk 164 [] [(130, .d (.lit (.int .i64 v101))), (131, .d (.lit (.bool v51))), (146, .d (.lit (.bool r105))), (147, .tup [.d (.lit (.int .i64 r106.1)), .d (.lit (.bool r106.2.1)), .d (.lit (.int .i64 r106.2.2))])] []) (by simp; exact Sub.table (by simp) (by simp)) ?_
               refine Chain.runQ 6 fun K hK => ?_; simp; refine hK _ _ ?_; clear hK K
               refine Chain.sub (S' := mk 164 [] [(6, .d (.lit (.int .i64 r106.1))), (7, .d (.lit (.bool r106.2.1))), (8, .d (.lit (.int .i64 r106.2.2)))] []) Sub.tt ?_
               cases h
               exact Chain.nil Sub.tt
              ·have c104_ : r103 = false := Bool.eq_false_iff.2 c104
               refine Chain.sub (Sub.bool 137 (b := r103) rfl c104_) ?_
               refine Chain.sub (S' := mk 164 [] [(12, .ptr 12 0 0), (20, .d (.lit (.func (.func 47) #[] #[]))), (130, .d (.lit (.int .i64 v101))), (131, .d (.lit (.bool v51))), (137, .d (.lit (.bool false)))] [(12, some (.box [.ref 73 0 l50.length])), (73, some (.arr 3 1 (l50.map (cI .i64))))]) (by simp; exact Sub.table (by simp) (by simp)) ?_
               refine Chain.runQ 9 fun K hK => ?_; simp; refine hK _ _ ?_; clear hK K
               refine Chain.sub (S' := mk 164 [] [(130, .d (.lit (.int .i64 v101))), (131, .d (.lit (.bool v51))), (146, .d (.lit (.bool false)))] []) Sub.tt ?_
               replace h := bsome h; obtain ⟨r107, hr107, h⟩ := h
               refine Chain.callL (d := 147) (p48 N v101 v51 false r107 hr107) (by simp) rfl rfl (by simp <;> rfl) (by simp <;> rfl) ent48 (by simp <;> rfl) ?_
               refine Chain.sub (S' := mk 164 [] [(130, .d (.lit (.int .i64 v101))), (131, .d (.lit (.bool v51))), (146, .d (.lit (.bool false))), (147, .tup [.d (.lit (.int .i64 r107.1)), .d (.lit (.bool r107.2.1)), .d (.lit (.int .i64 r107.2.2))])] []) (by simp; exact Sub.table (by simp) (by simp)) ?_
               refine Chain.runQ 6 fun K hK => ?_; simp; refine hK _ _ ?_; clear hK K
               refine Chain.sub (S' := mk 164 [] [(6, .d (.lit (.int .i64 r107.1))), (7, .d (.lit (.bool r107.2.1))), (8, .d (.lit (.int .i64 r107.2.2)))] []) Sub.tt ?_
               cases h
               exact Chain.nil Sub.tt
             ·clear hj
              refine AW.ret ?_
              cases h
              refine blockQ.ret ?_
              refine thenQ_pass (by simp) ?_
              exact FinC.ret (by simp) (by simp)
            ·have c86_ : decide (a2.Name = (ByteArray.mk #[105, 102])) = false := Bool.eq_false_iff.2 c86
             refine AW.condF (b := decide (a2.Name = (ByteArray.mk #[105, 102]))) rfl c86_ ?_
             refine AW.sub (Sub.bool 122 (b := decide (a2.Name = (ByteArray.mk #[105, 102]))) rfl c86_) ?_
             refine AW.sub (S' := mk 164 [] [(12, .ptr 12 0 0), (13, .d (.lit (.bool v51))), (20, .d (.lit (.func (.func 47) #[] #[]))), (122, .d (.lit (.bool false)))] [(12, some (.box [.ref 73 0 l50.length])), (73, some (.arr 3 1 (l50.map (cI .i64))))]) (by simp; exact Sub.table (by simp) (by simp)) ?_
             refine AW.skip ?_
             refine blockQ.normal ?_
             refine thenQ_normal ?_
             refine AW.seqQ (by kernel_rfl) (by kernel_rfl) ?_
             replace h := bsome h; obtain ⟨x108, hx108, h⟩ := h
             obtain ⟨hx108, hx108b, hx108c⟩ := idx_someN (n := 0) hx108
             have hx108d : (0 : Int) < (l50.length : Int) := by omega
             replace h := bsome h; obtain ⟨x109, hx109, h⟩ := h
             obtain ⟨hx109, hx109b, hx109c⟩ := idx_someN (n := 1) hx109
             have hx109d : (1 : Int) < (l50.length : Int) := by omega
             refine Chain.runQ 8 fun K hK => ?_; simp [hx108b, hx108c, hx109b, hx109c, hx109d]; refine hK _ _ ?_; clear hK K
             refine Chain.sub (S' := mk 164 [] [(151, .d (.lit (.bool v51))), (152, .d (.lit (.func (.func 47) #[] #[]))), (155, .d (.lit (.int .i64 x108))), (158, .d (.lit (.int .i64 x109)))] []) Sub.tt ?_
             replace h := bsome h; obtain ⟨r110, hr110, h⟩ := h
             refine Chain.callL (d := 159) (p47 N x108 x109 r110 hr110) (by simp) rfl rfl (by simp <;> rfl) (by simp <;> rfl) ent47 (by simp <;> rfl) ?_
             refine Chain.sub (S' := mk 164 [] [(151, .d (.lit (.bool v51))), (152, .d (.lit (.func (.func 47) #[] #[]))), (155, .d (.lit (.int .i64 x108))), (158, .d (.lit (.int .i64 x109))), (159, .d (.lit (.bool r110)))] []) (by simp; exact Sub.table (by simp) (by simp)) ?_
             replace h := bsome h; obtain ⟨r111, hr111, h⟩ := h
             refine Chain.callL (d := 160) (p48 N 2 v51 r110 r111 hr111) (by simp) rfl rfl (by simp <;> rfl) (by simp <;> rfl) ent48 (by simp <;> rfl) ?_
             refine Chain.sub (S' := mk 164 [] [(151, .d (.lit (.bool v51))), (152, .d (.lit (.func (.func 47) #[] #[]))), (155, .d (.lit (.int .i64 x108))), (158, .d (.lit (.int .i64 x109))), (159, .d (.lit (.bool r110))), (160, .tup [.d (.lit (.int .i64 r111.1)), .d (.lit (.bool r111.2.1)), .d (.lit (.int .i64 r111.2.2))])] []) (by simp; exact Sub.table (by simp) (by simp)) ?_
             refine Chain.runQ 6 fun K hK => ?_; simp; refine hK _ _ ?_; clear hK K
             refine Chain.sub (S' := mk 164 [] [(6, .d (.lit (.int .i64 r111.1))), (7, .d (.lit (.bool r111.2.1))), (8, .d (.lit (.int .i64 r111.2.2)))] []) Sub.tt ?_
             refine Chain.nil ?_
             refine AW.ret ?_
             cases h
             exact FinC.ret (by simp) (by simp)
theorem p17 (N : Nat) : ∀ (a0 : (List S46)) (a1 : (List S46)) (a2 : S27) (r : (Int × Bool × Int)) (_ : d17 N a0 a1 a2 = some r), FunC Try.prog 17 [.d (.sl (a0.map cS46)), .d (.sl (a1.map cS46)), .agg [.d (.lit (.int .i64 a2.Kind)), .d (.lit (.string a2.Name)), .d (.lit (.int .i64 a2.Index)), .d (.lit (.int .i64 a2.Value.Kind)), .d (.lit (.int .i64 a2.Value.Int)), .d (.lit (.string a2.Value.Text)), .d (.sl (a2.Args.map cS27))]] (.tup [.d (.lit (.int .i64 r.1)), .d (.lit (.bool r.2.1)), .d (.lit (.int .i64 r.2.2))]) := (pg17_32 N).1
theorem p32 (N : Nat) : ∀ (a0 : (List S46)) (a1 : (List S46)) (a2 : S27) (r : (Int × Bool × Int)) (_ : d32 N a0 a1 a2 = some r), FunC Try.prog 32 [.d (.sl (a0.map cS46)), .d (.sl (a1.map cS46)), .agg [.d (.lit (.int .i64 a2.Kind)), .d (.lit (.string a2.Name)), .d (.lit (.int .i64 a2.Index)), .d (.lit (.int .i64 a2.Value.Kind)), .d (.lit (.int .i64 a2.Value.Int)), .d (.lit (.string a2.Value.Text)), .d (.sl (a2.Args.map cS27))]] (.tup [.d (.lit (.int .i64 r.1)), .d (.lit (.bool r.2.1)), .d (.lit (.int .i64 r.2.2))]) := (pg17_32 N).2

end Go.Proofs.Ytacafkegbgmnoaa
