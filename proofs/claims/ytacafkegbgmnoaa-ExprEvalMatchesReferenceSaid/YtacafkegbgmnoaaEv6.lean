/- Functions of the program as functional programs; the code computes them. -/
import Derived.Test.YtacafkegbgmnoaaEv5
namespace Go.Proofs.Ytacafkegbgmnoaa
open Go.Ab Go.Rp
attribute [-simp] List.all_eq_true Array.all_toList Array.all_eq_true

/-- stemma/expr.Size -/
def d16 : (N : Nat) → (a0 : S27) → Option (Int × Int)
 | 0, _ => none
 | N + 1, a0 =>
  Option.bind (α := (Int × Int)) (
   iterN (σ := (Int × Int × Int)) (ρ := (Int × Int)) (fun ((v7, v8, v9) : (Int × Int × Int)) =>
    if v9 < (a0.Args.length : Int) then (
     (idx a0.Args v9).bind fun x30 =>
     (d16 N x30).bind fun r32 =>
     (chkI (v7 + r32.1)).bind fun v33 =>
     letv (maxI v8 r32.2) fun v34 =>
     (chkI (v9 + 1)).bind fun v35 =>
     some (.inl (v33, v34, v35))
    ) else
    some (.inr (v7, v8))
   ) N (1, 0, 0)
  ) fun ((v27, v28) : (Int × Int)) =>
  (chkI (v28 + 1)).bind fun v36 =>
  some (v27, v36)
set_option maxRecDepth 100000 in
set_option maxHeartbeats 4000000 in
theorem p16 (N : Nat) : ∀ (a0 : S27) (r : (Int × Int)) (_ : d16 N a0 = some r), FunC Try.prog 16 [.agg [.d (.lit (.int .i64 a0.Kind)), .d (.lit (.string a0.Name)), .d (.lit (.int .i64 a0.Index)), .d (.lit (.int .i64 a0.Value.Kind)), .d (.lit (.int .i64 a0.Value.Int)), .d (.lit (.string a0.Value.Text)), .d (.sl (a0.Args.map cS27))]] (.tup [.d (.lit (.int .i64 r.1)), .d (.lit (.int .i64 r.2))]) := by
 induction N with
 | zero => intro a0 r h; cases h
 | succ N ih =>
 intro a0 r h
 unfold d16 at h
 refine FunC.enter 32 [(0, .agg [.d (.lit (.int .i64 a0.Kind)), .d (.lit (.string a0.Name)), .d (.lit (.int .i64 a0.Index)), .d (.lit (.int .i64 a0.Value.Kind)), .d (.lit (.int .i64 a0.Value.Int)), .d (.lit (.string a0.Value.Text)), .d (.sl (a0.Args.map cS27))])] (by simp) Try.func16 rfl (of_decide_eq_true rfl) rfl rfl ?_
 refine AW.seqR ?_
 refine Chain.runK [] 3 fun K hK => ?_; simp; refine hK _ _ ?_; clear hK K
 refine Chain.sub (S' := mk 32 [] [(1, .ptr 1 0 0)] [(1, some (.box [.d (.lit (.int .i64 a0.Kind)), .d (.lit (.string a0.Name)), .d (.lit (.int .i64 a0.Index)), .d (.lit (.int .i64 a0.Value.Kind)), .d (.lit (.int .i64 a0.Value.Int)), .d (.lit (.string a0.Value.Text)), .d (.sl (a0.Args.map cS27))]))]) Sub.tt ?_
 refine Chain.nil ?_
 refine AW.seqR ?_
 refine Chain.runK [] 2 fun K hK => ?_; simp; refine hK _ _ ?_; clear hK K
 refine Chain.sub (S' := mk 32 [] [(1, .ptr 1 0 0), (4, .d (.lit (.int .i64 1))), (5, .d (.lit (.int .i64 0)))] [(1, some (.box [.d (.lit (.int .i64 a0.Kind)), .d (.lit (.string a0.Name)), .d (.lit (.int .i64 a0.Index)), .d (.lit (.int .i64 a0.Value.Kind)), .d (.lit (.int .i64 a0.Value.Int)), .d (.lit (.string a0.Value.Text)), .d (.sl (a0.Args.map cS27))]))]) Sub.tt ?_
 refine Chain.nil ?_
 refine AW.seq ?_
 refine AW.seqR ?_
 refine Chain.runK [] 4 fun K hK => ?_; simp; refine hK _ _ ?_; clear hK K
 refine Chain.sub (S' := mk 32 [] [(4, .d (.lit (.int .i64 1))), (5, .d (.lit (.int .i64 0))), (11, .d (.sl (a0.Args.map cS27))), (12, .d (.lit (.int .i64 (a0.Args.length : Int)))), (13, .d (.lit (.int .i64 0)))] []) Sub.tt ?_
 refine Chain.nil ?_
 refine AW.lastN (fun ((v27, v28) : (Int × Int)) => mk 32 [] [(4, .d (.lit (.int .i64 v27))), (5, .d (.lit (.int .i64 v28)))] []) h ?_ ?_ <;> clear h
 ·intro o h
  refine AW.block ?_
  refine AW.iter (fun ((v7, v8, v9) : (Int × Int × Int)) => mk 32 [] [(4, .d (.lit (.int .i64 v7))), (5, .d (.lit (.int .i64 v8))), (11, .d (.sl (a0.Args.map cS27))), (12, .d (.lit (.int .i64 (a0.Args.length : Int)))), (13, .d (.lit (.int .i64 v9)))] []) h Sub.tt ?_
  clear h
  rintro ⟨v7, v8, v9⟩ x h
  dsimp only at h ⊢
  refine AW.seqR ?_
  refine Chain.runK [] 1 fun K hK => ?_; simp; refine hK _ _ ?_; clear hK K
  refine Chain.sub (S' := mk 32 [] [(4, .d (.lit (.int .i64 v7))), (5, .d (.lit (.int .i64 v8))), (11, .d (.sl (a0.Args.map cS27))), (12, .d (.lit (.int .i64 (a0.Args.length : Int)))), (13, .d (.lit (.int .i64 v9))), (14, .d (.lit (.bool (decide (v9 < (a0.Args.length : Int))))))] []) Sub.tt ?_
  refine Chain.nil ?_
  refine AW.seq ?_
  replace h := isome h; rcases h with ⟨c29, h⟩ | ⟨c29, h⟩
  ·have c29_ : decide (v9 < (a0.Args.length : Int)) = true := decide_eq_true c29
   refine AW.condT (b := decide (v9 < (a0.Args.length : Int))) rfl c29_ ?_
   refine AW.sub (Sub.bool 14 (b := decide (v9 < (a0.Args.length : Int))) rfl c29_) ?_
   refine AW.sub (S' := mk 32 [] [(4, .d (.lit (.int .i64 v7))), (5, .d (.lit (.int .i64 v8))), (11, .d (.sl (a0.Args.map cS27))), (12, .d (.lit (.int .i64 (a0.Args.length : Int)))), (13, .d (.lit (.int .i64 v9))), (14, .d (.lit (.bool true)))] []) (by simp; exact Sub.table (by simp) (by simp)) ?_
   refine AW.skip ?_
   refine thenQ_normal ?_
   refine AW.seq ?_
   refine AW.block ?_
   refine AW.seqR ?_
   replace h := bsome h; obtain ⟨x30, hx30, h⟩ := h
   obtain ⟨k31, hx30k, hx30, hx30a, hx30b⟩ := idx_some hx30
   refine Chain.runK [] 4 fun K hK => ?_; simp [hx30, hx30k, hx30a]; refine hK _ _ ?_; clear hK K
   refine Chain.sub (S' := mk 32 [] [(4, .d (.lit (.int .i64 v7))), (5, .d (.lit (.int .i64 v8))), (7, .ptr 7 0 0), (11, .d (.sl (a0.Args.map cS27))), (12, .d (.lit (.int .i64 (a0.Args.length : Int)))), (13, .d (.lit (.int .i64 v9)))] [(7, some (.box [.d (.lit (.int .i64 x30.Kind)), .d (.lit (.string x30.Name)), .d (.lit (.int .i64 x30.Index)), .d (.lit (.int .i64 x30.Value.Kind)), .d (.lit (.int .i64 x30.Value.Int)), .d (.lit (.string x30.Value.Text)), .d (.sl (x30.Args.map cS27))]))]) Sub.tt ?_
   refine Chain.nil ?_
   refine AW.seqR ?_
   refine Chain.runK [] 1 fun K hK => ?_; simp; refine hK _ _ ?_; clear hK K
   refine Chain.sub (S' := mk 32 [] [(4, .d (.lit (.int .i64 v7))), (5, .d (.lit (.int .i64 v8))), (11, .d (.sl (a0.Args.map cS27))), (12, .d (.lit (.int .i64 (a0.Args.length : Int)))), (13, .d (.lit (.int .i64 v9))), (18, .agg [.d (.lit (.int .i64 x30.Kind)), .d (.lit (.string x30.Name)), .d (.lit (.int .i64 x30.Index)), .d (.lit (.int .i64 x30.Value.Kind)), .d (.lit (.int .i64 x30.Value.Int)), .d (.lit (.string x30.Value.Text)), .d (.sl (x30.Args.map cS27))])] []) Sub.tt ?_
   replace h := bsome h; obtain ⟨r32, hr32, h⟩ := h
   refine Chain.callL (d := 19) (ih x30 r32 hr32) (by simp) rfl rfl (by simp <;> rfl) (by simp <;> rfl) ent16 (by simp <;> rfl) ?_
   refine Chain.sub (S' := mk 32 [] [(4, .d (.lit (.int .i64 v7))), (5, .d (.lit (.int .i64 v8))), (11, .d (.sl (a0.Args.map cS27))), (12, .d (.lit (.int .i64 (a0.Args.length : Int)))), (13, .d (.lit (.int .i64 v9))), (18, .agg [.d (.lit (.int .i64 x30.Kind)), .d (.lit (.string x30.Name)), .d (.lit (.int .i64 x30.Index)), .d (.lit (.int .i64 x30.Value.Kind)), .d (.lit (.int .i64 x30.Value.Int)), .d (.lit (.string x30.Value.Text)), .d (.sl (x30.Args.map cS27))]), (19, .tup [.d (.lit (.int .i64 r32.1)), .d (.lit (.int .i64 r32.2))])] []) (by simp; exact Sub.table (by simp) (by simp)) ?_
   refine Chain.runK [] 5 fun K hK => ?_; simp; refine hK _ _ ?_; clear hK K
   refine Chain.sub (S' := mk 32 [] [(4, .d (.lit (.int .i64 v7))), (5, .d (.lit (.int .i64 v8))), (8, .d (.lit (.int .i64 r32.1))), (9, .d (.lit (.int .i64 r32.2))), (11, .d (.sl (a0.Args.map cS27))), (12, .d (.lit (.int .i64 (a0.Args.length : Int)))), (13, .d (.lit (.int .i64 v9)))] []) Sub.tt ?_
   refine Chain.nil ?_
   refine AW.region ?_
   replace h := bsome h; obtain ⟨v33, hv33, h⟩ := h
   have hv33 := chkI_some hv33
   replace h := lsome h; obtain ⟨v34, hv34, h⟩ := h
   unfold maxI at hv34
   refine Chain.runK [] 8 fun K hK => ?_; simp [hv33, hv34]; refine hK _ _ ?_; clear hK K
   refine Chain.sub (S' := mk 32 [] [(4, .d (.lit (.int .i64 v33))), (5, .d (.lit (.int .i64 v34))), (11, .d (.sl (a0.Args.map cS27))), (12, .d (.lit (.int .i64 (a0.Args.length : Int)))), (13, .d (.lit (.int .i64 v9)))] []) Sub.tt ?_
   refine Chain.nil ?_
   refine blockQ.normal ?_
   refine thenQ_normal ?_
   refine AW.region ?_
   replace h := bsome h; obtain ⟨v35, hv35, h⟩ := h
   have hv35 := chkI_some hv35
   refine Chain.runK [] 2 fun K hK => ?_; simp [hv35]; refine hK _ _ ?_; clear hK K
   refine Chain.sub (S' := mk 32 [] [(4, .d (.lit (.int .i64 v33))), (5, .d (.lit (.int .i64 v34))), (11, .d (.sl (a0.Args.map cS27))), (12, .d (.lit (.int .i64 (a0.Args.length : Int)))), (13, .d (.lit (.int .i64 v35)))] []) Sub.tt ?_
   refine Chain.nil ?_
   cases h
   refine PostI.next ?_
   exact Sub.tt
  ·have c29_ : decide (v9 < (a0.Args.length : Int)) = false := decide_eq_false c29
   refine AW.condF (b := decide (v9 < (a0.Args.length : Int))) rfl c29_ ?_
   refine AW.sub (Sub.bool 14 (b := decide (v9 < (a0.Args.length : Int))) rfl c29_) ?_
   refine AW.sub (S' := mk 32 [] [(4, .d (.lit (.int .i64 v7))), (5, .d (.lit (.int .i64 v8))), (11, .d (.sl (a0.Args.map cS27))), (12, .d (.lit (.int .i64 (a0.Args.length : Int)))), (13, .d (.lit (.int .i64 v9))), (14, .d (.lit (.bool false)))] []) (by simp; exact Sub.table (by simp) (by simp)) ?_
   refine AW.exit ?_
   cases h
   refine thenQ_pass (by simp) ?_
   refine PostI.out (by simp) ?_
   rintro rfl
   refine blockQ.hit ?_
   refine PostN.next ?_
   exact Sub.tt
 ·rintro ⟨v27, v28⟩ h
  dsimp only at h ⊢
  refine thenQ_normal ?_
  refine AW.seqR ?_
  replace h := bsome h; obtain ⟨v36, hv36, h⟩ := h
  have hv36 := chkI_some hv36
  refine Chain.runK [] 5 fun K hK => ?_; simp [hv36]; refine hK _ _ ?_; clear hK K
  refine Chain.sub (S' := mk 32 [] [(2, .d (.lit (.int .i64 v27))), (3, .d (.lit (.int .i64 v36)))] []) Sub.tt ?_
  refine Chain.nil ?_
  refine AW.ret ?_
  cases h
  exact FinC.ret (by simp) (by simp)

/-- stemma/expr.ValidValue -/
def d29 (_N : Nat) (a0 : S24) : Option Bool :=
 if (a0.Kind == 0) then (
  some (beqS24 a0 (S24.mk 0 0 (ByteArray.mk #[])))
 ) else
 if (a0.Kind == 1) then (
  Option.bind (α := Bool) (
   if decide (a0.Text = (ByteArray.mk #[])) = true then (
    if a0.Int ≥ (-1000000000000) then (
     some (decide (a0.Int ≤ 1000000000000))
    ) else
    some false
   ) else
   some false
  ) fun (v5 : Bool) =>
  some v5
 ) else
 if (a0.Kind == 2) then (
  Option.bind (α := Bool) (
   if decide (a0.Text = (ByteArray.mk #[])) = true then (
    if (a0.Int == 0) then (
     some true
    ) else
    some (a0.Int == 1)
   ) else
   some false
  ) fun (v11 : Bool) =>
  some v11
 ) else
 if (a0.Kind == 3) then (
  Option.bind (α := Bool) (
   if (a0.Int == 0) then (
    some (decide ((a0.Text.size : Int) ≤ 24))
   ) else
   some false
  ) fun (v16 : Bool) =>
  some v16
 ) else
 some false
set_option maxRecDepth 100000 in
set_option maxHeartbeats 4000000 in
theorem p29 (N : Nat) (a0 : S24) (r : Bool) (h : d29 N a0 = some r) : FunC Try.prog 29 [.agg [.d (.lit (.int .i64 a0.Kind)), .d (.lit (.int .i64 a0.Int)), .d (.lit (.string a0.Text))]] (.d (.lit (.bool r))) := by
 unfold d29 at h
 refine FunC.enter 51 [(0, .agg [.d (.lit (.int .i64 a0.Kind)), .d (.lit (.int .i64 a0.Int)), .d (.lit (.string a0.Text))])] (by simp) Try.func29 rfl (of_decide_eq_true rfl) rfl rfl ?_
 refine AW.seqR ?_
 refine Chain.runK [] 2 fun K hK => ?_; simp; refine hK _ _ ?_; clear hK K
 refine Chain.sub (S' := mk 51 [] [(1, .ptr 1 0 0)] [(1, some (.box [.d (.lit (.int .i64 a0.Kind)), .d (.lit (.int .i64 a0.Int)), .d (.lit (.string a0.Text))]))]) Sub.tt ?_
 refine Chain.nil ?_
 refine AW.seq ?_
 refine AW.seqR ?_
 refine Chain.runK [] 2 fun K hK => ?_; simp; refine hK _ _ ?_; clear hK K
 refine Chain.sub (S' := mk 51 [] [(1, .ptr 1 0 0), (4, .d (.lit (.int .i64 a0.Kind)))] [(1, some (.box [.d (.lit (.int .i64 a0.Kind)), .d (.lit (.int .i64 a0.Int)), .d (.lit (.string a0.Text))]))]) Sub.tt ?_
 refine Chain.nil ?_
 refine AW.block ?_
 refine AW.seqR ?_
 refine Chain.runK [] 2 fun K hK => ?_; simp; refine hK _ _ ?_; clear hK K
 refine Chain.sub (S' := mk 51 [] [(1, .ptr 1 0 0), (4, .d (.lit (.int .i64 a0.Kind))), (5, .d (.lit (.bool (a0.Kind == 0))))] [(1, some (.box [.d (.lit (.int .i64 a0.Kind)), .d (.lit (.int .i64 a0.Int)), .d (.lit (.string a0.Text))]))]) Sub.tt ?_
 refine Chain.nil ?_
 replace h := isome h; rcases h with ⟨c1, h⟩ | ⟨c1, h⟩
 ·have c1_ : (a0.Kind == 0) = true := c1
  refine AW.condT (b := (a0.Kind == 0)) rfl c1_ ?_
  refine AW.sub (Sub.bool 5 (b := (a0.Kind == 0)) rfl c1_) ?_
  refine AW.sub (S' := mk 51 [] [(1, .ptr 1 0 0), (4, .d (.lit (.int .i64 a0.Kind))), (5, .d (.lit (.bool true)))] [(1, some (.box [.d (.lit (.int .i64 a0.Kind)), .d (.lit (.int .i64 a0.Int)), .d (.lit (.string a0.Text))]))]) (by simp; exact Sub.table (by simp) (by simp)) ?_
  refine AW.seqR ?_
  refine Chain.runK [] 2 fun K hK => ?_; simp; refine hK _ _ ?_; clear hK K
  refine Chain.sub (S' := mk 51 [] [(7, .agg [.d (.lit (.int .i64 a0.Kind)), .d (.lit (.int .i64 a0.Int)), .d (.lit (.string a0.Text))]), (8, .agg [.d (.lit (.int .i64 0)), .d (.lit (.int .i64 0)), .d (.lit (.string (ByteArray.mk #[])))])] []) Sub.tt ?_
  refine Chain.pureP (by simp) (pure_eqA false rfl rfl rfl rfl (by kernel_rfl) (eqv24 a0 (S24.mk 0 0 (ByteArray.mk #[])))) ?_
  refine Chain.sub (S' := mk 51 [] [(7, .agg [.d (.lit (.int .i64 a0.Kind)), .d (.lit (.int .i64 a0.Int)), .d (.lit (.string a0.Text))]), (8, .agg [.d (.lit (.int .i64 0)), .d (.lit (.int .i64 0)), .d (.lit (.string (ByteArray.mk #[])))]), (9, .d (.lit (.bool (beqS24 a0 (S24.mk 0 0 (ByteArray.mk #[]))))))] []) (by simp; exact Sub.table (by simp) (by simp)) ?_
  refine Chain.runK [] 1 fun K hK => ?_; simp; refine hK _ _ ?_; clear hK K
  refine Chain.sub (S' := mk 51 [] [(2, .d (.lit (.bool (beqS24 a0 (S24.mk 0 0 (ByteArray.mk #[]))))))] []) Sub.tt ?_
  refine Chain.nil ?_
  refine AW.ret ?_
  cases h
  refine blockQ.ret ?_
  refine thenQ_pass (by simp) ?_
  exact FinC.ret (by simp) (by simp)
 ·have c1_ : (a0.Kind == 0) = false := Bool.eq_false_iff.2 c1
  refine AW.condF (b := (a0.Kind == 0)) rfl c1_ ?_
  refine AW.sub (Sub.bool 5 (b := (a0.Kind == 0)) rfl c1_) ?_
  refine AW.sub (S' := mk 51 [] [(1, .ptr 1 0 0), (4, .d (.lit (.int .i64 a0.Kind))), (5, .d (.lit (.bool false)))] [(1, some (.box [.d (.lit (.int .i64 a0.Kind)), .d (.lit (.int .i64 a0.Int)), .d (.lit (.string a0.Text))]))]) (by simp; exact Sub.table (by simp) (by simp)) ?_
  refine AW.seqR ?_
  refine Chain.runK [] 2 fun K hK => ?_; simp; refine hK _ _ ?_; clear hK K
  refine Chain.sub (S' := mk 51 [] [(1, .ptr 1 0 0), (4, .d (.lit (.int .i64 a0.Kind))), (10, .d (.lit (.bool (a0.Kind == 1))))] [(1, some (.box [.d (.lit (.int .i64 a0.Kind)), .d (.lit (.int .i64 a0.Int)), .d (.lit (.string a0.Text))]))]) Sub.tt ?_
  refine Chain.nil ?_
  replace h := isome h; rcases h with ⟨c2, h⟩ | ⟨c2, h⟩
  ·have c2_ : (a0.Kind == 1) = true := c2
   refine AW.condT (b := (a0.Kind == 1)) rfl c2_ ?_
   refine AW.sub (Sub.bool 10 (b := (a0.Kind == 1)) rfl c2_) ?_
   refine AW.sub (S' := mk 51 [] [(1, .ptr 1 0 0), (4, .d (.lit (.int .i64 a0.Kind))), (10, .d (.lit (.bool true)))] [(1, some (.box [.d (.lit (.int .i64 a0.Kind)), .d (.lit (.int .i64 a0.Int)), .d (.lit (.string a0.Text))]))]) (by simp; exact Sub.table (by simp) (by simp)) ?_
   replace h := bsome h; obtain ⟨v5, hj, h⟩ := h
   refine AW.cutR (mk 51 [] [(2, .d (.lit (.bool v5)))] []) ?_ ?_
   ·clear h; have h := hj; clear hj
    refine Chain.runK [] 4 fun K hK => ?_; simp; refine hK _ _ ?_; clear hK K
    refine Chain.sub (S' := mk 51 [] [(1, .ptr 1 0 0), (15, .d (.lit (.bool (decide (a0.Text = (ByteArray.mk #[]))))))] [(1, some (.box [.d (.lit (.int .i64 a0.Kind)), .d (.lit (.int .i64 a0.Int)), .d (.lit (.string a0.Text))]))]) Sub.tt ?_
    replace h := isome h; rcases h with ⟨c6, h⟩ | ⟨c6, h⟩
    ·have c6_ : decide (a0.Text = (ByteArray.mk #[])) = true := c6
     refine Chain.sub (Sub.bool 15 (b := decide (a0.Text = (ByteArray.mk #[]))) rfl c6_) ?_
     refine Chain.sub (S' := mk 51 [] [(1, .ptr 1 0 0), (15, .d (.lit (.bool true)))] [(1, some (.box [.d (.lit (.int .i64 a0.Kind)), .d (.lit (.int .i64 a0.Int)), .d (.lit (.string a0.Text))]))]) (by simp; exact Sub.table (by simp) (by simp)) ?_
     refine Chain.runK [] 5 fun K hK => ?_; simp; refine hK _ _ ?_; clear hK K
     refine Chain.sub (S' := mk 51 [] [(1, .ptr 1 0 0), (20, .d (.lit (.bool (decide (a0.Int ≥ (-1000000000000))))))] [(1, some (.box [.d (.lit (.int .i64 a0.Kind)), .d (.lit (.int .i64 a0.Int)), .d (.lit (.string a0.Text))]))]) Sub.tt ?_
     replace h := isome h; rcases h with ⟨c7, h⟩ | ⟨c7, h⟩
     ·have c7_ : decide (a0.Int ≥ (-1000000000000)) = true := decide_eq_true c7
      refine Chain.sub (Sub.bool 20 (b := decide (a0.Int ≥ (-1000000000000))) rfl c7_) ?_
      refine Chain.sub (S' := mk 51 [] [(1, .ptr 1 0 0), (20, .d (.lit (.bool true)))] [(1, some (.box [.d (.lit (.int .i64 a0.Kind)), .d (.lit (.int .i64 a0.Int)), .d (.lit (.string a0.Text))]))]) (by simp; exact Sub.table (by simp) (by simp)) ?_
      refine Chain.runK [] 5 fun K hK => ?_; simp; refine hK _ _ ?_; clear hK K
      refine Chain.sub (S' := mk 51 [] [(2, .d (.lit (.bool (decide (a0.Int ≤ 1000000000000)))))] []) Sub.tt ?_
      cases h
      exact Chain.nil Sub.tt
     ·have c7_ : decide (a0.Int ≥ (-1000000000000)) = false := decide_eq_false c7
      refine Chain.sub (Sub.bool 20 (b := decide (a0.Int ≥ (-1000000000000))) rfl c7_) ?_
      refine Chain.sub (S' := mk 51 [] [(1, .ptr 1 0 0), (20, .d (.lit (.bool false)))] [(1, some (.box [.d (.lit (.int .i64 a0.Kind)), .d (.lit (.int .i64 a0.Int)), .d (.lit (.string a0.Text))]))]) (by simp; exact Sub.table (by simp) (by simp)) ?_
      refine Chain.runK [] 5 fun K hK => ?_; simp; refine hK _ _ ?_; clear hK K
      refine Chain.sub (S' := mk 51 [] [(2, .d (.lit (.bool false)))] []) Sub.tt ?_
      cases h
      exact Chain.nil Sub.tt
    ·have c6_ : decide (a0.Text = (ByteArray.mk #[])) = false := Bool.eq_false_iff.2 c6
     refine Chain.sub (Sub.bool 15 (b := decide (a0.Text = (ByteArray.mk #[]))) rfl c6_) ?_
     refine Chain.sub (S' := mk 51 [] [(1, .ptr 1 0 0), (15, .d (.lit (.bool false)))] [(1, some (.box [.d (.lit (.int .i64 a0.Kind)), .d (.lit (.int .i64 a0.Int)), .d (.lit (.string a0.Text))]))]) (by simp; exact Sub.table (by simp) (by simp)) ?_
     refine Chain.runK [] 10 fun K hK => ?_; simp; refine hK _ _ ?_; clear hK K
     refine Chain.sub (S' := mk 51 [] [(2, .d (.lit (.bool false)))] []) Sub.tt ?_
     cases h
     exact Chain.nil Sub.tt
   ·clear hj
    refine AW.ret ?_
    cases h
    refine blockQ.ret ?_
    refine thenQ_pass (by simp) ?_
    exact FinC.ret (by simp) (by simp)
  ·have c2_ : (a0.Kind == 1) = false := Bool.eq_false_iff.2 c2
   refine AW.condF (b := (a0.Kind == 1)) rfl c2_ ?_
   refine AW.sub (Sub.bool 10 (b := (a0.Kind == 1)) rfl c2_) ?_
   refine AW.sub (S' := mk 51 [] [(1, .ptr 1 0 0), (4, .d (.lit (.int .i64 a0.Kind))), (10, .d (.lit (.bool false)))] [(1, some (.box [.d (.lit (.int .i64 a0.Kind)), .d (.lit (.int .i64 a0.Int)), .d (.lit (.string a0.Text))]))]) (by simp; exact Sub.table (by simp) (by simp)) ?_
   refine AW.seqR ?_
   refine Chain.runK [] 2 fun K hK => ?_; simp; refine hK _ _ ?_; clear hK K
   refine Chain.sub (S' := mk 51 [] [(1, .ptr 1 0 0), (4, .d (.lit (.int .i64 a0.Kind))), (25, .d (.lit (.bool (a0.Kind == 2))))] [(1, some (.box [.d (.lit (.int .i64 a0.Kind)), .d (.lit (.int .i64 a0.Int)), .d (.lit (.string a0.Text))]))]) Sub.tt ?_
   refine Chain.nil ?_
   replace h := isome h; rcases h with ⟨c8, h⟩ | ⟨c8, h⟩
   ·have c8_ : (a0.Kind == 2) = true := c8
    refine AW.condT (b := (a0.Kind == 2)) rfl c8_ ?_
    refine AW.sub (Sub.bool 25 (b := (a0.Kind == 2)) rfl c8_) ?_
    refine AW.sub (S' := mk 51 [] [(1, .ptr 1 0 0), (4, .d (.lit (.int .i64 a0.Kind))), (25, .d (.lit (.bool true)))] [(1, some (.box [.d (.lit (.int .i64 a0.Kind)), .d (.lit (.int .i64 a0.Int)), .d (.lit (.string a0.Text))]))]) (by simp; exact Sub.table (by simp) (by simp)) ?_
    replace h := bsome h; obtain ⟨v11, hj, h⟩ := h
    refine AW.cutR (mk 51 [] [(2, .d (.lit (.bool v11)))] []) ?_ ?_
    ·clear h; have h := hj; clear hj
     refine Chain.runK [] 4 fun K hK => ?_; simp; refine hK _ _ ?_; clear hK K
     refine Chain.sub (S' := mk 51 [] [(1, .ptr 1 0 0), (30, .d (.lit (.bool (decide (a0.Text = (ByteArray.mk #[]))))))] [(1, some (.box [.d (.lit (.int .i64 a0.Kind)), .d (.lit (.int .i64 a0.Int)), .d (.lit (.string a0.Text))]))]) Sub.tt ?_
     replace h := isome h; rcases h with ⟨c12, h⟩ | ⟨c12, h⟩
     ·have c12_ : decide (a0.Text = (ByteArray.mk #[])) = true := c12
      refine Chain.sub (Sub.bool 30 (b := decide (a0.Text = (ByteArray.mk #[]))) rfl c12_) ?_
      refine Chain.sub (S' := mk 51 [] [(1, .ptr 1 0 0), (30, .d (.lit (.bool true)))] [(1, some (.box [.d (.lit (.int .i64 a0.Kind)), .d (.lit (.int .i64 a0.Int)), .d (.lit (.string a0.Text))]))]) (by simp; exact Sub.table (by simp) (by simp)) ?_
      refine Chain.runK [] 4 fun K hK => ?_; simp; refine hK _ _ ?_; clear hK K
      refine Chain.sub (S' := mk 51 [] [(1, .ptr 1 0 0), (30, .d (.lit (.bool true))), (34, .d (.lit (.bool (a0.Int == 0))))] [(1, some (.box [.d (.lit (.int .i64 a0.Kind)), .d (.lit (.int .i64 a0.Int)), .d (.lit (.string a0.Text))]))]) Sub.tt ?_
      replace h := isome h; rcases h with ⟨c13, h⟩ | ⟨c13, h⟩
      ·have c13_ : (a0.Int == 0) = true := c13
       refine Chain.sub (Sub.bool 34 (b := (a0.Int == 0)) rfl c13_) ?_
       refine Chain.sub (S' := mk 51 [] [(1, .ptr 1 0 0), (30, .d (.lit (.bool true))), (34, .d (.lit (.bool true)))] [(1, some (.box [.d (.lit (.int .i64 a0.Kind)), .d (.lit (.int .i64 a0.Int)), .d (.lit (.string a0.Text))]))]) (by simp; exact Sub.table (by simp) (by simp)) ?_
       refine Chain.runK [] 6 fun K hK => ?_; simp; refine hK _ _ ?_; clear hK K
       refine Chain.sub (S' := mk 51 [] [(2, .d (.lit (.bool true)))] []) Sub.tt ?_
       cases h
       exact Chain.nil Sub.tt
      ·have c13_ : (a0.Int == 0) = false := Bool.eq_false_iff.2 c13
       refine Chain.sub (Sub.bool 34 (b := (a0.Int == 0)) rfl c13_) ?_
       refine Chain.sub (S' := mk 51 [] [(1, .ptr 1 0 0), (30, .d (.lit (.bool true))), (34, .d (.lit (.bool false)))] [(1, some (.box [.d (.lit (.int .i64 a0.Kind)), .d (.lit (.int .i64 a0.Int)), .d (.lit (.string a0.Text))]))]) (by simp; exact Sub.table (by simp) (by simp)) ?_
       refine Chain.runK [] 6 fun K hK => ?_; simp; refine hK _ _ ?_; clear hK K
       refine Chain.sub (S' := mk 51 [] [(2, .d (.lit (.bool (a0.Int == 1))))] []) Sub.tt ?_
       cases h
       exact Chain.nil Sub.tt
     ·have c12_ : decide (a0.Text = (ByteArray.mk #[])) = false := Bool.eq_false_iff.2 c12
      refine Chain.sub (Sub.bool 30 (b := decide (a0.Text = (ByteArray.mk #[]))) rfl c12_) ?_
      refine Chain.sub (S' := mk 51 [] [(1, .ptr 1 0 0), (30, .d (.lit (.bool false)))] [(1, some (.box [.d (.lit (.int .i64 a0.Kind)), .d (.lit (.int .i64 a0.Int)), .d (.lit (.string a0.Text))]))]) (by simp; exact Sub.table (by simp) (by simp)) ?_
      refine Chain.runK [] 10 fun K hK => ?_; simp; refine hK _ _ ?_; clear hK K
      refine Chain.sub (S' := mk 51 [] [(2, .d (.lit (.bool false)))] []) Sub.tt ?_
      cases h
      exact Chain.nil Sub.tt
    ·clear hj
     refine AW.ret ?_
     cases h
     refine blockQ.ret ?_
     refine thenQ_pass (by simp) ?_
     exact FinC.ret (by simp) (by simp)
   ·have c8_ : (a0.Kind == 2) = false := Bool.eq_false_iff.2 c8
    refine AW.condF (b := (a0.Kind == 2)) rfl c8_ ?_
    refine AW.sub (Sub.bool 25 (b := (a0.Kind == 2)) rfl c8_) ?_
    refine AW.sub (S' := mk 51 [] [(1, .ptr 1 0 0), (4, .d (.lit (.int .i64 a0.Kind))), (25, .d (.lit (.bool false)))] [(1, some (.box [.d (.lit (.int .i64 a0.Kind)), .d (.lit (.int .i64 a0.Int)), .d (.lit (.string a0.Text))]))]) (by simp; exact Sub.table (by simp) (by simp)) ?_
    refine AW.seqR ?_
    refine Chain.runK [] 2 fun K hK => ?_; simp; refine hK _ _ ?_; clear hK K
    refine Chain.sub (S' := mk 51 [] [(1, .ptr 1 0 0), (40, .d (.lit (.bool (a0.Kind == 3))))] [(1, some (.box [.d (.lit (.int .i64 a0.Kind)), .d (.lit (.int .i64 a0.Int)), .d (.lit (.string a0.Text))]))]) Sub.tt ?_
    refine Chain.nil ?_
    replace h := isome h; rcases h with ⟨c14, h⟩ | ⟨c14, h⟩
    ·have c14_ : (a0.Kind == 3) = true := c14
     refine AW.condT (b := (a0.Kind == 3)) rfl c14_ ?_
     refine AW.sub (Sub.bool 40 (b := (a0.Kind == 3)) rfl c14_) ?_
     refine AW.sub (S' := mk 51 [] [(1, .ptr 1 0 0), (40, .d (.lit (.bool true)))] [(1, some (.box [.d (.lit (.int .i64 a0.Kind)), .d (.lit (.int .i64 a0.Int)), .d (.lit (.string a0.Text))]))]) (by simp; exact Sub.table (by simp) (by simp)) ?_
     replace h := bsome h; obtain ⟨v16, hj, h⟩ := h
     refine AW.cutR (mk 51 [] [(2, .d (.lit (.bool v16)))] []) ?_ ?_
     ·clear h; have h := hj; clear hj
      refine Chain.runK [] 4 fun K hK => ?_; simp; refine hK _ _ ?_; clear hK K
      refine Chain.sub (S' := mk 51 [] [(1, .ptr 1 0 0), (45, .d (.lit (.bool (a0.Int == 0))))] [(1, some (.box [.d (.lit (.int .i64 a0.Kind)), .d (.lit (.int .i64 a0.Int)), .d (.lit (.string a0.Text))]))]) Sub.tt ?_
      replace h := isome h; rcases h with ⟨c17, h⟩ | ⟨c17, h⟩
      ·have c17_ : (a0.Int == 0) = true := c17
       refine Chain.sub (Sub.bool 45 (b := (a0.Int == 0)) rfl c17_) ?_
       refine Chain.sub (S' := mk 51 [] [(1, .ptr 1 0 0), (45, .d (.lit (.bool true)))] [(1, some (.box [.d (.lit (.int .i64 a0.Kind)), .d (.lit (.int .i64 a0.Int)), .d (.lit (.string a0.Text))]))]) (by simp; exact Sub.table (by simp) (by simp)) ?_
       refine Chain.runK [] 6 fun K hK => ?_; simp; refine hK _ _ ?_; clear hK K
       refine Chain.sub (S' := mk 51 [] [(2, .d (.lit (.bool (decide ((a0.Text.size : Int) ≤ 24)))))] []) Sub.tt ?_
       cases h
       exact Chain.nil Sub.tt
      ·have c17_ : (a0.Int == 0) = false := Bool.eq_false_iff.2 c17
       refine Chain.sub (Sub.bool 45 (b := (a0.Int == 0)) rfl c17_) ?_
       refine Chain.sub (S' := mk 51 [] [(1, .ptr 1 0 0), (45, .d (.lit (.bool false)))] [(1, some (.box [.d (.lit (.int .i64 a0.Kind)), .d (.lit (.int .i64 a0.Int)), .d (.lit (.string a0.Text))]))]) (by simp; exact Sub.table (by simp) (by simp)) ?_
       refine Chain.runK [] 6 fun K hK => ?_; simp; refine hK _ _ ?_; clear hK K
       refine Chain.sub (S' := mk 51 [] [(2, .d (.lit (.bool false)))] []) Sub.tt ?_
       cases h
       exact Chain.nil Sub.tt
     ·clear hj
      refine AW.ret ?_
      cases h
      refine blockQ.ret ?_
      refine thenQ_pass (by simp) ?_
      exact FinC.ret (by simp) (by simp)
    ·have c14_ : (a0.Kind == 3) = false := Bool.eq_false_iff.2 c14
     refine AW.condF (b := (a0.Kind == 3)) rfl c14_ ?_
     refine AW.sub (Sub.bool 40 (b := (a0.Kind == 3)) rfl c14_) ?_
     refine AW.sub (S' := mk 51 [] [(1, .ptr 1 0 0), (40, .d (.lit (.bool false)))] [(1, some (.box [.d (.lit (.int .i64 a0.Kind)), .d (.lit (.int .i64 a0.Int)), .d (.lit (.string a0.Text))]))]) (by simp; exact Sub.table (by simp) (by simp)) ?_
     refine AW.skip ?_
     refine blockQ.normal ?_
     refine thenQ_normal ?_
     refine AW.seqR ?_
     refine Chain.runK [] 1 fun K hK => ?_; simp; refine hK _ _ ?_; clear hK K
     refine Chain.sub (S' := mk 51 [] [(2, .d (.lit (.bool false)))] []) Sub.tt ?_
     refine Chain.nil ?_
     refine AW.ret ?_
     cases h
     exact FinC.ret (by simp) (by simp)

/-- stemma/lexer.inner -/
def d42 (_N : Nat) (a0 : Int) : Option Bool :=
 Option.bind (α := Bool) (
  if a0 ≥ 97 then (
   if a0 ≤ 122 then (
    some true
   ) else
   if a0 ≥ 48 then (
    some (decide (a0 ≤ 57))
   ) else
   some false
  ) else
  if a0 ≥ 48 then (
   some (decide (a0 ≤ 57))
  ) else
  some false
 ) fun (v5 : Bool) =>
 some v5
set_option maxRecDepth 100000 in
set_option maxHeartbeats 4000000 in
theorem p42 (N : Nat) (a0 : Int) (r : Bool) (h : d42 N a0 = some r) : FunC Try.prog 42 [.d (.lit (.int .u8 a0))] (.d (.lit (.bool r))) := by
 unfold d42 at h
 refine FunC.enter 17 [(0, .d (.lit (.int .u8 a0)))] (by simp) Try.func42 rfl (of_decide_eq_true rfl) rfl rfl ?_
 refine AW.seqR ?_
 refine Chain.runK [] 1 fun K hK => ?_; simp; refine hK _ _ ?_; clear hK K
 refine Chain.sub (S' := mk 17 [] [(0, .d (.lit (.int .u8 a0)))] []) Sub.tt ?_
 refine Chain.nil ?_
 replace h := bsome h; obtain ⟨v5, hj, h⟩ := h
 refine AW.cutR (mk 17 [] [(2, .d (.lit (.bool v5)))] []) ?_ ?_
 ·clear h; have h := hj; clear hj
  refine Chain.runK [] 3 fun K hK => ?_; simp; refine hK _ _ ?_; clear hK K
  refine Chain.sub (S' := mk 17 [] [(0, .d (.lit (.int .u8 a0))), (5, .d (.lit (.bool (decide (a0 ≥ 97)))))] []) Sub.tt ?_
  replace h := isome h; rcases h with ⟨c6, h⟩ | ⟨c6, h⟩
  ·have c6_ : decide (a0 ≥ 97) = true := decide_eq_true c6
   refine Chain.sub (Sub.bool 5 (b := decide (a0 ≥ 97)) rfl c6_) ?_
   refine Chain.sub (S' := mk 17 [] [(0, .d (.lit (.int .u8 a0))), (5, .d (.lit (.bool true)))] []) (by simp; exact Sub.table (by simp) (by simp)) ?_
   refine Chain.runK [] 4 fun K hK => ?_; simp; refine hK _ _ ?_; clear hK K
   refine Chain.sub (S' := mk 17 [] [(0, .d (.lit (.int .u8 a0))), (9, .d (.lit (.bool (decide (a0 ≤ 122)))))] []) Sub.tt ?_
   replace h := isome h; rcases h with ⟨c7, h⟩ | ⟨c7, h⟩
   ·have c7_ : decide (a0 ≤ 122) = true := decide_eq_true c7
    refine Chain.sub (Sub.bool 9 (b := decide (a0 ≤ 122)) rfl c7_) ?_
    refine Chain.sub (S' := mk 17 [] [(0, .d (.lit (.int .u8 a0))), (9, .d (.lit (.bool true)))] []) (by simp; exact Sub.table (by simp) (by simp)) ?_
    refine Chain.runK [] 8 fun K hK => ?_; simp; refine hK _ _ ?_; clear hK K
    refine Chain.sub (S' := mk 17 [] [(2, .d (.lit (.bool true)))] []) Sub.tt ?_
    cases h
    exact Chain.nil Sub.tt
   ·have c7_ : decide (a0 ≤ 122) = false := decide_eq_false c7
    refine Chain.sub (Sub.bool 9 (b := decide (a0 ≤ 122)) rfl c7_) ?_
    refine Chain.sub (S' := mk 17 [] [(0, .d (.lit (.int .u8 a0))), (9, .d (.lit (.bool false)))] []) (by simp; exact Sub.table (by simp) (by simp)) ?_
    refine Chain.runK [] 3 fun K hK => ?_; simp; refine hK _ _ ?_; clear hK K
    refine Chain.sub (S' := mk 17 [] [(0, .d (.lit (.int .u8 a0))), (9, .d (.lit (.bool false))), (12, .d (.lit (.bool (decide (a0 ≥ 48)))))] []) Sub.tt ?_
    replace h := isome h; rcases h with ⟨c8, h⟩ | ⟨c8, h⟩
    ·have c8_ : decide (a0 ≥ 48) = true := decide_eq_true c8
     refine Chain.sub (Sub.bool 12 (b := decide (a0 ≥ 48)) rfl c8_) ?_
     refine Chain.sub (S' := mk 17 [] [(0, .d (.lit (.int .u8 a0))), (9, .d (.lit (.bool false))), (12, .d (.lit (.bool true)))] []) (by simp; exact Sub.table (by simp) (by simp)) ?_
     refine Chain.runK [] 5 fun K hK => ?_; simp; refine hK _ _ ?_; clear hK K
     refine Chain.sub (S' := mk 17 [] [(2, .d (.lit (.bool (decide (a0 ≤ 57)))))] []) Sub.tt ?_
     cases h
     exact Chain.nil Sub.tt
    ·have c8_ : decide (a0 ≥ 48) = false := decide_eq_false c8
     refine Chain.sub (Sub.bool 12 (b := decide (a0 ≥ 48)) rfl c8_) ?_
     refine Chain.sub (S' := mk 17 [] [(0, .d (.lit (.int .u8 a0))), (9, .d (.lit (.bool false))), (12, .d (.lit (.bool false)))] []) (by simp; exact Sub.table (by simp) (by simp)) ?_
     refine Chain.runK [] 5 fun K hK => ?_; simp; refine hK _ _ ?_; clear hK K
     refine Chain.sub (S' := mk 17 [] [(2, .d (.lit (.bool false)))] []) Sub.tt ?_
     cases h
     exact Chain.nil Sub.tt
  ·have c6_ : decide (a0 ≥ 97) = false := decide_eq_false c6
   refine Chain.sub (Sub.bool 5 (b := decide (a0 ≥ 97)) rfl c6_) ?_
   refine Chain.sub (S' := mk 17 [] [(0, .d (.lit (.int .u8 a0))), (5, .d (.lit (.bool false)))] []) (by simp; exact Sub.table (by simp) (by simp)) ?_
   refine Chain.runK [] 7 fun K hK => ?_; simp; refine hK _ _ ?_; clear hK K
   refine Chain.sub (S' := mk 17 [] [(0, .d (.lit (.int .u8 a0))), (9, .d (.lit (.bool false))), (12, .d (.lit (.bool (decide (a0 ≥ 48)))))] []) Sub.tt ?_
   replace h := isome h; rcases h with ⟨c9, h⟩ | ⟨c9, h⟩
   ·have c9_ : decide (a0 ≥ 48) = true := decide_eq_true c9
    refine Chain.sub (Sub.bool 12 (b := decide (a0 ≥ 48)) rfl c9_) ?_
    refine Chain.sub (S' := mk 17 [] [(0, .d (.lit (.int .u8 a0))), (9, .d (.lit (.bool false))), (12, .d (.lit (.bool true)))] []) (by simp; exact Sub.table (by simp) (by simp)) ?_
    refine Chain.runK [] 5 fun K hK => ?_; simp; refine hK _ _ ?_; clear hK K
    refine Chain.sub (S' := mk 17 [] [(2, .d (.lit (.bool (decide (a0 ≤ 57)))))] []) Sub.tt ?_
    cases h
    exact Chain.nil Sub.tt
   ·have c9_ : decide (a0 ≥ 48) = false := decide_eq_false c9
    refine Chain.sub (Sub.bool 12 (b := decide (a0 ≥ 48)) rfl c9_) ?_
    refine Chain.sub (S' := mk 17 [] [(0, .d (.lit (.int .u8 a0))), (9, .d (.lit (.bool false))), (12, .d (.lit (.bool false)))] []) (by simp; exact Sub.table (by simp) (by simp)) ?_
    refine Chain.runK [] 5 fun K hK => ?_; simp; refine hK _ _ ?_; clear hK K
    refine Chain.sub (S' := mk 17 [] [(2, .d (.lit (.bool false)))] []) Sub.tt ?_
    cases h
    exact Chain.nil Sub.tt
 ·clear hj
  refine AW.ret ?_
  cases h
  exact FinC.ret (by simp) (by simp)

/-- stemma/lexer.IsSchemaName -/
def d30 (N : Nat) (a0 : ByteArray) : Option Bool :=
 Option.bind (α := Bool) (
  if (a0.size : Int) < 1 then (
   some true
  ) else
  if (a0.size : Int) > 12 then (
   some true
  ) else
  (idxB a0 0).bind fun v9 =>
  if v9 < 97 then (
   some true
  ) else
  (idxB a0 0).bind fun v11 =>
  some (decide (v11 > 122))
 ) fun (v6 : Bool) =>
 if v6 = true then (
  some false
 ) else
 bindO (β := Unit) (ρ := Bool) (
  iterN (σ := Int) (ρ := (Out Unit Bool)) (fun (v18 : Int) =>
   if v18 < (a0.size : Int) then (
    (idxB a0 v18).bind fun v31 =>
    (d42 N v31).bind fun r32 =>
    if (!r32) = true then (
     some (.inr (.ret false))
    ) else
    (chkI (v18 + 1)).bind fun v34 =>
    some (.inl v34)
   ) else
   some (.inr (.go ()))
  ) N 0
 ) fun (_ : Unit) =>
 some true
set_option maxRecDepth 100000 in
set_option maxHeartbeats 4000000 in
theorem p30 (N : Nat) (a0 : ByteArray) (r : Bool) (h : d30 N a0 = some r) : FunC Try.prog 30 [.d (.lit (.string a0))] (.d (.lit (.bool r))) := by
 unfold d30 at h
 refine FunC.enter 33 [(0, .d (.lit (.string a0)))] (by simp) Try.func30 rfl (of_decide_eq_true rfl) rfl rfl ?_
 refine AW.seqR ?_
 refine Chain.runK [] 1 fun K hK => ?_; simp; refine hK _ _ ?_; clear hK K
 refine Chain.sub (S' := mk 33 [] [(0, .d (.lit (.string a0)))] []) Sub.tt ?_
 refine Chain.nil ?_
 refine AW.seq ?_
 replace h := bsome h; obtain ⟨v6, hj, h⟩ := h
 refine AW.cutR (mk 33 [] [(0, .d (.lit (.string a0))), (21, .d (.lit (.bool v6)))] []) ?_ ?_
 ·clear h; have h := hj; clear hj
  refine Chain.runK [] 4 fun K hK => ?_; simp; refine hK _ _ ?_; clear hK K
  refine Chain.sub (S' := mk 33 [] [(0, .d (.lit (.string a0))), (7, .d (.lit (.bool (decide ((a0.size : Int) < 1)))))] []) Sub.tt ?_
  replace h := isome h; rcases h with ⟨c7, h⟩ | ⟨c7, h⟩
  ·have c7_ : decide ((a0.size : Int) < 1) = true := decide_eq_true c7
   refine Chain.sub (Sub.bool 7 (b := decide ((a0.size : Int) < 1)) rfl c7_) ?_
   refine Chain.sub (S' := mk 33 [] [(0, .d (.lit (.string a0))), (7, .d (.lit (.bool true)))] []) (by simp; exact Sub.table (by simp) (by simp)) ?_
   refine Chain.runK [] 14 fun K hK => ?_; simp; refine hK _ _ ?_; clear hK K
   refine Chain.sub (S' := mk 33 [] [(0, .d (.lit (.string a0))), (21, .d (.lit (.bool true)))] []) Sub.tt ?_
   cases h
   exact Chain.nil Sub.tt
  ·have c7_ : decide ((a0.size : Int) < 1) = false := decide_eq_false c7
   refine Chain.sub (Sub.bool 7 (b := decide ((a0.size : Int) < 1)) rfl c7_) ?_
   refine Chain.sub (S' := mk 33 [] [(0, .d (.lit (.string a0))), (7, .d (.lit (.bool false)))] []) (by simp; exact Sub.table (by simp) (by simp)) ?_
   refine Chain.runK [] 5 fun K hK => ?_; simp; refine hK _ _ ?_; clear hK K
   refine Chain.sub (S' := mk 33 [] [(0, .d (.lit (.string a0))), (12, .d (.lit (.bool (decide ((a0.size : Int) > 12)))))] []) Sub.tt ?_
   replace h := isome h; rcases h with ⟨c8, h⟩ | ⟨c8, h⟩
   ·have c8_ : decide ((a0.size : Int) > 12) = true := decide_eq_true c8
    refine Chain.sub (Sub.bool 12 (b := decide ((a0.size : Int) > 12)) rfl c8_) ?_
    refine Chain.sub (S' := mk 33 [] [(0, .d (.lit (.string a0))), (12, .d (.lit (.bool true)))] []) (by simp; exact Sub.table (by simp) (by simp)) ?_
    refine Chain.runK [] 9 fun K hK => ?_; simp; refine hK _ _ ?_; clear hK K
    refine Chain.sub (S' := mk 33 [] [(0, .d (.lit (.string a0))), (21, .d (.lit (.bool true)))] []) Sub.tt ?_
    cases h
    exact Chain.nil Sub.tt
   ·have c8_ : decide ((a0.size : Int) > 12) = false := decide_eq_false c8
    refine Chain.sub (Sub.bool 12 (b := decide ((a0.size : Int) > 12)) rfl c8_) ?_
    refine Chain.sub (S' := mk 33 [] [(0, .d (.lit (.string a0))), (12, .d (.lit (.bool false)))] []) (by simp; exact Sub.table (by simp) (by simp)) ?_
    replace h := bsome h; obtain ⟨v9, gv9, h⟩ := h
    obtain ⟨bv9, hv9a, hv9b⟩ := idxB_someN (n := 0) gv9
    refine Chain.runK [] 5 fun K hK => ?_; simp [hv9a, hv9b]; refine hK _ _ ?_; clear hK K
    refine Chain.sub (S' := mk 33 [] [(0, .d (.lit (.string a0))), (17, .d (.lit (.bool (decide (v9 < 97)))))] []) Sub.tt ?_
    replace h := isome h; rcases h with ⟨c10, h⟩ | ⟨c10, h⟩
    ·have c10_ : decide (v9 < 97) = true := decide_eq_true c10
     refine Chain.sub (Sub.bool 17 (b := decide (v9 < 97)) rfl c10_) ?_
     refine Chain.sub (S' := mk 33 [] [(0, .d (.lit (.string a0))), (17, .d (.lit (.bool true)))] []) (by simp; exact Sub.table (by simp) (by simp)) ?_
     refine Chain.runK [] 4 fun K hK => ?_; simp; refine hK _ _ ?_; clear hK K
     refine Chain.sub (S' := mk 33 [] [(0, .d (.lit (.string a0))), (21, .d (.lit (.bool true)))] []) Sub.tt ?_
     cases h
     exact Chain.nil Sub.tt
    ·have c10_ : decide (v9 < 97) = false := decide_eq_false c10
     refine Chain.sub (Sub.bool 17 (b := decide (v9 < 97)) rfl c10_) ?_
     refine Chain.sub (S' := mk 33 [] [(0, .d (.lit (.string a0))), (17, .d (.lit (.bool false)))] []) (by simp; exact Sub.table (by simp) (by simp)) ?_
     replace h := bsome h; obtain ⟨v11, gv11, h⟩ := h
     obtain ⟨bv11, hv11a, hv11b⟩ := idxB_someN (n := 0) gv11
     refine Chain.runK [] 4 fun K hK => ?_; simp [hv11a, hv11b]; refine hK _ _ ?_; clear hK K
     refine Chain.sub (S' := mk 33 [] [(0, .d (.lit (.string a0))), (21, .d (.lit (.bool (decide (v11 > 122)))))] []) Sub.tt ?_
     cases h
     exact Chain.nil Sub.tt
 ·clear hj
  replace h := isome h; rcases h with ⟨c12, h⟩ | ⟨c12, h⟩
  ·have c12_ : v6 = true := c12
   refine AW.condT (b := v6) rfl c12_ ?_
   refine AW.sub (Sub.bool 21 (b := v6) rfl c12_) ?_
   refine AW.sub (S' := mk 33 [] [(0, .d (.lit (.string a0))), (21, .d (.lit (.bool true)))] []) (by simp; exact Sub.table (by simp) (by simp)) ?_
   refine AW.seqR ?_
   refine Chain.runK [] 1 fun K hK => ?_; simp; refine hK _ _ ?_; clear hK K
   refine Chain.sub (S' := mk 33 [] [(2, .d (.lit (.bool false)))] []) Sub.tt ?_
   refine Chain.nil ?_
   refine AW.ret ?_
   cases h
   refine thenQ_pass (by simp) ?_
   exact FinC.ret (by simp) (by simp)
  ·have c12_ : v6 = false := Bool.eq_false_iff.2 c12
   refine AW.condF (b := v6) rfl c12_ ?_
   refine AW.sub (Sub.bool 21 (b := v6) rfl c12_) ?_
   refine AW.sub (S' := mk 33 [] [(0, .d (.lit (.string a0))), (21, .d (.lit (.bool false)))] []) (by simp; exact Sub.table (by simp) (by simp)) ?_
   refine AW.skip ?_
   refine thenQ_normal ?_
   refine AW.seq ?_
   refine AW.seqR ?_
   refine Chain.runK [] 3 fun K hK => ?_; simp; refine hK _ _ ?_; clear hK K
   refine Chain.sub (S' := mk 33 [] [(0, .d (.lit (.string a0))), (23, .d (.lit (.int .i64 (a0.size : Int)))), (24, .d (.lit (.int .i64 0)))] []) Sub.tt ?_
   refine Chain.nil ?_
   refine AW.lastJ (fun (_ : Unit) => mk 33 [] [] []) h ?_ ?_ <;> clear h
   ·intro o h
    refine AW.block ?_
    refine AW.iter (fun (v18 : Int) => mk 33 [] [(0, .d (.lit (.string a0))), (23, .d (.lit (.int .i64 (a0.size : Int)))), (24, .d (.lit (.int .i64 v18)))] []) h Sub.tt ?_
    clear h
    rintro v18 x h
    refine AW.seqR ?_
    refine Chain.runK [] 1 fun K hK => ?_; simp; refine hK _ _ ?_; clear hK K
    refine Chain.sub (S' := mk 33 [] [(0, .d (.lit (.string a0))), (23, .d (.lit (.int .i64 (a0.size : Int)))), (24, .d (.lit (.int .i64 v18))), (25, .d (.lit (.bool (decide (v18 < (a0.size : Int))))))] []) Sub.tt ?_
    refine Chain.nil ?_
    refine AW.seq ?_
    replace h := isome h; rcases h with ⟨c30, h⟩ | ⟨c30, h⟩
    ·have c30_ : decide (v18 < (a0.size : Int)) = true := decide_eq_true c30
     refine AW.condT (b := decide (v18 < (a0.size : Int))) rfl c30_ ?_
     refine AW.sub (Sub.bool 25 (b := decide (v18 < (a0.size : Int))) rfl c30_) ?_
     refine AW.sub (S' := mk 33 [] [(0, .d (.lit (.string a0))), (23, .d (.lit (.int .i64 (a0.size : Int)))), (24, .d (.lit (.int .i64 v18))), (25, .d (.lit (.bool true)))] []) (by simp; exact Sub.table (by simp) (by simp)) ?_
     refine AW.skip ?_
     refine thenQ_normal ?_
     refine AW.seq ?_
     refine AW.block ?_
     refine AW.seqR ?_
     refine Chain.runK [] 2 fun K hK => ?_; simp; refine hK _ _ ?_; clear hK K
     refine Chain.sub (S' := mk 33 [] [(0, .d (.lit (.string a0))), (3, .d (.lit (.int .i64 v18))), (23, .d (.lit (.int .i64 (a0.size : Int)))), (24, .d (.lit (.int .i64 v18)))] []) Sub.tt ?_
     refine Chain.nil ?_
     refine AW.seqR ?_
     replace h := bsome h; obtain ⟨v31, gv31, h⟩ := h
     obtain ⟨bv31, kv31, hv31k, hv31a, hv31b, hv31c⟩ := idxB_some gv31
     refine Chain.runK [] 3 fun K hK => ?_; simp [hv31k, hv31a, hv31b, hv31c]; refine hK _ _ ?_; clear hK K
     refine Chain.sub (S' := mk 33 [] [(0, .d (.lit (.string a0))), (23, .d (.lit (.int .i64 (a0.size : Int)))), (24, .d (.lit (.int .i64 v18))), (29, .d (.lit (.int .u8 v31)))] []) Sub.tt ?_
     replace h := bsome h; obtain ⟨r32, hr32, h⟩ := h
     refine Chain.callL (d := 30) (p42 N v31 r32 hr32) (by simp) rfl rfl (by simp <;> rfl) (by simp <;> rfl) ent42 (by simp <;> rfl) ?_
     refine Chain.sub (S' := mk 33 [] [(0, .d (.lit (.string a0))), (23, .d (.lit (.int .i64 (a0.size : Int)))), (24, .d (.lit (.int .i64 v18))), (29, .d (.lit (.int .u8 v31))), (30, .d (.lit (.bool r32)))] []) (by simp; exact Sub.table (by simp) (by simp)) ?_
     refine Chain.runK [] 1 fun K hK => ?_; simp; refine hK _ _ ?_; clear hK K
     refine Chain.sub (S' := mk 33 [] [(0, .d (.lit (.string a0))), (23, .d (.lit (.int .i64 (a0.size : Int)))), (24, .d (.lit (.int .i64 v18))), (31, .d (.lit (.bool (!r32))))] []) Sub.tt ?_
     refine Chain.nil ?_
     replace h := isome h; rcases h with ⟨c33, h⟩ | ⟨c33, h⟩
     ·have c33_ : (!r32) = true := c33
      refine AW.condT (b := (!r32)) rfl c33_ ?_
      refine AW.sub (Sub.bool 31 (b := (!r32)) rfl c33_) ?_
      refine AW.sub (S' := mk 33 [] [(0, .d (.lit (.string a0))), (23, .d (.lit (.int .i64 (a0.size : Int)))), (24, .d (.lit (.int .i64 v18))), (31, .d (.lit (.bool true)))] []) (by simp; exact Sub.table (by simp) (by simp)) ?_
      refine AW.seqR ?_
      refine Chain.runK [] 1 fun K hK => ?_; simp; refine hK _ _ ?_; clear hK K
      refine Chain.sub (S' := mk 33 [] [(2, .d (.lit (.bool false)))] []) Sub.tt ?_
      refine Chain.nil ?_
      refine AW.ret ?_
      cases h
      refine blockQ.ret ?_
      refine thenQ_pass (by simp) ?_
      refine PostI.out (by simp) ?_
      rintro rfl
      refine blockQ.ret ?_
      refine PostJ.out (by simp) ?_
      rintro rfl
      refine thenQ_pass (by simp) ?_
      exact FinC.ret (by simp) (by simp)
     ·have c33_ : (!r32) = false := Bool.eq_false_iff.2 c33
      refine AW.condF (b := (!r32)) rfl c33_ ?_
      refine AW.sub (Sub.bool 31 (b := (!r32)) rfl c33_) ?_
      refine AW.sub (S' := mk 33 [] [(0, .d (.lit (.string a0))), (23, .d (.lit (.int .i64 (a0.size : Int)))), (24, .d (.lit (.int .i64 v18))), (31, .d (.lit (.bool false)))] []) (by simp; exact Sub.table (by simp) (by simp)) ?_
      refine AW.skip ?_
      refine blockQ.normal ?_
      refine thenQ_normal ?_
      refine AW.region ?_
      replace h := bsome h; obtain ⟨v34, hv34, h⟩ := h
      have hv34 := chkI_some hv34
      refine Chain.runK [] 2 fun K hK => ?_; simp [hv34]; refine hK _ _ ?_; clear hK K
      refine Chain.sub (S' := mk 33 [] [(0, .d (.lit (.string a0))), (23, .d (.lit (.int .i64 (a0.size : Int)))), (24, .d (.lit (.int .i64 v34)))] []) Sub.tt ?_
      refine Chain.nil ?_
      cases h
      refine PostI.next ?_
      exact Sub.tt
    ·have c30_ : decide (v18 < (a0.size : Int)) = false := decide_eq_false c30
     refine AW.condF (b := decide (v18 < (a0.size : Int))) rfl c30_ ?_
     refine AW.sub (Sub.bool 25 (b := decide (v18 < (a0.size : Int))) rfl c30_) ?_
     refine AW.sub (S' := mk 33 [] [(0, .d (.lit (.string a0))), (23, .d (.lit (.int .i64 (a0.size : Int)))), (24, .d (.lit (.int .i64 v18))), (25, .d (.lit (.bool false)))] []) (by simp; exact Sub.table (by simp) (by simp)) ?_
     refine AW.exit ?_
     cases h
     refine thenQ_pass (by simp) ?_
     refine PostI.out (by simp) ?_
     rintro rfl
     refine blockQ.hit ?_
     refine PostJ.next ?_
     exact Sub.tt
   ·rintro ⟨⟩ h
    refine thenQ_normal ?_
    refine AW.seqR ?_
    refine Chain.runK [] 1 fun K hK => ?_; simp; refine hK _ _ ?_; clear hK K
    refine Chain.sub (S' := mk 33 [] [(2, .d (.lit (.bool true)))] []) Sub.tt ?_
    refine Chain.nil ?_
    refine AW.ret ?_
    cases h
    exact FinC.ret (by simp) (by simp)

/-- stemma/expr.find$1 -/
def d43 (_N : Nat) (a0 : S46) (a1 : ByteArray) : Option Bool :=
 some (decide (a0.Name = a1))
set_option maxRecDepth 100000 in
set_option maxHeartbeats 4000000 in
theorem p43 (N : Nat) (a0 : S46) (a1 : ByteArray) (r : Bool) (h : d43 N a0 a1 = some r) : FunC Try.prog 43 [.agg [.d (.lit (.string a0.Name)), .d (.lit (.int .i64 a0.Kind)), .d (.lit (.bool a0.Nullable))], .d (.pim [.lit (.string a1)])] (.d (.lit (.bool r))) := by
 unfold d43 at h
 refine FunC.enter 8 [(0, .agg [.d (.lit (.string a0.Name)), .d (.lit (.int .i64 a0.Kind)), .d (.lit (.bool a0.Nullable))]), (1, .d (.pim [.lit (.string a1)]))] (by simp) Try.func43 rfl (of_decide_eq_true rfl) rfl rfl ?_
 refine AW.seqR ?_
 refine Chain.runK [] 2 fun K hK => ?_; simp; refine hK _ _ ?_; clear hK K
 refine Chain.sub (S' := mk 8 [] [(1, .d (.pim [.lit (.string a1)])), (2, .ptr 2 0 0)] [(2, some (.box [.d (.lit (.string a0.Name)), .d (.lit (.int .i64 a0.Kind)), .d (.lit (.bool a0.Nullable))]))]) Sub.tt ?_
 refine Chain.nil ?_
 refine AW.seqR ?_
 refine Chain.runK [] 5 fun K hK => ?_; simp; refine hK _ _ ?_; clear hK K
 refine Chain.sub (S' := mk 8 [] [(3, .d (.lit (.bool (decide (a0.Name = a1)))))] []) Sub.tt ?_
 refine Chain.nil ?_
 refine AW.ret ?_
 cases h
 exact FinC.ret (by simp) (by simp)

/-- stemma/expr.find -/
def d31 (N : Nat) (a0 : (List S46)) (a1 : ByteArray) : Option (S46 × Bool) :=
 (d21 N a0 (fun b0 => d43 N b0 a1)).bind fun r1 =>
 if r1 < 0 then (
  some ((S46.mk (ByteArray.mk #[]) 0 false), false)
 ) else
 (idx a0 r1).bind fun x3 =>
 some (x3, true)
set_option maxRecDepth 100000 in
set_option maxHeartbeats 4000000 in
theorem p31 (N : Nat) (a0 : (List S46)) (a1 : ByteArray) (r : (S46 × Bool)) (h : d31 N a0 a1 = some r) : FunC Try.prog 31 [.d (.sl (a0.map cS46)), .d (.lit (.string a1))] (.tup [.agg [.d (.lit (.string r.1.Name)), .d (.lit (.int .i64 r.1.Kind)), .d (.lit (.bool r.1.Nullable))], .d (.lit (.bool r.2))]) := by
 unfold d31 at h
 refine FunC.enter 17 [(0, .d (.sl (a0.map cS46))), (1, .d (.lit (.string a1)))] (by simp) Try.func31 rfl (of_decide_eq_true rfl) rfl rfl ?_
 refine AW.seqR ?_
 refine Chain.runK [] 3 fun K hK => ?_; simp; refine hK _ _ ?_; clear hK K
 refine Chain.sub (S' := mk 17 [] [(0, .d (.sl (a0.map cS46))), (3, .ptr 3 0 0), (4, .ptr 4 0 0)] [(3, some (.box [.d (.lit (.string a1))])), (4, some (.box [.d (.lit (.string (ByteArray.mk #[]))), .d (.lit (.int .i64 0)), .d (.lit (.bool false))]))]) Sub.tt ?_
 refine Chain.nil ?_
 refine AW.seqR ?_
 refine Chain.runK [] 2 fun K hK => ?_; simp; refine hK _ _ ?_; clear hK K
 refine Chain.sub (S' := mk 17 [] [(0, .d (.sl (a0.map cS46))), (4, .ptr 4 0 0), (7, .d (.sl (a0.map cS46))), (8, .fn (.func 43) [.ptr 3 0 0])] [(3, some (.box [.d (.lit (.string a1))])), (4, some (.box [.d (.lit (.string (ByteArray.mk #[]))), .d (.lit (.int .i64 0)), .d (.lit (.bool false))]))]) Sub.tt ?_
 replace h := bsome h; obtain ⟨r1, hr1, h⟩ := h
 refine Chain.callL (d := 9) (p21 N a0 43 [.pim [.lit (.string a1)]] (fun b0 => d43 N b0 a1) ent43 (fun b0 r h => p43 N b0 a1 r h) r1 hr1) (by simp) rfl rfl (by simp <;> rfl) (by simp <;> rfl) ent21 (by simp <;> rfl) ?_
 refine Chain.sub (S' := mk 17 [] [(0, .d (.sl (a0.map cS46))), (4, .ptr 4 0 0), (7, .d (.sl (a0.map cS46))), (8, .fn (.func 43) [.ptr 3 0 0]), (9, .d (.lit (.int .i64 r1)))] [(3, some (.box [.d (.lit (.string a1))])), (4, some (.box [.d (.lit (.string (ByteArray.mk #[]))), .d (.lit (.int .i64 0)), .d (.lit (.bool false))]))]) (by simp; exact Sub.table (by simp) (by simp)) ?_
 refine Chain.runK [] 1 fun K hK => ?_; simp; refine hK _ _ ?_; clear hK K
 refine Chain.sub (S' := mk 17 [] [(0, .d (.sl (a0.map cS46))), (4, .ptr 4 0 0), (6, .d (.lit (.int .i64 r1)))] [(4, some (.box [.d (.lit (.string (ByteArray.mk #[]))), .d (.lit (.int .i64 0)), .d (.lit (.bool false))]))]) Sub.tt ?_
 refine Chain.nil ?_
 refine AW.seq ?_
 refine AW.seqR ?_
 refine Chain.runK [] 2 fun K hK => ?_; simp; refine hK _ _ ?_; clear hK K
 refine Chain.sub (S' := mk 17 [] [(0, .d (.sl (a0.map cS46))), (4, .ptr 4 0 0), (6, .d (.lit (.int .i64 r1))), (11, .d (.lit (.bool (decide (r1 < 0)))))] [(4, some (.box [.d (.lit (.string (ByteArray.mk #[]))), .d (.lit (.int .i64 0)), .d (.lit (.bool false))]))]) Sub.tt ?_
 refine Chain.nil ?_
 replace h := isome h; rcases h with ⟨c2, h⟩ | ⟨c2, h⟩
 ·have c2_ : decide (r1 < 0) = true := decide_eq_true c2
  refine AW.condT (b := decide (r1 < 0)) rfl c2_ ?_
  refine AW.sub (Sub.bool 11 (b := decide (r1 < 0)) rfl c2_) ?_
  refine AW.sub (S' := mk 17 [] [(0, .d (.sl (a0.map cS46))), (4, .ptr 4 0 0), (6, .d (.lit (.int .i64 r1))), (11, .d (.lit (.bool true)))] [(4, some (.box [.d (.lit (.string (ByteArray.mk #[]))), .d (.lit (.int .i64 0)), .d (.lit (.bool false))]))]) (by simp; exact Sub.table (by simp) (by simp)) ?_
  refine AW.seqR ?_
  refine Chain.runK [] 3 fun K hK => ?_; simp; refine hK _ _ ?_; clear hK K
  refine Chain.sub (S' := mk 17 [] [(4, .ptr 4 0 0), (5, .d (.lit (.bool false)))] [(4, some (.box [.d (.lit (.string (ByteArray.mk #[]))), .d (.lit (.int .i64 0)), .d (.lit (.bool false))]))]) Sub.tt ?_
  refine Chain.nil ?_
  refine AW.ret ?_
  cases h
  refine thenQ_pass (by simp) ?_
  exact FinC.ret (by simp) (by simp)
 ·have c2_ : decide (r1 < 0) = false := decide_eq_false c2
  refine AW.condF (b := decide (r1 < 0)) rfl c2_ ?_
  refine AW.sub (Sub.bool 11 (b := decide (r1 < 0)) rfl c2_) ?_
  refine AW.sub (S' := mk 17 [] [(0, .d (.sl (a0.map cS46))), (4, .ptr 4 0 0), (6, .d (.lit (.int .i64 r1))), (11, .d (.lit (.bool false)))] [(4, some (.box [.d (.lit (.string (ByteArray.mk #[]))), .d (.lit (.int .i64 0)), .d (.lit (.bool false))]))]) (by simp; exact Sub.table (by simp) (by simp)) ?_
  refine AW.skip ?_
  refine thenQ_normal ?_
  refine AW.seqR ?_
  replace h := bsome h; obtain ⟨x3, hx3, h⟩ := h
  obtain ⟨k4, hx3k, hx3, hx3a, hx3b⟩ := idx_some hx3
  refine Chain.runK [] 6 fun K hK => ?_; simp [hx3, hx3k, hx3a]; refine hK _ _ ?_; clear hK K
  refine Chain.sub (S' := mk 17 [] [(4, .ptr 4 0 0), (5, .d (.lit (.bool true)))] [(4, some (.box [.d (.lit (.string x3.Name)), .d (.lit (.int .i64 x3.Kind)), .d (.lit (.bool x3.Nullable))]))]) Sub.tt ?_
  refine Chain.nil ?_
  refine AW.ret ?_
  cases h
  exact FinC.ret (by simp) (by simp)

/-- stemma/expr.opKind$1$1 -/
def d46 (_N : Nat) (a0 : Int) (a1 : Int) : Option Bool :=
 Option.bind (α := Bool) (
  if (a0 != a1) then (
   some (a0 != 0)
  ) else
  some false
 ) fun (v2 : Bool) =>
 some v2
set_option maxRecDepth 100000 in
set_option maxHeartbeats 4000000 in
theorem p46 (N : Nat) (a0 : Int) (a1 : Int) (r : Bool) (h : d46 N a0 a1 = some r) : FunC Try.prog 46 [.d (.lit (.int .i64 a0)), .d (.pim [.lit (.int .i64 a1)])] (.d (.lit (.bool r))) := by
 unfold d46 at h
 refine FunC.enter 11 [(0, .d (.lit (.int .i64 a0))), (1, .d (.pim [.lit (.int .i64 a1)]))] (by simp) Try.func46 rfl (of_decide_eq_true rfl) rfl rfl ?_
 refine AW.seqR ?_
 refine Chain.runK [] 1 fun K hK => ?_; simp; refine hK _ _ ?_; clear hK K
 refine Chain.sub (S' := mk 11 [] [(0, .d (.lit (.int .i64 a0))), (1, .d (.pim [.lit (.int .i64 a1)]))] []) Sub.tt ?_
 refine Chain.nil ?_
 replace h := bsome h; obtain ⟨v2, hj, h⟩ := h
 refine AW.cutR (mk 11 [] [(3, .d (.lit (.bool v2)))] []) ?_ ?_
 ·clear h; have h := hj; clear hj
  refine Chain.runK [] 4 fun K hK => ?_; simp; refine hK _ _ ?_; clear hK K
  refine Chain.sub (S' := mk 11 [] [(0, .d (.lit (.int .i64 a0))), (7, .d (.lit (.bool (a0 != a1))))] []) Sub.tt ?_
  replace h := isome h; rcases h with ⟨c3, h⟩ | ⟨c3, h⟩
  ·have c3_ : (a0 != a1) = true := c3
   refine Chain.sub (Sub.bool 7 (b := (a0 != a1)) rfl c3_) ?_
   refine Chain.sub (S' := mk 11 [] [(0, .d (.lit (.int .i64 a0))), (7, .d (.lit (.bool true)))] []) (by simp; exact Sub.table (by simp) (by simp)) ?_
   refine Chain.runK [] 4 fun K hK => ?_; simp; refine hK _ _ ?_; clear hK K
   refine Chain.sub (S' := mk 11 [] [(3, .d (.lit (.bool (a0 != 0))))] []) Sub.tt ?_
   cases h
   exact Chain.nil Sub.tt
  ·have c3_ : (a0 != a1) = false := Bool.eq_false_iff.2 c3
   refine Chain.sub (Sub.bool 7 (b := (a0 != a1)) rfl c3_) ?_
   refine Chain.sub (S' := mk 11 [] [(0, .d (.lit (.int .i64 a0))), (7, .d (.lit (.bool false)))] []) (by simp; exact Sub.table (by simp) (by simp)) ?_
   refine Chain.runK [] 4 fun K hK => ?_; simp; refine hK _ _ ?_; clear hK K
   refine Chain.sub (S' := mk 11 [] [(3, .d (.lit (.bool false)))] []) Sub.tt ?_
   cases h
   exact Chain.nil Sub.tt
 ·clear hj
  refine AW.ret ?_
  cases h
  exact FinC.ret (by simp) (by simp)

/-- slices.IndexFunc[[]int,int] -/
def d58 (N : Nat) (a0 : (List Int)) (p1 : Int → Option Bool) : Option Int :=
 bindO (β := Unit) (ρ := Int) (
  iterN (σ := Int) (ρ := (Out Unit Int)) (fun (v6 : Int) =>
   if v6 < (a0.length : Int) then (
    (idx a0 v6).bind fun x21 =>
    (p1 x21).bind fun r23 =>
    if r23 = true then (
     some (.inr (.ret v6))
    ) else
    (chkI (v6 + 1)).bind fun v25 =>
    some (.inl v25)
   ) else
   some (.inr (.go ()))
  ) N 0
 ) fun (_ : Unit) =>
 some (-1)
set_option maxRecDepth 100000 in
set_option maxHeartbeats 4000000 in
theorem p58 (N : Nat) (a0 : (List Int)) (g1 : Nat) (cs1 : List D) (p1 : Int → Option Bool) (ent_1 : Rp.Enters Try.prog g1) (hp1 : ∀ a0 r, p1 a0 = some r → FunC Try.prog g1 ([.d (.lit (.int .i64 a0))] ++ cs1.map .d) (.d (.lit (.bool r)))) (r : Int) (h : d58 N a0 p1 = some r) : FunC Try.prog 58 [.d (.sl (a0.map (cI .i64))), .fn (.func g1) (cs1.map .d)] (.d (.lit (.int .i64 r))) := by
 unfold d58 at h
 refine FunC.enter 19 [(0, .d (.sl (a0.map (cI .i64)))), (1, .fn (.func g1) (cs1.map .d))] (by simp) Try.func58 rfl (of_decide_eq_true rfl) rfl rfl ?_
 refine AW.seqR ?_
 refine Chain.runK [] 1 fun K hK => ?_; simp; refine hK _ _ ?_; clear hK K
 refine Chain.sub (S' := mk 19 [] [(0, .d (.sl (a0.map (cI .i64)))), (1, .fn (.func g1) (cs1.map .d))] []) Sub.tt ?_
 refine Chain.nil ?_
 refine AW.seq ?_
 refine AW.seqR ?_
 refine Chain.runK [] 3 fun K hK => ?_; simp; refine hK _ _ ?_; clear hK K
 refine Chain.sub (S' := mk 19 [] [(0, .d (.sl (a0.map (cI .i64)))), (1, .fn (.func g1) (cs1.map .d)), (7, .d (.lit (.int .i64 (a0.length : Int)))), (8, .d (.lit (.int .i64 0)))] []) Sub.tt ?_
 refine Chain.nil ?_
 refine AW.lastJ (fun (_ : Unit) => mk 19 [] [] []) h ?_ ?_ <;> clear h
 ·intro o h
  refine AW.block ?_
  refine AW.iter (fun (v6 : Int) => mk 19 [] [(0, .d (.sl (a0.map (cI .i64)))), (1, .fn (.func g1) (cs1.map .d)), (7, .d (.lit (.int .i64 (a0.length : Int)))), (8, .d (.lit (.int .i64 v6)))] []) h Sub.tt ?_
  clear h
  rintro v6 x h
  refine AW.seqR ?_
  refine Chain.runK [] 1 fun K hK => ?_; simp; refine hK _ _ ?_; clear hK K
  refine Chain.sub (S' := mk 19 [] [(0, .d (.sl (a0.map (cI .i64)))), (1, .fn (.func g1) (cs1.map .d)), (7, .d (.lit (.int .i64 (a0.length : Int)))), (8, .d (.lit (.int .i64 v6))), (9, .d (.lit (.bool (decide (v6 < (a0.length : Int))))))] []) Sub.tt ?_
  refine Chain.nil ?_
  refine AW.seq ?_
  replace h := isome h; rcases h with ⟨c20, h⟩ | ⟨c20, h⟩
  ·have c20_ : decide (v6 < (a0.length : Int)) = true := decide_eq_true c20
   refine AW.condT (b := decide (v6 < (a0.length : Int))) rfl c20_ ?_
   refine AW.sub (Sub.bool 9 (b := decide (v6 < (a0.length : Int))) rfl c20_) ?_
   refine AW.sub (S' := mk 19 [] [(0, .d (.sl (a0.map (cI .i64)))), (1, .fn (.func g1) (cs1.map .d)), (7, .d (.lit (.int .i64 (a0.length : Int)))), (8, .d (.lit (.int .i64 v6))), (9, .d (.lit (.bool true)))] []) (by simp; exact Sub.table (by simp) (by simp)) ?_
   refine AW.skip ?_
   refine thenQ_normal ?_
   refine AW.seq ?_
   refine AW.block ?_
   refine AW.seqR ?_
   refine Chain.runK [] 2 fun K hK => ?_; simp; refine hK _ _ ?_; clear hK K
   refine Chain.sub (S' := mk 19 [] [(0, .d (.sl (a0.map (cI .i64)))), (1, .fn (.func g1) (cs1.map .d)), (5, .d (.lit (.int .i64 v6))), (7, .d (.lit (.int .i64 (a0.length : Int)))), (8, .d (.lit (.int .i64 v6)))] []) Sub.tt ?_
   refine Chain.nil ?_
   refine AW.seqR ?_
   replace h := bsome h; obtain ⟨x21, hx21, h⟩ := h
   obtain ⟨k22, hx21k, hx21, hx21a, hx21b⟩ := idx_some hx21
   refine Chain.runK [] 5 fun K hK => ?_; simp [hx21, hx21k, hx21a]; refine hK _ _ ?_; clear hK K
   refine Chain.sub (S' := mk 19 [] [(0, .d (.sl (a0.map (cI .i64)))), (1, .fn (.func g1) (cs1.map .d)), (5, .d (.lit (.int .i64 v6))), (7, .d (.lit (.int .i64 (a0.length : Int)))), (8, .d (.lit (.int .i64 v6))), (11, .fn (.func g1) (cs1.map .d)), (15, .d (.lit (.int .i64 x21)))] []) Sub.tt ?_
   replace h := bsome h; obtain ⟨r23, hr23, h⟩ := h
   refine Chain.callL (d := 16) (hp1 x21 r23 hr23) (by simp) rfl rfl (by simp <;> rfl) (by simp <;> rfl) ent_1 (by simp <;> rfl) ?_
   refine Chain.sub (S' := mk 19 [] [(0, .d (.sl (a0.map (cI .i64)))), (1, .fn (.func g1) (cs1.map .d)), (5, .d (.lit (.int .i64 v6))), (7, .d (.lit (.int .i64 (a0.length : Int)))), (8, .d (.lit (.int .i64 v6))), (11, .fn (.func g1) (cs1.map .d)), (15, .d (.lit (.int .i64 x21))), (16, .d (.lit (.bool r23)))] []) (by simp; exact Sub.table (by simp) (by simp)) ?_
   refine Chain.nil ?_
   replace h := isome h; rcases h with ⟨c24, h⟩ | ⟨c24, h⟩
   ·have c24_ : r23 = true := c24
    refine AW.condT (b := r23) rfl c24_ ?_
    refine AW.sub (Sub.bool 16 (b := r23) rfl c24_) ?_
    refine AW.sub (S' := mk 19 [] [(0, .d (.sl (a0.map (cI .i64)))), (1, .fn (.func g1) (cs1.map .d)), (5, .d (.lit (.int .i64 v6))), (7, .d (.lit (.int .i64 (a0.length : Int)))), (8, .d (.lit (.int .i64 v6))), (11, .fn (.func g1) (cs1.map .d)), (15, .d (.lit (.int .i64 x21))), (16, .d (.lit (.bool true)))] []) (by simp; exact Sub.table (by simp) (by simp)) ?_
    refine AW.seqR ?_
    refine Chain.runK [] 2 fun K hK => ?_; simp; refine hK _ _ ?_; clear hK K
    refine Chain.sub (S' := mk 19 [] [(4, .d (.lit (.int .i64 v6)))] []) Sub.tt ?_
    refine Chain.nil ?_
    refine AW.ret ?_
    cases h
    refine blockQ.ret ?_
    refine thenQ_pass (by simp) ?_
    refine PostI.out (by simp) ?_
    rintro rfl
    refine blockQ.ret ?_
    refine PostJ.out (by simp) ?_
    rintro rfl
    refine thenQ_pass (by simp) ?_
    exact FinC.ret (by simp) (by simp)
   ·have c24_ : r23 = false := Bool.eq_false_iff.2 c24
    refine AW.condF (b := r23) rfl c24_ ?_
    refine AW.sub (Sub.bool 16 (b := r23) rfl c24_) ?_
    refine AW.sub (S' := mk 19 [] [(0, .d (.sl (a0.map (cI .i64)))), (1, .fn (.func g1) (cs1.map .d)), (5, .d (.lit (.int .i64 v6))), (7, .d (.lit (.int .i64 (a0.length : Int)))), (8, .d (.lit (.int .i64 v6))), (11, .fn (.func g1) (cs1.map .d)), (15, .d (.lit (.int .i64 x21))), (16, .d (.lit (.bool false)))] []) (by simp; exact Sub.table (by simp) (by simp)) ?_
    refine AW.skip ?_
    refine blockQ.normal ?_
    refine thenQ_normal ?_
    refine AW.region ?_
    replace h := bsome h; obtain ⟨v25, hv25, h⟩ := h
    have hv25 := chkI_some hv25
    refine Chain.runK [] 2 fun K hK => ?_; simp [hv25]; refine hK _ _ ?_; clear hK K
    refine Chain.sub (S' := mk 19 [] [(0, .d (.sl (a0.map (cI .i64)))), (1, .fn (.func g1) (cs1.map .d)), (7, .d (.lit (.int .i64 (a0.length : Int)))), (8, .d (.lit (.int .i64 v25)))] []) Sub.tt ?_
    refine Chain.nil ?_
    cases h
    refine PostI.next ?_
    exact Sub.tt
  ·have c20_ : decide (v6 < (a0.length : Int)) = false := decide_eq_false c20
   refine AW.condF (b := decide (v6 < (a0.length : Int))) rfl c20_ ?_
   refine AW.sub (Sub.bool 9 (b := decide (v6 < (a0.length : Int))) rfl c20_) ?_
   refine AW.sub (S' := mk 19 [] [(0, .d (.sl (a0.map (cI .i64)))), (1, .fn (.func g1) (cs1.map .d)), (7, .d (.lit (.int .i64 (a0.length : Int)))), (8, .d (.lit (.int .i64 v6))), (9, .d (.lit (.bool false)))] []) (by simp; exact Sub.table (by simp) (by simp)) ?_
   refine AW.exit ?_
   cases h
   refine thenQ_pass (by simp) ?_
   refine PostI.out (by simp) ?_
   rintro rfl
   refine blockQ.hit ?_
   refine PostJ.next ?_
   exact Sub.tt
 ·rintro ⟨⟩ h
  refine thenQ_normal ?_
  refine AW.seqR ?_
  refine Chain.runK [] 1 fun K hK => ?_; simp; refine hK _ _ ?_; clear hK K
  refine Chain.sub (S' := mk 19 [] [(4, .d (.lit (.int .i64 (-1))))] []) Sub.tt ?_
  refine Chain.nil ?_
  refine AW.ret ?_
  cases h
  exact FinC.ret (by simp) (by simp)

/-- slices.ContainsFunc[[]int,int] -/
def d45 (N : Nat) (a0 : (List Int)) (p1 : Int → Option Bool) : Option Bool :=
 (d58 N a0 p1).bind fun r1 =>
 some (decide (r1 ≥ 0))
set_option maxRecDepth 100000 in
set_option maxHeartbeats 4000000 in
theorem p45 (N : Nat) (a0 : (List Int)) (g1 : Nat) (cs1 : List D) (p1 : Int → Option Bool) (ent_1 : Rp.Enters Try.prog g1) (hp1 : ∀ a0 r, p1 a0 = some r → FunC Try.prog g1 ([.d (.lit (.int .i64 a0))] ++ cs1.map .d) (.d (.lit (.bool r)))) (r : Bool) (h : d45 N a0 p1 = some r) : FunC Try.prog 45 [.d (.sl (a0.map (cI .i64))), .fn (.func g1) (cs1.map .d)] (.d (.lit (.bool r))) := by
 unfold d45 at h
 refine FunC.enter 9 [(0, .d (.sl (a0.map (cI .i64)))), (1, .fn (.func g1) (cs1.map .d))] (by simp) Try.func45 rfl (of_decide_eq_true rfl) rfl rfl ?_
 refine AW.seqR ?_
 refine Chain.runK [] 1 fun K hK => ?_; simp; refine hK _ _ ?_; clear hK K
 refine Chain.sub (S' := mk 9 [] [(0, .d (.sl (a0.map (cI .i64)))), (1, .fn (.func g1) (cs1.map .d))] []) Sub.tt ?_
 refine Chain.nil ?_
 refine AW.seqR ?_
 refine Chain.runK [] 2 fun K hK => ?_; simp; refine hK _ _ ?_; clear hK K
 refine Chain.sub (S' := mk 9 [] [(5, .d (.sl (a0.map (cI .i64)))), (6, .fn (.func g1) (cs1.map .d))] []) Sub.tt ?_
 replace h := bsome h; obtain ⟨r1, hr1, h⟩ := h
 refine Chain.callL (d := 7) (p58 N a0 g1 cs1 p1 ent_1 hp1 r1 hr1) (by simp) rfl rfl (by simp <;> rfl) (by simp <;> rfl) ent58 (by simp <;> rfl) ?_
 refine Chain.sub (S' := mk 9 [] [(5, .d (.sl (a0.map (cI .i64)))), (6, .fn (.func g1) (cs1.map .d)), (7, .d (.lit (.int .i64 r1)))] []) (by simp; exact Sub.table (by simp) (by simp)) ?_
 refine Chain.runK [] 2 fun K hK => ?_; simp; refine hK _ _ ?_; clear hK K
 refine Chain.sub (S' := mk 9 [] [(4, .d (.lit (.bool (decide (r1 ≥ 0)))))] []) Sub.tt ?_
 refine Chain.nil ?_
 refine AW.ret ?_
 cases h
 exact FinC.ret (by simp) (by simp)

/-- stemma/expr.opKind$1 -/
def d44 (N : Nat) (a0 : Int) (a1 : (List Int)) : Option Bool :=
 (d45 N a1 (fun b0 => d46 N b0 a0)).bind fun r1 =>
 some (!r1)
set_option maxRecDepth 100000 in
set_option maxHeartbeats 4000000 in
theorem p44 (N : Nat) (a0 : Int) (a1 : (List Int)) (r : Bool) (h : d44 N a0 a1 = some r) : FunC Try.prog 44 [.d (.lit (.int .i64 a0)), .d (.pim [.sl (a1.map (cI .i64))])] (.d (.lit (.bool r))) := by
 unfold d44 at h
 refine FunC.enter 8 [(0, .d (.lit (.int .i64 a0))), (1, .d (.pim [.sl (a1.map (cI .i64))]))] (by simp) Try.func44 rfl (of_decide_eq_true rfl) rfl rfl ?_
 refine AW.seqR ?_
 refine Chain.runK [] 2 fun K hK => ?_; simp; refine hK _ _ ?_; clear hK K
 refine Chain.sub (S' := mk 8 [] [(1, .d (.pim [.sl (a1.map (cI .i64))])), (2, .ptr 2 0 0)] [(2, some (.box [.d (.lit (.int .i64 a0))]))]) Sub.tt ?_
 refine Chain.nil ?_
 refine AW.seqR ?_
 refine Chain.runK [] 2 fun K hK => ?_; simp; refine hK _ _ ?_; clear hK K
 refine Chain.sub (S' := mk 8 [] [(4, .d (.sl (a1.map (cI .i64)))), (5, .fn (.func 46) [.ptr 2 0 0])] [(2, some (.box [.d (.lit (.int .i64 a0))]))]) Sub.tt ?_
 replace h := bsome h; obtain ⟨r1, hr1, h⟩ := h
 refine Chain.callL (d := 6) (p45 N a1 46 [.pim [.lit (.int .i64 a0)]] (fun b0 => d46 N b0 a0) ent46 (fun b0 r h => p46 N b0 a0 r h) r1 hr1) (by simp) rfl rfl (by simp <;> rfl) (by simp <;> rfl) ent45 (by simp <;> rfl) ?_
 refine Chain.sub (S' := mk 8 [] [(4, .d (.sl (a1.map (cI .i64)))), (5, .fn (.func 46) [.ptr 2 0 0]), (6, .d (.lit (.bool r1)))] [(2, some (.box [.d (.lit (.int .i64 a0))]))]) (by simp; exact Sub.table (by simp) (by simp)) ?_
 refine Chain.runK [] 2 fun K hK => ?_; simp; refine hK _ _ ?_; clear hK K
 refine Chain.sub (S' := mk 8 [] [(3, .d (.lit (.bool (!r1))))] []) Sub.tt ?_
 refine Chain.nil ?_
 refine AW.ret ?_
 cases h
 exact FinC.ret (by simp) (by simp)

end Go.Proofs.Ytacafkegbgmnoaa
