/- Functions of the program as functional programs; the code computes them. -/
import Derived.Test.YtimkkjiplioohaaGreatDoorCe3
import Derived.Test.YtimkkjiplioohaaGreatDoorLv1
namespace Go.Proofs.YtimkkjiplioohaaGreatDoor
open Go.Ab Go.Rp
attribute [-simp] List.all_eq_true Array.all_toList Array.all_eq_true

/-- slices.Index[[]bool,bool] -/
def d49 (N : Nat) (a0 : (List Bool)) (a1 : Bool) : Option Int :=
 bindO (β := Unit) (ρ := Int) (
  iterN (σ := Int) (ρ := (Out Unit Int)) (fun (v5 : Int) =>
   if v5 < (a0.length : Int) then (
    (idx a0 v5).bind fun x18 =>
    if (a1 == x18) then (
     some (.inr (.ret v5))
    ) else
    (chkI (v5 + 1)).bind fun v21 =>
    some (.inl v21)
   ) else
   some (.inr (.go ()))
  ) N 0
 ) fun (_ : Unit) =>
 some (-1)
set_option maxRecDepth 100000 in
set_option maxHeartbeats 4000000 in
theorem p49 (N : Nat) (a0 : (List Bool)) (a1 : Bool) (r : Int) (h : d49 N a0 a1 = some r) : FunC Tryz.prog 49 [.d (.sl (a0.map cB)), .d (.lit (.bool a1))] (.d (.lit (.int .i64 r))) := by
 unfold d49 at h
 refine FunC.enter 19 [(0, .d (.sl (a0.map cB))), (1, .d (.lit (.bool a1)))] (by simp) Tryz.func49 rfl (of_decide_eq_true rfl) rfl rfl ?_
 refine AW.seqR ?_
 refine Chain.runK [] 1 fun K hK => ?_; simp; refine hK _ _ ?_; clear hK K
 refine Chain.sub (S' := mk 19 [] [(0, .d (.sl (a0.map cB))), (1, .d (.lit (.bool a1)))] []) Sub.tt ?_
 refine Chain.nil ?_
 refine AW.seq ?_
 refine AW.seqR ?_
 refine Chain.runK [] 3 fun K hK => ?_; simp; refine hK _ _ ?_; clear hK K
 refine Chain.sub (S' := mk 19 [] [(0, .d (.sl (a0.map cB))), (1, .d (.lit (.bool a1))), (7, .d (.lit (.int .i64 (a0.length : Int)))), (8, .d (.lit (.int .i64 0)))] []) Sub.tt ?_
 refine Chain.nil ?_
 refine AW.lastJ (fun (_ : Unit) => mk 19 [] [] []) h ?_ ?_ <;> clear h
 ·intro o h
  refine AW.block ?_
  refine AW.iter (fun (v5 : Int) => mk 19 [] [(0, .d (.sl (a0.map cB))), (1, .d (.lit (.bool a1))), (7, .d (.lit (.int .i64 (a0.length : Int)))), (8, .d (.lit (.int .i64 v5)))] []) h Sub.tt ?_
  clear h
  rintro v5 x h
  refine AW.seqR ?_
  refine Chain.runK [] 1 fun K hK => ?_; simp; refine hK _ _ ?_; clear hK K
  refine Chain.sub (S' := mk 19 [] [(0, .d (.sl (a0.map cB))), (1, .d (.lit (.bool a1))), (7, .d (.lit (.int .i64 (a0.length : Int)))), (8, .d (.lit (.int .i64 v5))), (9, .d (.lit (.bool (decide (v5 < (a0.length : Int))))))] []) Sub.tt ?_
  refine Chain.nil ?_
  refine AW.seq ?_
  replace h := isome h; rcases h with ⟨c17, h⟩ | ⟨c17, h⟩
  ·have c17_ : decide (v5 < (a0.length : Int)) = true := decide_eq_true c17
   refine AW.condT (b := decide (v5 < (a0.length : Int))) rfl c17_ ?_
   refine AW.sub (Sub.bool 9 (b := decide (v5 < (a0.length : Int))) rfl c17_) ?_
   refine AW.sub (S' := mk 19 [] [(0, .d (.sl (a0.map cB))), (1, .d (.lit (.bool a1))), (7, .d (.lit (.int .i64 (a0.length : Int)))), (8, .d (.lit (.int .i64 v5))), (9, .d (.lit (.bool true)))] []) (by simp; exact Sub.table (by simp) (by simp)) ?_
   refine AW.skip ?_
   refine thenQ_normal ?_
   refine AW.seq ?_
   refine AW.block ?_
   refine AW.seqR ?_
   refine Chain.runK [] 2 fun K hK => ?_; simp; refine hK _ _ ?_; clear hK K
   refine Chain.sub (S' := mk 19 [] [(0, .d (.sl (a0.map cB))), (1, .d (.lit (.bool a1))), (5, .d (.lit (.int .i64 v5))), (7, .d (.lit (.int .i64 (a0.length : Int)))), (8, .d (.lit (.int .i64 v5)))] []) Sub.tt ?_
   refine Chain.nil ?_
   refine AW.seqR ?_
   replace h := bsome h; obtain ⟨x18, hx18, h⟩ := h
   obtain ⟨k19, hx18k, hx18, hx18a, hx18b⟩ := idx_some hx18
   refine Chain.runK [] 6 fun K hK => ?_; simp [hx18, hx18k, hx18a]; refine hK _ _ ?_; clear hK K
   refine Chain.sub (S' := mk 19 [] [(0, .d (.sl (a0.map cB))), (1, .d (.lit (.bool a1))), (5, .d (.lit (.int .i64 v5))), (7, .d (.lit (.int .i64 (a0.length : Int)))), (8, .d (.lit (.int .i64 v5))), (16, .d (.lit (.bool (a1 == x18))))] []) Sub.tt ?_
   refine Chain.nil ?_
   replace h := isome h; rcases h with ⟨c20, h⟩ | ⟨c20, h⟩
   ·have c20_ : (a1 == x18) = true := c20
    refine AW.condT (b := (a1 == x18)) rfl c20_ ?_
    refine AW.sub (Sub.bool 16 (b := (a1 == x18)) rfl c20_) ?_
    refine AW.sub (S' := mk 19 [] [(0, .d (.sl (a0.map cB))), (1, .d (.lit (.bool a1))), (5, .d (.lit (.int .i64 v5))), (7, .d (.lit (.int .i64 (a0.length : Int)))), (8, .d (.lit (.int .i64 v5))), (16, .d (.lit (.bool true)))] []) (by simp; exact Sub.table (by simp) (by simp)) ?_
    refine AW.seqR ?_
    refine Chain.runK [] 2 fun K hK => ?_; simp; refine hK _ _ ?_; clear hK K
    refine Chain.sub (S' := mk 19 [] [(4, .d (.lit (.int .i64 v5)))] []) Sub.tt ?_
    refine Chain.nil ?_
    refine AW.ret ?_
    cases h
    refine blockQ.ret ?_
    refine thenQ_pass (by simp) ?_
    refine PostI.out (by simp) ?_
    rintro rfl
    refine blockQ.ret ?_
    refine PostJ.out (by simp) ?_
    rintro rfl
    refine thenQ_pass (by simp) ?_
    exact FinC.ret (by simp) (by simp)
   ·have c20_ : (a1 == x18) = false := Bool.eq_false_iff.2 c20
    refine AW.condF (b := (a1 == x18)) rfl c20_ ?_
    refine AW.sub (Sub.bool 16 (b := (a1 == x18)) rfl c20_) ?_
    refine AW.sub (S' := mk 19 [] [(0, .d (.sl (a0.map cB))), (1, .d (.lit (.bool a1))), (5, .d (.lit (.int .i64 v5))), (7, .d (.lit (.int .i64 (a0.length : Int)))), (8, .d (.lit (.int .i64 v5))), (16, .d (.lit (.bool false)))] []) (by simp; exact Sub.table (by simp) (by simp)) ?_
    refine AW.skip ?_
    refine blockQ.normal ?_
    refine thenQ_normal ?_
    refine AW.region ?_
    replace h := bsome h; obtain ⟨v21, hv21, h⟩ := h
    have hv21 := chkI_some hv21
    refine Chain.runK [] 2 fun K hK => ?_; simp [hv21]; refine hK _ _ ?_; clear hK K
    refine Chain.sub (S' := mk 19 [] [(0, .d (.sl (a0.map cB))), (1, .d (.lit (.bool a1))), (7, .d (.lit (.int .i64 (a0.length : Int)))), (8, .d (.lit (.int .i64 v21)))] []) Sub.tt ?_
    refine Chain.nil ?_
    cases h
    refine PostI.next ?_
    exact Sub.tt
  ·have c17_ : decide (v5 < (a0.length : Int)) = false := decide_eq_false c17
   refine AW.condF (b := decide (v5 < (a0.length : Int))) rfl c17_ ?_
   refine AW.sub (Sub.bool 9 (b := decide (v5 < (a0.length : Int))) rfl c17_) ?_
   refine AW.sub (S' := mk 19 [] [(0, .d (.sl (a0.map cB))), (1, .d (.lit (.bool a1))), (7, .d (.lit (.int .i64 (a0.length : Int)))), (8, .d (.lit (.int .i64 v5))), (9, .d (.lit (.bool false)))] []) (by simp; exact Sub.table (by simp) (by simp)) ?_
   refine AW.exit ?_
   cases h
   refine thenQ_pass (by simp) ?_
   refine PostI.out (by simp) ?_
   rintro rfl
   refine blockQ.hit ?_
   refine PostJ.next ?_
   exact Sub.tt
 ·rintro ⟨⟩ h
  refine thenQ_normal ?_
  refine AW.seqR ?_
  refine Chain.runK [] 1 fun K hK => ?_; simp; refine hK _ _ ?_; clear hK K
  refine Chain.sub (S' := mk 19 [] [(4, .d (.lit (.int .i64 (-1))))] []) Sub.tt ?_
  refine Chain.nil ?_
  refine AW.ret ?_
  cases h
  exact FinC.ret (by simp) (by simp)

/-- slices.Contains[[]bool,bool] -/
def d14 (N : Nat) (a0 : (List Bool)) (a1 : Bool) : Option Bool :=
 (d49 N a0 a1).bind fun r1 =>
 some (decide (r1 ≥ 0))
set_option maxRecDepth 100000 in
set_option maxHeartbeats 4000000 in
theorem p14 (N : Nat) (a0 : (List Bool)) (a1 : Bool) (r : Bool) (h : d14 N a0 a1 = some r) : FunC Tryz.prog 14 [.d (.sl (a0.map cB)), .d (.lit (.bool a1))] (.d (.lit (.bool r))) := by
 unfold d14 at h
 refine FunC.enter 9 [(0, .d (.sl (a0.map cB))), (1, .d (.lit (.bool a1)))] (by simp) Tryz.func14 rfl (of_decide_eq_true rfl) rfl rfl ?_
 refine AW.seqR ?_
 refine Chain.runK [] 1 fun K hK => ?_; simp; refine hK _ _ ?_; clear hK K
 refine Chain.sub (S' := mk 9 [] [(0, .d (.sl (a0.map cB))), (1, .d (.lit (.bool a1)))] []) Sub.tt ?_
 refine Chain.nil ?_
 refine AW.seqR ?_
 refine Chain.runK [] 2 fun K hK => ?_; simp; refine hK _ _ ?_; clear hK K
 refine Chain.sub (S' := mk 9 [] [(5, .d (.sl (a0.map cB))), (6, .d (.lit (.bool a1)))] []) Sub.tt ?_
 replace h := bsome h; obtain ⟨r1, hr1, h⟩ := h
 refine Chain.callL (d := 7) (p49 N a0 a1 r1 hr1) (by simp) rfl rfl (by simp <;> rfl) (by simp <;> rfl) ent49 (by simp <;> rfl) ?_
 refine Chain.sub (S' := mk 9 [] [(5, .d (.sl (a0.map cB))), (6, .d (.lit (.bool a1))), (7, .d (.lit (.int .i64 r1)))] []) (by simp; exact Sub.table (by simp) (by simp)) ?_
 refine Chain.runK [] 2 fun K hK => ?_; simp; refine hK _ _ ?_; clear hK K
 refine Chain.sub (S' := mk 9 [] [(4, .d (.lit (.bool (decide (r1 ≥ 0)))))] []) Sub.tt ?_
 refine Chain.nil ?_
 refine AW.ret ?_
 cases h
 exact FinC.ret (by simp) (by simp)

/-- stemma/stemref3.SetSize -/
def d50 (N : Nat) (a0 : S25) (a1 : (List Bool)) : Option Int :=
 Option.bind (α := Int) (
  iterN (σ := (Int × Int)) (ρ := Int) (fun ((v170, v171) : (Int × Int)) =>
   if v171 < (a0.Sizes.length : Int) then (
    Option.bind (α := Int) (
     (idx a1 v171).bind fun x603 =>
     if (!x603) = true then (
      some v170
     ) else
     (idx a0.Sizes v171).bind fun x606 =>
     (chkI (v170 * x606)).bind fun v607 =>
     Option.bind (α := Int) (
      if v607 > 1073741824 then (
       some 1073741824
      ) else
      some v607
     ) fun (v609 : Int) =>
     Option.bind (α := Int) (
      iterN (σ := (Int × Int)) (ρ := Int) (fun ((v628, v629) : (Int × Int)) =>
       if v629 < (a0.Selectivities.length : Int) then (
        (idx a0.Selectivities v629).bind fun x670 =>
        Option.bind (α := Bool) (
         if (x670.B == v171) then (
          (idx a1 x670.A).bind fun x677 =>
          some x677
         ) else
         some false
        ) fun (v675 : Bool) =>
        if v675 = true then (
         (quoI v628 x670.Divisor).bind fun v680 =>
         (chkI (v680 * x670.Divisor)).bind fun v681 =>
         if v681 < v628 then (
          (chkI (v680 + 1)).bind fun v683 =>
          (chkI (v629 + 1)).bind fun v684 =>
          some (.inl (v683, v684))
         ) else
         (chkI (v629 + 1)).bind fun v685 =>
         some (.inl (v680, v685))
        ) else
        (chkI (v629 + 1)).bind fun v686 =>
        some (.inl (v628, v686))
       ) else
       some (.inr v628)
      ) N (v609, 0)
     ) fun (v668 : Int) =>
     some v668
    ) fun (v602 : Int) =>
    (chkI (v171 + 1)).bind fun v687 =>
    some (.inl (v602, v687))
   ) else
   some (.inr v170)
  ) N (1, 0)
 ) fun (v516 : Int) =>
 some v516
set_option maxRecDepth 100000 in
set_option maxHeartbeats 4000000 in
theorem p50 (N : Nat) (a0 : S25) (a1 : (List Bool)) (r : Int) (h : d50 N a0 a1 = some r) : FunC Tryz.prog 50 [.agg [.d (.sl (a0.Sizes.map (cI .i64))), .d (.sl (a0.Selectivities.map cS115))], .d (.sl (a1.map cB))] (.d (.lit (.int .i64 r))) := by
 unfold d50 at h
 refine FunC.enter 64 [(0, .agg [.d (.sl (a0.Sizes.map (cI .i64))), .d (.sl (a0.Selectivities.map cS115))]), (1, .d (.sl (a1.map cB)))] (by simp) Tryz.func50 rfl (of_decide_eq_true rfl) rfl rfl ?_
 refine AW.seqR ?_
 refine Chain.runK [] 2 fun K hK => ?_; simp; refine hK _ _ ?_; clear hK K
 refine Chain.sub (S' := mk 64 [] [(1, .d (.sl (a1.map cB))), (2, .ptr 2 0 0)] [(2, some (.box [.d (.sl (a0.Sizes.map (cI .i64))), .d (.sl (a0.Selectivities.map cS115))]))]) Sub.tt ?_
 refine Chain.nil ?_
 refine AW.seqR ?_
 refine Chain.runK [] 1 fun K hK => ?_; simp; refine hK _ _ ?_; clear hK K
 refine Chain.sub (S' := mk 64 [] [(1, .d (.sl (a1.map cB))), (2, .ptr 2 0 0), (5, .d (.lit (.int .i64 1)))] [(2, some (.box [.d (.sl (a0.Sizes.map (cI .i64))), .d (.sl (a0.Selectivities.map cS115))]))]) Sub.tt ?_
 refine Chain.nil ?_
 refine AW.seq ?_
 refine AW.seqR ?_
 refine Chain.runK [] 4 fun K hK => ?_; simp; refine hK _ _ ?_; clear hK K
 refine Chain.sub (S' := mk 64 [] [(1, .d (.sl (a1.map cB))), (2, .ptr 2 0 0), (5, .d (.lit (.int .i64 1))), (12, .d (.lit (.int .i64 (a0.Sizes.length : Int)))), (13, .d (.lit (.int .i64 0)))] [(2, some (.box [.d (.sl (a0.Sizes.map (cI .i64))), .d (.sl (a0.Selectivities.map cS115))]))]) Sub.tt ?_
 refine Chain.nil ?_
 refine AW.lastN (fun (v516 : Int) => mk 64 [] [(5, .d (.lit (.int .i64 v516)))] []) h ?_ ?_ <;> clear h
 ·intro o h
  refine AW.block ?_
  refine AW.iter (fun ((v170, v171) : (Int × Int)) => mk 64 [] [(1, .d (.sl (a1.map cB))), (2, .ptr 2 0 0), (5, .d (.lit (.int .i64 v170))), (12, .d (.lit (.int .i64 (a0.Sizes.length : Int)))), (13, .d (.lit (.int .i64 v171)))] [(2, some (.box [.d (.sl (a0.Sizes.map (cI .i64))), .d (.sl (a0.Selectivities.map cS115))]))]) h Sub.tt ?_
  clear h
  rintro ⟨v170, v171⟩ x h
  dsimp only at h ⊢
  refine AW.seqR ?_
  refine Chain.runK [] 1 fun K hK => ?_; simp; refine hK _ _ ?_; clear hK K
  refine Chain.sub (S' := mk 64 [] [(1, .d (.sl (a1.map cB))), (2, .ptr 2 0 0), (5, .d (.lit (.int .i64 v170))), (12, .d (.lit (.int .i64 (a0.Sizes.length : Int)))), (13, .d (.lit (.int .i64 v171))), (14, .d (.lit (.bool (decide (v171 < (a0.Sizes.length : Int))))))] [(2, some (.box [.d (.sl (a0.Sizes.map (cI .i64))), .d (.sl (a0.Selectivities.map cS115))]))]) Sub.tt ?_
  refine Chain.nil ?_
  refine AW.seq ?_
  replace h := isome h; rcases h with ⟨c517, h⟩ | ⟨c517, h⟩
  ·have c517_ : decide (v171 < (a0.Sizes.length : Int)) = true := decide_eq_true c517
   refine AW.condT (b := decide (v171 < (a0.Sizes.length : Int))) rfl c517_ ?_
   refine AW.sub (Sub.bool 14 (b := decide (v171 < (a0.Sizes.length : Int))) rfl c517_) ?_
   refine AW.sub (S' := mk 64 [] [(1, .d (.sl (a1.map cB))), (2, .ptr 2 0 0), (5, .d (.lit (.int .i64 v170))), (12, .d (.lit (.int .i64 (a0.Sizes.length : Int)))), (13, .d (.lit (.int .i64 v171))), (14, .d (.lit (.bool true)))] [(2, some (.box [.d (.sl (a0.Sizes.map (cI .i64))), .d (.sl (a0.Selectivities.map cS115))]))]) (by simp; exact Sub.table (by simp) (by simp)) ?_
   refine AW.skip ?_
   refine thenQ_normal ?_
   refine AW.seqN (fun (v602 : Int) => mk 64 [] [(1, .d (.sl (a1.map cB))), (2, .ptr 2 0 0), (5, .d (.lit (.int .i64 v602))), (12, .d (.lit (.int .i64 (a0.Sizes.length : Int)))), (13, .d (.lit (.int .i64 v171)))] [(2, some (.box [.d (.sl (a0.Sizes.map (cI .i64))), .d (.sl (a0.Selectivities.map cS115))]))]) h ?_ ?_ <;> clear h
   ·intro o h
    refine AW.block ?_
    refine AW.seqR ?_
    refine Chain.runK [] 2 fun K hK => ?_; simp; refine hK _ _ ?_; clear hK K
    refine Chain.sub (S' := mk 64 [] [(1, .d (.sl (a1.map cB))), (2, .ptr 2 0 0), (5, .d (.lit (.int .i64 v170))), (6, .d (.lit (.int .i64 v171))), (12, .d (.lit (.int .i64 (a0.Sizes.length : Int)))), (13, .d (.lit (.int .i64 v171)))] [(2, some (.box [.d (.sl (a0.Sizes.map (cI .i64))), .d (.sl (a0.Selectivities.map cS115))]))]) Sub.tt ?_
    refine Chain.nil ?_
    refine AW.seq ?_
    refine AW.seqR ?_
    replace h := bsome h; obtain ⟨x603, hx603, h⟩ := h
    obtain ⟨k604, hx603k, hx603, hx603a, hx603b⟩ := idx_some hx603
    refine Chain.runK [] 5 fun K hK => ?_; simp [hx603, hx603k, hx603a]; refine hK _ _ ?_; clear hK K
    refine Chain.sub (S' := mk 64 [] [(1, .d (.sl (a1.map cB))), (2, .ptr 2 0 0), (5, .d (.lit (.int .i64 v170))), (6, .d (.lit (.int .i64 v171))), (12, .d (.lit (.int .i64 (a0.Sizes.length : Int)))), (13, .d (.lit (.int .i64 v171))), (20, .d (.lit (.bool (!x603))))] [(2, some (.box [.d (.sl (a0.Sizes.map (cI .i64))), .d (.sl (a0.Selectivities.map cS115))]))]) Sub.tt ?_
    refine Chain.nil ?_
    replace h := isome h; rcases h with ⟨c605, h⟩ | ⟨c605, h⟩
    ·have c605_ : (!x603) = true := c605
     refine AW.condT (b := (!x603)) rfl c605_ ?_
     refine AW.sub (Sub.bool 20 (b := (!x603)) rfl c605_) ?_
     refine AW.sub (S' := mk 64 [] [(1, .d (.sl (a1.map cB))), (2, .ptr 2 0 0), (5, .d (.lit (.int .i64 v170))), (6, .d (.lit (.int .i64 v171))), (12, .d (.lit (.int .i64 (a0.Sizes.length : Int)))), (13, .d (.lit (.int .i64 v171))), (20, .d (.lit (.bool true)))] [(2, some (.box [.d (.sl (a0.Sizes.map (cI .i64))), .d (.sl (a0.Selectivities.map cS115))]))]) (by simp; exact Sub.table (by simp) (by simp)) ?_
     refine AW.exit ?_
     cases h
     refine thenQ_pass (by simp) ?_
     refine blockQ.hit ?_
     refine PostN.next ?_
     exact Sub.tt
    ·have c605_ : (!x603) = false := Bool.eq_false_iff.2 c605
     refine AW.condF (b := (!x603)) rfl c605_ ?_
     refine AW.sub (Sub.bool 20 (b := (!x603)) rfl c605_) ?_
     refine AW.sub (S' := mk 64 [] [(1, .d (.sl (a1.map cB))), (2, .ptr 2 0 0), (5, .d (.lit (.int .i64 v170))), (6, .d (.lit (.int .i64 v171))), (12, .d (.lit (.int .i64 (a0.Sizes.length : Int)))), (13, .d (.lit (.int .i64 v171))), (20, .d (.lit (.bool false)))] [(2, some (.box [.d (.sl (a0.Sizes.map (cI .i64))), .d (.sl (a0.Selectivities.map cS115))]))]) (by simp; exact Sub.table (by simp) (by simp)) ?_
     refine AW.skip ?_
     refine thenQ_normal ?_
     refine AW.seqR ?_
     replace h := bsome h; obtain ⟨x606, hx606, h⟩ := h
     obtain ⟨hx606, hx606a, hx606b⟩ := idx_some2 hx606 hx603k
     replace h := bsome h; obtain ⟨v607, hv607, h⟩ := h
     have hv607 := chkI_some hv607
     refine Chain.runK [] 8 fun K hK => ?_; simp [hx606, hx603k, hx606a, hv607]; refine hK _ _ ?_; clear hK K
     refine Chain.sub (S' := mk 64 [] [(1, .d (.sl (a1.map cB))), (2, .ptr 2 0 0), (5, .d (.lit (.int .i64 v607))), (6, .d (.lit (.int .i64 v171))), (12, .d (.lit (.int .i64 (a0.Sizes.length : Int)))), (13, .d (.lit (.int .i64 v171)))] [(2, some (.box [.d (.sl (a0.Sizes.map (cI .i64))), .d (.sl (a0.Selectivities.map cS115))]))]) Sub.tt ?_
     refine Chain.nil ?_
     refine AW.seq ?_
     refine AW.seqR ?_
     refine Chain.runK [] 2 fun K hK => ?_; simp; refine hK _ _ ?_; clear hK K
     refine Chain.sub (S' := mk 64 [] [(1, .d (.sl (a1.map cB))), (2, .ptr 2 0 0), (5, .d (.lit (.int .i64 v607))), (6, .d (.lit (.int .i64 v171))), (12, .d (.lit (.int .i64 (a0.Sizes.length : Int)))), (13, .d (.lit (.int .i64 v171))), (29, .d (.lit (.bool (decide (v607 > 1073741824)))))] [(2, some (.box [.d (.sl (a0.Sizes.map (cI .i64))), .d (.sl (a0.Selectivities.map cS115))]))]) Sub.tt ?_
     refine Chain.nil ?_
     refine AW.lastN (fun (v609 : Int) => mk 64 [] [(1, .d (.sl (a1.map cB))), (2, .ptr 2 0 0), (5, .d (.lit (.int .i64 v609))), (6, .d (.lit (.int .i64 v171))), (12, .d (.lit (.int .i64 (a0.Sizes.length : Int)))), (13, .d (.lit (.int .i64 v171)))] [(2, some (.box [.d (.sl (a0.Sizes.map (cI .i64))), .d (.sl (a0.Selectivities.map cS115))]))]) h ?_ ?_ <;> clear h
     ·intro o h
      replace h := isome h; rcases h with ⟨c610, h⟩ | ⟨c610, h⟩
      ·have c610_ : decide (v607 > 1073741824) = true := decide_eq_true c610
       refine AW.condT (b := decide (v607 > 1073741824)) rfl c610_ ?_
       refine AW.sub (Sub.bool 29 (b := decide (v607 > 1073741824)) rfl c610_) ?_
       refine AW.sub (S' := mk 64 [] [(1, .d (.sl (a1.map cB))), (2, .ptr 2 0 0), (5, .d (.lit (.int .i64 v607))), (6, .d (.lit (.int .i64 v171))), (12, .d (.lit (.int .i64 (a0.Sizes.length : Int)))), (13, .d (.lit (.int .i64 v171))), (29, .d (.lit (.bool true)))] [(2, some (.box [.d (.sl (a0.Sizes.map (cI .i64))), .d (.sl (a0.Selectivities.map cS115))]))]) (by simp; exact Sub.table (by simp) (by simp)) ?_
       refine AW.region ?_
       refine Chain.runK [] 1 fun K hK => ?_; simp; refine hK _ _ ?_; clear hK K
       refine Chain.sub (S' := mk 64 [] [(1, .d (.sl (a1.map cB))), (2, .ptr 2 0 0), (5, .d (.lit (.int .i64 1073741824))), (6, .d (.lit (.int .i64 v171))), (12, .d (.lit (.int .i64 (a0.Sizes.length : Int)))), (13, .d (.lit (.int .i64 v171)))] [(2, some (.box [.d (.sl (a0.Sizes.map (cI .i64))), .d (.sl (a0.Selectivities.map cS115))]))]) Sub.tt ?_
       refine Chain.nil ?_
       cases h
       refine PostN.next ?_
       exact Sub.tt
      ·have c610_ : decide (v607 > 1073741824) = false := decide_eq_false c610
       refine AW.condF (b := decide (v607 > 1073741824)) rfl c610_ ?_
       refine AW.sub (Sub.bool 29 (b := decide (v607 > 1073741824)) rfl c610_) ?_
       refine AW.sub (S' := mk 64 [] [(1, .d (.sl (a1.map cB))), (2, .ptr 2 0 0), (5, .d (.lit (.int .i64 v607))), (6, .d (.lit (.int .i64 v171))), (12, .d (.lit (.int .i64 (a0.Sizes.length : Int)))), (13, .d (.lit (.int .i64 v171))), (29, .d (.lit (.bool false)))] [(2, some (.box [.d (.sl (a0.Sizes.map (cI .i64))), .d (.sl (a0.Selectivities.map cS115))]))]) (by simp; exact Sub.table (by simp) (by simp)) ?_
       refine AW.skip ?_
       cases h
       refine PostN.next ?_
       exact Sub.tt
     ·rintro v609 h
      refine thenQ_normal ?_
      refine AW.seqR ?_
      refine Chain.runK [] 4 fun K hK => ?_; simp; refine hK _ _ ?_; clear hK K
      refine Chain.sub (S' := mk 64 [] [(1, .d (.sl (a1.map cB))), (2, .ptr 2 0 0), (5, .d (.lit (.int .i64 v609))), (6, .d (.lit (.int .i64 v171))), (12, .d (.lit (.int .i64 (a0.Sizes.length : Int)))), (13, .d (.lit (.int .i64 v171))), (31, .d (.sl (a0.Selectivities.map cS115))), (32, .d (.lit (.int .i64 (a0.Selectivities.length : Int)))), (33, .d (.lit (.int .i64 0)))] [(2, some (.box [.d (.sl (a0.Sizes.map (cI .i64))), .d (.sl (a0.Selectivities.map cS115))]))]) Sub.tt ?_
      refine Chain.nil ?_
      refine AW.lastN (fun (v668 : Int) => mk 64 [] [(1, .d (.sl (a1.map cB))), (2, .ptr 2 0 0), (5, .d (.lit (.int .i64 v668))), (12, .d (.lit (.int .i64 (a0.Sizes.length : Int)))), (13, .d (.lit (.int .i64 v171)))] [(2, some (.box [.d (.sl (a0.Sizes.map (cI .i64))), .d (.sl (a0.Selectivities.map cS115))]))]) h ?_ ?_ <;> clear h
      ·intro o h
       refine AW.block ?_
       refine AW.iter (fun ((v628, v629) : (Int × Int)) => mk 64 [] [(1, .d (.sl (a1.map cB))), (2, .ptr 2 0 0), (5, .d (.lit (.int .i64 v628))), (6, .d (.lit (.int .i64 v171))), (12, .d (.lit (.int .i64 (a0.Sizes.length : Int)))), (13, .d (.lit (.int .i64 v171))), (31, .d (.sl (a0.Selectivities.map cS115))), (32, .d (.lit (.int .i64 (a0.Selectivities.length : Int)))), (33, .d (.lit (.int .i64 v629)))] [(2, some (.box [.d (.sl (a0.Sizes.map (cI .i64))), .d (.sl (a0.Selectivities.map cS115))]))]) h Sub.tt ?_
       clear h
       rintro ⟨v628, v629⟩ x h
       dsimp only at h ⊢
       refine AW.seqR ?_
       refine Chain.runK [] 1 fun K hK => ?_; simp; refine hK _ _ ?_; clear hK K
       refine Chain.sub (S' := mk 64 [] [(1, .d (.sl (a1.map cB))), (2, .ptr 2 0 0), (5, .d (.lit (.int .i64 v628))), (6, .d (.lit (.int .i64 v171))), (12, .d (.lit (.int .i64 (a0.Sizes.length : Int)))), (13, .d (.lit (.int .i64 v171))), (31, .d (.sl (a0.Selectivities.map cS115))), (32, .d (.lit (.int .i64 (a0.Selectivities.length : Int)))), (33, .d (.lit (.int .i64 v629))), (34, .d (.lit (.bool (decide (v629 < (a0.Selectivities.length : Int))))))] [(2, some (.box [.d (.sl (a0.Sizes.map (cI .i64))), .d (.sl (a0.Selectivities.map cS115))]))]) Sub.tt ?_
       refine Chain.nil ?_
       refine AW.seq ?_
       replace h := isome h; rcases h with ⟨c669, h⟩ | ⟨c669, h⟩
       ·have c669_ : decide (v629 < (a0.Selectivities.length : Int)) = true := decide_eq_true c669
        refine AW.condT (b := decide (v629 < (a0.Selectivities.length : Int))) rfl c669_ ?_
        refine AW.sub (Sub.bool 34 (b := decide (v629 < (a0.Selectivities.length : Int))) rfl c669_) ?_
        refine AW.sub (S' := mk 64 [] [(1, .d (.sl (a1.map cB))), (2, .ptr 2 0 0), (5, .d (.lit (.int .i64 v628))), (6, .d (.lit (.int .i64 v171))), (12, .d (.lit (.int .i64 (a0.Sizes.length : Int)))), (13, .d (.lit (.int .i64 v171))), (31, .d (.sl (a0.Selectivities.map cS115))), (32, .d (.lit (.int .i64 (a0.Selectivities.length : Int)))), (33, .d (.lit (.int .i64 v629))), (34, .d (.lit (.bool true)))] [(2, some (.box [.d (.sl (a0.Sizes.map (cI .i64))), .d (.sl (a0.Selectivities.map cS115))]))]) (by simp; exact Sub.table (by simp) (by simp)) ?_
        refine AW.skip ?_
        refine thenQ_normal ?_
        refine AW.seq ?_
        refine AW.block ?_
        refine AW.seqR ?_
        replace h := bsome h; obtain ⟨x670, hx670, h⟩ := h
        obtain ⟨k671, hx670k, hx670, hx670a, hx670b⟩ := idx_some hx670
        refine Chain.runK [] 4 fun K hK => ?_; simp [hx670, hx670k, hx670a]; refine hK _ _ ?_; clear hK K
        refine Chain.sub (S' := mk 64 [] [(1, .d (.sl (a1.map cB))), (2, .ptr 2 0 0), (5, .d (.lit (.int .i64 v628))), (6, .d (.lit (.int .i64 v171))), (8, .ptr 8 0 0), (12, .d (.lit (.int .i64 (a0.Sizes.length : Int)))), (13, .d (.lit (.int .i64 v171))), (31, .d (.sl (a0.Selectivities.map cS115))), (32, .d (.lit (.int .i64 (a0.Selectivities.length : Int)))), (33, .d (.lit (.int .i64 v629)))] [(2, some (.box [.d (.sl (a0.Sizes.map (cI .i64))), .d (.sl (a0.Selectivities.map cS115))])), (8, some (.box [.d (.lit (.int .i64 x670.A)), .d (.lit (.int .i64 x670.B)), .d (.lit (.int .i64 x670.Divisor))]))]) Sub.tt ?_
        refine Chain.nil ?_
        replace h := bsome h; obtain ⟨v675, hj, h⟩ := h
        refine AW.cutR (mk 64 [] [(1, .d (.sl (a1.map cB))), (2, .ptr 2 0 0), (5, .d (.lit (.int .i64 v628))), (6, .d (.lit (.int .i64 v171))), (8, .ptr 8 0 0), (12, .d (.lit (.int .i64 (a0.Sizes.length : Int)))), (13, .d (.lit (.int .i64 v171))), (31, .d (.sl (a0.Selectivities.map cS115))), (32, .d (.lit (.int .i64 (a0.Selectivities.length : Int)))), (33, .d (.lit (.int .i64 v629))), (47, .d (.lit (.bool v675)))] [(2, some (.box [.d (.sl (a0.Sizes.map (cI .i64))), .d (.sl (a0.Selectivities.map cS115))])), (8, some (.box [.d (.lit (.int .i64 x670.A)), .d (.lit (.int .i64 x670.B)), .d (.lit (.int .i64 x670.Divisor))]))]) ?_ ?_
        ·clear h; have h := hj; clear hj
         refine Chain.runK [] 5 fun K hK => ?_; simp; refine hK _ _ ?_; clear hK K
         refine Chain.sub (S' := mk 64 [] [(1, .d (.sl (a1.map cB))), (2, .ptr 2 0 0), (5, .d (.lit (.int .i64 v628))), (6, .d (.lit (.int .i64 v171))), (8, .ptr 8 0 0), (12, .d (.lit (.int .i64 (a0.Sizes.length : Int)))), (13, .d (.lit (.int .i64 v171))), (31, .d (.sl (a0.Selectivities.map cS115))), (32, .d (.lit (.int .i64 (a0.Selectivities.length : Int)))), (33, .d (.lit (.int .i64 v629))), (41, .d (.lit (.bool (x670.B == v171))))] [(2, some (.box [.d (.sl (a0.Sizes.map (cI .i64))), .d (.sl (a0.Selectivities.map cS115))])), (8, some (.box [.d (.lit (.int .i64 x670.A)), .d (.lit (.int .i64 x670.B)), .d (.lit (.int .i64 x670.Divisor))]))]) Sub.tt ?_
         replace h := isome h; rcases h with ⟨c676, h⟩ | ⟨c676, h⟩
         ·have c676_ : (x670.B == v171) = true := c676
          refine Chain.sub (Sub.bool 41 (b := (x670.B == v171)) rfl c676_) ?_
          refine Chain.sub (S' := mk 64 [] [(1, .d (.sl (a1.map cB))), (2, .ptr 2 0 0), (5, .d (.lit (.int .i64 v628))), (6, .d (.lit (.int .i64 v171))), (8, .ptr 8 0 0), (12, .d (.lit (.int .i64 (a0.Sizes.length : Int)))), (13, .d (.lit (.int .i64 v171))), (31, .d (.sl (a0.Selectivities.map cS115))), (32, .d (.lit (.int .i64 (a0.Selectivities.length : Int)))), (33, .d (.lit (.int .i64 v629))), (41, .d (.lit (.bool true)))] [(2, some (.box [.d (.sl (a0.Sizes.map (cI .i64))), .d (.sl (a0.Selectivities.map cS115))])), (8, some (.box [.d (.lit (.int .i64 x670.A)), .d (.lit (.int .i64 x670.B)), .d (.lit (.int .i64 x670.Divisor))]))]) (by simp; exact Sub.table (by simp) (by simp)) ?_
          replace h := bsome h; obtain ⟨x677, hx677, h⟩ := h
          obtain ⟨k678, hx677k, hx677, hx677a, hx677b⟩ := idx_some hx677
          refine Chain.runK [] 6 fun K hK => ?_; simp [hx677, hx677k, hx677a]; refine hK _ _ ?_; clear hK K
          refine Chain.sub (S' := mk 64 [] [(1, .d (.sl (a1.map cB))), (2, .ptr 2 0 0), (5, .d (.lit (.int .i64 v628))), (6, .d (.lit (.int .i64 v171))), (8, .ptr 8 0 0), (12, .d (.lit (.int .i64 (a0.Sizes.length : Int)))), (13, .d (.lit (.int .i64 v171))), (31, .d (.sl (a0.Selectivities.map cS115))), (32, .d (.lit (.int .i64 (a0.Selectivities.length : Int)))), (33, .d (.lit (.int .i64 v629))), (42, .d (.sl (a1.map cB))), (43, .ptr 8 0 0), (44, .d (.lit (.int .i64 x670.A))), (45, .d (.pim [.lit (.bool x677)])), (46, .d (.lit (.bool x677))), (47, .d (.lit (.bool x677)))] [(2, some (.box [.d (.sl (a0.Sizes.map (cI .i64))), .d (.sl (a0.Selectivities.map cS115))])), (8, some (.box [.d (.lit (.int .i64 x670.A)), .d (.lit (.int .i64 x670.B)), .d (.lit (.int .i64 x670.Divisor))]))]) Sub.tt ?_
          cases h
          exact Chain.nil Sub.tt
         ·have c676_ : (x670.B == v171) = false := Bool.eq_false_iff.2 c676
          refine Chain.sub (Sub.bool 41 (b := (x670.B == v171)) rfl c676_) ?_
          refine Chain.sub (S' := mk 64 [] [(1, .d (.sl (a1.map cB))), (2, .ptr 2 0 0), (5, .d (.lit (.int .i64 v628))), (6, .d (.lit (.int .i64 v171))), (8, .ptr 8 0 0), (12, .d (.lit (.int .i64 (a0.Sizes.length : Int)))), (13, .d (.lit (.int .i64 v171))), (31, .d (.sl (a0.Selectivities.map cS115))), (32, .d (.lit (.int .i64 (a0.Selectivities.length : Int)))), (33, .d (.lit (.int .i64 v629))), (41, .d (.lit (.bool false)))] [(2, some (.box [.d (.sl (a0.Sizes.map (cI .i64))), .d (.sl (a0.Selectivities.map cS115))])), (8, some (.box [.d (.lit (.int .i64 x670.A)), .d (.lit (.int .i64 x670.B)), .d (.lit (.int .i64 x670.Divisor))]))]) (by simp; exact Sub.table (by simp) (by simp)) ?_
          refine Chain.runK [] 6 fun K hK => ?_; simp; refine hK _ _ ?_; clear hK K
          refine Chain.sub (S' := mk 64 [] [(1, .d (.sl (a1.map cB))), (2, .ptr 2 0 0), (5, .d (.lit (.int .i64 v628))), (6, .d (.lit (.int .i64 v171))), (8, .ptr 8 0 0), (12, .d (.lit (.int .i64 (a0.Sizes.length : Int)))), (13, .d (.lit (.int .i64 v171))), (31, .d (.sl (a0.Selectivities.map cS115))), (32, .d (.lit (.int .i64 (a0.Selectivities.length : Int)))), (33, .d (.lit (.int .i64 v629))), (42, .tup []), (43, .tup []), (44, .tup []), (45, .tup []), (46, .tup []), (47, .d (.lit (.bool false)))] [(2, some (.box [.d (.sl (a0.Sizes.map (cI .i64))), .d (.sl (a0.Selectivities.map cS115))])), (8, some (.box [.d (.lit (.int .i64 x670.A)), .d (.lit (.int .i64 x670.B)), .d (.lit (.int .i64 x670.Divisor))]))]) Sub.tt ?_
          cases h
          exact Chain.nil Sub.tt
        ·clear hj
         replace h := isome h; rcases h with ⟨c679, h⟩ | ⟨c679, h⟩
         ·have c679_ : v675 = true := c679
          refine AW.condT (b := v675) rfl c679_ ?_
          refine AW.sub (Sub.bool 47 (b := v675) rfl c679_) ?_
          refine AW.sub (S' := mk 64 [] [(1, .d (.sl (a1.map cB))), (2, .ptr 2 0 0), (5, .d (.lit (.int .i64 v628))), (6, .d (.lit (.int .i64 v171))), (8, .ptr 8 0 0), (12, .d (.lit (.int .i64 (a0.Sizes.length : Int)))), (13, .d (.lit (.int .i64 v171))), (31, .d (.sl (a0.Selectivities.map cS115))), (32, .d (.lit (.int .i64 (a0.Selectivities.length : Int)))), (33, .d (.lit (.int .i64 v629))), (47, .d (.lit (.bool true)))] [(2, some (.box [.d (.sl (a0.Sizes.map (cI .i64))), .d (.sl (a0.Selectivities.map cS115))])), (8, some (.box [.d (.lit (.int .i64 x670.A)), .d (.lit (.int .i64 x670.B)), .d (.lit (.int .i64 x670.Divisor))]))]) (by simp; exact Sub.table (by simp) (by simp)) ?_
          refine AW.seqR ?_
          replace h := bsome h; obtain ⟨v680, hv680, h⟩ := h
          obtain ⟨hv680a, hv680⟩ := quoI_some hv680
          refine Chain.runK [] 5 fun K hK => ?_; simp [hv680, hv680a]; refine hK _ _ ?_; clear hK K
          refine Chain.sub (S' := mk 64 [] [(1, .d (.sl (a1.map cB))), (2, .ptr 2 0 0), (5, .d (.lit (.int .i64 v628))), (6, .d (.lit (.int .i64 v171))), (8, .ptr 8 0 0), (9, .d (.lit (.int .i64 v680))), (12, .d (.lit (.int .i64 (a0.Sizes.length : Int)))), (13, .d (.lit (.int .i64 v171))), (31, .d (.sl (a0.Selectivities.map cS115))), (32, .d (.lit (.int .i64 (a0.Selectivities.length : Int)))), (33, .d (.lit (.int .i64 v629)))] [(2, some (.box [.d (.sl (a0.Sizes.map (cI .i64))), .d (.sl (a0.Selectivities.map cS115))])), (8, some (.box [.d (.lit (.int .i64 x670.A)), .d (.lit (.int .i64 x670.B)), .d (.lit (.int .i64 x670.Divisor))]))]) Sub.tt ?_
          refine Chain.nil ?_
          refine AW.seq ?_
          refine AW.seqR ?_
          replace h := bsome h; obtain ⟨v681, hv681, h⟩ := h
          have hv681 := chkI_some hv681
          refine Chain.runK [] 6 fun K hK => ?_; simp [hv681]; refine hK _ _ ?_; clear hK K
          refine Chain.sub (S' := mk 64 [] [(1, .d (.sl (a1.map cB))), (2, .ptr 2 0 0), (6, .d (.lit (.int .i64 v171))), (9, .d (.lit (.int .i64 v680))), (12, .d (.lit (.int .i64 (a0.Sizes.length : Int)))), (13, .d (.lit (.int .i64 v171))), (31, .d (.sl (a0.Selectivities.map cS115))), (32, .d (.lit (.int .i64 (a0.Selectivities.length : Int)))), (33, .d (.lit (.int .i64 v629))), (57, .d (.lit (.bool (decide (v681 < v628)))))] [(2, some (.box [.d (.sl (a0.Sizes.map (cI .i64))), .d (.sl (a0.Selectivities.map cS115))]))]) Sub.tt ?_
          refine Chain.nil ?_
          replace h := isome h; rcases h with ⟨c682, h⟩ | ⟨c682, h⟩
          ·have c682_ : decide (v681 < v628) = true := decide_eq_true c682
           refine AW.condT (b := decide (v681 < v628)) rfl c682_ ?_
           refine AW.sub (Sub.bool 57 (b := decide (v681 < v628)) rfl c682_) ?_
           refine AW.sub (S' := mk 64 [] [(1, .d (.sl (a1.map cB))), (2, .ptr 2 0 0), (6, .d (.lit (.int .i64 v171))), (9, .d (.lit (.int .i64 v680))), (12, .d (.lit (.int .i64 (a0.Sizes.length : Int)))), (13, .d (.lit (.int .i64 v171))), (31, .d (.sl (a0.Selectivities.map cS115))), (32, .d (.lit (.int .i64 (a0.Selectivities.length : Int)))), (33, .d (.lit (.int .i64 v629))), (57, .d (.lit (.bool true)))] [(2, some (.box [.d (.sl (a0.Sizes.map (cI .i64))), .d (.sl (a0.Selectivities.map cS115))]))]) (by simp; exact Sub.table (by simp) (by simp)) ?_
           refine AW.region ?_
           replace h := bsome h; obtain ⟨v683, hv683, h⟩ := h
           have hv683 := chkI_some hv683
           refine Chain.runK [] 3 fun K hK => ?_; simp [hv683]; refine hK _ _ ?_; clear hK K
           refine Chain.sub (S' := mk 64 [] [(1, .d (.sl (a1.map cB))), (2, .ptr 2 0 0), (6, .d (.lit (.int .i64 v171))), (9, .d (.lit (.int .i64 v683))), (12, .d (.lit (.int .i64 (a0.Sizes.length : Int)))), (13, .d (.lit (.int .i64 v171))), (31, .d (.sl (a0.Selectivities.map cS115))), (32, .d (.lit (.int .i64 (a0.Selectivities.length : Int)))), (33, .d (.lit (.int .i64 v629)))] [(2, some (.box [.d (.sl (a0.Sizes.map (cI .i64))), .d (.sl (a0.Selectivities.map cS115))]))]) Sub.tt ?_
           refine Chain.nil ?_
           refine thenQ_normal ?_
           refine AW.region ?_
           refine Chain.runK [] 2 fun K hK => ?_; simp; refine hK _ _ ?_; clear hK K
           refine Chain.sub (S' := mk 64 [] [(1, .d (.sl (a1.map cB))), (2, .ptr 2 0 0), (5, .d (.lit (.int .i64 v683))), (6, .d (.lit (.int .i64 v171))), (12, .d (.lit (.int .i64 (a0.Sizes.length : Int)))), (13, .d (.lit (.int .i64 v171))), (31, .d (.sl (a0.Selectivities.map cS115))), (32, .d (.lit (.int .i64 (a0.Selectivities.length : Int)))), (33, .d (.lit (.int .i64 v629)))] [(2, some (.box [.d (.sl (a0.Sizes.map (cI .i64))), .d (.sl (a0.Selectivities.map cS115))]))]) Sub.tt ?_
           refine Chain.nil ?_
           refine blockQ.normal ?_
           refine thenQ_normal ?_
           refine AW.region ?_
           replace h := bsome h; obtain ⟨v684, hv684, h⟩ := h
           have hv684 := chkI_some hv684
           refine Chain.runK [] 2 fun K hK => ?_; simp [hv684]; refine hK _ _ ?_; clear hK K
           refine Chain.sub (S' := mk 64 [] [(1, .d (.sl (a1.map cB))), (2, .ptr 2 0 0), (5, .d (.lit (.int .i64 v683))), (6, .d (.lit (.int .i64 v171))), (12, .d (.lit (.int .i64 (a0.Sizes.length : Int)))), (13, .d (.lit (.int .i64 v171))), (31, .d (.sl (a0.Selectivities.map cS115))), (32, .d (.lit (.int .i64 (a0.Selectivities.length : Int)))), (33, .d (.lit (.int .i64 v684)))] [(2, some (.box [.d (.sl (a0.Sizes.map (cI .i64))), .d (.sl (a0.Selectivities.map cS115))]))]) Sub.tt ?_
           refine Chain.nil ?_
           cases h
           refine PostI.next ?_
           exact Sub.tt
          ·have c682_ : decide (v681 < v628) = false := decide_eq_false c682
           refine AW.condF (b := decide (v681 < v628)) rfl c682_ ?_
           refine AW.sub (Sub.bool 57 (b := decide (v681 < v628)) rfl c682_) ?_
           refine AW.sub (S' := mk 64 [] [(1, .d (.sl (a1.map cB))), (2, .ptr 2 0 0), (6, .d (.lit (.int .i64 v171))), (9, .d (.lit (.int .i64 v680))), (12, .d (.lit (.int .i64 (a0.Sizes.length : Int)))), (13, .d (.lit (.int .i64 v171))), (31, .d (.sl (a0.Selectivities.map cS115))), (32, .d (.lit (.int .i64 (a0.Selectivities.length : Int)))), (33, .d (.lit (.int .i64 v629))), (57, .d (.lit (.bool false)))] [(2, some (.box [.d (.sl (a0.Sizes.map (cI .i64))), .d (.sl (a0.Selectivities.map cS115))]))]) (by simp; exact Sub.table (by simp) (by simp)) ?_
           refine AW.skip ?_
           refine thenQ_normal ?_
           refine AW.region ?_
           refine Chain.runK [] 2 fun K hK => ?_; simp; refine hK _ _ ?_; clear hK K
           refine Chain.sub (S' := mk 64 [] [(1, .d (.sl (a1.map cB))), (2, .ptr 2 0 0), (5, .d (.lit (.int .i64 v680))), (6, .d (.lit (.int .i64 v171))), (12, .d (.lit (.int .i64 (a0.Sizes.length : Int)))), (13, .d (.lit (.int .i64 v171))), (31, .d (.sl (a0.Selectivities.map cS115))), (32, .d (.lit (.int .i64 (a0.Selectivities.length : Int)))), (33, .d (.lit (.int .i64 v629)))] [(2, some (.box [.d (.sl (a0.Sizes.map (cI .i64))), .d (.sl (a0.Selectivities.map cS115))]))]) Sub.tt ?_
           refine Chain.nil ?_
           refine blockQ.normal ?_
           refine thenQ_normal ?_
           refine AW.region ?_
           replace h := bsome h; obtain ⟨v685, hv685, h⟩ := h
           have hv685 := chkI_some hv685
           refine Chain.runK [] 2 fun K hK => ?_; simp [hv685]; refine hK _ _ ?_; clear hK K
           refine Chain.sub (S' := mk 64 [] [(1, .d (.sl (a1.map cB))), (2, .ptr 2 0 0), (5, .d (.lit (.int .i64 v680))), (6, .d (.lit (.int .i64 v171))), (12, .d (.lit (.int .i64 (a0.Sizes.length : Int)))), (13, .d (.lit (.int .i64 v171))), (31, .d (.sl (a0.Selectivities.map cS115))), (32, .d (.lit (.int .i64 (a0.Selectivities.length : Int)))), (33, .d (.lit (.int .i64 v685)))] [(2, some (.box [.d (.sl (a0.Sizes.map (cI .i64))), .d (.sl (a0.Selectivities.map cS115))]))]) Sub.tt ?_
           refine Chain.nil ?_
           cases h
           refine PostI.next ?_
           exact Sub.tt
         ·have c679_ : v675 = false := Bool.eq_false_iff.2 c679
          refine AW.condF (b := v675) rfl c679_ ?_
          refine AW.sub (Sub.bool 47 (b := v675) rfl c679_) ?_
          refine AW.sub (S' := mk 64 [] [(1, .d (.sl (a1.map cB))), (2, .ptr 2 0 0), (5, .d (.lit (.int .i64 v628))), (6, .d (.lit (.int .i64 v171))), (8, .ptr 8 0 0), (12, .d (.lit (.int .i64 (a0.Sizes.length : Int)))), (13, .d (.lit (.int .i64 v171))), (31, .d (.sl (a0.Selectivities.map cS115))), (32, .d (.lit (.int .i64 (a0.Selectivities.length : Int)))), (33, .d (.lit (.int .i64 v629))), (47, .d (.lit (.bool false)))] [(2, some (.box [.d (.sl (a0.Sizes.map (cI .i64))), .d (.sl (a0.Selectivities.map cS115))])), (8, some (.box [.d (.lit (.int .i64 x670.A)), .d (.lit (.int .i64 x670.B)), .d (.lit (.int .i64 x670.Divisor))]))]) (by simp; exact Sub.table (by simp) (by simp)) ?_
          refine AW.skip ?_
          refine blockQ.normal ?_
          refine thenQ_normal ?_
          refine AW.region ?_
          replace h := bsome h; obtain ⟨v686, hv686, h⟩ := h
          have hv686 := chkI_some hv686
          refine Chain.runK [] 2 fun K hK => ?_; simp [hv686]; refine hK _ _ ?_; clear hK K
          refine Chain.sub (S' := mk 64 [] [(1, .d (.sl (a1.map cB))), (2, .ptr 2 0 0), (5, .d (.lit (.int .i64 v628))), (6, .d (.lit (.int .i64 v171))), (12, .d (.lit (.int .i64 (a0.Sizes.length : Int)))), (13, .d (.lit (.int .i64 v171))), (31, .d (.sl (a0.Selectivities.map cS115))), (32, .d (.lit (.int .i64 (a0.Selectivities.length : Int)))), (33, .d (.lit (.int .i64 v686)))] [(2, some (.box [.d (.sl (a0.Sizes.map (cI .i64))), .d (.sl (a0.Selectivities.map cS115))]))]) Sub.tt ?_
          refine Chain.nil ?_
          cases h
          refine PostI.next ?_
          exact Sub.tt
       ·have c669_ : decide (v629 < (a0.Selectivities.length : Int)) = false := decide_eq_false c669
        refine AW.condF (b := decide (v629 < (a0.Selectivities.length : Int))) rfl c669_ ?_
        refine AW.sub (Sub.bool 34 (b := decide (v629 < (a0.Selectivities.length : Int))) rfl c669_) ?_
        refine AW.sub (S' := mk 64 [] [(1, .d (.sl (a1.map cB))), (2, .ptr 2 0 0), (5, .d (.lit (.int .i64 v628))), (6, .d (.lit (.int .i64 v171))), (12, .d (.lit (.int .i64 (a0.Sizes.length : Int)))), (13, .d (.lit (.int .i64 v171))), (31, .d (.sl (a0.Selectivities.map cS115))), (32, .d (.lit (.int .i64 (a0.Selectivities.length : Int)))), (33, .d (.lit (.int .i64 v629))), (34, .d (.lit (.bool false)))] [(2, some (.box [.d (.sl (a0.Sizes.map (cI .i64))), .d (.sl (a0.Selectivities.map cS115))]))]) (by simp; exact Sub.table (by simp) (by simp)) ?_
        refine AW.exit ?_
        cases h
        refine thenQ_pass (by simp) ?_
        refine PostI.out (by simp) ?_
        rintro rfl
        refine blockQ.hit ?_
        refine PostN.next ?_
        exact Sub.tt
      ·rintro v668 h
       cases h
       refine blockQ.normal ?_
       refine PostN.next ?_
       exact Sub.tt
   ·rintro v602 h
    refine AW.region ?_
    replace h := bsome h; obtain ⟨v687, hv687, h⟩ := h
    have hv687 := chkI_some hv687
    refine Chain.runK [] 2 fun K hK => ?_; simp [hv687]; refine hK _ _ ?_; clear hK K
    refine Chain.sub (S' := mk 64 [] [(1, .d (.sl (a1.map cB))), (2, .ptr 2 0 0), (5, .d (.lit (.int .i64 v602))), (12, .d (.lit (.int .i64 (a0.Sizes.length : Int)))), (13, .d (.lit (.int .i64 v687)))] [(2, some (.box [.d (.sl (a0.Sizes.map (cI .i64))), .d (.sl (a0.Selectivities.map cS115))]))]) Sub.tt ?_
    refine Chain.nil ?_
    cases h
    refine PostI.next ?_
    exact Sub.tt
  ·have c517_ : decide (v171 < (a0.Sizes.length : Int)) = false := decide_eq_false c517
   refine AW.condF (b := decide (v171 < (a0.Sizes.length : Int))) rfl c517_ ?_
   refine AW.sub (Sub.bool 14 (b := decide (v171 < (a0.Sizes.length : Int))) rfl c517_) ?_
   refine AW.sub (S' := mk 64 [] [(1, .d (.sl (a1.map cB))), (2, .ptr 2 0 0), (5, .d (.lit (.int .i64 v170))), (12, .d (.lit (.int .i64 (a0.Sizes.length : Int)))), (13, .d (.lit (.int .i64 v171))), (14, .d (.lit (.bool false)))] [(2, some (.box [.d (.sl (a0.Sizes.map (cI .i64))), .d (.sl (a0.Selectivities.map cS115))]))]) (by simp; exact Sub.table (by simp) (by simp)) ?_
   refine AW.exit ?_
   cases h
   refine thenQ_pass (by simp) ?_
   refine PostI.out (by simp) ?_
   rintro rfl
   refine blockQ.hit ?_
   refine PostN.next ?_
   exact Sub.tt
 ·rintro v516 h
  refine thenQ_normal ?_
  refine AW.seqR ?_
  refine Chain.runK [] 2 fun K hK => ?_; simp; refine hK _ _ ?_; clear hK K
  refine Chain.sub (S' := mk 64 [] [(4, .d (.lit (.int .i64 v516)))] []) Sub.tt ?_
  refine Chain.nil ?_
  refine AW.ret ?_
  cases h
  exact FinC.ret (by simp) (by simp)

/-- stemma/stemref3.TreeCost -/
def d16 : (N : Nat) → (a0 : S25) → (a1 : S28) → Option Int
 | 0, _, _ => none
 | N + 1, a0, a1 =>
  if ((a1.Children.length : Int) == 0) then (
   some 0
  ) else
  (mkL 1 (a0.Sizes.length : Int) (false : Bool)).bind fun l2 =>
  (d13 N a0 a1 l2).bind fun r3 =>
  (d50 N a0 r3.1).bind fun r4 =>
  (idx a1.Children 0).bind fun x5 =>
  (d16 N a0 x5).bind fun r6 =>
  (chkI (r4 + r6)).bind fun v7 =>
  (idx a1.Children 1).bind fun x8 =>
  (d16 N a0 x8).bind fun r9 =>
  (chkI (v7 + r9)).bind fun v10 =>
  some v10
set_option maxRecDepth 100000 in
set_option maxHeartbeats 4000000 in
theorem p16 (N : Nat) : ∀ (a0 : S25) (a1 : S28) (r : Int) (_ : d16 N a0 a1 = some r), FunC Tryz.prog 16 [.agg [.d (.sl (a0.Sizes.map (cI .i64))), .d (.sl (a0.Selectivities.map cS115))], .agg [.d (.lit (.int .i64 a1.Leaf)), .d (.sl (a1.Children.map cS28))]] (.d (.lit (.int .i64 r))) := by
 induction N with
 | zero => intro a0 a1 r h; cases h
 | succ N ih =>
 intro a0 a1 r h
 unfold d16 at h
 refine FunC.enter 35 [(0, .agg [.d (.sl (a0.Sizes.map (cI .i64))), .d (.sl (a0.Selectivities.map cS115))]), (1, .agg [.d (.lit (.int .i64 a1.Leaf)), .d (.sl (a1.Children.map cS28))])] (by simp) Tryz.func16 rfl (of_decide_eq_true rfl) rfl rfl ?_
 refine AW.seqR ?_
 refine Chain.runK [] 3 fun K hK => ?_; simp; refine hK _ _ ?_; clear hK K
 refine Chain.sub (S' := mk 35 [] [(2, .ptr 2 0 0), (3, .ptr 3 0 0)] [(2, some (.box [.d (.sl (a0.Sizes.map (cI .i64))), .d (.sl (a0.Selectivities.map cS115))])), (3, some (.box [.d (.lit (.int .i64 a1.Leaf)), .d (.sl (a1.Children.map cS28))]))]) Sub.tt ?_
 refine Chain.nil ?_
 refine AW.seq ?_
 refine AW.seqR ?_
 refine Chain.runK [] 4 fun K hK => ?_; simp; refine hK _ _ ?_; clear hK K
 refine Chain.sub (S' := mk 35 [] [(2, .ptr 2 0 0), (3, .ptr 3 0 0), (9, .d (.lit (.bool ((a1.Children.length : Int) == 0))))] [(2, some (.box [.d (.sl (a0.Sizes.map (cI .i64))), .d (.sl (a0.Selectivities.map cS115))])), (3, some (.box [.d (.lit (.int .i64 a1.Leaf)), .d (.sl (a1.Children.map cS28))]))]) Sub.tt ?_
 refine Chain.nil ?_
 replace h := isome h; rcases h with ⟨c1, h⟩ | ⟨c1, h⟩
 ·have c1_ : ((a1.Children.length : Int) == 0) = true := c1
  refine AW.condT (b := ((a1.Children.length : Int) == 0)) rfl c1_ ?_
  refine AW.sub (Sub.bool 9 (b := ((a1.Children.length : Int) == 0)) rfl c1_) ?_
  refine AW.sub (S' := mk 35 [] [(2, .ptr 2 0 0), (3, .ptr 3 0 0), (9, .d (.lit (.bool true)))] [(2, some (.box [.d (.sl (a0.Sizes.map (cI .i64))), .d (.sl (a0.Selectivities.map cS115))])), (3, some (.box [.d (.lit (.int .i64 a1.Leaf)), .d (.sl (a1.Children.map cS28))]))]) (by simp; exact Sub.table (by simp) (by simp)) ?_
  refine AW.seqR ?_
  refine Chain.runK [] 1 fun K hK => ?_; simp; refine hK _ _ ?_; clear hK K
  refine Chain.sub (S' := mk 35 [] [(4, .d (.lit (.int .i64 0)))] []) Sub.tt ?_
  refine Chain.nil ?_
  refine AW.ret ?_
  cases h
  refine thenQ_pass (by simp) ?_
  exact FinC.ret (by simp) (by simp)
 ·have c1_ : ((a1.Children.length : Int) == 0) = false := Bool.eq_false_iff.2 c1
  refine AW.condF (b := ((a1.Children.length : Int) == 0)) rfl c1_ ?_
  refine AW.sub (Sub.bool 9 (b := ((a1.Children.length : Int) == 0)) rfl c1_) ?_
  refine AW.sub (S' := mk 35 [] [(2, .ptr 2 0 0), (3, .ptr 3 0 0), (9, .d (.lit (.bool false)))] [(2, some (.box [.d (.sl (a0.Sizes.map (cI .i64))), .d (.sl (a0.Selectivities.map cS115))])), (3, some (.box [.d (.lit (.int .i64 a1.Leaf)), .d (.sl (a1.Children.map cS28))]))]) (by simp; exact Sub.table (by simp) (by simp)) ?_
  refine AW.skip ?_
  refine thenQ_normal ?_
  refine AW.seqR ?_
  replace h := bsome h; obtain ⟨l2, gl2, h⟩ := h
  obtain ⟨hl2a, hl2b, hl2c, hl2d⟩ := mkL_some cB gl2
  clear gl2
  replace hl2c : List.replicate l2.length [.lit (.bool false)] = l2.map cB := hl2c
  simp only [Nat.mul_one] at hl2b
  refine Chain.runK [] 5 fun K hK => ?_; simp [hl2a, hl2b, hl2c, hl2d]; refine hK _ _ ?_; clear hK K
  refine Chain.sub (S' := mk 35 [] [(2, .ptr 2 0 0), (3, .ptr 3 0 0), (5, .ref 13 0 l2.length)] [(2, some (.box [.d (.sl (a0.Sizes.map (cI .i64))), .d (.sl (a0.Selectivities.map cS115))])), (3, some (.box [.d (.lit (.int .i64 a1.Leaf)), .d (.sl (a1.Children.map cS28))])), (13, some (.arr 4 1 (l2.map cB)))]) Sub.tt ?_
  refine Chain.nil ?_
  refine AW.seqR ?_
  refine Chain.runK [] 3 fun K hK => ?_; simp; refine hK _ _ ?_; clear hK K
  refine Chain.sub (S' := mk 35 [] [(2, .ptr 2 0 0), (3, .ptr 3 0 0), (5, .ref 13 0 l2.length), (14, .agg [.d (.sl (a0.Sizes.map (cI .i64))), .d (.sl (a0.Selectivities.map cS115))]), (15, .agg [.d (.lit (.int .i64 a1.Leaf)), .d (.sl (a1.Children.map cS28))]), (16, .ref 13 0 l2.length)] [(2, some (.box [.d (.sl (a0.Sizes.map (cI .i64))), .d (.sl (a0.Selectivities.map cS115))])), (3, some (.box [.d (.lit (.int .i64 a1.Leaf)), .d (.sl (a1.Children.map cS28))])), (13, some (.arr 4 1 (l2.map cB)))]) Sub.tt ?_
  replace h := bsome h; obtain ⟨r3, hr3, h⟩ := h
  refine Chain.callF (p13 N a0 a1 l2 r3 hr3) [(13, 1000)] [13] [(1000, 13)] [(13, .arr 4 1 (r3.1.map cB))] (.d (.lit (.bool r3.2))) (by simp) rfl (by simp <;> rfl) (by simp) (by simp) (by simp) (by simp) (by simp) ent13 (by simp) (by simp) (by simp) (by simp) (by simp) (by simp) ?_
  have hlr3 := l13 N a0 a1 l2 r3 hr3
  refine Chain.sub (S' := mk 35 [] [(2, .ptr 2 0 0), (3, .ptr 3 0 0), (5, .ref 13 0 r3.1.length), (14, .agg [.d (.sl (a0.Sizes.map (cI .i64))), .d (.sl (a0.Selectivities.map cS115))]), (15, .agg [.d (.lit (.int .i64 a1.Leaf)), .d (.sl (a1.Children.map cS28))]), (16, .ref 13 0 r3.1.length), (17, .d (.lit (.bool r3.2)))] [(2, some (.box [.d (.sl (a0.Sizes.map (cI .i64))), .d (.sl (a0.Selectivities.map cS115))])), (3, some (.box [.d (.lit (.int .i64 a1.Leaf)), .d (.sl (a1.Children.map cS28))])), (13, some (.arr 4 1 (r3.1.map cB)))]) (by simp [hlr3]; exact Sub.table (by simp) (by simp)) ?_
  refine Chain.nil ?_
  refine AW.seqQ (by kernel_rfl) (by kernel_rfl) ?_
  refine Chain.runQ 2 fun K hK => ?_; simp; refine hK _ _ ?_; clear hK K
  refine Chain.sub (S' := mk 35 [] [(2, .ptr 2 0 0), (3, .ptr 3 0 0), (18, .agg [.d (.sl (a0.Sizes.map (cI .i64))), .d (.sl (a0.Selectivities.map cS115))]), (19, .ref 13 0 r3.1.length)] [(2, some (.box [.d (.sl (a0.Sizes.map (cI .i64))), .d (.sl (a0.Selectivities.map cS115))])), (3, some (.box [.d (.lit (.int .i64 a1.Leaf)), .d (.sl (a1.Children.map cS28))])), (13, some (.arr 4 1 (r3.1.map cB)))]) Sub.tt ?_
  replace h := bsome h; obtain ⟨r4, hr4, h⟩ := h
  refine Chain.callL (d := 20) (p50 N a0 r3.1 r4 hr4) (by simp) rfl rfl (by simp <;> rfl) (by simp <;> rfl) ent50 (by simp <;> rfl) ?_
  refine Chain.sub (S' := mk 35 [] [(2, .ptr 2 0 0), (3, .ptr 3 0 0), (18, .agg [.d (.sl (a0.Sizes.map (cI .i64))), .d (.sl (a0.Selectivities.map cS115))]), (19, .ref 13 0 r3.1.length), (20, .d (.lit (.int .i64 r4)))] [(2, some (.box [.d (.sl (a0.Sizes.map (cI .i64))), .d (.sl (a0.Selectivities.map cS115))])), (3, some (.box [.d (.lit (.int .i64 a1.Leaf)), .d (.sl (a1.Children.map cS28))])), (13, some (.arr 4 1 (r3.1.map cB)))]) (by simp; exact Sub.table (by simp) (by simp)) ?_
  replace h := bsome h; obtain ⟨x5, hx5, h⟩ := h
  obtain ⟨hx5, hx5b, hx5c⟩ := idx_someN (n := 0) hx5
  refine Chain.runQ 5 fun K hK => ?_; simp [hx5]; refine hK _ _ ?_; clear hK K
  refine Chain.sub (S' := mk 35 [] [(2, .ptr 2 0 0), (3, .ptr 3 0 0), (20, .d (.lit (.int .i64 r4))), (21, .agg [.d (.sl (a0.Sizes.map (cI .i64))), .d (.sl (a0.Selectivities.map cS115))]), (25, .agg [.d (.lit (.int .i64 x5.Leaf)), .d (.sl (x5.Children.map cS28))])] [(2, some (.box [.d (.sl (a0.Sizes.map (cI .i64))), .d (.sl (a0.Selectivities.map cS115))])), (3, some (.box [.d (.lit (.int .i64 a1.Leaf)), .d (.sl (a1.Children.map cS28))]))]) Sub.tt ?_
  replace h := bsome h; obtain ⟨r6, hr6, h⟩ := h
  refine Chain.callL (d := 26) (ih a0 x5 r6 hr6) (by simp) rfl rfl (by simp <;> rfl) (by simp <;> rfl) ent16 (by simp <;> rfl) ?_
  refine Chain.sub (S' := mk 35 [] [(2, .ptr 2 0 0), (3, .ptr 3 0 0), (20, .d (.lit (.int .i64 r4))), (21, .agg [.d (.sl (a0.Sizes.map (cI .i64))), .d (.sl (a0.Selectivities.map cS115))]), (25, .agg [.d (.lit (.int .i64 x5.Leaf)), .d (.sl (x5.Children.map cS28))]), (26, .d (.lit (.int .i64 r6)))] [(2, some (.box [.d (.sl (a0.Sizes.map (cI .i64))), .d (.sl (a0.Selectivities.map cS115))])), (3, some (.box [.d (.lit (.int .i64 a1.Leaf)), .d (.sl (a1.Children.map cS28))]))]) (by simp; exact Sub.table (by simp) (by simp)) ?_
  replace h := bsome h; obtain ⟨v7, hv7, h⟩ := h
  have hv7 := chkI_some hv7
  replace h := bsome h; obtain ⟨x8, hx8, h⟩ := h
  obtain ⟨hx8, hx8b, hx8c⟩ := idx_someN (n := 1) hx8
  refine Chain.runQ 6 fun K hK => ?_; simp [hv7, hx8]; refine hK _ _ ?_; clear hK K
  refine Chain.sub (S' := mk 35 [] [(27, .d (.lit (.int .i64 v7))), (28, .agg [.d (.sl (a0.Sizes.map (cI .i64))), .d (.sl (a0.Selectivities.map cS115))]), (32, .agg [.d (.lit (.int .i64 x8.Leaf)), .d (.sl (x8.Children.map cS28))])] []) Sub.tt ?_
  replace h := bsome h; obtain ⟨r9, hr9, h⟩ := h
  refine Chain.callL (d := 33) (ih a0 x8 r9 hr9) (by simp) rfl rfl (by simp <;> rfl) (by simp <;> rfl) ent16 (by simp <;> rfl) ?_
  refine Chain.sub (S' := mk 35 [] [(27, .d (.lit (.int .i64 v7))), (28, .agg [.d (.sl (a0.Sizes.map (cI .i64))), .d (.sl (a0.Selectivities.map cS115))]), (32, .agg [.d (.lit (.int .i64 x8.Leaf)), .d (.sl (x8.Children.map cS28))]), (33, .d (.lit (.int .i64 r9)))] []) (by simp; exact Sub.table (by simp) (by simp)) ?_
  replace h := bsome h; obtain ⟨v10, hv10, h⟩ := h
  have hv10 := chkI_some hv10
  refine Chain.runQ 2 fun K hK => ?_; simp [hv10]; refine hK _ _ ?_; clear hK K
  refine Chain.sub (S' := mk 35 [] [(4, .d (.lit (.int .i64 v10)))] []) Sub.tt ?_
  refine Chain.nil ?_
  refine AW.ret ?_
  cases h
  exact FinC.ret (by simp) (by simp)

end Go.Proofs.YtimkkjiplioohaaGreatDoor
