/- Functions of the program as functional programs; the code computes them. -/
import Derived.Test.YtimkkjiplioohaaGreatDoorCe1
import Derived.Test.YtimkkjiplioohaaGreatDoorCeT
import Derived.Lib.LaidTab
namespace Go.Proofs.YtimkkjiplioohaaGreatDoor
open Go.Ab Go.Rp
attribute [-simp] List.all_eq_true Array.all_toList Array.all_eq_true

/-- stemma/joinorder.Validate -/
def d12 (N : Nat) (a0 : S25) : Option Int :=
 Option.bind (α := Bool) (
  if (a0.Sizes.length : Int) < 1 then (
   some true
  ) else
  if (a0.Sizes.length : Int) > 8 then (
   some true
  ) else
  some (decide ((a0.Selectivities.length : Int) > 40))
 ) fun (v3 : Bool) =>
 if v3 = true then (
  some 2
 ) else
 bindO (β := Unit) (ρ := Int) (
  iterN (σ := Int) (ρ := (Out Unit Int)) (fun (v14 : Int) =>
   if v14 < (a0.Sizes.length : Int) then (
    (idx a0.Sizes v14).bind fun x33 =>
    Option.bind (α := Bool) (
     if x33 < 0 then (
      some true
     ) else
     some (decide (x33 > 1073741824))
    ) fun (v36 : Bool) =>
    if v36 = true then (
     some (.inr (.ret 1))
    ) else
    (chkI (v14 + 1)).bind fun v39 =>
    some (.inl v39)
   ) else
   some (.inr (.go ()))
  ) N 0
 ) fun (_ : Unit) =>
 bindO (β := Unit) (ρ := Int) (
  iterN (σ := Int) (ρ := (Out Unit Int)) (fun (v53 : Int) =>
   if v53 < (a0.Selectivities.length : Int) then (
    (idx a0.Selectivities v53).bind fun x84 =>
    Option.bind (α := Bool) (
     if x84.A < 0 then (
      some true
     ) else
     if x84.A ≥ x84.B then (
      some true
     ) else
     if x84.B ≥ (a0.Sizes.length : Int) then (
      some true
     ) else
     if x84.Divisor < 1 then (
      some true
     ) else
     some (decide (x84.Divisor > 1073741824))
    ) fun (v90 : Bool) =>
    if v90 = true then (
     some (.inr (.ret 1))
    ) else
    (chkI (v53 + 1)).bind fun v96 =>
    some (.inl v96)
   ) else
   some (.inr (.go ()))
  ) N 0
 ) fun (_ : Unit) =>
 some 0
set_option maxRecDepth 100000 in
set_option maxHeartbeats 4000000 in
theorem p12 (N : Nat) (a0 : S25) (r : Int) (h : d12 N a0 = some r) : FunC Tryz.prog 12 [.agg [.d (.sl (a0.Sizes.map (cI .i64))), .d (.sl (a0.Selectivities.map cS115))]] (.d (.lit (.int .i64 r))) := by
 unfold d12 at h
 refine FunC.enter 73 [(0, .agg [.d (.sl (a0.Sizes.map (cI .i64))), .d (.sl (a0.Selectivities.map cS115))])] (by simp) Tryz.func12 rfl (of_decide_eq_true rfl) rfl rfl ?_
 refine AW.seqR ?_
 refine Chain.runK [] 2 fun K hK => ?_; simp; refine hK _ _ ?_; clear hK K
 refine Chain.sub (S' := mk 73 [] [(1, .ptr 1 0 0)] [(1, some (.box [.d (.sl (a0.Sizes.map (cI .i64))), .d (.sl (a0.Selectivities.map cS115))]))]) Sub.tt ?_
 refine Chain.nil ?_
 refine AW.seq ?_
 replace h := bsome h; obtain ⟨v3, hj, h⟩ := h
 refine AW.cutR (mk 73 [] [(1, .ptr 1 0 0), (22, .d (.lit (.bool v3)))] [(1, some (.box [.d (.sl (a0.Sizes.map (cI .i64))), .d (.sl (a0.Selectivities.map cS115))]))]) ?_ ?_
 ·clear h; have h := hj; clear hj
  refine Chain.runK [] 5 fun K hK => ?_; simp; refine hK _ _ ?_; clear hK K
  refine Chain.sub (S' := mk 73 [] [(1, .ptr 1 0 0), (11, .d (.lit (.bool (decide ((a0.Sizes.length : Int) < 1)))))] [(1, some (.box [.d (.sl (a0.Sizes.map (cI .i64))), .d (.sl (a0.Selectivities.map cS115))]))]) Sub.tt ?_
  replace h := isome h; rcases h with ⟨c4, h⟩ | ⟨c4, h⟩
  ·have c4_ : decide ((a0.Sizes.length : Int) < 1) = true := decide_eq_true c4
   refine Chain.sub (Sub.bool 11 (b := decide ((a0.Sizes.length : Int) < 1)) rfl c4_) ?_
   refine Chain.sub (S' := mk 73 [] [(1, .ptr 1 0 0), (11, .d (.lit (.bool true)))] [(1, some (.box [.d (.sl (a0.Sizes.map (cI .i64))), .d (.sl (a0.Selectivities.map cS115))]))]) (by simp; exact Sub.table (by simp) (by simp)) ?_
   refine Chain.runK [] 11 fun K hK => ?_; simp; refine hK _ _ ?_; clear hK K
   refine Chain.sub (S' := mk 73 [] [(1, .ptr 1 0 0), (22, .d (.lit (.bool true)))] [(1, some (.box [.d (.sl (a0.Sizes.map (cI .i64))), .d (.sl (a0.Selectivities.map cS115))]))]) Sub.tt ?_
   cases h
   exact Chain.nil Sub.tt
  ·have c4_ : decide ((a0.Sizes.length : Int) < 1) = false := decide_eq_false c4
   refine Chain.sub (Sub.bool 11 (b := decide ((a0.Sizes.length : Int) < 1)) rfl c4_) ?_
   refine Chain.sub (S' := mk 73 [] [(1, .ptr 1 0 0), (11, .d (.lit (.bool false)))] [(1, some (.box [.d (.sl (a0.Sizes.map (cI .i64))), .d (.sl (a0.Selectivities.map cS115))]))]) (by simp; exact Sub.table (by simp) (by simp)) ?_
   refine Chain.runK [] 6 fun K hK => ?_; simp; refine hK _ _ ?_; clear hK K
   refine Chain.sub (S' := mk 73 [] [(1, .ptr 1 0 0), (17, .d (.lit (.bool (decide ((a0.Sizes.length : Int) > 8)))))] [(1, some (.box [.d (.sl (a0.Sizes.map (cI .i64))), .d (.sl (a0.Selectivities.map cS115))]))]) Sub.tt ?_
   replace h := isome h; rcases h with ⟨c5, h⟩ | ⟨c5, h⟩
   ·have c5_ : decide ((a0.Sizes.length : Int) > 8) = true := decide_eq_true c5
    refine Chain.sub (Sub.bool 17 (b := decide ((a0.Sizes.length : Int) > 8)) rfl c5_) ?_
    refine Chain.sub (S' := mk 73 [] [(1, .ptr 1 0 0), (17, .d (.lit (.bool true)))] [(1, some (.box [.d (.sl (a0.Sizes.map (cI .i64))), .d (.sl (a0.Selectivities.map cS115))]))]) (by simp; exact Sub.table (by simp) (by simp)) ?_
    refine Chain.runK [] 5 fun K hK => ?_; simp; refine hK _ _ ?_; clear hK K
    refine Chain.sub (S' := mk 73 [] [(1, .ptr 1 0 0), (22, .d (.lit (.bool true)))] [(1, some (.box [.d (.sl (a0.Sizes.map (cI .i64))), .d (.sl (a0.Selectivities.map cS115))]))]) Sub.tt ?_
    cases h
    exact Chain.nil Sub.tt
   ·have c5_ : decide ((a0.Sizes.length : Int) > 8) = false := decide_eq_false c5
    refine Chain.sub (Sub.bool 17 (b := decide ((a0.Sizes.length : Int) > 8)) rfl c5_) ?_
    refine Chain.sub (S' := mk 73 [] [(1, .ptr 1 0 0), (17, .d (.lit (.bool false)))] [(1, some (.box [.d (.sl (a0.Sizes.map (cI .i64))), .d (.sl (a0.Selectivities.map cS115))]))]) (by simp; exact Sub.table (by simp) (by simp)) ?_
    refine Chain.runK [] 5 fun K hK => ?_; simp; refine hK _ _ ?_; clear hK K
    refine Chain.sub (S' := mk 73 [] [(1, .ptr 1 0 0), (22, .d (.lit (.bool (decide ((a0.Selectivities.length : Int) > 40)))))] [(1, some (.box [.d (.sl (a0.Sizes.map (cI .i64))), .d (.sl (a0.Selectivities.map cS115))]))]) Sub.tt ?_
    cases h
    exact Chain.nil Sub.tt
 ·clear hj
  replace h := isome h; rcases h with ⟨c6, h⟩ | ⟨c6, h⟩
  ·have c6_ : v3 = true := c6
   refine AW.condT (b := v3) rfl c6_ ?_
   refine AW.sub (Sub.bool 22 (b := v3) rfl c6_) ?_
   refine AW.sub (S' := mk 73 [] [(1, .ptr 1 0 0), (22, .d (.lit (.bool true)))] [(1, some (.box [.d (.sl (a0.Sizes.map (cI .i64))), .d (.sl (a0.Selectivities.map cS115))]))]) (by simp; exact Sub.table (by simp) (by simp)) ?_
   refine AW.seqR ?_
   refine Chain.runK [] 1 fun K hK => ?_; simp; refine hK _ _ ?_; clear hK K
   refine Chain.sub (S' := mk 73 [] [(2, .d (.lit (.int .i64 2)))] []) Sub.tt ?_
   refine Chain.nil ?_
   refine AW.ret ?_
   cases h
   refine thenQ_pass (by simp) ?_
   exact FinC.ret (by simp) (by simp)
  ·have c6_ : v3 = false := Bool.eq_false_iff.2 c6
   refine AW.condF (b := v3) rfl c6_ ?_
   refine AW.sub (Sub.bool 22 (b := v3) rfl c6_) ?_
   refine AW.sub (S' := mk 73 [] [(1, .ptr 1 0 0), (22, .d (.lit (.bool false)))] [(1, some (.box [.d (.sl (a0.Sizes.map (cI .i64))), .d (.sl (a0.Selectivities.map cS115))]))]) (by simp; exact Sub.table (by simp) (by simp)) ?_
   refine AW.skip ?_
   refine thenQ_normal ?_
   refine AW.seq ?_
   refine AW.seqR ?_
   refine Chain.runK [] 4 fun K hK => ?_; simp; refine hK _ _ ?_; clear hK K
   refine Chain.sub (S' := mk 73 [] [(1, .ptr 1 0 0), (24, .d (.sl (a0.Sizes.map (cI .i64)))), (25, .d (.lit (.int .i64 (a0.Sizes.length : Int)))), (26, .d (.lit (.int .i64 0)))] [(1, some (.box [.d (.sl (a0.Sizes.map (cI .i64))), .d (.sl (a0.Selectivities.map cS115))]))]) Sub.tt ?_
   refine Chain.nil ?_
   refine AW.lastJ (fun (_ : Unit) => mk 73 [] [(1, .ptr 1 0 0)] [(1, some (.box [.d (.sl (a0.Sizes.map (cI .i64))), .d (.sl (a0.Selectivities.map cS115))]))]) h ?_ ?_ <;> clear h
   ·intro o h
    refine AW.block ?_
    refine AW.iter (fun (v14 : Int) => mk 73 [] [(1, .ptr 1 0 0), (24, .d (.sl (a0.Sizes.map (cI .i64)))), (25, .d (.lit (.int .i64 (a0.Sizes.length : Int)))), (26, .d (.lit (.int .i64 v14)))] [(1, some (.box [.d (.sl (a0.Sizes.map (cI .i64))), .d (.sl (a0.Selectivities.map cS115))]))]) h Sub.tt ?_
    clear h
    rintro v14 x h
    refine AW.seqR ?_
    refine Chain.runK [] 1 fun K hK => ?_; simp; refine hK _ _ ?_; clear hK K
    refine Chain.sub (S' := mk 73 [] [(1, .ptr 1 0 0), (24, .d (.sl (a0.Sizes.map (cI .i64)))), (25, .d (.lit (.int .i64 (a0.Sizes.length : Int)))), (26, .d (.lit (.int .i64 v14))), (27, .d (.lit (.bool (decide (v14 < (a0.Sizes.length : Int))))))] [(1, some (.box [.d (.sl (a0.Sizes.map (cI .i64))), .d (.sl (a0.Selectivities.map cS115))]))]) Sub.tt ?_
    refine Chain.nil ?_
    refine AW.seq ?_
    replace h := isome h; rcases h with ⟨c32, h⟩ | ⟨c32, h⟩
    ·have c32_ : decide (v14 < (a0.Sizes.length : Int)) = true := decide_eq_true c32
     refine AW.condT (b := decide (v14 < (a0.Sizes.length : Int))) rfl c32_ ?_
     refine AW.sub (Sub.bool 27 (b := decide (v14 < (a0.Sizes.length : Int))) rfl c32_) ?_
     refine AW.sub (S' := mk 73 [] [(1, .ptr 1 0 0), (24, .d (.sl (a0.Sizes.map (cI .i64)))), (25, .d (.lit (.int .i64 (a0.Sizes.length : Int)))), (26, .d (.lit (.int .i64 v14))), (27, .d (.lit (.bool true)))] [(1, some (.box [.d (.sl (a0.Sizes.map (cI .i64))), .d (.sl (a0.Selectivities.map cS115))]))]) (by simp; exact Sub.table (by simp) (by simp)) ?_
     refine AW.skip ?_
     refine thenQ_normal ?_
     refine AW.seq ?_
     refine AW.block ?_
     refine AW.seqR ?_
     replace h := bsome h; obtain ⟨x33, hx33, h⟩ := h
     obtain ⟨k34, hx33k, hx33, hx33a, hx33b⟩ := idx_some hx33
     refine Chain.runK [] 3 fun K hK => ?_; simp [hx33, hx33k, hx33a]; refine hK _ _ ?_; clear hK K
     refine Chain.sub (S' := mk 73 [] [(1, .ptr 1 0 0), (4, .d (.lit (.int .i64 x33))), (24, .d (.sl (a0.Sizes.map (cI .i64)))), (25, .d (.lit (.int .i64 (a0.Sizes.length : Int)))), (26, .d (.lit (.int .i64 v14)))] [(1, some (.box [.d (.sl (a0.Sizes.map (cI .i64))), .d (.sl (a0.Selectivities.map cS115))]))]) Sub.tt ?_
     refine Chain.nil ?_
     replace h := bsome h; obtain ⟨v36, hj, h⟩ := h
     refine AW.cutR (mk 73 [] [(1, .ptr 1 0 0), (24, .d (.sl (a0.Sizes.map (cI .i64)))), (25, .d (.lit (.int .i64 (a0.Sizes.length : Int)))), (26, .d (.lit (.int .i64 v14))), (35, .d (.lit (.bool v36)))] [(1, some (.box [.d (.sl (a0.Sizes.map (cI .i64))), .d (.sl (a0.Selectivities.map cS115))]))]) ?_ ?_
     ·clear h; have h := hj; clear hj
      refine Chain.runK [] 3 fun K hK => ?_; simp; refine hK _ _ ?_; clear hK K
      refine Chain.sub (S' := mk 73 [] [(1, .ptr 1 0 0), (4, .d (.lit (.int .i64 x33))), (24, .d (.sl (a0.Sizes.map (cI .i64)))), (25, .d (.lit (.int .i64 (a0.Sizes.length : Int)))), (26, .d (.lit (.int .i64 v14))), (32, .d (.lit (.bool (decide (x33 < 0)))))] [(1, some (.box [.d (.sl (a0.Sizes.map (cI .i64))), .d (.sl (a0.Selectivities.map cS115))]))]) Sub.tt ?_
      replace h := isome h; rcases h with ⟨c37, h⟩ | ⟨c37, h⟩
      ·have c37_ : decide (x33 < 0) = true := decide_eq_true c37
       refine Chain.sub (Sub.bool 32 (b := decide (x33 < 0)) rfl c37_) ?_
       refine Chain.sub (S' := mk 73 [] [(1, .ptr 1 0 0), (4, .d (.lit (.int .i64 x33))), (24, .d (.sl (a0.Sizes.map (cI .i64)))), (25, .d (.lit (.int .i64 (a0.Sizes.length : Int)))), (26, .d (.lit (.int .i64 v14))), (32, .d (.lit (.bool true)))] [(1, some (.box [.d (.sl (a0.Sizes.map (cI .i64))), .d (.sl (a0.Selectivities.map cS115))]))]) (by simp; exact Sub.table (by simp) (by simp)) ?_
       refine Chain.runK [] 3 fun K hK => ?_; simp; refine hK _ _ ?_; clear hK K
       refine Chain.sub (S' := mk 73 [] [(1, .ptr 1 0 0), (24, .d (.sl (a0.Sizes.map (cI .i64)))), (25, .d (.lit (.int .i64 (a0.Sizes.length : Int)))), (26, .d (.lit (.int .i64 v14))), (33, .tup []), (34, .tup []), (35, .d (.lit (.bool true)))] [(1, some (.box [.d (.sl (a0.Sizes.map (cI .i64))), .d (.sl (a0.Selectivities.map cS115))]))]) Sub.tt ?_
       cases h
       exact Chain.nil Sub.tt
      ·have c37_ : decide (x33 < 0) = false := decide_eq_false c37
       refine Chain.sub (Sub.bool 32 (b := decide (x33 < 0)) rfl c37_) ?_
       refine Chain.sub (S' := mk 73 [] [(1, .ptr 1 0 0), (4, .d (.lit (.int .i64 x33))), (24, .d (.sl (a0.Sizes.map (cI .i64)))), (25, .d (.lit (.int .i64 (a0.Sizes.length : Int)))), (26, .d (.lit (.int .i64 v14))), (32, .d (.lit (.bool false)))] [(1, some (.box [.d (.sl (a0.Sizes.map (cI .i64))), .d (.sl (a0.Selectivities.map cS115))]))]) (by simp; exact Sub.table (by simp) (by simp)) ?_
       refine Chain.runK [] 3 fun K hK => ?_; simp; refine hK _ _ ?_; clear hK K
       refine Chain.sub (S' := mk 73 [] [(1, .ptr 1 0 0), (24, .d (.sl (a0.Sizes.map (cI .i64)))), (25, .d (.lit (.int .i64 (a0.Sizes.length : Int)))), (26, .d (.lit (.int .i64 v14))), (33, .d (.lit (.int .i64 x33))), (34, .d (.lit (.bool (decide (x33 > 1073741824))))), (35, .d (.lit (.bool (decide (x33 > 1073741824)))))] [(1, some (.box [.d (.sl (a0.Sizes.map (cI .i64))), .d (.sl (a0.Selectivities.map cS115))]))]) Sub.tt ?_
       cases h
       exact Chain.nil Sub.tt
     ·clear hj
      replace h := isome h; rcases h with ⟨c38, h⟩ | ⟨c38, h⟩
      ·have c38_ : v36 = true := c38
       refine AW.condT (b := v36) rfl c38_ ?_
       refine AW.sub (Sub.bool 35 (b := v36) rfl c38_) ?_
       refine AW.sub (S' := mk 73 [] [(1, .ptr 1 0 0), (24, .d (.sl (a0.Sizes.map (cI .i64)))), (25, .d (.lit (.int .i64 (a0.Sizes.length : Int)))), (26, .d (.lit (.int .i64 v14))), (35, .d (.lit (.bool true)))] [(1, some (.box [.d (.sl (a0.Sizes.map (cI .i64))), .d (.sl (a0.Selectivities.map cS115))]))]) (by simp; exact Sub.table (by simp) (by simp)) ?_
       refine AW.seqR ?_
       refine Chain.runK [] 1 fun K hK => ?_; simp; refine hK _ _ ?_; clear hK K
       refine Chain.sub (S' := mk 73 [] [(2, .d (.lit (.int .i64 1)))] []) Sub.tt ?_
       refine Chain.nil ?_
       refine AW.ret ?_
       cases h
       refine blockQ.ret ?_
       refine thenQ_pass (by simp) ?_
       refine PostI.out (by simp) ?_
       rintro rfl
       refine blockQ.ret ?_
       refine PostJ.out (by simp) ?_
       rintro rfl
       refine thenQ_pass (by simp) ?_
       exact FinC.ret (by simp) (by simp)
      ·have c38_ : v36 = false := Bool.eq_false_iff.2 c38
       refine AW.condF (b := v36) rfl c38_ ?_
       refine AW.sub (Sub.bool 35 (b := v36) rfl c38_) ?_
       refine AW.sub (S' := mk 73 [] [(1, .ptr 1 0 0), (24, .d (.sl (a0.Sizes.map (cI .i64)))), (25, .d (.lit (.int .i64 (a0.Sizes.length : Int)))), (26, .d (.lit (.int .i64 v14))), (35, .d (.lit (.bool false)))] [(1, some (.box [.d (.sl (a0.Sizes.map (cI .i64))), .d (.sl (a0.Selectivities.map cS115))]))]) (by simp; exact Sub.table (by simp) (by simp)) ?_
       refine AW.skip ?_
       refine blockQ.normal ?_
       refine thenQ_normal ?_
       refine AW.region ?_
       replace h := bsome h; obtain ⟨v39, hv39, h⟩ := h
       have hv39 := chkI_some hv39
       refine Chain.runK [] 2 fun K hK => ?_; simp [hv39]; refine hK _ _ ?_; clear hK K
       refine Chain.sub (S' := mk 73 [] [(1, .ptr 1 0 0), (24, .d (.sl (a0.Sizes.map (cI .i64)))), (25, .d (.lit (.int .i64 (a0.Sizes.length : Int)))), (26, .d (.lit (.int .i64 v39)))] [(1, some (.box [.d (.sl (a0.Sizes.map (cI .i64))), .d (.sl (a0.Selectivities.map cS115))]))]) Sub.tt ?_
       refine Chain.nil ?_
       cases h
       refine PostI.next ?_
       exact Sub.tt
    ·have c32_ : decide (v14 < (a0.Sizes.length : Int)) = false := decide_eq_false c32
     refine AW.condF (b := decide (v14 < (a0.Sizes.length : Int))) rfl c32_ ?_
     refine AW.sub (Sub.bool 27 (b := decide (v14 < (a0.Sizes.length : Int))) rfl c32_) ?_
     refine AW.sub (S' := mk 73 [] [(1, .ptr 1 0 0), (24, .d (.sl (a0.Sizes.map (cI .i64)))), (25, .d (.lit (.int .i64 (a0.Sizes.length : Int)))), (26, .d (.lit (.int .i64 v14))), (27, .d (.lit (.bool false)))] [(1, some (.box [.d (.sl (a0.Sizes.map (cI .i64))), .d (.sl (a0.Selectivities.map cS115))]))]) (by simp; exact Sub.table (by simp) (by simp)) ?_
     refine AW.exit ?_
     cases h
     refine thenQ_pass (by simp) ?_
     refine PostI.out (by simp) ?_
     rintro rfl
     refine blockQ.hit ?_
     refine PostJ.next ?_
     exact Sub.tt
   ·rintro ⟨⟩ h
    refine thenQ_normal ?_
    refine AW.seq ?_
    refine AW.seqR ?_
    refine Chain.runK [] 4 fun K hK => ?_; simp; refine hK _ _ ?_; clear hK K
    refine Chain.sub (S' := mk 73 [] [(1, .ptr 1 0 0), (38, .d (.sl (a0.Selectivities.map cS115))), (39, .d (.lit (.int .i64 (a0.Selectivities.length : Int)))), (40, .d (.lit (.int .i64 0)))] [(1, some (.box [.d (.sl (a0.Sizes.map (cI .i64))), .d (.sl (a0.Selectivities.map cS115))]))]) Sub.tt ?_
    refine Chain.nil ?_
    refine AW.lastJ (fun (_ : Unit) => mk 73 [] [] []) h ?_ ?_ <;> clear h
    ·intro o h
     refine AW.block ?_
     refine AW.iter (fun (v53 : Int) => mk 73 [] [(1, .ptr 1 0 0), (38, .d (.sl (a0.Selectivities.map cS115))), (39, .d (.lit (.int .i64 (a0.Selectivities.length : Int)))), (40, .d (.lit (.int .i64 v53)))] [(1, some (.box [.d (.sl (a0.Sizes.map (cI .i64))), .d (.sl (a0.Selectivities.map cS115))]))]) h Sub.tt ?_
     clear h
     rintro v53 x h
     refine AW.seqR ?_
     refine Chain.runK [] 1 fun K hK => ?_; simp; refine hK _ _ ?_; clear hK K
     refine Chain.sub (S' := mk 73 [] [(1, .ptr 1 0 0), (38, .d (.sl (a0.Selectivities.map cS115))), (39, .d (.lit (.int .i64 (a0.Selectivities.length : Int)))), (40, .d (.lit (.int .i64 v53))), (41, .d (.lit (.bool (decide (v53 < (a0.Selectivities.length : Int))))))] [(1, some (.box [.d (.sl (a0.Sizes.map (cI .i64))), .d (.sl (a0.Selectivities.map cS115))]))]) Sub.tt ?_
     refine Chain.nil ?_
     refine AW.seq ?_
     replace h := isome h; rcases h with ⟨c83, h⟩ | ⟨c83, h⟩
     ·have c83_ : decide (v53 < (a0.Selectivities.length : Int)) = true := decide_eq_true c83
      refine AW.condT (b := decide (v53 < (a0.Selectivities.length : Int))) rfl c83_ ?_
      refine AW.sub (Sub.bool 41 (b := decide (v53 < (a0.Selectivities.length : Int))) rfl c83_) ?_
      refine AW.sub (S' := mk 73 [] [(1, .ptr 1 0 0), (38, .d (.sl (a0.Selectivities.map cS115))), (39, .d (.lit (.int .i64 (a0.Selectivities.length : Int)))), (40, .d (.lit (.int .i64 v53))), (41, .d (.lit (.bool true)))] [(1, some (.box [.d (.sl (a0.Sizes.map (cI .i64))), .d (.sl (a0.Selectivities.map cS115))]))]) (by simp; exact Sub.table (by simp) (by simp)) ?_
      refine AW.skip ?_
      refine thenQ_normal ?_
      refine AW.seq ?_
      refine AW.block ?_
      refine AW.seqR ?_
      replace h := bsome h; obtain ⟨x84, hx84, h⟩ := h
      obtain ⟨k85, hx84k, hx84, hx84a, hx84b⟩ := idx_some hx84
      refine Chain.runK [] 4 fun K hK => ?_; simp [hx84, hx84k, hx84a]; refine hK _ _ ?_; clear hK K
      refine Chain.sub (S' := mk 73 [] [(1, .ptr 1 0 0), (6, .ptr 6 0 0), (38, .d (.sl (a0.Selectivities.map cS115))), (39, .d (.lit (.int .i64 (a0.Selectivities.length : Int)))), (40, .d (.lit (.int .i64 v53)))] [(1, some (.box [.d (.sl (a0.Sizes.map (cI .i64))), .d (.sl (a0.Selectivities.map cS115))])), (6, some (.box [.d (.lit (.int .i64 x84.A)), .d (.lit (.int .i64 x84.B)), .d (.lit (.int .i64 x84.Divisor))]))]) Sub.tt ?_
      refine Chain.nil ?_
      replace h := bsome h; obtain ⟨v90, hj, h⟩ := h
      refine AW.cutR (mk 73 [] [(1, .ptr 1 0 0), (38, .d (.sl (a0.Selectivities.map cS115))), (39, .d (.lit (.int .i64 (a0.Selectivities.length : Int)))), (40, .d (.lit (.int .i64 v53))), (71, .d (.lit (.bool v90)))] [(1, some (.box [.d (.sl (a0.Sizes.map (cI .i64))), .d (.sl (a0.Selectivities.map cS115))]))]) ?_ ?_
      ·clear h; have h := hj; clear hj
       refine Chain.runK [] 4 fun K hK => ?_; simp; refine hK _ _ ?_; clear hK K
       refine Chain.sub (S' := mk 73 [] [(1, .ptr 1 0 0), (6, .ptr 6 0 0), (38, .d (.sl (a0.Selectivities.map cS115))), (39, .d (.lit (.int .i64 (a0.Selectivities.length : Int)))), (40, .d (.lit (.int .i64 v53))), (47, .d (.lit (.bool (decide (x84.A < 0)))))] [(1, some (.box [.d (.sl (a0.Sizes.map (cI .i64))), .d (.sl (a0.Selectivities.map cS115))])), (6, some (.box [.d (.lit (.int .i64 x84.A)), .d (.lit (.int .i64 x84.B)), .d (.lit (.int .i64 x84.Divisor))]))]) Sub.tt ?_
       replace h := isome h; rcases h with ⟨c91, h⟩ | ⟨c91, h⟩
       ·have c91_ : decide (x84.A < 0) = true := decide_eq_true c91
        refine Chain.sub (Sub.bool 47 (b := decide (x84.A < 0)) rfl c91_) ?_
        refine Chain.sub (S' := mk 73 [] [(1, .ptr 1 0 0), (6, .ptr 6 0 0), (38, .d (.sl (a0.Selectivities.map cS115))), (39, .d (.lit (.int .i64 (a0.Selectivities.length : Int)))), (40, .d (.lit (.int .i64 v53))), (47, .d (.lit (.bool true)))] [(1, some (.box [.d (.sl (a0.Sizes.map (cI .i64))), .d (.sl (a0.Selectivities.map cS115))])), (6, some (.box [.d (.lit (.int .i64 x84.A)), .d (.lit (.int .i64 x84.B)), .d (.lit (.int .i64 x84.Divisor))]))]) (by simp; exact Sub.table (by simp) (by simp)) ?_
        refine Chain.runK [] 24 fun K hK => ?_; simp; refine hK _ _ ?_; clear hK K
        refine Chain.sub (S' := mk 73 [] [(1, .ptr 1 0 0), (38, .d (.sl (a0.Selectivities.map cS115))), (39, .d (.lit (.int .i64 (a0.Selectivities.length : Int)))), (40, .d (.lit (.int .i64 v53))), (48, .tup []), (49, .tup []), (50, .tup []), (51, .tup []), (52, .tup []), (55, .tup []), (56, .tup []), (57, .tup []), (58, .tup []), (59, .tup []), (60, .tup []), (63, .tup []), (64, .tup []), (65, .tup []), (68, .tup []), (69, .tup []), (70, .tup []), (71, .d (.lit (.bool true)))] [(1, some (.box [.d (.sl (a0.Sizes.map (cI .i64))), .d (.sl (a0.Selectivities.map cS115))]))]) Sub.tt ?_
        cases h
        exact Chain.nil Sub.tt
       ·have c91_ : decide (x84.A < 0) = false := decide_eq_false c91
        refine Chain.sub (Sub.bool 47 (b := decide (x84.A < 0)) rfl c91_) ?_
        refine Chain.sub (S' := mk 73 [] [(1, .ptr 1 0 0), (6, .ptr 6 0 0), (38, .d (.sl (a0.Selectivities.map cS115))), (39, .d (.lit (.int .i64 (a0.Selectivities.length : Int)))), (40, .d (.lit (.int .i64 v53))), (47, .d (.lit (.bool false)))] [(1, some (.box [.d (.sl (a0.Sizes.map (cI .i64))), .d (.sl (a0.Selectivities.map cS115))])), (6, some (.box [.d (.lit (.int .i64 x84.A)), .d (.lit (.int .i64 x84.B)), .d (.lit (.int .i64 x84.Divisor))]))]) (by simp; exact Sub.table (by simp) (by simp)) ?_
        refine Chain.runK [] 7 fun K hK => ?_; simp; refine hK _ _ ?_; clear hK K
        refine Chain.sub (S' := mk 73 [] [(1, .ptr 1 0 0), (6, .ptr 6 0 0), (38, .d (.sl (a0.Selectivities.map cS115))), (39, .d (.lit (.int .i64 (a0.Selectivities.length : Int)))), (40, .d (.lit (.int .i64 v53))), (48, .ptr 6 0 0), (49, .d (.lit (.int .i64 x84.A))), (50, .ptr 6 0 1), (51, .d (.lit (.int .i64 x84.B))), (52, .d (.lit (.bool (decide (x84.A ≥ x84.B))))), (54, .d (.lit (.bool (decide (x84.A ≥ x84.B)))))] [(1, some (.box [.d (.sl (a0.Sizes.map (cI .i64))), .d (.sl (a0.Selectivities.map cS115))])), (6, some (.box [.d (.lit (.int .i64 x84.A)), .d (.lit (.int .i64 x84.B)), .d (.lit (.int .i64 x84.Divisor))]))]) Sub.tt ?_
        replace h := isome h; rcases h with ⟨c92, h⟩ | ⟨c92, h⟩
        ·have c92_ : decide (x84.A ≥ x84.B) = true := decide_eq_true c92
         refine Chain.sub (Sub.bool 52 (b := decide (x84.A ≥ x84.B)) rfl c92_) ?_
         refine Chain.sub (Sub.bool 54 (b := decide (x84.A ≥ x84.B)) rfl c92_) ?_
         refine Chain.sub (S' := mk 73 [] [(1, .ptr 1 0 0), (6, .ptr 6 0 0), (38, .d (.sl (a0.Selectivities.map cS115))), (39, .d (.lit (.int .i64 (a0.Selectivities.length : Int)))), (40, .d (.lit (.int .i64 v53))), (48, .ptr 6 0 0), (49, .d (.lit (.int .i64 x84.A))), (50, .ptr 6 0 1), (51, .d (.lit (.int .i64 x84.B))), (52, .d (.lit (.bool true))), (54, .d (.lit (.bool true)))] [(1, some (.box [.d (.sl (a0.Sizes.map (cI .i64))), .d (.sl (a0.Selectivities.map cS115))])), (6, some (.box [.d (.lit (.int .i64 x84.A)), .d (.lit (.int .i64 x84.B)), .d (.lit (.int .i64 x84.Divisor))]))]) (by simp; exact Sub.table (by simp) (by simp)) ?_
         refine Chain.runK [] 17 fun K hK => ?_; simp; refine hK _ _ ?_; clear hK K
         refine Chain.sub (S' := mk 73 [] [(1, .ptr 1 0 0), (38, .d (.sl (a0.Selectivities.map cS115))), (39, .d (.lit (.int .i64 (a0.Selectivities.length : Int)))), (40, .d (.lit (.int .i64 v53))), (48, .ptr 6 0 0), (49, .d (.lit (.int .i64 x84.A))), (50, .ptr 6 0 1), (51, .d (.lit (.int .i64 x84.B))), (52, .d (.lit (.bool true))), (55, .tup []), (56, .tup []), (57, .tup []), (58, .tup []), (59, .tup []), (60, .tup []), (63, .tup []), (64, .tup []), (65, .tup []), (68, .tup []), (69, .tup []), (70, .tup []), (71, .d (.lit (.bool true)))] [(1, some (.box [.d (.sl (a0.Sizes.map (cI .i64))), .d (.sl (a0.Selectivities.map cS115))])), (6, some (.box [.d (.lit (.int .i64 x84.A)), .d (.lit (.int .i64 x84.B)), .d (.lit (.int .i64 x84.Divisor))]))]) Sub.tt ?_
         cases h
         exact Chain.nil Sub.tt
        ·have c92_ : decide (x84.A ≥ x84.B) = false := decide_eq_false c92
         refine Chain.sub (Sub.bool 52 (b := decide (x84.A ≥ x84.B)) rfl c92_) ?_
         refine Chain.sub (Sub.bool 54 (b := decide (x84.A ≥ x84.B)) rfl c92_) ?_
         refine Chain.sub (S' := mk 73 [] [(1, .ptr 1 0 0), (6, .ptr 6 0 0), (38, .d (.sl (a0.Selectivities.map cS115))), (39, .d (.lit (.int .i64 (a0.Selectivities.length : Int)))), (40, .d (.lit (.int .i64 v53))), (48, .ptr 6 0 0), (49, .d (.lit (.int .i64 x84.A))), (50, .ptr 6 0 1), (51, .d (.lit (.int .i64 x84.B))), (52, .d (.lit (.bool false))), (54, .d (.lit (.bool false)))] [(1, some (.box [.d (.sl (a0.Sizes.map (cI .i64))), .d (.sl (a0.Selectivities.map cS115))])), (6, some (.box [.d (.lit (.int .i64 x84.A)), .d (.lit (.int .i64 x84.B)), .d (.lit (.int .i64 x84.Divisor))]))]) (by simp; exact Sub.table (by simp) (by simp)) ?_
         refine Chain.runK [] 8 fun K hK => ?_; simp; refine hK _ _ ?_; clear hK K
         refine Chain.sub (S' := mk 73 [] [(1, .ptr 1 0 0), (6, .ptr 6 0 0), (38, .d (.sl (a0.Selectivities.map cS115))), (39, .d (.lit (.int .i64 (a0.Selectivities.length : Int)))), (40, .d (.lit (.int .i64 v53))), (48, .ptr 6 0 0), (49, .d (.lit (.int .i64 x84.A))), (50, .ptr 6 0 1), (51, .d (.lit (.int .i64 x84.B))), (52, .d (.lit (.bool false))), (55, .ptr 6 0 1), (56, .d (.lit (.int .i64 x84.B))), (57, .ptr 1 0 0), (58, .d (.sl (a0.Sizes.map (cI .i64)))), (59, .d (.lit (.int .i64 (a0.Sizes.length : Int)))), (60, .d (.lit (.bool (decide (x84.B ≥ (a0.Sizes.length : Int)))))), (62, .d (.lit (.bool (decide (x84.B ≥ (a0.Sizes.length : Int))))))] [(1, some (.box [.d (.sl (a0.Sizes.map (cI .i64))), .d (.sl (a0.Selectivities.map cS115))])), (6, some (.box [.d (.lit (.int .i64 x84.A)), .d (.lit (.int .i64 x84.B)), .d (.lit (.int .i64 x84.Divisor))]))]) Sub.tt ?_
         replace h := isome h; rcases h with ⟨c93, h⟩ | ⟨c93, h⟩
         ·have c93_ : decide (x84.B ≥ (a0.Sizes.length : Int)) = true := decide_eq_true c93
          refine Chain.sub (Sub.bool 60 (b := decide (x84.B ≥ (a0.Sizes.length : Int))) rfl c93_) ?_
          refine Chain.sub (Sub.bool 62 (b := decide (x84.B ≥ (a0.Sizes.length : Int))) rfl c93_) ?_
          refine Chain.sub (S' := mk 73 [] [(1, .ptr 1 0 0), (6, .ptr 6 0 0), (38, .d (.sl (a0.Selectivities.map cS115))), (39, .d (.lit (.int .i64 (a0.Selectivities.length : Int)))), (40, .d (.lit (.int .i64 v53))), (48, .ptr 6 0 0), (49, .d (.lit (.int .i64 x84.A))), (50, .ptr 6 0 1), (51, .d (.lit (.int .i64 x84.B))), (52, .d (.lit (.bool false))), (55, .ptr 6 0 1), (56, .d (.lit (.int .i64 x84.B))), (57, .ptr 1 0 0), (58, .d (.sl (a0.Sizes.map (cI .i64)))), (59, .d (.lit (.int .i64 (a0.Sizes.length : Int)))), (60, .d (.lit (.bool true))), (62, .d (.lit (.bool true)))] [(1, some (.box [.d (.sl (a0.Sizes.map (cI .i64))), .d (.sl (a0.Selectivities.map cS115))])), (6, some (.box [.d (.lit (.int .i64 x84.A)), .d (.lit (.int .i64 x84.B)), .d (.lit (.int .i64 x84.Divisor))]))]) (by simp; exact Sub.table (by simp) (by simp)) ?_
          refine Chain.runK [] 9 fun K hK => ?_; simp; refine hK _ _ ?_; clear hK K
          refine Chain.sub (S' := mk 73 [] [(1, .ptr 1 0 0), (38, .d (.sl (a0.Selectivities.map cS115))), (39, .d (.lit (.int .i64 (a0.Selectivities.length : Int)))), (40, .d (.lit (.int .i64 v53))), (48, .ptr 6 0 0), (49, .d (.lit (.int .i64 x84.A))), (50, .ptr 6 0 1), (51, .d (.lit (.int .i64 x84.B))), (52, .d (.lit (.bool false))), (55, .ptr 6 0 1), (56, .d (.lit (.int .i64 x84.B))), (57, .ptr 1 0 0), (58, .d (.sl (a0.Sizes.map (cI .i64)))), (59, .d (.lit (.int .i64 (a0.Sizes.length : Int)))), (60, .d (.lit (.bool true))), (63, .tup []), (64, .tup []), (65, .tup []), (68, .tup []), (69, .tup []), (70, .tup []), (71, .d (.lit (.bool true)))] [(1, some (.box [.d (.sl (a0.Sizes.map (cI .i64))), .d (.sl (a0.Selectivities.map cS115))])), (6, some (.box [.d (.lit (.int .i64 x84.A)), .d (.lit (.int .i64 x84.B)), .d (.lit (.int .i64 x84.Divisor))]))]) Sub.tt ?_
          cases h
          exact Chain.nil Sub.tt
         ·have c93_ : decide (x84.B ≥ (a0.Sizes.length : Int)) = false := decide_eq_false c93
          refine Chain.sub (Sub.bool 60 (b := decide (x84.B ≥ (a0.Sizes.length : Int))) rfl c93_) ?_
          refine Chain.sub (Sub.bool 62 (b := decide (x84.B ≥ (a0.Sizes.length : Int))) rfl c93_) ?_
          refine Chain.sub (S' := mk 73 [] [(1, .ptr 1 0 0), (6, .ptr 6 0 0), (38, .d (.sl (a0.Selectivities.map cS115))), (39, .d (.lit (.int .i64 (a0.Selectivities.length : Int)))), (40, .d (.lit (.int .i64 v53))), (48, .ptr 6 0 0), (49, .d (.lit (.int .i64 x84.A))), (50, .ptr 6 0 1), (51, .d (.lit (.int .i64 x84.B))), (52, .d (.lit (.bool false))), (55, .ptr 6 0 1), (56, .d (.lit (.int .i64 x84.B))), (57, .ptr 1 0 0), (58, .d (.sl (a0.Sizes.map (cI .i64)))), (59, .d (.lit (.int .i64 (a0.Sizes.length : Int)))), (60, .d (.lit (.bool false))), (62, .d (.lit (.bool false)))] [(1, some (.box [.d (.sl (a0.Sizes.map (cI .i64))), .d (.sl (a0.Selectivities.map cS115))])), (6, some (.box [.d (.lit (.int .i64 x84.A)), .d (.lit (.int .i64 x84.B)), .d (.lit (.int .i64 x84.Divisor))]))]) (by simp; exact Sub.table (by simp) (by simp)) ?_
          refine Chain.runK [] 5 fun K hK => ?_; simp; refine hK _ _ ?_; clear hK K
          refine Chain.sub (S' := mk 73 [] [(1, .ptr 1 0 0), (6, .ptr 6 0 0), (38, .d (.sl (a0.Selectivities.map cS115))), (39, .d (.lit (.int .i64 (a0.Selectivities.length : Int)))), (40, .d (.lit (.int .i64 v53))), (48, .ptr 6 0 0), (49, .d (.lit (.int .i64 x84.A))), (50, .ptr 6 0 1), (51, .d (.lit (.int .i64 x84.B))), (52, .d (.lit (.bool false))), (55, .ptr 6 0 1), (56, .d (.lit (.int .i64 x84.B))), (57, .ptr 1 0 0), (58, .d (.sl (a0.Sizes.map (cI .i64)))), (59, .d (.lit (.int .i64 (a0.Sizes.length : Int)))), (60, .d (.lit (.bool false))), (63, .ptr 6 0 2), (64, .d (.lit (.int .i64 x84.Divisor))), (65, .d (.lit (.bool (decide (x84.Divisor < 1))))), (67, .d (.lit (.bool (decide (x84.Divisor < 1)))))] [(1, some (.box [.d (.sl (a0.Sizes.map (cI .i64))), .d (.sl (a0.Selectivities.map cS115))])), (6, some (.box [.d (.lit (.int .i64 x84.A)), .d (.lit (.int .i64 x84.B)), .d (.lit (.int .i64 x84.Divisor))]))]) Sub.tt ?_
          replace h := isome h; rcases h with ⟨c94, h⟩ | ⟨c94, h⟩
          ·have c94_ : decide (x84.Divisor < 1) = true := decide_eq_true c94
           refine Chain.sub (Sub.bool 65 (b := decide (x84.Divisor < 1)) rfl c94_) ?_
           refine Chain.sub (Sub.bool 67 (b := decide (x84.Divisor < 1)) rfl c94_) ?_
           refine Chain.sub (S' := mk 73 [] [(1, .ptr 1 0 0), (6, .ptr 6 0 0), (38, .d (.sl (a0.Selectivities.map cS115))), (39, .d (.lit (.int .i64 (a0.Selectivities.length : Int)))), (40, .d (.lit (.int .i64 v53))), (48, .ptr 6 0 0), (49, .d (.lit (.int .i64 x84.A))), (50, .ptr 6 0 1), (51, .d (.lit (.int .i64 x84.B))), (52, .d (.lit (.bool false))), (55, .ptr 6 0 1), (56, .d (.lit (.int .i64 x84.B))), (57, .ptr 1 0 0), (58, .d (.sl (a0.Sizes.map (cI .i64)))), (59, .d (.lit (.int .i64 (a0.Sizes.length : Int)))), (60, .d (.lit (.bool false))), (63, .ptr 6 0 2), (64, .d (.lit (.int .i64 x84.Divisor))), (65, .d (.lit (.bool true))), (67, .d (.lit (.bool true)))] [(1, some (.box [.d (.sl (a0.Sizes.map (cI .i64))), .d (.sl (a0.Selectivities.map cS115))])), (6, some (.box [.d (.lit (.int .i64 x84.A)), .d (.lit (.int .i64 x84.B)), .d (.lit (.int .i64 x84.Divisor))]))]) (by simp; exact Sub.table (by simp) (by simp)) ?_
           refine Chain.runK [] 4 fun K hK => ?_; simp; refine hK _ _ ?_; clear hK K
           refine Chain.sub (S' := mk 73 [] [(1, .ptr 1 0 0), (38, .d (.sl (a0.Selectivities.map cS115))), (39, .d (.lit (.int .i64 (a0.Selectivities.length : Int)))), (40, .d (.lit (.int .i64 v53))), (48, .ptr 6 0 0), (49, .d (.lit (.int .i64 x84.A))), (50, .ptr 6 0 1), (51, .d (.lit (.int .i64 x84.B))), (52, .d (.lit (.bool false))), (55, .ptr 6 0 1), (56, .d (.lit (.int .i64 x84.B))), (57, .ptr 1 0 0), (58, .d (.sl (a0.Sizes.map (cI .i64)))), (59, .d (.lit (.int .i64 (a0.Sizes.length : Int)))), (60, .d (.lit (.bool false))), (63, .ptr 6 0 2), (64, .d (.lit (.int .i64 x84.Divisor))), (65, .d (.lit (.bool true))), (68, .tup []), (69, .tup []), (70, .tup []), (71, .d (.lit (.bool true)))] [(1, some (.box [.d (.sl (a0.Sizes.map (cI .i64))), .d (.sl (a0.Selectivities.map cS115))])), (6, some (.box [.d (.lit (.int .i64 x84.A)), .d (.lit (.int .i64 x84.B)), .d (.lit (.int .i64 x84.Divisor))]))]) Sub.tt ?_
           cases h
           exact Chain.nil Sub.tt
          ·have c94_ : decide (x84.Divisor < 1) = false := decide_eq_false c94
           refine Chain.sub (Sub.bool 65 (b := decide (x84.Divisor < 1)) rfl c94_) ?_
           refine Chain.sub (Sub.bool 67 (b := decide (x84.Divisor < 1)) rfl c94_) ?_
           refine Chain.sub (S' := mk 73 [] [(1, .ptr 1 0 0), (6, .ptr 6 0 0), (38, .d (.sl (a0.Selectivities.map cS115))), (39, .d (.lit (.int .i64 (a0.Selectivities.length : Int)))), (40, .d (.lit (.int .i64 v53))), (48, .ptr 6 0 0), (49, .d (.lit (.int .i64 x84.A))), (50, .ptr 6 0 1), (51, .d (.lit (.int .i64 x84.B))), (52, .d (.lit (.bool false))), (55, .ptr 6 0 1), (56, .d (.lit (.int .i64 x84.B))), (57, .ptr 1 0 0), (58, .d (.sl (a0.Sizes.map (cI .i64)))), (59, .d (.lit (.int .i64 (a0.Sizes.length : Int)))), (60, .d (.lit (.bool false))), (63, .ptr 6 0 2), (64, .d (.lit (.int .i64 x84.Divisor))), (65, .d (.lit (.bool false))), (67, .d (.lit (.bool false)))] [(1, some (.box [.d (.sl (a0.Sizes.map (cI .i64))), .d (.sl (a0.Selectivities.map cS115))])), (6, some (.box [.d (.lit (.int .i64 x84.A)), .d (.lit (.int .i64 x84.B)), .d (.lit (.int .i64 x84.Divisor))]))]) (by simp; exact Sub.table (by simp) (by simp)) ?_
           refine Chain.runK [] 4 fun K hK => ?_; simp; refine hK _ _ ?_; clear hK K
           refine Chain.sub (S' := mk 73 [] [(1, .ptr 1 0 0), (38, .d (.sl (a0.Selectivities.map cS115))), (39, .d (.lit (.int .i64 (a0.Selectivities.length : Int)))), (40, .d (.lit (.int .i64 v53))), (48, .ptr 6 0 0), (49, .d (.lit (.int .i64 x84.A))), (50, .ptr 6 0 1), (51, .d (.lit (.int .i64 x84.B))), (52, .d (.lit (.bool false))), (55, .ptr 6 0 1), (56, .d (.lit (.int .i64 x84.B))), (57, .ptr 1 0 0), (58, .d (.sl (a0.Sizes.map (cI .i64)))), (59, .d (.lit (.int .i64 (a0.Sizes.length : Int)))), (60, .d (.lit (.bool false))), (63, .ptr 6 0 2), (64, .d (.lit (.int .i64 x84.Divisor))), (65, .d (.lit (.bool false))), (68, .ptr 6 0 2), (69, .d (.lit (.int .i64 x84.Divisor))), (70, .d (.lit (.bool (decide (x84.Divisor > 1073741824))))), (71, .d (.lit (.bool (decide (x84.Divisor > 1073741824)))))] [(1, some (.box [.d (.sl (a0.Sizes.map (cI .i64))), .d (.sl (a0.Selectivities.map cS115))])), (6, some (.box [.d (.lit (.int .i64 x84.A)), .d (.lit (.int .i64 x84.B)), .d (.lit (.int .i64 x84.Divisor))]))]) Sub.tt ?_
           cases h
           exact Chain.nil Sub.tt
      ·clear hj
       replace h := isome h; rcases h with ⟨c95, h⟩ | ⟨c95, h⟩
       ·have c95_ : v90 = true := c95
        refine AW.condT (b := v90) rfl c95_ ?_
        refine AW.sub (Sub.bool 71 (b := v90) rfl c95_) ?_
        refine AW.sub (S' := mk 73 [] [(1, .ptr 1 0 0), (38, .d (.sl (a0.Selectivities.map cS115))), (39, .d (.lit (.int .i64 (a0.Selectivities.length : Int)))), (40, .d (.lit (.int .i64 v53))), (71, .d (.lit (.bool true)))] [(1, some (.box [.d (.sl (a0.Sizes.map (cI .i64))), .d (.sl (a0.Selectivities.map cS115))]))]) (by simp; exact Sub.table (by simp) (by simp)) ?_
        refine AW.seqR ?_
        refine Chain.runK [] 1 fun K hK => ?_; simp; refine hK _ _ ?_; clear hK K
        refine Chain.sub (S' := mk 73 [] [(2, .d (.lit (.int .i64 1)))] []) Sub.tt ?_
        refine Chain.nil ?_
        refine AW.ret ?_
        cases h
        refine blockQ.ret ?_
        refine thenQ_pass (by simp) ?_
        refine PostI.out (by simp) ?_
        rintro rfl
        refine blockQ.ret ?_
        refine PostJ.out (by simp) ?_
        rintro rfl
        refine thenQ_pass (by simp) ?_
        exact FinC.ret (by simp) (by simp)
       ·have c95_ : v90 = false := Bool.eq_false_iff.2 c95
        refine AW.condF (b := v90) rfl c95_ ?_
        refine AW.sub (Sub.bool 71 (b := v90) rfl c95_) ?_
        refine AW.sub (S' := mk 73 [] [(1, .ptr 1 0 0), (38, .d (.sl (a0.Selectivities.map cS115))), (39, .d (.lit (.int .i64 (a0.Selectivities.length : Int)))), (40, .d (.lit (.int .i64 v53))), (71, .d (.lit (.bool false)))] [(1, some (.box [.d (.sl (a0.Sizes.map (cI .i64))), .d (.sl (a0.Selectivities.map cS115))]))]) (by simp; exact Sub.table (by simp) (by simp)) ?_
        refine AW.skip ?_
        refine blockQ.normal ?_
        refine thenQ_normal ?_
        refine AW.region ?_
        replace h := bsome h; obtain ⟨v96, hv96, h⟩ := h
        have hv96 := chkI_some hv96
        refine Chain.runK [] 2 fun K hK => ?_; simp [hv96]; refine hK _ _ ?_; clear hK K
        refine Chain.sub (S' := mk 73 [] [(1, .ptr 1 0 0), (38, .d (.sl (a0.Selectivities.map cS115))), (39, .d (.lit (.int .i64 (a0.Selectivities.length : Int)))), (40, .d (.lit (.int .i64 v96)))] [(1, some (.box [.d (.sl (a0.Sizes.map (cI .i64))), .d (.sl (a0.Selectivities.map cS115))]))]) Sub.tt ?_
        refine Chain.nil ?_
        cases h
        refine PostI.next ?_
        exact Sub.tt
     ·have c83_ : decide (v53 < (a0.Selectivities.length : Int)) = false := decide_eq_false c83
      refine AW.condF (b := decide (v53 < (a0.Selectivities.length : Int))) rfl c83_ ?_
      refine AW.sub (Sub.bool 41 (b := decide (v53 < (a0.Selectivities.length : Int))) rfl c83_) ?_
      refine AW.sub (S' := mk 73 [] [(1, .ptr 1 0 0), (38, .d (.sl (a0.Selectivities.map cS115))), (39, .d (.lit (.int .i64 (a0.Selectivities.length : Int)))), (40, .d (.lit (.int .i64 v53))), (41, .d (.lit (.bool false)))] [(1, some (.box [.d (.sl (a0.Sizes.map (cI .i64))), .d (.sl (a0.Selectivities.map cS115))]))]) (by simp; exact Sub.table (by simp) (by simp)) ?_
      refine AW.exit ?_
      cases h
      refine thenQ_pass (by simp) ?_
      refine PostI.out (by simp) ?_
      rintro rfl
      refine blockQ.hit ?_
      refine PostJ.next ?_
      exact Sub.tt
    ·rintro ⟨⟩ h
     refine thenQ_normal ?_
     refine AW.seqR ?_
     refine Chain.runK [] 1 fun K hK => ?_; simp; refine hK _ _ ?_; clear hK K
     refine Chain.sub (S' := mk 73 [] [(2, .d (.lit (.int .i64 0)))] []) Sub.tt ?_
     refine Chain.nil ?_
     refine AW.ret ?_
     cases h
     exact FinC.ret (by simp) (by simp)

/-- math/bits.OnesCount64 -/
def d95 (_N : Nat) (a0 : Int) : Option Int :=
 letv (shrI a0 1) fun v1 =>
 letv (bitI .and .u64 v1 6148914691236517205) fun v2 =>
 letv (bitI .and .u64 a0 6148914691236517205) fun v3 =>
 letv (IntKind.u64.wrap (v2 + v3)) fun v4 =>
 letv (shrI v4 2) fun v5 =>
 letv (bitI .and .u64 v5 3689348814741910323) fun v6 =>
 letv (bitI .and .u64 v4 3689348814741910323) fun v7 =>
 letv (IntKind.u64.wrap (v6 + v7)) fun v8 =>
 letv (shrI v8 4) fun v9 =>
 letv (IntKind.u64.wrap (v9 + v8)) fun v10 =>
 letv (bitI .and .u64 v10 1085102592571150095) fun v11 =>
 letv (shrI v11 8) fun v12 =>
 letv (IntKind.u64.wrap (v11 + v12)) fun v13 =>
 letv (shrI v13 16) fun v14 =>
 letv (IntKind.u64.wrap (v13 + v14)) fun v15 =>
 letv (shrI v15 32) fun v16 =>
 letv (IntKind.u64.wrap (v15 + v16)) fun v17 =>
 (chkI (v17)).bind fun v18 =>
 letv (bitI .and .i64 v18 127) fun v19 =>
 some v19
set_option maxRecDepth 100000 in
set_option maxHeartbeats 4000000 in
theorem p95 (N : Nat) (a0 : Int) (r : Int) (h : d95 N a0 = some r) : FunC Tryz.prog 95 [.d (.lit (.int .u64 a0))] (.d (.lit (.int .i64 r))) := by
 unfold d95 at h
 refine FunC.enter 35 [(0, .d (.lit (.int .u64 a0)))] (by simp) Tryz.func95 rfl (of_decide_eq_true rfl) rfl rfl ?_
 refine AW.seqR ?_
 refine Chain.runK [] 1 fun K hK => ?_; simp; refine hK _ _ ?_; clear hK K
 refine Chain.sub (S' := mk 35 [] [(0, .d (.lit (.int .u64 a0)))] []) Sub.tt ?_
 refine Chain.nil ?_
 refine AW.seqR ?_
 replace h := lsome h; obtain ⟨v1, hv1, h⟩ := h
 replace h := lsome h; obtain ⟨v2, hv2, h⟩ := h
 replace h := lsome h; obtain ⟨v3, hv3, h⟩ := h
 replace h := lsome h; obtain ⟨v4, hv4, h⟩ := h
 refine Chain.runK [] 7 fun K hK => ?_; simp [hv1, IntKind.bits, hv2, hv3, hv4]; refine hK _ _ ?_; clear hK K
 refine Chain.sub (S' := mk 35 [] [(0, .d (.lit (.int .u64 v4)))] []) Sub.tt ?_
 refine Chain.nil ?_
 refine AW.seqR ?_
 replace h := lsome h; obtain ⟨v5, hv5, h⟩ := h
 replace h := lsome h; obtain ⟨v6, hv6, h⟩ := h
 replace h := lsome h; obtain ⟨v7, hv7, h⟩ := h
 replace h := lsome h; obtain ⟨v8, hv8, h⟩ := h
 refine Chain.runK [] 7 fun K hK => ?_; simp [hv5, IntKind.bits, hv6, hv7, hv8]; refine hK _ _ ?_; clear hK K
 refine Chain.sub (S' := mk 35 [] [(0, .d (.lit (.int .u64 v8)))] []) Sub.tt ?_
 refine Chain.nil ?_
 refine AW.seqR ?_
 replace h := lsome h; obtain ⟨v9, hv9, h⟩ := h
 replace h := lsome h; obtain ⟨v10, hv10, h⟩ := h
 replace h := lsome h; obtain ⟨v11, hv11, h⟩ := h
 refine Chain.runK [] 6 fun K hK => ?_; simp [hv9, IntKind.bits, hv10, hv11]; refine hK _ _ ?_; clear hK K
 refine Chain.sub (S' := mk 35 [] [(0, .d (.lit (.int .u64 v11)))] []) Sub.tt ?_
 refine Chain.nil ?_
 refine AW.seqR ?_
 replace h := lsome h; obtain ⟨v12, hv12, h⟩ := h
 replace h := lsome h; obtain ⟨v13, hv13, h⟩ := h
 refine Chain.runK [] 5 fun K hK => ?_; simp [hv12, IntKind.bits, hv13]; refine hK _ _ ?_; clear hK K
 refine Chain.sub (S' := mk 35 [] [(0, .d (.lit (.int .u64 v13)))] []) Sub.tt ?_
 refine Chain.nil ?_
 refine AW.seqR ?_
 replace h := lsome h; obtain ⟨v14, hv14, h⟩ := h
 replace h := lsome h; obtain ⟨v15, hv15, h⟩ := h
 refine Chain.runK [] 5 fun K hK => ?_; simp [hv14, IntKind.bits, hv15]; refine hK _ _ ?_; clear hK K
 refine Chain.sub (S' := mk 35 [] [(0, .d (.lit (.int .u64 v15)))] []) Sub.tt ?_
 refine Chain.nil ?_
 refine AW.seqR ?_
 replace h := lsome h; obtain ⟨v16, hv16, h⟩ := h
 replace h := lsome h; obtain ⟨v17, hv17, h⟩ := h
 refine Chain.runK [] 5 fun K hK => ?_; simp [hv16, IntKind.bits, hv17]; refine hK _ _ ?_; clear hK K
 refine Chain.sub (S' := mk 35 [] [(0, .d (.lit (.int .u64 v17)))] []) Sub.tt ?_
 refine Chain.nil ?_
 refine AW.seqR ?_
 replace h := bsome h; obtain ⟨v18, hv18, h⟩ := h
 have hv18 := chkI_some hv18
 replace h := lsome h; obtain ⟨v19, hv19, h⟩ := h
 refine Chain.runK [] 4 fun K hK => ?_; simp [hv18, hv19]; refine hK _ _ ?_; clear hK K
 refine Chain.sub (S' := mk 35 [] [(2, .d (.lit (.int .i64 v19)))] []) Sub.tt ?_
 refine Chain.nil ?_
 refine AW.ret ?_
 cases h
 exact FinC.ret (by simp) (by simp)

/-- math/bits.OnesCount -/
def d51 (N : Nat) (a0 : Int) : Option Int :=
 (d95 N a0).bind fun r1 =>
 some r1
set_option maxRecDepth 100000 in
set_option maxHeartbeats 4000000 in
theorem p51 (N : Nat) (a0 : Int) (r : Int) (h : d51 N a0 = some r) : FunC Tryz.prog 51 [.d (.lit (.int .u64 a0))] (.d (.lit (.int .i64 r))) := by
 unfold d51 at h
 refine FunC.enter 8 [(0, .d (.lit (.int .u64 a0)))] (by simp) Tryz.func51 rfl (of_decide_eq_true rfl) rfl rfl ?_
 refine AW.seqR ?_
 refine Chain.runK [] 1 fun K hK => ?_; simp; refine hK _ _ ?_; clear hK K
 refine Chain.sub (S' := mk 8 [] [(0, .d (.lit (.int .u64 a0)))] []) Sub.tt ?_
 refine Chain.nil ?_
 refine AW.seq (AW.condK fun K1 K2 k1 k2 => ?_); simp; refine k2 ?_; clear k1 k2 K1 K2
 refine AW.skip ?_
 refine thenQ_normal ?_
 refine AW.seqR ?_
 refine Chain.runK [] 1 fun K hK => ?_; simp; refine hK _ _ ?_; clear hK K
 refine Chain.sub (S' := mk 8 [] [(6, .d (.lit (.int .u64 a0)))] []) Sub.tt ?_
 replace h := bsome h; obtain ⟨r1, hr1, h⟩ := h
 refine Chain.callL (d := 7) (p95 N a0 r1 hr1) (by simp) rfl rfl (by simp <;> rfl) (by simp <;> rfl) ent95 (by simp <;> rfl) ?_
 refine Chain.sub (S' := mk 8 [] [(6, .d (.lit (.int .u64 a0))), (7, .d (.lit (.int .i64 r1)))] []) (by simp; exact Sub.table (by simp) (by simp)) ?_
 refine Chain.runK [] 1 fun K hK => ?_; simp; refine hK _ _ ?_; clear hK K
 refine Chain.sub (S' := mk 8 [] [(2, .d (.lit (.int .i64 r1)))] []) Sub.tt ?_
 refine Chain.nil ?_
 refine AW.ret ?_
 cases h
 exact FinC.ret (by simp) (by simp)

/-- math/bits.TrailingZeros64 -/
def d97 (_ : Nat) (a0 : Int) : Option Int := if 0 ≤ a0 ∧ a0 < 18446744073709551616 then some (Lib.ctz 64 a0.toNat : Nat) else none
theorem p97 (N : Nat) (a0 : Int) (r : Int) (h : d97 N a0 = some r) : FunC Tryz.prog 97 [.d (.lit (.int .u64 a0))] (.d (.lit (.int .i64 r))) := by
 unfold d97 at h
 split at h
 ·rename_i hr
  injection h with h
  subst h
  refine FunC.of_callsV (vals := [.int .u64 a0]) (fun E w vs hv => ?_) rfl fun w hw => ?_
  ·simp [RVs, RV, RD] at hv
   exact hv
  ·have e : a0 = (a0.toNat : Int) := by omega
   have c := tz_ok a0.toNat (by omega) w (fun j hj => ?_)
   ·rw [← e] at c
    refine c.mono ?_
    rintro x w' ⟨rfl, rfl⟩
    exact ⟨_, rfl, fun _ => by simp [RV, RD], ⟨rfl, rfl, rfl, Nat.le_refl _, fun _ _ => rfl⟩⟩
   ·have hc := Lib.TabIs.cell hw.c gtab j (by simpa using hj)
    have hj' : j < Lib.deBruijn64tab.length := hj
    simpa [List.getElem?_eq_getElem hj'] using hc
 ·cases h

/-- math/bits.TrailingZeros -/
def d52 (N : Nat) (a0 : Int) : Option Int :=
 (d97 N a0).bind fun r1 =>
 some r1
set_option maxRecDepth 100000 in
set_option maxHeartbeats 4000000 in
theorem p52 (N : Nat) (a0 : Int) (r : Int) (h : d52 N a0 = some r) : FunC Tryz.prog 52 [.d (.lit (.int .u64 a0))] (.d (.lit (.int .i64 r))) := by
 unfold d52 at h
 refine FunC.enter 8 [(0, .d (.lit (.int .u64 a0)))] (by simp) Tryz.func52 rfl (of_decide_eq_true rfl) rfl rfl ?_
 refine AW.seqR ?_
 refine Chain.runK [] 1 fun K hK => ?_; simp; refine hK _ _ ?_; clear hK K
 refine Chain.sub (S' := mk 8 [] [(0, .d (.lit (.int .u64 a0)))] []) Sub.tt ?_
 refine Chain.nil ?_
 refine AW.seq (AW.condK fun K1 K2 k1 k2 => ?_); simp; refine k2 ?_; clear k1 k2 K1 K2
 refine AW.skip ?_
 refine thenQ_normal ?_
 refine AW.seqR ?_
 refine Chain.runK [] 1 fun K hK => ?_; simp; refine hK _ _ ?_; clear hK K
 refine Chain.sub (S' := mk 8 [] [(6, .d (.lit (.int .u64 a0)))] []) Sub.tt ?_
 replace h := bsome h; obtain ⟨r1, hr1, h⟩ := h
 refine Chain.callL (d := 7) (p97 N a0 r1 hr1) (by simp) rfl rfl (by simp <;> rfl) (by simp <;> rfl) ent97 (by simp <;> rfl) ?_
 refine Chain.sub (S' := mk 8 [] [(6, .d (.lit (.int .u64 a0))), (7, .d (.lit (.int .i64 r1)))] []) (by simp; exact Sub.table (by simp) (by simp)) ?_
 refine Chain.runK [] 1 fun K hK => ?_; simp; refine hK _ _ ?_; clear hK K
 refine Chain.sub (S' := mk 8 [] [(2, .d (.lit (.int .i64 r1)))] []) Sub.tt ?_
 refine Chain.nil ?_
 refine AW.ret ?_
 cases h
 exact FinC.ret (by simp) (by simp)

/-- stemma/joinorder.own -/
def d54 : (N : Nat) → (a0 : S28) → Option S28
 | 0, _ => none
 | N + 1, a0 =>
  Option.bind (α := List S28) (
   iterN (σ := ((List S28) × Int)) (ρ := List S28) (fun ((l6, v7) : ((List S28) × Int)) =>
    if v7 < (a0.Children.length : Int) then (
     (idx a0.Children v7).bind fun x24 =>
     (d54 N x24).bind fun r26 =>
     (appL 32 l6 [r26]).bind fun _l27 =>
     (chkI (v7 + 1)).bind fun v28 =>
     some (.inl ((l6 ++ [r26]), v28))
    ) else
    some (.inr l6)
   ) N (([] : List S28), 0)
  ) fun (l22 : List S28) =>
  some (S28.mk a0.Leaf l22)
set_option maxRecDepth 100000 in
set_option maxHeartbeats 4000000 in
theorem p54 (N : Nat) : ∀ (a0 : S28) (r : S28) (_ : d54 N a0 = some r), FunC Tryz.prog 54 [.agg [.d (.lit (.int .i64 a0.Leaf)), .d (.sl (a0.Children.map cS28))]] (.agg [.d (.lit (.int .i64 r.Leaf)), .d (.sl (r.Children.map cS28))]) := by
 induction N with
 | zero => intro a0 r h; cases h
 | succ N ih =>
 intro a0 r h
 unfold d54 at h
 refine FunC.enter 25 [(0, .agg [.d (.lit (.int .i64 a0.Leaf)), .d (.sl (a0.Children.map cS28))])] (by simp) Tryz.func54 rfl (of_decide_eq_true rfl) rfl rfl ?_
 refine AW.seqR ?_
 refine Chain.runK [] 2 fun K hK => ?_; simp; refine hK _ _ ?_; clear hK K
 refine Chain.sub (S' := mk 25 [] [(1, .ptr 1 0 0), (2, .ptr 2 0 0)] [(1, some (.box [.d (.lit (.int .i64 a0.Leaf)), .d (.sl (a0.Children.map cS28))])), (2, some (.box [.d (.lit (.int .i64 0)), .d (.lit (.slice none 0 0))]))]) Sub.tt ?_
 refine Chain.nil ?_
 refine AW.seqR ?_
 refine Chain.runK [] 5 fun K hK => ?_; simp; refine hK _ _ ?_; clear hK K
 refine Chain.sub (S' := mk 25 [] [(1, .ptr 1 0 0), (2, .ptr 2 0 0), (3, .ptr 3 0 0)] [(1, some (.box [.d (.lit (.int .i64 a0.Leaf)), .d (.sl (a0.Children.map cS28))])), (2, some (.box [.d (.lit (.int .i64 0)), .d (.lit (.slice none 0 0))])), (3, some (.box [.d (.lit (.int .i64 a0.Leaf)), .d (.lit (.slice none 0 0))]))]) Sub.tt ?_
 refine Chain.nil ?_
 refine AW.seq ?_
 refine AW.seqR ?_
 refine Chain.runK [] 4 fun K hK => ?_; simp; refine hK _ _ ?_; clear hK K
 refine Chain.sub (S' := mk 25 [] [(2, .ptr 2 0 0), (3, .ptr 3 0 0), (10, .d (.sl (a0.Children.map cS28))), (11, .d (.lit (.int .i64 (a0.Children.length : Int)))), (12, .d (.lit (.int .i64 0)))] [(2, some (.box [.d (.lit (.int .i64 0)), .d (.lit (.slice none 0 0))])), (3, some (.box [.d (.lit (.int .i64 a0.Leaf)), .d (.lit (.slice none 0 0))]))]) Sub.tt ?_
 refine Chain.nil ?_
 refine AW.lastN (fun (l22 : List S28) => mk 25 [] [(2, .ptr 2 0 0), (3, .ptr 3 0 0)] [(2, some (.box [.d (.lit (.int .i64 0)), .d (.lit (.slice none 0 0))])), (3, some (.box [.d (.lit (.int .i64 a0.Leaf)), .ref 21 0 l22.length])), (21, some (.arr 28 2 (l22.map cS28)))]) h ?_ ?_ <;> clear h
 ·intro o h
  refine AW.block ?_
  refine AW.iter (fun ((l6, v7) : ((List S28) × Int)) => mk 25 [] [(2, .ptr 2 0 0), (3, .ptr 3 0 0), (10, .d (.sl (a0.Children.map cS28))), (11, .d (.lit (.int .i64 (a0.Children.length : Int)))), (12, .d (.lit (.int .i64 v7)))] [(2, some (.box [.d (.lit (.int .i64 0)), .d (.lit (.slice none 0 0))])), (3, some (.box [.d (.lit (.int .i64 a0.Leaf)), .ref 21 0 l6.length])), (21, some (.arr 28 2 (l6.map cS28)))]) h (Sub.trans (Sub.nilOwnBox (bid := 3) (j := 1) (id := 21) (T := 28) (n := 2) rfl rfl (by decide) rfl (by decide)) (by simp; exact Sub.table (by simp) (by simp))) ?_
  clear h
  rintro ⟨l6, v7⟩ x h
  dsimp only at h ⊢
  refine AW.seqR ?_
  refine Chain.runK [] 1 fun K hK => ?_; simp; refine hK _ _ ?_; clear hK K
  refine Chain.sub (S' := mk 25 [] [(2, .ptr 2 0 0), (3, .ptr 3 0 0), (10, .d (.sl (a0.Children.map cS28))), (11, .d (.lit (.int .i64 (a0.Children.length : Int)))), (12, .d (.lit (.int .i64 v7))), (13, .d (.lit (.bool (decide (v7 < (a0.Children.length : Int))))))] [(2, some (.box [.d (.lit (.int .i64 0)), .d (.lit (.slice none 0 0))])), (3, some (.box [.d (.lit (.int .i64 a0.Leaf)), .ref 21 0 l6.length])), (21, some (.arr 28 2 (l6.map cS28)))]) Sub.tt ?_
  refine Chain.nil ?_
  refine AW.seq ?_
  replace h := isome h; rcases h with ⟨c23, h⟩ | ⟨c23, h⟩
  ·have c23_ : decide (v7 < (a0.Children.length : Int)) = true := decide_eq_true c23
   refine AW.condT (b := decide (v7 < (a0.Children.length : Int))) rfl c23_ ?_
   refine AW.sub (Sub.bool 13 (b := decide (v7 < (a0.Children.length : Int))) rfl c23_) ?_
   refine AW.sub (S' := mk 25 [] [(2, .ptr 2 0 0), (3, .ptr 3 0 0), (10, .d (.sl (a0.Children.map cS28))), (11, .d (.lit (.int .i64 (a0.Children.length : Int)))), (12, .d (.lit (.int .i64 v7))), (13, .d (.lit (.bool true)))] [(2, some (.box [.d (.lit (.int .i64 0)), .d (.lit (.slice none 0 0))])), (3, some (.box [.d (.lit (.int .i64 a0.Leaf)), .ref 21 0 l6.length])), (21, some (.arr 28 2 (l6.map cS28)))]) (by simp; exact Sub.table (by simp) (by simp)) ?_
   refine AW.skip ?_
   refine thenQ_normal ?_
   refine AW.seq ?_
   refine AW.block ?_
   refine AW.seqR ?_
   replace h := bsome h; obtain ⟨x24, hx24, h⟩ := h
   obtain ⟨k25, hx24k, hx24, hx24a, hx24b⟩ := idx_some hx24
   refine Chain.runK [] 4 fun K hK => ?_; simp [hx24, hx24k, hx24a]; refine hK _ _ ?_; clear hK K
   refine Chain.sub (S' := mk 25 [] [(2, .ptr 2 0 0), (3, .ptr 3 0 0), (5, .ptr 5 0 0), (10, .d (.sl (a0.Children.map cS28))), (11, .d (.lit (.int .i64 (a0.Children.length : Int)))), (12, .d (.lit (.int .i64 v7)))] [(2, some (.box [.d (.lit (.int .i64 0)), .d (.lit (.slice none 0 0))])), (3, some (.box [.d (.lit (.int .i64 a0.Leaf)), .ref 21 0 l6.length])), (5, some (.box [.d (.lit (.int .i64 x24.Leaf)), .d (.sl (x24.Children.map cS28))])), (21, some (.arr 28 2 (l6.map cS28)))]) Sub.tt ?_
   refine Chain.nil ?_
   replace h := bsome h; obtain ⟨r26, hr26, h⟩ := h
   replace h := bsome h; obtain ⟨l27, hl27, h⟩ := h
   obtain ⟨hl27a, hl27⟩ := appL_some hl27
   subst hl27
   try simp only [List.length_cons, List.length_nil, Nat.zero_add] at hl27a
   refine AW.lastAnyS [[], [0], [], [2], [2, 3], [0, 1, 2, 3, 4], [0, 1, 2, 3, 4, 5], [0, 1, 2, 3, 4, 5, 6]] (fun (b : Nat → Bool) => mk 25 [] [(2, .ptr 2 0 0), (3, .ptr 3 0 0), (5, .ptr 5 0 0), (10, .d (.sl (a0.Children.map cS28))), (11, .d (.lit (.int .i64 (a0.Children.length : Int)))), (12, .d (.lit (.int .i64 v7))), (16, (if b 0 then .ptr 3 0 1 else .junk)), (17, (if b 5 then .junk else (if b 1 then .ref 21 0 l6.length else .junk))), (18, (if b 2 then .agg [.d (.lit (.int .i64 x24.Leaf)), .d (.sl (x24.Children.map cS28))] else .junk)), (19, (if b 3 then .agg [.d (.lit (.int .i64 r26.Leaf)), .d (.sl (r26.Children.map cS28))] else .junk)), (20, (if b 4 then .d (.sl ([r26].map cS28)) else .junk)), (21, (if b 5 then .ref 21 0 ((l6 ++ [r26]).length) else .junk)), (22, (if b 6 then .ptr 3 0 1 else .junk))] [(2, some (.box [.d (.lit (.int .i64 0)), .d (.lit (.slice none 0 0))])), (3, (if b 7 then some (.box [.d (.lit (.int .i64 a0.Leaf)), .ref 21 0 ((l6 ++ [r26]).length)]) else (if b 5 then some (.box [.d (.lit (.int .i64 a0.Leaf)), .hole]) else some (.box [.d (.lit (.int .i64 a0.Leaf)), .ref 21 0 l6.length])))), (5, some (.box [.d (.lit (.int .i64 x24.Leaf)), .d (.sl (x24.Children.map cS28))])), (21, (if b 5 then some (.arr 28 2 ((l6 ++ [r26]).map cS28)) else some (.arr 28 2 (l6.map cS28))))]) (mk 25 [] [(2, .ptr 2 0 0), (3, .ptr 3 0 0), (10, .d (.sl (a0.Children.map cS28))), (11, .d (.lit (.int .i64 (a0.Children.length : Int)))), (12, .d (.lit (.int .i64 v7)))] [(2, some (.box [.d (.lit (.int .i64 0)), .d (.lit (.slice none 0 0))])), (3, some (.box [.d (.lit (.int .i64 a0.Leaf)), .ref 21 0 ((l6 ++ [r26]).length)])), (21, some (.arr 28 2 ((l6 ++ [r26]).map cS28)))]) (by kernel_rfl) (by kernel_rfl) Sub.tt (Steps.cons ?_ (Steps.cons ?_ (Steps.cons ?_ (Steps.cons ?_ (Steps.cons ?_ (Steps.cons ?_ (Steps.cons ?_ (Steps.cons ?_ (Steps.nil))))))))) ?_ ?_
   ·intro b h0 ha hd
    have f1 : b 1 = false := hd 1 (by decide)
    have f5 : b 5 = false := hd 5 (by decide)
    have f6 : b 6 = false := hd 6 (by decide)
    have f7 : b 7 = false := hd 7 (by decide)
    refine Chain.runK [20] 1 fun K hK => ?_; simp [h0, f1, f5, f6, f7]; refine hK _ _ ?_; clear hK K
    exact Chain.nil (Sub.table (by simp [f1, f5, f6]) (by simp [f5, f7]))
   ·intro b h0 ha hd
    have t0 : b 0 = true := ha 0 (by decide)
    have f5 : b 5 = false := hd 5 (by decide)
    have f6 : b 6 = false := hd 6 (by decide)
    have f7 : b 7 = false := hd 7 (by decide)
    refine Chain.runK [20] 1 fun K hK => ?_; simp [h0, t0, f5, f6, f7]; refine hK _ _ ?_; clear hK K
    exact Chain.nil (Sub.table (by simp [t0, f5, f6]) (by simp [f5, f7]))
   ·intro b h0 ha hd
    have f3 : b 3 = false := hd 3 (by decide)
    have f4 : b 4 = false := hd 4 (by decide)
    have f5 : b 5 = false := hd 5 (by decide)
    have f6 : b 6 = false := hd 6 (by decide)
    have f7 : b 7 = false := hd 7 (by decide)
    refine Chain.runK [20] 1 fun K hK => ?_; simp [h0, f3, f4, f5, f6, f7]; refine hK _ _ ?_; clear hK K
    exact Chain.nil (Sub.table (by simp [f3, f4, f5, f6]) (by simp [f5, f7]))
   ·intro b h0 ha hd
    have t2 : b 2 = true := ha 2 (by decide)
    have f4 : b 4 = false := hd 4 (by decide)
    have f5 : b 5 = false := hd 5 (by decide)
    have f6 : b 6 = false := hd 6 (by decide)
    have f7 : b 7 = false := hd 7 (by decide)
    simp only [h0, t2, f4, f5, f6, f7, if_true, if_false, Bool.false_eq_true]
    refine Chain.callC (d := 19) (ih x24 r26 hr26) (by simp) rfl rfl (by simp <;> rfl) (by simp <;> rfl) ent54 (by simp) (.inl ⟨by simp, by simp⟩) ?_
    exact Chain.nil (by simp [t2, f4, f5, f6, f7]; exact Sub.table (by simp) (by simp))
   ·intro b h0 ha hd
    have t2 : b 2 = true := ha 2 (by decide)
    have t3 : b 3 = true := ha 3 (by decide)
    have f5 : b 5 = false := hd 5 (by decide)
    have f6 : b 6 = false := hd 6 (by decide)
    have f7 : b 7 = false := hd 7 (by decide)
    refine Chain.runK [20] 1 fun K hK => ?_; simp [h0, t2, t3, f5, f6, f7]; refine hK _ _ ?_; clear hK K
    exact Chain.nil (Sub.table (by simp [t2, t3, f5, f6]) (by simp [f5, f7]))
   ·intro b h0 ha hd
    have t0 : b 0 = true := ha 0 (by decide)
    have t1 : b 1 = true := ha 1 (by decide)
    have t2 : b 2 = true := ha 2 (by decide)
    have t3 : b 3 = true := ha 3 (by decide)
    have t4 : b 4 = true := ha 4 (by decide)
    have f6 : b 6 = false := hd 6 (by decide)
    have f7 : b 7 = false := hd 7 (by decide)
    refine Chain.runK [20] 1 fun K hK => ?_; simp [h0, t0, t1, t2, t3, t4, f6, f7, hl27a]; refine hK _ _ ?_; clear hK K
    exact Chain.nil (Sub.table (by simp [t0, t2, t3, t4, f6]) (by simp [f7]))
   ·intro b h0 ha hd
    have t0 : b 0 = true := ha 0 (by decide)
    have t1 : b 1 = true := ha 1 (by decide)
    have t2 : b 2 = true := ha 2 (by decide)
    have t3 : b 3 = true := ha 3 (by decide)
    have t4 : b 4 = true := ha 4 (by decide)
    have t5 : b 5 = true := ha 5 (by decide)
    have f7 : b 7 = false := hd 7 (by decide)
    refine Chain.runK [20] 1 fun K hK => ?_; simp [h0, t0, t2, t3, t4, t5, f7]; refine hK _ _ ?_; clear hK K
    exact Chain.nil (Sub.table (by simp [t0, t2, t3, t4, t5]) (by simp [t5, f7]))
   ·intro b h0 ha hd
    have t0 : b 0 = true := ha 0 (by decide)
    have t1 : b 1 = true := ha 1 (by decide)
    have t2 : b 2 = true := ha 2 (by decide)
    have t3 : b 3 = true := ha 3 (by decide)
    have t4 : b 4 = true := ha 4 (by decide)
    have t5 : b 5 = true := ha 5 (by decide)
    have t6 : b 6 = true := ha 6 (by decide)
    refine Chain.runK [20] 1 fun K hK => ?_; simp [h0, t0, t2, t3, t4, t5, t6]; refine hK _ _ ?_; clear hK K
    exact Chain.nil (Sub.table (by simp [t0, t2, t3, t4, t5, t6]) (by simp [t5]))
   ·intro b hb
    have t0 := hb 0 (by decide)
    have t1 := hb 1 (by decide)
    have t2 := hb 2 (by decide)
    have t3 := hb 3 (by decide)
    have t4 := hb 4 (by decide)
    have t5 := hb 5 (by decide)
    have t6 := hb 6 (by decide)
    have t7 := hb 7 (by decide)
    exact Sub.table (by simp [t0, t2, t3, t4, t5, t6]) (by simp [t5, t7])
   ·skip
    refine blockQ.normal ?_
    refine thenQ_normal ?_
    refine AW.region ?_
    replace h := bsome h; obtain ⟨v28, hv28, h⟩ := h
    have hv28 := chkI_some hv28
    refine Chain.runK [] 2 fun K hK => ?_; simp [hv28]; refine hK _ _ ?_; clear hK K
    refine Chain.sub (S' := mk 25 [] [(2, .ptr 2 0 0), (3, .ptr 3 0 0), (10, .d (.sl (a0.Children.map cS28))), (11, .d (.lit (.int .i64 (a0.Children.length : Int)))), (12, .d (.lit (.int .i64 v28)))] [(2, some (.box [.d (.lit (.int .i64 0)), .d (.lit (.slice none 0 0))])), (3, some (.box [.d (.lit (.int .i64 a0.Leaf)), .ref 21 0 ((l6 ++ [r26]).length)])), (21, some (.arr 28 2 ((l6 ++ [r26]).map cS28)))]) Sub.tt ?_
    refine Chain.nil ?_
    cases h
    refine PostI.next ?_
    exact Sub.tt
  ·have c23_ : decide (v7 < (a0.Children.length : Int)) = false := decide_eq_false c23
   refine AW.condF (b := decide (v7 < (a0.Children.length : Int))) rfl c23_ ?_
   refine AW.sub (Sub.bool 13 (b := decide (v7 < (a0.Children.length : Int))) rfl c23_) ?_
   refine AW.sub (S' := mk 25 [] [(2, .ptr 2 0 0), (3, .ptr 3 0 0), (10, .d (.sl (a0.Children.map cS28))), (11, .d (.lit (.int .i64 (a0.Children.length : Int)))), (12, .d (.lit (.int .i64 v7))), (13, .d (.lit (.bool false)))] [(2, some (.box [.d (.lit (.int .i64 0)), .d (.lit (.slice none 0 0))])), (3, some (.box [.d (.lit (.int .i64 a0.Leaf)), .ref 21 0 l6.length])), (21, some (.arr 28 2 (l6.map cS28)))]) (by simp; exact Sub.table (by simp) (by simp)) ?_
   refine AW.exit ?_
   cases h
   refine thenQ_pass (by simp) ?_
   refine PostI.out (by simp) ?_
   rintro rfl
   refine blockQ.hit ?_
   refine PostN.next ?_
   exact Sub.tt
 ·rintro l22 h
  refine thenQ_normal ?_
  refine AW.seqR ?_
  refine Chain.runK [] 2 fun K hK => ?_; simp; refine hK _ _ ?_; clear hK K
  refine Chain.sub (S' := mk 25 [] [(2, .ptr 2 0 0)] [(2, some (.box [.d (.lit (.int .i64 a0.Leaf)), .ref 21 0 l22.length])), (21, some (.arr 28 2 (l22.map cS28)))]) Sub.tt ?_
  refine Chain.nil ?_
  refine AW.sub (Sub.freeze 21 rfl) ?_
  refine AW.sub (S' := mk 25 [] [(2, .ptr 2 0 0)] [(2, some (.box [.d (.lit (.int .i64 a0.Leaf)), .d (.sl (l22.map cS28))]))]) (by simp; exact Sub.table (by simp) (by simp)) ?_
  refine AW.ret ?_
  cases h
  exact FinC.ret (by simp) (by simp)

end Go.Proofs.YtimkkjiplioohaaGreatDoor
