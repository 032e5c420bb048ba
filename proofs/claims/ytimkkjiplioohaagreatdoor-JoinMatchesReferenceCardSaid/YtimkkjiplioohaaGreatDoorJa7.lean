/- Functions of the program as functional programs; the code computes them. -/
import Derived.Test.YtimkkjiplioohaaGreatDoorJa6
namespace Go.Proofs.YtimkkjiplioohaaGreatDoor
open Go.Ab Go.Rp
attribute [-simp] List.all_eq_true Array.all_toList Array.all_eq_true

/-- stemma/stemref3.SameRow -/
def d34 (N : Nat) (a0 : (List S61)) (a1 : (List S61)) : Option Bool :=
 if ((a0.length : Int) != (a1.length : Int)) then (
  some false
 ) else
 bindO (β := Unit) (ρ := Bool) (
  iterN (σ := Int) (ρ := (Out Unit Bool)) (fun (v7 : Int) =>
   if v7 < (a0.length : Int) then (
    (idx a0 v7).bind fun x22 =>
    (idx a1 v7).bind fun x24 =>
    if (!beqS61 x22 x24) = true then (
     some (.inr (.ret false))
    ) else
    (chkI (v7 + 1)).bind fun v26 =>
    some (.inl v26)
   ) else
   some (.inr (.go ()))
  ) N 0
 ) fun (_ : Unit) =>
 some true
set_option maxRecDepth 100000 in
set_option maxHeartbeats 4000000 in
theorem p34 (N : Nat) (a0 : (List S61)) (a1 : (List S61)) (r : Bool) (h : d34 N a0 a1 = some r) : FunC Tryz.prog 34 [.d (.sl (a0.map cS61)), .d (.sl (a1.map cS61))] (.b r) := by
 unfold d34 at h
 refine FunC.enter 26 [(0, .d (.sl (a0.map cS61))), (1, .d (.sl (a1.map cS61)))] (by simp) Tryz.func34 rfl (of_decide_eq_true rfl) rfl rfl ?_
 refine AW.seqR ?_
 refine Chain.runK [] 1 fun K hK => ?_; simp; refine hK _ _ ?_; clear hK K
 refine Chain.sub (S' := mk 26 [] [(0, .d (.sl (a0.map cS61))), (1, .d (.sl (a1.map cS61)))] []) Sub.tt ?_
 refine Chain.nil ?_
 refine AW.seq ?_
 refine AW.seqR ?_
 refine Chain.runK [] 5 fun K hK => ?_; simp; refine hK _ _ ?_; clear hK K
 refine Chain.sub (S' := mk 26 [] [(0, .d (.sl (a0.map cS61))), (1, .d (.sl (a1.map cS61))), (10, .b ((a0.length : Int) != (a1.length : Int)))] []) Sub.tt ?_
 refine Chain.nil ?_
 replace h := isome h; rcases h with ⟨c1, h⟩ | ⟨c1, h⟩
 ·have c1_ : ((a0.length : Int) != (a1.length : Int)) = true := c1
  refine AW.condT (b := ((a0.length : Int) != (a1.length : Int))) rfl c1_ ?_
  refine AW.sub (Sub.bool 10 (b := ((a0.length : Int) != (a1.length : Int))) rfl c1_) ?_
  refine AW.sub (S' := mk 26 [] [(0, .d (.sl (a0.map cS61))), (1, .d (.sl (a1.map cS61))), (10, .b true)] []) (by simp; exact Sub.table (by simp) (by simp)) ?_
  refine AW.seqR ?_
  refine Chain.runK [] 1 fun K hK => ?_; simp; refine hK _ _ ?_; clear hK K
  refine Chain.sub (S' := mk 26 [] [(4, .b false)] []) Sub.tt ?_
  refine Chain.nil ?_
  refine AW.ret ?_
  cases h
  refine thenQ_pass (by simp) ?_
  exact FinC.ret (by simp) (by simp)
 ·have c1_ : ((a0.length : Int) != (a1.length : Int)) = false := Bool.eq_false_iff.2 c1
  refine AW.condF (b := ((a0.length : Int) != (a1.length : Int))) rfl c1_ ?_
  refine AW.sub (Sub.bool 10 (b := ((a0.length : Int) != (a1.length : Int))) rfl c1_) ?_
  refine AW.sub (S' := mk 26 [] [(0, .d (.sl (a0.map cS61))), (1, .d (.sl (a1.map cS61))), (10, .b false)] []) (by simp; exact Sub.table (by simp) (by simp)) ?_
  refine AW.skip ?_
  refine thenQ_normal ?_
  refine AW.seq ?_
  refine AW.seqR ?_
  refine Chain.runK [] 3 fun K hK => ?_; simp; refine hK _ _ ?_; clear hK K
  refine Chain.sub (S' := mk 26 [] [(0, .d (.sl (a0.map cS61))), (1, .d (.sl (a1.map cS61))), (12, .i (a0.length : Int)), (13, .i 0)] []) Sub.tt ?_
  refine Chain.nil ?_
  refine AW.lastJ (fun (_ : Unit) => mk 26 [] [] []) h ?_ ?_ <;> clear h
  ·intro o h
   refine AW.block ?_
   refine AW.iter (fun (v7 : Int) => mk 26 [] [(0, .d (.sl (a0.map cS61))), (1, .d (.sl (a1.map cS61))), (12, .i (a0.length : Int)), (13, .i v7)] []) h Sub.tt ?_
   clear h
   rintro v7 x h
   refine AW.seqR ?_
   refine Chain.runK [] 1 fun K hK => ?_; simp; refine hK _ _ ?_; clear hK K
   refine Chain.sub (S' := mk 26 [] [(0, .d (.sl (a0.map cS61))), (1, .d (.sl (a1.map cS61))), (12, .i (a0.length : Int)), (13, .i v7), (14, .b (decide (v7 < (a0.length : Int))))] []) Sub.tt ?_
   refine Chain.nil ?_
   refine AW.seq ?_
   replace h := isome h; rcases h with ⟨c21, h⟩ | ⟨c21, h⟩
   ·have c21_ : decide (v7 < (a0.length : Int)) = true := decide_eq_true c21
    refine AW.condT (b := decide (v7 < (a0.length : Int))) rfl c21_ ?_
    refine AW.sub (Sub.bool 14 (b := decide (v7 < (a0.length : Int))) rfl c21_) ?_
    refine AW.sub (S' := mk 26 [] [(0, .d (.sl (a0.map cS61))), (1, .d (.sl (a1.map cS61))), (12, .i (a0.length : Int)), (13, .i v7), (14, .b true)] []) (by simp; exact Sub.table (by simp) (by simp)) ?_
    refine AW.skip ?_
    refine thenQ_normal ?_
    refine AW.seq ?_
    refine AW.block ?_
    refine AW.seqR ?_
    refine Chain.runK [] 2 fun K hK => ?_; simp; refine hK _ _ ?_; clear hK K
    refine Chain.sub (S' := mk 26 [] [(0, .d (.sl (a0.map cS61))), (1, .d (.sl (a1.map cS61))), (5, .i v7), (12, .i (a0.length : Int)), (13, .i v7)] []) Sub.tt ?_
    refine Chain.nil ?_
    refine AW.seqQ (by kernel_rfl) (by kernel_rfl) ?_
    replace h := bsome h; obtain ⟨x22, hx22, h⟩ := h
    obtain ⟨k23, hx22k, hx22, hx22a, hx22b⟩ := idx_some hx22
    replace h := bsome h; obtain ⟨x24, hx24, h⟩ := h
    obtain ⟨hx24, hx24a, hx24b⟩ := idx_some2 hx24 hx22k
    refine Chain.runQ 8 fun K hK => ?_; simp [hx22, hx22a, hx24, hx22k]; refine hK _ _ ?_; clear hK K
    refine Chain.sub (S' := mk 26 [] [(0, .d (.sl (a0.map cS61))), (1, .d (.sl (a1.map cS61))), (12, .i (a0.length : Int)), (13, .i v7), (19, .agg [.i x22.Kind, .i x22.Int, .d (.lit (.string x22.Text))]), (23, .agg [.i x24.Kind, .i x24.Int, .d (.lit (.string x24.Text))])] []) Sub.tt ?_
    refine Chain.pureP (by simp) (pure_eqA true rfl rfl rfl rfl (by kernel_rfl) (eqv61 x22 x24)) ?_
    refine Chain.sub (S' := mk 26 [] [(0, .d (.sl (a0.map cS61))), (1, .d (.sl (a1.map cS61))), (12, .i (a0.length : Int)), (13, .i v7), (19, .agg [.i x22.Kind, .i x22.Int, .d (.lit (.string x22.Text))]), (23, .agg [.i x24.Kind, .i x24.Int, .d (.lit (.string x24.Text))]), (24, .b (!beqS61 x22 x24))] []) (by simp; exact Sub.table (by simp) (by simp)) ?_
    refine Chain.nil ?_
    replace h := isome h; rcases h with ⟨c25, h⟩ | ⟨c25, h⟩
    ·have c25_ : (!beqS61 x22 x24) = true := c25
     refine AW.condT (b := (!beqS61 x22 x24)) rfl c25_ ?_
     refine AW.sub (Sub.bool 24 (b := (!beqS61 x22 x24)) rfl c25_) ?_
     refine AW.sub (S' := mk 26 [] [(0, .d (.sl (a0.map cS61))), (1, .d (.sl (a1.map cS61))), (12, .i (a0.length : Int)), (13, .i v7), (19, .agg [.i x22.Kind, .i x22.Int, .d (.lit (.string x22.Text))]), (23, .agg [.i x24.Kind, .i x24.Int, .d (.lit (.string x24.Text))]), (24, .b true)] []) (by simp; exact Sub.table (by simp) (by simp)) ?_
     refine AW.seqR ?_
     refine Chain.runK [] 1 fun K hK => ?_; simp; refine hK _ _ ?_; clear hK K
     refine Chain.sub (S' := mk 26 [] [(4, .b false)] []) Sub.tt ?_
     refine Chain.nil ?_
     refine AW.ret ?_
     cases h
     refine blockQ.ret ?_
     refine thenQ_pass (by simp) ?_
     refine PostI.out (by simp) ?_
     rintro rfl
     refine blockQ.ret ?_
     refine PostJ.out (by simp) ?_
     rintro rfl
     refine thenQ_pass (by simp) ?_
     exact FinC.ret (by simp) (by simp)
    ·have c25_ : (!beqS61 x22 x24) = false := Bool.eq_false_iff.2 c25
     refine AW.condF (b := (!beqS61 x22 x24)) rfl c25_ ?_
     refine AW.sub (Sub.bool 24 (b := (!beqS61 x22 x24)) rfl c25_) ?_
     refine AW.sub (S' := mk 26 [] [(0, .d (.sl (a0.map cS61))), (1, .d (.sl (a1.map cS61))), (12, .i (a0.length : Int)), (13, .i v7), (19, .agg [.i x22.Kind, .i x22.Int, .d (.lit (.string x22.Text))]), (23, .agg [.i x24.Kind, .i x24.Int, .d (.lit (.string x24.Text))]), (24, .b false)] []) (by simp; exact Sub.table (by simp) (by simp)) ?_
     refine AW.skip ?_
     refine blockQ.normal ?_
     refine thenQ_normal ?_
     refine AW.region ?_
     replace h := bsome h; obtain ⟨v26, hv26, h⟩ := h
     have hv26 := chkI_some hv26
     refine Chain.runK [] 2 fun K hK => ?_; simp [hv26]; refine hK _ _ ?_; clear hK K
     refine Chain.sub (S' := mk 26 [] [(0, .d (.sl (a0.map cS61))), (1, .d (.sl (a1.map cS61))), (12, .i (a0.length : Int)), (13, .i v26)] []) Sub.tt ?_
     refine Chain.nil ?_
     cases h
     refine PostI.next ?_
     exact Sub.tt
   ·have c21_ : decide (v7 < (a0.length : Int)) = false := decide_eq_false c21
    refine AW.condF (b := decide (v7 < (a0.length : Int))) rfl c21_ ?_
    refine AW.sub (Sub.bool 14 (b := decide (v7 < (a0.length : Int))) rfl c21_) ?_
    refine AW.sub (S' := mk 26 [] [(0, .d (.sl (a0.map cS61))), (1, .d (.sl (a1.map cS61))), (12, .i (a0.length : Int)), (13, .i v7), (14, .b false)] []) (by simp; exact Sub.table (by simp) (by simp)) ?_
    refine AW.exit ?_
    cases h
    refine thenQ_pass (by simp) ?_
    refine PostI.out (by simp) ?_
    rintro rfl
    refine blockQ.hit ?_
    refine PostJ.next ?_
    exact Sub.tt
  ·rintro ⟨⟩ h
   refine thenQ_normal ?_
   refine AW.seqR ?_
   refine Chain.runK [] 1 fun K hK => ?_; simp; refine hK _ _ ?_; clear hK K
   refine Chain.sub (S' := mk 26 [] [(4, .b true)] []) Sub.tt ?_
   refine Chain.nil ?_
   refine AW.ret ?_
   cases h
   exact FinC.ret (by simp) (by simp)

/-- stemma/stemref3.SameList -/
def d28 (N : Nat) (a0 : (List (List S61))) (a1 : (List (List S61))) : Option Bool :=
 if ((a0.length : Int) != (a1.length : Int)) then (
  some false
 ) else
 bindO (β := Unit) (ρ := Bool) (
  iterN (σ := Int) (ρ := (Out Unit Bool)) (fun (v8 : Int) =>
   if v8 < (a0.length : Int) then (
    (idx a0 v8).bind fun x25 =>
    (idx a1 v8).bind fun x27 =>
    (d34 N x25 x27).bind fun r28 =>
    if (!r28) = true then (
     some (.inr (.ret false))
    ) else
    (chkI (v8 + 1)).bind fun v30 =>
    some (.inl v30)
   ) else
   some (.inr (.go ()))
  ) N 0
 ) fun (_ : Unit) =>
 some true
set_option maxRecDepth 100000 in
set_option maxHeartbeats 4000000 in
theorem p28 (N : Nat) (a0 : (List (List S61))) (a1 : (List (List S61))) (r : Bool) (h : d28 N a0 a1 = some r) : FunC Tryz.prog 28 [.d (.sl (a0.map (cL cS61))), .d (.sl (a1.map (cL cS61)))] (.b r) := by
 unfold d28 at h
 refine FunC.enter 27 [(0, .d (.sl (a0.map (cL cS61)))), (1, .d (.sl (a1.map (cL cS61))))] (by simp) Tryz.func28 rfl (of_decide_eq_true rfl) rfl rfl ?_
 refine AW.seqR ?_
 refine Chain.runK [] 1 fun K hK => ?_; simp; refine hK _ _ ?_; clear hK K
 refine Chain.sub (S' := mk 27 [] [(0, .d (.sl (a0.map (cL cS61)))), (1, .d (.sl (a1.map (cL cS61))))] []) Sub.tt ?_
 refine Chain.nil ?_
 refine AW.seq ?_
 refine AW.seqR ?_
 refine Chain.runK [] 5 fun K hK => ?_; simp; refine hK _ _ ?_; clear hK K
 refine Chain.sub (S' := mk 27 [] [(0, .d (.sl (a0.map (cL cS61)))), (1, .d (.sl (a1.map (cL cS61)))), (10, .b ((a0.length : Int) != (a1.length : Int)))] []) Sub.tt ?_
 refine Chain.nil ?_
 replace h := isome h; rcases h with ⟨c1, h⟩ | ⟨c1, h⟩
 ·have c1_ : ((a0.length : Int) != (a1.length : Int)) = true := c1
  refine AW.condT (b := ((a0.length : Int) != (a1.length : Int))) rfl c1_ ?_
  refine AW.sub (Sub.bool 10 (b := ((a0.length : Int) != (a1.length : Int))) rfl c1_) ?_
  refine AW.sub (S' := mk 27 [] [(0, .d (.sl (a0.map (cL cS61)))), (1, .d (.sl (a1.map (cL cS61)))), (10, .b true)] []) (by simp; exact Sub.table (by simp) (by simp)) ?_
  refine AW.seqR ?_
  refine Chain.runK [] 1 fun K hK => ?_; simp; refine hK _ _ ?_; clear hK K
  refine Chain.sub (S' := mk 27 [] [(4, .b false)] []) Sub.tt ?_
  refine Chain.nil ?_
  refine AW.ret ?_
  cases h
  refine thenQ_pass (by simp) ?_
  exact FinC.ret (by simp) (by simp)
 ·have c1_ : ((a0.length : Int) != (a1.length : Int)) = false := Bool.eq_false_iff.2 c1
  refine AW.condF (b := ((a0.length : Int) != (a1.length : Int))) rfl c1_ ?_
  refine AW.sub (Sub.bool 10 (b := ((a0.length : Int) != (a1.length : Int))) rfl c1_) ?_
  refine AW.sub (S' := mk 27 [] [(0, .d (.sl (a0.map (cL cS61)))), (1, .d (.sl (a1.map (cL cS61)))), (10, .b false)] []) (by simp; exact Sub.table (by simp) (by simp)) ?_
  refine AW.skip ?_
  refine thenQ_normal ?_
  refine AW.seq ?_
  refine AW.seqR ?_
  refine Chain.runK [] 3 fun K hK => ?_; simp; refine hK _ _ ?_; clear hK K
  refine Chain.sub (S' := mk 27 [] [(0, .d (.sl (a0.map (cL cS61)))), (1, .d (.sl (a1.map (cL cS61)))), (12, .i (a0.length : Int)), (13, .i 0)] []) Sub.tt ?_
  refine Chain.nil ?_
  refine AW.lastJ (fun (_ : Unit) => mk 27 [] [] []) h ?_ ?_ <;> clear h
  ·intro o h
   refine AW.block ?_
   refine AW.iter (fun (v8 : Int) => mk 27 [] [(0, .d (.sl (a0.map (cL cS61)))), (1, .d (.sl (a1.map (cL cS61)))), (12, .i (a0.length : Int)), (13, .i v8)] []) h Sub.tt ?_
   clear h
   rintro v8 x h
   refine AW.seqR ?_
   refine Chain.runK [] 1 fun K hK => ?_; simp; refine hK _ _ ?_; clear hK K
   refine Chain.sub (S' := mk 27 [] [(0, .d (.sl (a0.map (cL cS61)))), (1, .d (.sl (a1.map (cL cS61)))), (12, .i (a0.length : Int)), (13, .i v8), (14, .b (decide (v8 < (a0.length : Int))))] []) Sub.tt ?_
   refine Chain.nil ?_
   refine AW.seq ?_
   replace h := isome h; rcases h with ⟨c24, h⟩ | ⟨c24, h⟩
   ·have c24_ : decide (v8 < (a0.length : Int)) = true := decide_eq_true c24
    refine AW.condT (b := decide (v8 < (a0.length : Int))) rfl c24_ ?_
    refine AW.sub (Sub.bool 14 (b := decide (v8 < (a0.length : Int))) rfl c24_) ?_
    refine AW.sub (S' := mk 27 [] [(0, .d (.sl (a0.map (cL cS61)))), (1, .d (.sl (a1.map (cL cS61)))), (12, .i (a0.length : Int)), (13, .i v8), (14, .b true)] []) (by simp; exact Sub.table (by simp) (by simp)) ?_
    refine AW.skip ?_
    refine thenQ_normal ?_
    refine AW.seq ?_
    refine AW.block ?_
    refine AW.seqR ?_
    refine Chain.runK [] 2 fun K hK => ?_; simp; refine hK _ _ ?_; clear hK K
    refine Chain.sub (S' := mk 27 [] [(0, .d (.sl (a0.map (cL cS61)))), (1, .d (.sl (a1.map (cL cS61)))), (5, .i v8), (12, .i (a0.length : Int)), (13, .i v8)] []) Sub.tt ?_
    refine Chain.nil ?_
    refine AW.seqQ (by kernel_rfl) (by kernel_rfl) ?_
    replace h := bsome h; obtain ⟨x25, hx25, h⟩ := h
    obtain ⟨k26, hx25k, hx25, hx25a, hx25b⟩ := idx_some hx25
    replace h := bsome h; obtain ⟨x27, hx27, h⟩ := h
    obtain ⟨hx27, hx27a, hx27b⟩ := idx_some2 hx27 hx25k
    refine Chain.runQ 8 fun K hK => ?_; simp [hx25, hx25a, hx27, hx25k]; refine hK _ _ ?_; clear hK K
    refine Chain.sub (S' := mk 27 [] [(0, .d (.sl (a0.map (cL cS61)))), (1, .d (.sl (a1.map (cL cS61)))), (12, .i (a0.length : Int)), (13, .i v8), (19, .d (.sl (x25.map cS61))), (23, .d (.sl (x27.map cS61)))] []) Sub.tt ?_
    replace h := bsome h; obtain ⟨r28, hr28, h⟩ := h
    refine Chain.callL (d := 24) (p34 N x25 x27 r28 hr28) (by simp) rfl rfl (by simp <;> rfl) (by simp <;> rfl) ent34 (by simp <;> rfl) ?_
    refine Chain.sub (S' := mk 27 [] [(0, .d (.sl (a0.map (cL cS61)))), (1, .d (.sl (a1.map (cL cS61)))), (12, .i (a0.length : Int)), (13, .i v8), (19, .d (.sl (x25.map cS61))), (23, .d (.sl (x27.map cS61))), (24, .b r28)] []) (by simp; exact Sub.table (by simp) (by simp)) ?_
    refine Chain.runQ 1 fun K hK => ?_; simp; refine hK _ _ ?_; clear hK K
    refine Chain.sub (S' := mk 27 [] [(0, .d (.sl (a0.map (cL cS61)))), (1, .d (.sl (a1.map (cL cS61)))), (12, .i (a0.length : Int)), (13, .i v8), (25, .b (!r28))] []) Sub.tt ?_
    refine Chain.nil ?_
    replace h := isome h; rcases h with ⟨c29, h⟩ | ⟨c29, h⟩
    ·have c29_ : (!r28) = true := c29
     refine AW.condT (b := (!r28)) rfl c29_ ?_
     refine AW.sub (Sub.bool 25 (b := (!r28)) rfl c29_) ?_
     refine AW.sub (S' := mk 27 [] [(0, .d (.sl (a0.map (cL cS61)))), (1, .d (.sl (a1.map (cL cS61)))), (12, .i (a0.length : Int)), (13, .i v8), (25, .b true)] []) (by simp; exact Sub.table (by simp) (by simp)) ?_
     refine AW.seqR ?_
     refine Chain.runK [] 1 fun K hK => ?_; simp; refine hK _ _ ?_; clear hK K
     refine Chain.sub (S' := mk 27 [] [(4, .b false)] []) Sub.tt ?_
     refine Chain.nil ?_
     refine AW.ret ?_
     cases h
     refine blockQ.ret ?_
     refine thenQ_pass (by simp) ?_
     refine PostI.out (by simp) ?_
     rintro rfl
     refine blockQ.ret ?_
     refine PostJ.out (by simp) ?_
     rintro rfl
     refine thenQ_pass (by simp) ?_
     exact FinC.ret (by simp) (by simp)
    ·have c29_ : (!r28) = false := Bool.eq_false_iff.2 c29
     refine AW.condF (b := (!r28)) rfl c29_ ?_
     refine AW.sub (Sub.bool 25 (b := (!r28)) rfl c29_) ?_
     refine AW.sub (S' := mk 27 [] [(0, .d (.sl (a0.map (cL cS61)))), (1, .d (.sl (a1.map (cL cS61)))), (12, .i (a0.length : Int)), (13, .i v8), (25, .b false)] []) (by simp; exact Sub.table (by simp) (by simp)) ?_
     refine AW.skip ?_
     refine blockQ.normal ?_
     refine thenQ_normal ?_
     refine AW.region ?_
     replace h := bsome h; obtain ⟨v30, hv30, h⟩ := h
     have hv30 := chkI_some hv30
     refine Chain.runK [] 2 fun K hK => ?_; simp [hv30]; refine hK _ _ ?_; clear hK K
     refine Chain.sub (S' := mk 27 [] [(0, .d (.sl (a0.map (cL cS61)))), (1, .d (.sl (a1.map (cL cS61)))), (12, .i (a0.length : Int)), (13, .i v30)] []) Sub.tt ?_
     refine Chain.nil ?_
     cases h
     refine PostI.next ?_
     exact Sub.tt
   ·have c24_ : decide (v8 < (a0.length : Int)) = false := decide_eq_false c24
    refine AW.condF (b := decide (v8 < (a0.length : Int))) rfl c24_ ?_
    refine AW.sub (Sub.bool 14 (b := decide (v8 < (a0.length : Int))) rfl c24_) ?_
    refine AW.sub (S' := mk 27 [] [(0, .d (.sl (a0.map (cL cS61)))), (1, .d (.sl (a1.map (cL cS61)))), (12, .i (a0.length : Int)), (13, .i v8), (14, .b false)] []) (by simp; exact Sub.table (by simp) (by simp)) ?_
    refine AW.exit ?_
    cases h
    refine thenQ_pass (by simp) ?_
    refine PostI.out (by simp) ?_
    rintro rfl
    refine blockQ.hit ?_
    refine PostJ.next ?_
    exact Sub.tt
  ·rintro ⟨⟩ h
   refine thenQ_normal ?_
   refine AW.seqR ?_
   refine Chain.runK [] 1 fun K hK => ?_; simp; refine hK _ _ ?_; clear hK K
   refine Chain.sub (S' := mk 27 [] [(4, .b true)] []) Sub.tt ?_
   refine Chain.nil ?_
   refine AW.ret ?_
   cases h
   exact FinC.ret (by simp) (by simp)

end Go.Proofs.YtimkkjiplioohaaGreatDoor
