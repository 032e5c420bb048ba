/- Functions of the program as functional programs; the code computes them. -/
import Derived.Test.YtifcmomjjkbboaaSc7
namespace Go.Proofs.Ytifcmomjjkbboaa
open Go.Ab Go.Rp
attribute [-simp] List.all_eq_true Array.all_toList Array.all_eq_true

/-- slices.EqualFunc[[][]stemma/stemref5.Op,[][]stemma/stemref5.Op,[]stemma/stemref5.Op,[]stemma/stemref5.Op] -/
def d20 (N : Nat) (a0 : (List (List S27))) (a1 : (List (List S27))) (p2 : (List S27) → (List S27) → Option Bool) : Option Bool :=
 if ((a0.length : Int) != (a1.length : Int)) then (
  some false
 ) else
 bindO (β := Unit) (ρ := Bool) (
  iterN (σ := Int) (ρ := (Out Unit Bool)) (fun (v8 : Int) =>
   if v8 < (a0.length : Int) then (
    (idx a0 v8).bind fun x25 =>
    (idx a1 v8).bind fun x27 =>
    (p2 x25 x27).bind fun r28 =>
    if (!r28) = true then (
     some (.inr (.ret false))
    ) else
    (chkI (v8 + 1)).bind fun v30 =>
    some (.inl v30)
   ) else
   some (.inr (.go ()))
  ) N 0
 ) fun (_ : Unit) =>
 some true
set_option maxRecDepth 100000 in
set_option maxHeartbeats 4000000 in
theorem p20 (N : Nat) (a0 : (List (List S27))) (a1 : (List (List S27))) (g2 : Nat) (cs2 : List D) (p2 : (List S27) → (List S27) → Option Bool) (ent_2 : Rp.Enters Try.prog g2) (hp2 : ∀ a0 a1 r, p2 a0 a1 = some r → FunC Try.prog g2 ([.d (.sl (a0.map cS27)), .d (.sl (a1.map cS27))] ++ cs2.map .d) (.b r)) (r : Bool) (h : d20 N a0 a1 p2 = some r) : FunC Try.prog 20 [.d (.sl (a0.map (cL cS27))), .d (.sl (a1.map (cL cS27))), .fn (.func g2) (cs2.map .d)] (.b r) := by
 unfold d20 at h
 refine FunC.enter 32 [(0, .d (.sl (a0.map (cL cS27)))), (1, .d (.sl (a1.map (cL cS27)))), (2, .fn (.func g2) (cs2.map .d))] (by simp) Try.func20 rfl (of_decide_eq_true rfl) rfl rfl ?_
 refine AW.seqR ?_
 refine Chain.runK [] 1 fun K hK => ?_; simp; refine hK _ _ ?_; clear hK K
 refine Chain.sub (S' := mk 32 [] [(0, .d (.sl (a0.map (cL cS27)))), (1, .d (.sl (a1.map (cL cS27)))), (2, .fn (.func g2) (cs2.map .d))] []) Sub.tt ?_
 refine Chain.nil ?_
 refine AW.seq ?_
 refine AW.seqR ?_
 refine Chain.runK [] 5 fun K hK => ?_; simp; refine hK _ _ ?_; clear hK K
 refine Chain.sub (S' := mk 32 [] [(0, .d (.sl (a0.map (cL cS27)))), (1, .d (.sl (a1.map (cL cS27)))), (2, .fn (.func g2) (cs2.map .d)), (14, .b ((a0.length : Int) != (a1.length : Int)))] []) Sub.tt ?_
 refine Chain.nil ?_
 replace h := isome h; rcases h with ⟨c1, h⟩ | ⟨c1, h⟩
 ·have c1_ : ((a0.length : Int) != (a1.length : Int)) = true := c1
  refine AW.condT (b := ((a0.length : Int) != (a1.length : Int))) rfl c1_ ?_
  refine AW.sub (Sub.bool 14 (b := ((a0.length : Int) != (a1.length : Int))) rfl c1_) ?_
  refine AW.sub (S' := mk 32 [] [(0, .d (.sl (a0.map (cL cS27)))), (1, .d (.sl (a1.map (cL cS27)))), (2, .fn (.func g2) (cs2.map .d)), (14, .b true)] []) (by simp; exact Sub.table (by simp) (by simp)) ?_
  refine AW.seqR ?_
  refine Chain.runK [] 1 fun K hK => ?_; simp; refine hK _ _ ?_; clear hK K
  refine Chain.sub (S' := mk 32 [] [(6, .b false)] []) Sub.tt ?_
  refine Chain.nil ?_
  refine AW.ret ?_
  cases h
  refine thenQ_pass (by simp) ?_
  exact FinC.ret (by simp) (by simp)
 ·have c1_ : ((a0.length : Int) != (a1.length : Int)) = false := Bool.eq_false_iff.2 c1
  refine AW.condF (b := ((a0.length : Int) != (a1.length : Int))) rfl c1_ ?_
  refine AW.sub (Sub.bool 14 (b := ((a0.length : Int) != (a1.length : Int))) rfl c1_) ?_
  refine AW.sub (S' := mk 32 [] [(0, .d (.sl (a0.map (cL cS27)))), (1, .d (.sl (a1.map (cL cS27)))), (2, .fn (.func g2) (cs2.map .d)), (14, .b false)] []) (by simp; exact Sub.table (by simp) (by simp)) ?_
  refine AW.skip ?_
  refine thenQ_normal ?_
  refine AW.seq ?_
  refine AW.seqR ?_
  refine Chain.runK [] 3 fun K hK => ?_; simp; refine hK _ _ ?_; clear hK K
  refine Chain.sub (S' := mk 32 [] [(1, .d (.sl (a1.map (cL cS27)))), (2, .fn (.func g2) (cs2.map .d)), (15, .d (.sl (a0.map (cL cS27)))), (16, .i (a0.length : Int)), (17, .i 0)] []) Sub.tt ?_
  refine Chain.nil ?_
  refine AW.lastJ (fun (_ : Unit) => mk 32 [] [] []) h ?_ ?_ <;> clear h
  ·intro o h
   refine AW.block ?_
   refine AW.iter (fun (v8 : Int) => mk 32 [] [(1, .d (.sl (a1.map (cL cS27)))), (2, .fn (.func g2) (cs2.map .d)), (15, .d (.sl (a0.map (cL cS27)))), (16, .i (a0.length : Int)), (17, .i v8)] []) h Sub.tt ?_
   clear h
   rintro v8 x h
   refine AW.seqR ?_
   refine Chain.runK [] 1 fun K hK => ?_; simp; refine hK _ _ ?_; clear hK K
   refine Chain.sub (S' := mk 32 [] [(1, .d (.sl (a1.map (cL cS27)))), (2, .fn (.func g2) (cs2.map .d)), (15, .d (.sl (a0.map (cL cS27)))), (16, .i (a0.length : Int)), (17, .i v8), (18, .b (decide (v8 < (a0.length : Int))))] []) Sub.tt ?_
   refine Chain.nil ?_
   refine AW.seq ?_
   replace h := isome h; rcases h with ⟨c24, h⟩ | ⟨c24, h⟩
   ·have c24_ : decide (v8 < (a0.length : Int)) = true := decide_eq_true c24
    refine AW.condT (b := decide (v8 < (a0.length : Int))) rfl c24_ ?_
    refine AW.sub (Sub.bool 18 (b := decide (v8 < (a0.length : Int))) rfl c24_) ?_
    refine AW.sub (S' := mk 32 [] [(1, .d (.sl (a1.map (cL cS27)))), (2, .fn (.func g2) (cs2.map .d)), (15, .d (.sl (a0.map (cL cS27)))), (16, .i (a0.length : Int)), (17, .i v8), (18, .b true)] []) (by simp; exact Sub.table (by simp) (by simp)) ?_
    refine AW.skip ?_
    refine thenQ_normal ?_
    refine AW.seq ?_
    refine AW.block ?_
    refine AW.seqR ?_
    replace h := bsome h; obtain ⟨x25, hx25, h⟩ := h
    obtain ⟨k26, hx25k, hx25, hx25a, hx25b⟩ := idx_some hx25
    refine Chain.runK [] 5 fun K hK => ?_; simp [hx25, hx25k, hx25a]; refine hK _ _ ?_; clear hK K
    refine Chain.sub (S' := mk 32 [] [(1, .d (.sl (a1.map (cL cS27)))), (2, .fn (.func g2) (cs2.map .d)), (7, .i v8), (8, .d (.sl (x25.map cS27))), (15, .d (.sl (a0.map (cL cS27)))), (16, .i (a0.length : Int)), (17, .i v8)] []) Sub.tt ?_
    refine Chain.nil ?_
    refine AW.seqR ?_
    replace h := bsome h; obtain ⟨x27, hx27, h⟩ := h
    obtain ⟨hx27, hx27a, hx27b⟩ := idx_some2 hx27 hx25k
    refine Chain.runK [] 5 fun K hK => ?_; simp [hx27, hx25k, hx27a]; refine hK _ _ ?_; clear hK K
    refine Chain.sub (S' := mk 32 [] [(1, .d (.sl (a1.map (cL cS27)))), (2, .fn (.func g2) (cs2.map .d)), (8, .d (.sl (x25.map cS27))), (9, .d (.sl (x27.map cS27))), (15, .d (.sl (a0.map (cL cS27)))), (16, .i (a0.length : Int)), (17, .i v8)] []) Sub.tt ?_
    refine Chain.nil ?_
    refine AW.seqR ?_
    refine Chain.runK [] 3 fun K hK => ?_; simp; refine hK _ _ ?_; clear hK K
    refine Chain.sub (S' := mk 32 [] [(1, .d (.sl (a1.map (cL cS27)))), (2, .fn (.func g2) (cs2.map .d)), (15, .d (.sl (a0.map (cL cS27)))), (16, .i (a0.length : Int)), (17, .i v8), (26, .fn (.func g2) (cs2.map .d)), (27, .d (.sl (x25.map cS27))), (28, .d (.sl (x27.map cS27)))] []) Sub.tt ?_
    replace h := bsome h; obtain ⟨r28, hr28, h⟩ := h
    refine Chain.callL (d := 29) (hp2 x25 x27 r28 hr28) (by simp) rfl rfl (by simp <;> rfl) (by simp <;> rfl) ent_2 (by simp <;> rfl) ?_
    refine Chain.sub (S' := mk 32 [] [(1, .d (.sl (a1.map (cL cS27)))), (2, .fn (.func g2) (cs2.map .d)), (15, .d (.sl (a0.map (cL cS27)))), (16, .i (a0.length : Int)), (17, .i v8), (26, .fn (.func g2) (cs2.map .d)), (27, .d (.sl (x25.map cS27))), (28, .d (.sl (x27.map cS27))), (29, .b r28)] []) (by simp; exact Sub.table (by simp) (by simp)) ?_
    refine Chain.runK [] 1 fun K hK => ?_; simp; refine hK _ _ ?_; clear hK K
    refine Chain.sub (S' := mk 32 [] [(1, .d (.sl (a1.map (cL cS27)))), (2, .fn (.func g2) (cs2.map .d)), (15, .d (.sl (a0.map (cL cS27)))), (16, .i (a0.length : Int)), (17, .i v8), (30, .b (!r28))] []) Sub.tt ?_
    refine Chain.nil ?_
    replace h := isome h; rcases h with ⟨c29, h⟩ | ⟨c29, h⟩
    ·have c29_ : (!r28) = true := c29
     refine AW.condT (b := (!r28)) rfl c29_ ?_
     refine AW.sub (Sub.bool 30 (b := (!r28)) rfl c29_) ?_
     refine AW.sub (S' := mk 32 [] [(1, .d (.sl (a1.map (cL cS27)))), (2, .fn (.func g2) (cs2.map .d)), (15, .d (.sl (a0.map (cL cS27)))), (16, .i (a0.length : Int)), (17, .i v8), (30, .b true)] []) (by simp; exact Sub.table (by simp) (by simp)) ?_
     refine AW.seqR ?_
     refine Chain.runK [] 1 fun K hK => ?_; simp; refine hK _ _ ?_; clear hK K
     refine Chain.sub (S' := mk 32 [] [(6, .b false)] []) Sub.tt ?_
     refine Chain.nil ?_
     refine AW.ret ?_
     cases h
     refine blockQ.ret ?_
     refine thenQ_pass (by simp) ?_
     refine PostI.out (by simp) ?_
     rintro rfl
     refine blockQ.ret ?_
     refine PostJ.out (by simp) ?_
     rintro rfl
     refine thenQ_pass (by simp) ?_
     exact FinC.ret (by simp) (by simp)
    ·have c29_ : (!r28) = false := Bool.eq_false_iff.2 c29
     refine AW.condF (b := (!r28)) rfl c29_ ?_
     refine AW.sub (Sub.bool 30 (b := (!r28)) rfl c29_) ?_
     refine AW.sub (S' := mk 32 [] [(1, .d (.sl (a1.map (cL cS27)))), (2, .fn (.func g2) (cs2.map .d)), (15, .d (.sl (a0.map (cL cS27)))), (16, .i (a0.length : Int)), (17, .i v8), (30, .b false)] []) (by simp; exact Sub.table (by simp) (by simp)) ?_
     refine AW.skip ?_
     refine blockQ.normal ?_
     refine thenQ_normal ?_
     refine AW.region ?_
     replace h := bsome h; obtain ⟨v30, hv30, h⟩ := h
     have hv30 := chkI_some hv30
     refine Chain.runK [] 2 fun K hK => ?_; simp [hv30]; refine hK _ _ ?_; clear hK K
     refine Chain.sub (S' := mk 32 [] [(1, .d (.sl (a1.map (cL cS27)))), (2, .fn (.func g2) (cs2.map .d)), (15, .d (.sl (a0.map (cL cS27)))), (16, .i (a0.length : Int)), (17, .i v30)] []) Sub.tt ?_
     refine Chain.nil ?_
     cases h
     refine PostI.next ?_
     exact Sub.tt
   ·have c24_ : decide (v8 < (a0.length : Int)) = false := decide_eq_false c24
    refine AW.condF (b := decide (v8 < (a0.length : Int))) rfl c24_ ?_
    refine AW.sub (Sub.bool 18 (b := decide (v8 < (a0.length : Int))) rfl c24_) ?_
    refine AW.sub (S' := mk 32 [] [(1, .d (.sl (a1.map (cL cS27)))), (2, .fn (.func g2) (cs2.map .d)), (15, .d (.sl (a0.map (cL cS27)))), (16, .i (a0.length : Int)), (17, .i v8), (18, .b false)] []) (by simp; exact Sub.table (by simp) (by simp)) ?_
    refine AW.exit ?_
    cases h
    refine thenQ_pass (by simp) ?_
    refine PostI.out (by simp) ?_
    rintro rfl
    refine blockQ.hit ?_
    refine PostJ.next ?_
    exact Sub.tt
  ·rintro ⟨⟩ h
   refine thenQ_normal ?_
   refine AW.seqR ?_
   refine Chain.runK [] 1 fun K hK => ?_; simp; refine hK _ _ ?_; clear hK K
   refine Chain.sub (S' := mk 32 [] [(6, .b true)] []) Sub.tt ?_
   refine Chain.nil ?_
   refine AW.ret ?_
   cases h
   exact FinC.ret (by simp) (by simp)

/-- slices.Equal[[]stemma/stemref5.Op,stemma/stemref5.Op] -/
def d22 (N : Nat) (a0 : (List S27)) (a1 : (List S27)) : Option Bool :=
 if ((a0.length : Int) != (a1.length : Int)) then (
  some false
 ) else
 bindO (β := Unit) (ρ := Bool) (
  iterN (σ := Int) (ρ := (Out Unit Bool)) (fun (v7 : Int) =>
   if v7 < (a0.length : Int) then (
    (idx a0 v7).bind fun x22 =>
    (idx a1 v7).bind fun x24 =>
    if (!beqS27 x22 x24) = true then (
     some (.inr (.ret false))
    ) else
    (chkI (v7 + 1)).bind fun v26 =>
    some (.inl v26)
   ) else
   some (.inr (.go ()))
  ) N 0
 ) fun (_ : Unit) =>
 some true
set_option maxRecDepth 100000 in
set_option maxHeartbeats 4000000 in
theorem p22 (N : Nat) (a0 : (List S27)) (a1 : (List S27)) (r : Bool) (h : d22 N a0 a1 = some r) : FunC Try.prog 22 [.d (.sl (a0.map cS27)), .d (.sl (a1.map cS27))] (.b r) := by
 unfold d22 at h
 refine FunC.enter 26 [(0, .d (.sl (a0.map cS27))), (1, .d (.sl (a1.map cS27)))] (by simp) Try.func22 rfl (of_decide_eq_true rfl) rfl rfl ?_
 refine AW.seqR ?_
 refine Chain.runK [] 1 fun K hK => ?_; simp; refine hK _ _ ?_; clear hK K
 refine Chain.sub (S' := mk 26 [] [(0, .d (.sl (a0.map cS27))), (1, .d (.sl (a1.map cS27)))] []) Sub.tt ?_
 refine Chain.nil ?_
 refine AW.seq ?_
 refine AW.seqR ?_
 refine Chain.runK [] 5 fun K hK => ?_; simp; refine hK _ _ ?_; clear hK K
 refine Chain.sub (S' := mk 26 [] [(0, .d (.sl (a0.map cS27))), (1, .d (.sl (a1.map cS27))), (10, .b ((a0.length : Int) != (a1.length : Int)))] []) Sub.tt ?_
 refine Chain.nil ?_
 replace h := isome h; rcases h with ⟨c1, h⟩ | ⟨c1, h⟩
 ·have c1_ : ((a0.length : Int) != (a1.length : Int)) = true := c1
  refine AW.condT (b := ((a0.length : Int) != (a1.length : Int))) rfl c1_ ?_
  refine AW.sub (Sub.bool 10 (b := ((a0.length : Int) != (a1.length : Int))) rfl c1_) ?_
  refine AW.sub (S' := mk 26 [] [(0, .d (.sl (a0.map cS27))), (1, .d (.sl (a1.map cS27))), (10, .b true)] []) (by simp; exact Sub.table (by simp) (by simp)) ?_
  refine AW.seqR ?_
  refine Chain.runK [] 1 fun K hK => ?_; simp; refine hK _ _ ?_; clear hK K
  refine Chain.sub (S' := mk 26 [] [(4, .b false)] []) Sub.tt ?_
  refine Chain.nil ?_
  refine AW.ret ?_
  cases h
  refine thenQ_pass (by simp) ?_
  exact FinC.ret (by simp) (by simp)
 ·have c1_ : ((a0.length : Int) != (a1.length : Int)) = false := Bool.eq_false_iff.2 c1
  refine AW.condF (b := ((a0.length : Int) != (a1.length : Int))) rfl c1_ ?_
  refine AW.sub (Sub.bool 10 (b := ((a0.length : Int) != (a1.length : Int))) rfl c1_) ?_
  refine AW.sub (S' := mk 26 [] [(0, .d (.sl (a0.map cS27))), (1, .d (.sl (a1.map cS27))), (10, .b false)] []) (by simp; exact Sub.table (by simp) (by simp)) ?_
  refine AW.skip ?_
  refine thenQ_normal ?_
  refine AW.seq ?_
  refine AW.seqR ?_
  refine Chain.runK [] 3 fun K hK => ?_; simp; refine hK _ _ ?_; clear hK K
  refine Chain.sub (S' := mk 26 [] [(0, .d (.sl (a0.map cS27))), (1, .d (.sl (a1.map cS27))), (12, .i (a0.length : Int)), (13, .i 0)] []) Sub.tt ?_
  refine Chain.nil ?_
  refine AW.lastJ (fun (_ : Unit) => mk 26 [] [] []) h ?_ ?_ <;> clear h
  ·intro o h
   refine AW.block ?_
   refine AW.iter (fun (v7 : Int) => mk 26 [] [(0, .d (.sl (a0.map cS27))), (1, .d (.sl (a1.map cS27))), (12, .i (a0.length : Int)), (13, .i v7)] []) h Sub.tt ?_
   clear h
   rintro v7 x h
   refine AW.seqR ?_
   refine Chain.runK [] 1 fun K hK => ?_; simp; refine hK _ _ ?_; clear hK K
   refine Chain.sub (S' := mk 26 [] [(0, .d (.sl (a0.map cS27))), (1, .d (.sl (a1.map cS27))), (12, .i (a0.length : Int)), (13, .i v7), (14, .b (decide (v7 < (a0.length : Int))))] []) Sub.tt ?_
   refine Chain.nil ?_
   refine AW.seq ?_
   replace h := isome h; rcases h with ⟨c21, h⟩ | ⟨c21, h⟩
   ·have c21_ : decide (v7 < (a0.length : Int)) = true := decide_eq_true c21
    refine AW.condT (b := decide (v7 < (a0.length : Int))) rfl c21_ ?_
    refine AW.sub (Sub.bool 14 (b := decide (v7 < (a0.length : Int))) rfl c21_) ?_
    refine AW.sub (S' := mk 26 [] [(0, .d (.sl (a0.map cS27))), (1, .d (.sl (a1.map cS27))), (12, .i (a0.length : Int)), (13, .i v7), (14, .b true)] []) (by simp; exact Sub.table (by simp) (by simp)) ?_
    refine AW.skip ?_
    refine thenQ_normal ?_
    refine AW.seq ?_
    refine AW.block ?_
    refine AW.seqR ?_
    refine Chain.runK [] 2 fun K hK => ?_; simp; refine hK _ _ ?_; clear hK K
    refine Chain.sub (S' := mk 26 [] [(0, .d (.sl (a0.map cS27))), (1, .d (.sl (a1.map cS27))), (5, .i v7), (12, .i (a0.length : Int)), (13, .i v7)] []) Sub.tt ?_
    refine Chain.nil ?_
    refine AW.seqQ (by kernel_rfl) (by kernel_rfl) ?_
    replace h := bsome h; obtain ⟨x22, hx22, h⟩ := h
    obtain ⟨k23, hx22k, hx22, hx22a, hx22b⟩ := idx_some hx22
    replace h := bsome h; obtain ⟨x24, hx24, h⟩ := h
    obtain ⟨hx24, hx24a, hx24b⟩ := idx_some2 hx24 hx22k
    refine Chain.runQ 8 fun K hK => ?_; simp [hx22, hx22a, hx24, hx22k]; refine hK _ _ ?_; clear hK K
    refine Chain.sub (S' := mk 26 [] [(0, .d (.sl (a0.map cS27))), (1, .d (.sl (a1.map cS27))), (12, .i (a0.length : Int)), (13, .i v7), (19, .agg [.i x22.Tx, .i x22.Kind, .d (.lit (.string x22.Key))]), (23, .agg [.i x24.Tx, .i x24.Kind, .d (.lit (.string x24.Key))])] []) Sub.tt ?_
    refine Chain.pureP (by simp) (pure_eqA true rfl rfl rfl rfl (by kernel_rfl) (eqv34 x22 x24)) ?_
    refine Chain.sub (S' := mk 26 [] [(0, .d (.sl (a0.map cS27))), (1, .d (.sl (a1.map cS27))), (12, .i (a0.length : Int)), (13, .i v7), (19, .agg [.i x22.Tx, .i x22.Kind, .d (.lit (.string x22.Key))]), (23, .agg [.i x24.Tx, .i x24.Kind, .d (.lit (.string x24.Key))]), (24, .b (!beqS27 x22 x24))] []) (by simp; exact Sub.table (by simp) (by simp)) ?_
    refine Chain.nil ?_
    replace h := isome h; rcases h with ⟨c25, h⟩ | ⟨c25, h⟩
    ·have c25_ : (!beqS27 x22 x24) = true := c25
     refine AW.condT (b := (!beqS27 x22 x24)) rfl c25_ ?_
     refine AW.sub (Sub.bool 24 (b := (!beqS27 x22 x24)) rfl c25_) ?_
     refine AW.sub (S' := mk 26 [] [(0, .d (.sl (a0.map cS27))), (1, .d (.sl (a1.map cS27))), (12, .i (a0.length : Int)), (13, .i v7), (24, .b true)] []) (by simp; exact Sub.table (by simp) (by simp)) ?_
     refine AW.seqR ?_
     refine Chain.runK [] 1 fun K hK => ?_; simp; refine hK _ _ ?_; clear hK K
     refine Chain.sub (S' := mk 26 [] [(4, .b false)] []) Sub.tt ?_
     refine Chain.nil ?_
     refine AW.ret ?_
     cases h
     refine blockQ.ret ?_
     refine thenQ_pass (by simp) ?_
     refine PostI.out (by simp) ?_
     rintro rfl
     refine blockQ.ret ?_
     refine PostJ.out (by simp) ?_
     rintro rfl
     refine thenQ_pass (by simp) ?_
     exact FinC.ret (by simp) (by simp)
    ·have c25_ : (!beqS27 x22 x24) = false := Bool.eq_false_iff.2 c25
     refine AW.condF (b := (!beqS27 x22 x24)) rfl c25_ ?_
     refine AW.sub (Sub.bool 24 (b := (!beqS27 x22 x24)) rfl c25_) ?_
     refine AW.sub (S' := mk 26 [] [(0, .d (.sl (a0.map cS27))), (1, .d (.sl (a1.map cS27))), (12, .i (a0.length : Int)), (13, .i v7), (24, .b false)] []) (by simp; exact Sub.table (by simp) (by simp)) ?_
     refine AW.skip ?_
     refine blockQ.normal ?_
     refine thenQ_normal ?_
     refine AW.region ?_
     replace h := bsome h; obtain ⟨v26, hv26, h⟩ := h
     have hv26 := chkI_some hv26
     refine Chain.runK [] 2 fun K hK => ?_; simp [hv26]; refine hK _ _ ?_; clear hK K
     refine Chain.sub (S' := mk 26 [] [(0, .d (.sl (a0.map cS27))), (1, .d (.sl (a1.map cS27))), (12, .i (a0.length : Int)), (13, .i v26)] []) Sub.tt ?_
     refine Chain.nil ?_
     cases h
     refine PostI.next ?_
     exact Sub.tt
   ·have c21_ : decide (v7 < (a0.length : Int)) = false := decide_eq_false c21
    refine AW.condF (b := decide (v7 < (a0.length : Int))) rfl c21_ ?_
    refine AW.sub (Sub.bool 14 (b := decide (v7 < (a0.length : Int))) rfl c21_) ?_
    refine AW.sub (S' := mk 26 [] [(0, .d (.sl (a0.map cS27))), (1, .d (.sl (a1.map cS27))), (12, .i (a0.length : Int)), (13, .i v7), (14, .b false)] []) (by simp; exact Sub.table (by simp) (by simp)) ?_
    refine AW.exit ?_
    cases h
    refine thenQ_pass (by simp) ?_
    refine PostI.out (by simp) ?_
    rintro rfl
    refine blockQ.hit ?_
    refine PostJ.next ?_
    exact Sub.tt
  ·rintro ⟨⟩ h
   refine thenQ_normal ?_
   refine AW.seqR ?_
   refine Chain.runK [] 1 fun K hK => ?_; simp; refine hK _ _ ?_; clear hK K
   refine Chain.sub (S' := mk 26 [] [(4, .b true)] []) Sub.tt ?_
   refine Chain.nil ?_
   refine AW.ret ?_
   cases h
   exact FinC.ret (by simp) (by simp)

/-- stemma/stemlaw5.distinctSchedules$1 -/
def d21 (N : Nat) (a0 : (List S27)) (a1 : (List S27)) : Option Bool :=
 (d22 N a0 a1).bind fun r1 =>
 some r1
set_option maxRecDepth 100000 in
set_option maxHeartbeats 4000000 in
theorem p21 (N : Nat) (a0 : (List S27)) (a1 : (List S27)) (r : Bool) (h : d21 N a0 a1 = some r) : FunC Try.prog 21 [.d (.sl (a0.map cS27)), .d (.sl (a1.map cS27))] (.b r) := by
 unfold d21 at h
 refine FunC.enter 8 [(0, .d (.sl (a0.map cS27))), (1, .d (.sl (a1.map cS27)))] (by simp) Try.func21 rfl (of_decide_eq_true rfl) rfl rfl ?_
 refine AW.seqR ?_
 refine Chain.runK [] 1 fun K hK => ?_; simp; refine hK _ _ ?_; clear hK K
 refine Chain.sub (S' := mk 8 [] [(0, .d (.sl (a0.map cS27))), (1, .d (.sl (a1.map cS27)))] []) Sub.tt ?_
 refine Chain.nil ?_
 refine AW.seqR ?_
 refine Chain.runK [] 2 fun K hK => ?_; simp; refine hK _ _ ?_; clear hK K
 refine Chain.sub (S' := mk 8 [] [(5, .d (.sl (a0.map cS27))), (6, .d (.sl (a1.map cS27)))] []) Sub.tt ?_
 replace h := bsome h; obtain ⟨r1, hr1, h⟩ := h
 refine Chain.callL (d := 7) (p22 N a0 a1 r1 hr1) (by simp) rfl rfl (by simp <;> rfl) (by simp <;> rfl) ent22 (by simp <;> rfl) ?_
 refine Chain.sub (S' := mk 8 [] [(5, .d (.sl (a0.map cS27))), (6, .d (.sl (a1.map cS27))), (7, .b r1)] []) (by simp; exact Sub.table (by simp) (by simp)) ?_
 refine Chain.runK [] 1 fun K hK => ?_; simp; refine hK _ _ ?_; clear hK K
 refine Chain.sub (S' := mk 8 [] [(4, .b r1)] []) Sub.tt ?_
 refine Chain.nil ?_
 refine AW.ret ?_
 cases h
 exact FinC.ret (by simp) (by simp)

end Go.Proofs.Ytifcmomjjkbboaa
