/- Functions of the program as functional programs; the code computes them. -/
import Derived.Test.YtifcmomjjkbboaaSc9
namespace Go.Proofs.Ytifcmomjjkbboaa
open Go.Ab Go.Rp
attribute [-simp] List.all_eq_true Array.all_toList Array.all_eq_true

/-- stemma/stemref5.Precedes -/
def d27 (N : Nat) (a0 : (List S27)) (a1 : Int) (a2 : Int) : Option Bool :=
 bindO (β := Unit) (ρ := Bool) (
  iterN (σ := Int) (ρ := (Out Unit Bool)) (fun (v68 : Int) =>
   if v68 < (a0.length : Int) then (
    (chkI (v68 + 1)).bind fun v225 =>
    bindO (β := Unit) (ρ := (Int ⊕ (Out Unit Bool))) (
     iterN (σ := Int) (ρ := (Out Unit (Int ⊕ (Out Unit Bool)))) (fun (v244 : Int) =>
      if v244 < (a0.length : Int) then (
       Option.bind (α := Bool) (
        (idx a0 v68).bind fun x291 =>
        if (x291.Tx == a1) then (
         (idx a0 v244).bind fun x294 =>
         if (x294.Tx == a2) then (
          (d19 N x291 x294).bind fun r297 =>
          some r297
         ) else
         some false
        ) else
        some false
       ) fun (v290 : Bool) =>
       if v290 = true then (
        some (.inr (.ret (.inr (.ret true))))
       ) else
       (chkI (v244 + 1)).bind fun v299 =>
       some (.inl v299)
      ) else
      some (.inr (.go ()))
     ) N v225
    ) fun (_ : Unit) =>
    (chkI (v68 + 1)).bind fun v300 =>
    some (.inl v300)
   ) else
   some (.inr (.go ()))
  ) N 0
 ) fun (_ : Unit) =>
 some false
set_option maxRecDepth 100000 in
set_option maxHeartbeats 4000000 in
theorem p27 (N : Nat) (a0 : (List S27)) (a1 : Int) (a2 : Int) (r : Bool) (h : d27 N a0 a1 a2 = some r) : FunC Try.prog 27 [.d (.sl (a0.map cS27)), .i a1, .i a2] (.b r) := by
 unfold d27 at h
 refine FunC.enter 50 [(0, .d (.sl (a0.map cS27))), (1, .i a1), (2, .i a2)] (by simp) Try.func27 rfl (of_decide_eq_true rfl) rfl rfl ?_
 refine AW.seqR ?_
 refine Chain.runK [] 1 fun K hK => ?_; simp; refine hK _ _ ?_; clear hK K
 refine Chain.sub (S' := mk 50 [] [(0, .d (.sl (a0.map cS27))), (1, .i a1), (2, .i a2)] []) Sub.tt ?_
 refine Chain.nil ?_
 refine AW.seq ?_
 refine AW.seqR ?_
 refine Chain.runK [] 3 fun K hK => ?_; simp; refine hK _ _ ?_; clear hK K
 refine Chain.sub (S' := mk 50 [] [(0, .d (.sl (a0.map cS27))), (1, .i a1), (2, .i a2), (10, .i (a0.length : Int)), (11, .i 0)] []) Sub.tt ?_
 refine Chain.nil ?_
 refine AW.lastJ (fun (_ : Unit) => mk 50 [] [] []) h ?_ ?_ <;> clear h
 ·intro o h
  refine AW.block ?_
  refine AW.iter (fun (v68 : Int) => mk 50 [] [(0, .d (.sl (a0.map cS27))), (1, .i a1), (2, .i a2), (10, .i (a0.length : Int)), (11, .i v68)] []) h Sub.tt ?_
  clear h
  rintro v68 x h
  refine AW.seqR ?_
  refine Chain.runK [] 1 fun K hK => ?_; simp; refine hK _ _ ?_; clear hK K
  refine Chain.sub (S' := mk 50 [] [(0, .d (.sl (a0.map cS27))), (1, .i a1), (2, .i a2), (10, .i (a0.length : Int)), (11, .i v68), (12, .b (decide (v68 < (a0.length : Int))))] []) Sub.tt ?_
  refine Chain.nil ?_
  refine AW.seq ?_
  replace h := isome h; rcases h with ⟨c224, h⟩ | ⟨c224, h⟩
  ·have c224_ : decide (v68 < (a0.length : Int)) = true := decide_eq_true c224
   refine AW.condT (b := decide (v68 < (a0.length : Int))) rfl c224_ ?_
   refine AW.sub (Sub.bool 12 (b := decide (v68 < (a0.length : Int))) rfl c224_) ?_
   refine AW.sub (S' := mk 50 [] [(0, .d (.sl (a0.map cS27))), (1, .i a1), (2, .i a2), (10, .i (a0.length : Int)), (11, .i v68), (12, .b true)] []) (by simp; exact Sub.table (by simp) (by simp)) ?_
   refine AW.skip ?_
   refine thenQ_normal ?_
   refine AW.seq ?_
   refine AW.block ?_
   refine AW.seqR ?_
   refine Chain.runK [] 2 fun K hK => ?_; simp; refine hK _ _ ?_; clear hK K
   refine Chain.sub (S' := mk 50 [] [(0, .d (.sl (a0.map cS27))), (1, .i a1), (2, .i a2), (7, .i v68), (10, .i (a0.length : Int)), (11, .i v68)] []) Sub.tt ?_
   refine Chain.nil ?_
   refine AW.seqR ?_
   replace h := bsome h; obtain ⟨v225, hv225, h⟩ := h
   have hv225 := chkI_some hv225
   refine Chain.runK [] 3 fun K hK => ?_; simp [hv225]; refine hK _ _ ?_; clear hK K
   refine Chain.sub (S' := mk 50 [] [(0, .d (.sl (a0.map cS27))), (1, .i a1), (2, .i a2), (7, .i v68), (8, .i v225), (10, .i (a0.length : Int)), (11, .i v68)] []) Sub.tt ?_
   refine Chain.nil ?_
   refine AW.lastJ (fun (_ : Unit) => mk 50 [] [(0, .d (.sl (a0.map cS27))), (1, .i a1), (2, .i a2), (10, .i (a0.length : Int)), (11, .i v68)] []) h ?_ ?_ <;> clear h
   ·intro o h
    refine AW.block ?_
    refine AW.iter (fun (v244 : Int) => mk 50 [] [(0, .d (.sl (a0.map cS27))), (1, .i a1), (2, .i a2), (7, .i v68), (8, .i v244), (10, .i (a0.length : Int)), (11, .i v68)] []) h Sub.tt ?_
    clear h
    rintro v244 x h
    refine AW.seq ?_
    refine AW.seqR ?_
    refine Chain.runK [] 4 fun K hK => ?_; simp; refine hK _ _ ?_; clear hK K
    refine Chain.sub (S' := mk 50 [] [(0, .d (.sl (a0.map cS27))), (1, .i a1), (2, .i a2), (7, .i v68), (8, .i v244), (10, .i (a0.length : Int)), (11, .i v68), (19, .b (decide (v244 < (a0.length : Int))))] []) Sub.tt ?_
    refine Chain.nil ?_
    replace h := isome h; rcases h with ⟨c282, h⟩ | ⟨c282, h⟩
    ·have c282_ : decide (v244 < (a0.length : Int)) = true := decide_eq_true c282
     refine AW.condT (b := decide (v244 < (a0.length : Int))) rfl c282_ ?_
     refine AW.sub (Sub.bool 19 (b := decide (v244 < (a0.length : Int))) rfl c282_) ?_
     refine AW.sub (S' := mk 50 [] [(0, .d (.sl (a0.map cS27))), (1, .i a1), (2, .i a2), (7, .i v68), (8, .i v244), (10, .i (a0.length : Int)), (11, .i v68), (19, .b true)] []) (by simp; exact Sub.table (by simp) (by simp)) ?_
     refine AW.skip ?_
     refine thenQ_normal ?_
     refine AW.seq ?_
     refine AW.block ?_
     replace h := bsome h; obtain ⟨v290, hj, h⟩ := h
     refine AW.cutQ (by kernel_rfl) (by kernel_rfl) (mk 50 [] [(0, .d (.sl (a0.map cS27))), (1, .i a1), (2, .i a2), (7, .i v68), (8, .i v244), (10, .i (a0.length : Int)), (11, .i v68), (48, .b v290)] []) ?_ ?_
     ·clear h; have h := hj; clear hj
      replace h := bsome h; obtain ⟨x291, hx291, h⟩ := h
      obtain ⟨k292, hx291k, hx291, hx291a, hx291b⟩ := idx_some hx291
      refine Chain.runQ 8 fun K hK => ?_; simp [hx291, hx291k, hx291a]; refine hK _ _ ?_; clear hK K
      refine Chain.sub (S' := mk 50 [] [(0, .d (.sl (a0.map cS27))), (1, .i a1), (2, .i a2), (7, .i v68), (8, .i v244), (10, .i (a0.length : Int)), (11, .i v68), (29, .b (x291.Tx == a1))] []) Sub.tt ?_
      replace h := isome h; rcases h with ⟨c293, h⟩ | ⟨c293, h⟩
      ·have c293_ : (x291.Tx == a1) = true := c293
       refine Chain.sub (Sub.bool 29 (b := (x291.Tx == a1)) rfl c293_) ?_
       refine Chain.sub (S' := mk 50 [] [(0, .d (.sl (a0.map cS27))), (1, .i a1), (2, .i a2), (7, .i v68), (8, .i v244), (10, .i (a0.length : Int)), (11, .i v68), (29, .b true)] []) (by simp; exact Sub.table (by simp) (by simp)) ?_
       replace h := bsome h; obtain ⟨x294, hx294, h⟩ := h
       obtain ⟨k295, hx294k, hx294, hx294a, hx294b⟩ := idx_some hx294
       refine Chain.runQ 9 fun K hK => ?_; simp [hx294, hx294k, hx294a]; refine hK _ _ ?_; clear hK K
       refine Chain.sub (S' := mk 50 [] [(0, .d (.sl (a0.map cS27))), (1, .i a1), (2, .i a2), (7, .i v68), (8, .i v244), (10, .i (a0.length : Int)), (11, .i v68), (30, .d (.sl (a0.map cS27))), (31, .i v244), (32, .d (.pim [.lit (.int .i64 x294.Tx), .lit (.int .i64 x294.Kind), .lit (.string x294.Key)])), (33, .d (.pim [.lit (.int .i64 x294.Tx), .lit (.int .i64 x294.Kind), .lit (.string x294.Key)])), (34, .i x294.Tx), (35, .i a2), (36, .b (x294.Tx == a2)), (38, .b (x294.Tx == a2))] []) Sub.tt ?_
       replace h := isome h; rcases h with ⟨c296, h⟩ | ⟨c296, h⟩
       ·have c296_ : (x294.Tx == a2) = true := c296
        refine Chain.sub (Sub.bool 36 (b := (x294.Tx == a2)) rfl c296_) ?_
        refine Chain.sub (Sub.bool 38 (b := (x294.Tx == a2)) rfl c296_) ?_
        refine Chain.sub (S' := mk 50 [] [(0, .d (.sl (a0.map cS27))), (1, .i a1), (2, .i a2), (7, .i v68), (8, .i v244), (10, .i (a0.length : Int)), (11, .i v68), (30, .d (.sl (a0.map cS27))), (31, .i v244), (32, .d (.pim [.lit (.int .i64 x294.Tx), .lit (.int .i64 x294.Kind), .lit (.string x294.Key)])), (33, .d (.pim [.lit (.int .i64 x294.Tx), .lit (.int .i64 x294.Kind), .lit (.string x294.Key)])), (34, .i x294.Tx), (35, .i a2), (36, .b true), (38, .b true)] []) (by simp; exact Sub.table (by simp) (by simp)) ?_
        refine Chain.runQ 8 fun K hK => ?_; simp [hx291, hx291k, hx291a, hx294, hx294k, hx294a]; refine hK _ _ ?_; clear hK K
        refine Chain.sub (S' := mk 50 [] [(0, .d (.sl (a0.map cS27))), (1, .i a1), (2, .i a2), (7, .i v68), (8, .i v244), (10, .i (a0.length : Int)), (11, .i v68), (30, .d (.sl (a0.map cS27))), (31, .i v244), (32, .d (.pim [.lit (.int .i64 x294.Tx), .lit (.int .i64 x294.Kind), .lit (.string x294.Key)])), (33, .d (.pim [.lit (.int .i64 x294.Tx), .lit (.int .i64 x294.Kind), .lit (.string x294.Key)])), (34, .i x294.Tx), (35, .i a2), (36, .b true), (38, .b true), (39, .d (.sl (a0.map cS27))), (40, .i v68), (41, .d (.pim [.lit (.int .i64 x291.Tx), .lit (.int .i64 x291.Kind), .lit (.string x291.Key)])), (42, .agg [.i x291.Tx, .i x291.Kind, .d (.lit (.string x291.Key))]), (43, .d (.sl (a0.map cS27))), (44, .i v244), (45, .d (.pim [.lit (.int .i64 x294.Tx), .lit (.int .i64 x294.Kind), .lit (.string x294.Key)])), (46, .agg [.i x294.Tx, .i x294.Kind, .d (.lit (.string x294.Key))])] []) Sub.tt ?_
        replace h := bsome h; obtain ⟨r297, hr297, h⟩ := h
        refine Chain.callL (d := 47) (p19 N x291 x294 r297 hr297) (by simp) rfl rfl (by simp <;> rfl) (by simp <;> rfl) ent19 (by simp <;> rfl) ?_
        refine Chain.sub (S' := mk 50 [] [(0, .d (.sl (a0.map cS27))), (1, .i a1), (2, .i a2), (7, .i v68), (8, .i v244), (10, .i (a0.length : Int)), (11, .i v68), (30, .d (.sl (a0.map cS27))), (31, .i v244), (32, .d (.pim [.lit (.int .i64 x294.Tx), .lit (.int .i64 x294.Kind), .lit (.string x294.Key)])), (33, .d (.pim [.lit (.int .i64 x294.Tx), .lit (.int .i64 x294.Kind), .lit (.string x294.Key)])), (34, .i x294.Tx), (35, .i a2), (36, .b true), (38, .b true), (39, .d (.sl (a0.map cS27))), (40, .i v68), (41, .d (.pim [.lit (.int .i64 x291.Tx), .lit (.int .i64 x291.Kind), .lit (.string x291.Key)])), (42, .agg [.i x291.Tx, .i x291.Kind, .d (.lit (.string x291.Key))]), (43, .d (.sl (a0.map cS27))), (44, .i v244), (45, .d (.pim [.lit (.int .i64 x294.Tx), .lit (.int .i64 x294.Kind), .lit (.string x294.Key)])), (46, .agg [.i x294.Tx, .i x294.Kind, .d (.lit (.string x294.Key))]), (47, .b r297)] []) (by simp; exact Sub.table (by simp) (by simp)) ?_
        refine Chain.runQ 1 fun K hK => ?_; simp; refine hK _ _ ?_; clear hK K
        refine Chain.sub (S' := mk 50 [] [(0, .d (.sl (a0.map cS27))), (1, .i a1), (2, .i a2), (7, .i v68), (8, .i v244), (10, .i (a0.length : Int)), (11, .i v68), (30, .d (.sl (a0.map cS27))), (31, .i v244), (32, .d (.pim [.lit (.int .i64 x294.Tx), .lit (.int .i64 x294.Kind), .lit (.string x294.Key)])), (33, .d (.pim [.lit (.int .i64 x294.Tx), .lit (.int .i64 x294.Kind), .lit (.string x294.Key)])), (34, .i x294.Tx), (35, .i a2), (36, .b true), (39, .d (.sl (a0.map cS27))), (40, .i v68), (41, .d (.pim [.lit (.int .i64 x291.Tx), .lit (.int .i64 x291.Kind), .lit (.string x291.Key)])), (42, .agg [.i x291.Tx, .i x291.Kind, .d (.lit (.string x291.Key))]), (43, .d (.sl (a0.map cS27))), (44, .i v244), (45, .d (.pim [.lit (.int .i64 x294.Tx), .lit (.int .i64 x294.Kind), .lit (.string x294.Key)])), (46, .agg [.i x294.Tx, .i x294.Kind, .d (.lit (.string x294.Key))]), (47, .b r297), (48, .b r297)] []) Sub.tt ?_
        cases h
        exact Chain.nil Sub.tt
       ·have c296_ : (x294.Tx == a2) = false := Bool.eq_false_iff.2 c296
        refine Chain.sub (Sub.bool 36 (b := (x294.Tx == a2)) rfl c296_) ?_
        refine Chain.sub (Sub.bool 38 (b := (x294.Tx == a2)) rfl c296_) ?_
        refine Chain.sub (S' := mk 50 [] [(0, .d (.sl (a0.map cS27))), (1, .i a1), (2, .i a2), (7, .i v68), (8, .i v244), (10, .i (a0.length : Int)), (11, .i v68), (30, .d (.sl (a0.map cS27))), (31, .i v244), (32, .d (.pim [.lit (.int .i64 x294.Tx), .lit (.int .i64 x294.Kind), .lit (.string x294.Key)])), (33, .d (.pim [.lit (.int .i64 x294.Tx), .lit (.int .i64 x294.Kind), .lit (.string x294.Key)])), (34, .i x294.Tx), (35, .i a2), (36, .b false), (38, .b false)] []) (by simp; exact Sub.table (by simp) (by simp)) ?_
        refine Chain.runQ 10 fun K hK => ?_; simp; refine hK _ _ ?_; clear hK K
        refine Chain.sub (S' := mk 50 [] [(0, .d (.sl (a0.map cS27))), (1, .i a1), (2, .i a2), (7, .i v68), (8, .i v244), (10, .i (a0.length : Int)), (11, .i v68), (30, .d (.sl (a0.map cS27))), (31, .i v244), (32, .d (.pim [.lit (.int .i64 x294.Tx), .lit (.int .i64 x294.Kind), .lit (.string x294.Key)])), (33, .d (.pim [.lit (.int .i64 x294.Tx), .lit (.int .i64 x294.Kind), .lit (.string x294.Key)])), (34, .i x294.Tx), (35, .i a2), (36, .b false), (39, .tup []), (40, .tup []), (41, .tup []), (42, .tup []), (43, .tup []), (44, .tup []), (45, .tup []), (46, .tup []), (47, .tup []), (48, .b false)] []) Sub.tt ?_
        cases h
        exact Chain.nil Sub.tt
      ·have c293_ : (x291.Tx == a1) = false := Bool.eq_false_iff.2 c293
       refine Chain.sub (Sub.bool 29 (b := (x291.Tx == a1)) rfl c293_) ?_
       refine Chain.sub (S' := mk 50 [] [(0, .d (.sl (a0.map cS27))), (1, .i a1), (2, .i a2), (7, .i v68), (8, .i v244), (10, .i (a0.length : Int)), (11, .i v68), (29, .b false)] []) (by simp; exact Sub.table (by simp) (by simp)) ?_
       refine Chain.runQ 19 fun K hK => ?_; simp; refine hK _ _ ?_; clear hK K
       refine Chain.sub (S' := mk 50 [] [(0, .d (.sl (a0.map cS27))), (1, .i a1), (2, .i a2), (7, .i v68), (8, .i v244), (10, .i (a0.length : Int)), (11, .i v68), (30, .tup []), (31, .tup []), (32, .tup []), (33, .tup []), (34, .tup []), (35, .tup []), (36, .tup []), (39, .tup []), (40, .tup []), (41, .tup []), (42, .tup []), (43, .tup []), (44, .tup []), (45, .tup []), (46, .tup []), (47, .tup []), (48, .b false)] []) Sub.tt ?_
       cases h
       exact Chain.nil Sub.tt
     ·clear hj
      replace h := isome h; rcases h with ⟨c298, h⟩ | ⟨c298, h⟩
      ·have c298_ : v290 = true := c298
       refine AW.condT (b := v290) rfl c298_ ?_
       refine AW.sub (Sub.bool 48 (b := v290) rfl c298_) ?_
       refine AW.sub (S' := mk 50 [] [(0, .d (.sl (a0.map cS27))), (1, .i a1), (2, .i a2), (7, .i v68), (8, .i v244), (10, .i (a0.length : Int)), (11, .i v68), (48, .b true)] []) (by simp; exact Sub.table (by simp) (by simp)) ?_
       refine AW.seqR ?_
       refine Chain.runK [] 1 fun K hK => ?_; simp; refine hK _ _ ?_; clear hK K
       refine Chain.sub (S' := mk 50 [] [(6, .b true)] []) Sub.tt ?_
       refine Chain.nil ?_
       refine AW.ret ?_
       cases h
       refine blockQ.ret ?_
       refine thenQ_pass (by simp) ?_
       refine PostI.out (by simp) ?_
       rintro rfl
       refine blockQ.ret ?_
       refine PostJ.out (by simp) ?_
       rintro rfl
       refine blockQ.ret ?_
       refine thenQ_pass (by simp) ?_
       refine PostI.out (by simp) ?_
       rintro rfl
       refine blockQ.ret ?_
       refine PostJ.out (by simp) ?_
       rintro rfl
       refine thenQ_pass (by simp) ?_
       exact FinC.ret (by simp) (by simp)
      ·have c298_ : v290 = false := Bool.eq_false_iff.2 c298
       refine AW.condF (b := v290) rfl c298_ ?_
       refine AW.sub (Sub.bool 48 (b := v290) rfl c298_) ?_
       refine AW.sub (S' := mk 50 [] [(0, .d (.sl (a0.map cS27))), (1, .i a1), (2, .i a2), (7, .i v68), (8, .i v244), (10, .i (a0.length : Int)), (11, .i v68), (48, .b false)] []) (by simp; exact Sub.table (by simp) (by simp)) ?_
       refine AW.skip ?_
       refine blockQ.normal ?_
       refine thenQ_normal ?_
       refine AW.region ?_
       replace h := bsome h; obtain ⟨v299, hv299, h⟩ := h
       have hv299 := chkI_some hv299
       refine Chain.runK [] 3 fun K hK => ?_; simp [hv299]; refine hK _ _ ?_; clear hK K
       refine Chain.sub (S' := mk 50 [] [(0, .d (.sl (a0.map cS27))), (1, .i a1), (2, .i a2), (7, .i v68), (8, .i v299), (10, .i (a0.length : Int)), (11, .i v68)] []) Sub.tt ?_
       refine Chain.nil ?_
       cases h
       refine PostI.next ?_
       exact Sub.tt
    ·have c282_ : decide (v244 < (a0.length : Int)) = false := decide_eq_false c282
     refine AW.condF (b := decide (v244 < (a0.length : Int))) rfl c282_ ?_
     refine AW.sub (Sub.bool 19 (b := decide (v244 < (a0.length : Int))) rfl c282_) ?_
     refine AW.sub (S' := mk 50 [] [(0, .d (.sl (a0.map cS27))), (1, .i a1), (2, .i a2), (7, .i v68), (8, .i v244), (10, .i (a0.length : Int)), (11, .i v68), (19, .b false)] []) (by simp; exact Sub.table (by simp) (by simp)) ?_
     refine AW.exit ?_
     cases h
     refine thenQ_pass (by simp) ?_
     refine PostI.out (by simp) ?_
     rintro rfl
     refine blockQ.hit ?_
     refine PostJ.next ?_
     exact Sub.tt
   ·rintro ⟨⟩ h
    refine blockQ.normal ?_
    refine thenQ_normal ?_
    refine AW.region ?_
    replace h := bsome h; obtain ⟨v300, hv300, h⟩ := h
    have hv300 := chkI_some hv300
    refine Chain.runK [] 2 fun K hK => ?_; simp [hv300]; refine hK _ _ ?_; clear hK K
    refine Chain.sub (S' := mk 50 [] [(0, .d (.sl (a0.map cS27))), (1, .i a1), (2, .i a2), (10, .i (a0.length : Int)), (11, .i v300)] []) Sub.tt ?_
    refine Chain.nil ?_
    cases h
    refine PostI.next ?_
    exact Sub.tt
  ·have c224_ : decide (v68 < (a0.length : Int)) = false := decide_eq_false c224
   refine AW.condF (b := decide (v68 < (a0.length : Int))) rfl c224_ ?_
   refine AW.sub (Sub.bool 12 (b := decide (v68 < (a0.length : Int))) rfl c224_) ?_
   refine AW.sub (S' := mk 50 [] [(0, .d (.sl (a0.map cS27))), (1, .i a1), (2, .i a2), (10, .i (a0.length : Int)), (11, .i v68), (12, .b false)] []) (by simp; exact Sub.table (by simp) (by simp)) ?_
   refine AW.exit ?_
   cases h
   refine thenQ_pass (by simp) ?_
   refine PostI.out (by simp) ?_
   rintro rfl
   refine blockQ.hit ?_
   refine PostJ.next ?_
   exact Sub.tt
 ·rintro ⟨⟩ h
  refine thenQ_normal ?_
  refine AW.seqR ?_
  refine Chain.runK [] 1 fun K hK => ?_; simp; refine hK _ _ ?_; clear hK K
  refine Chain.sub (S' := mk 50 [] [(6, .b false)] []) Sub.tt ?_
  refine Chain.nil ?_
  refine AW.ret ?_
  cases h
  exact FinC.ret (by simp) (by simp)

/-- stemma/stemlaw5.distinctSchedules$2 -/
def d26 (N : Nat) (a0 : Int) (a1 : Int) (a2 : (List S27)) : Option Bool :=
 (d27 N a2 a0 a1).bind fun r1 =>
 some r1
set_option maxRecDepth 100000 in
set_option maxHeartbeats 4000000 in
theorem p26 (N : Nat) (a0 : Int) (a1 : Int) (a2 : (List S27)) (r : Bool) (h : d26 N a0 a1 a2 = some r) : FunC Try.prog 26 [.i a0, .i a1, .d (.pim [.sl (a2.map cS27)])] (.b r) := by
 unfold d26 at h
 refine FunC.enter 10 [(0, .i a0), (1, .i a1), (2, .d (.pim [.sl (a2.map cS27)]))] (by simp) Try.func26 rfl (of_decide_eq_true rfl) rfl rfl ?_
 refine AW.seqR ?_
 refine Chain.runK [] 1 fun K hK => ?_; simp; refine hK _ _ ?_; clear hK K
 refine Chain.sub (S' := mk 10 [] [(0, .i a0), (1, .i a1), (2, .d (.pim [.sl (a2.map cS27)]))] []) Sub.tt ?_
 refine Chain.nil ?_
 refine AW.seqR ?_
 refine Chain.runK [] 3 fun K hK => ?_; simp; refine hK _ _ ?_; clear hK K
 refine Chain.sub (S' := mk 10 [] [(6, .d (.sl (a2.map cS27))), (7, .i a0), (8, .i a1)] []) Sub.tt ?_
 replace h := bsome h; obtain ⟨r1, hr1, h⟩ := h
 refine Chain.callL (d := 9) (p27 N a2 a0 a1 r1 hr1) (by simp) rfl rfl (by simp <;> rfl) (by simp <;> rfl) ent27 (by simp <;> rfl) ?_
 refine Chain.sub (S' := mk 10 [] [(6, .d (.sl (a2.map cS27))), (7, .i a0), (8, .i a1), (9, .b r1)] []) (by simp; exact Sub.table (by simp) (by simp)) ?_
 refine Chain.runK [] 1 fun K hK => ?_; simp; refine hK _ _ ?_; clear hK K
 refine Chain.sub (S' := mk 10 [] [(5, .b r1)] []) Sub.tt ?_
 refine Chain.nil ?_
 refine AW.ret ?_
 cases h
 exact FinC.ret (by simp) (by simp)

/-- stemma/stemref5.TopologicalOrder -/
def d24 (N : Nat) (a0 : (List Int)) (p1 : Int → Int → Option Bool) : Option ((List Int) × Bool) :=
 (d37 N a0).bind fun r1 =>
 bindO (β := List Int) (ρ := ((List Int) × Bool)) (
  iterN (σ := ((List Int) × (List Int))) (ρ := (Out (List Int) ((List Int) × Bool))) (fun ((l183, l184) : ((List Int) × (List Int))) =>
   if (l183.length : Int) > 0 then (
    Option.bind (α := Int) (
     iterN (σ := Int) (ρ := Int) (fun (v591 : Int) =>
      if v591 < (l183.length : Int) then (
       (idx l183 v591).bind fun x679 =>
       Option.bind (α := Bool) (
        iterN (σ := (Bool × Int)) (ρ := Bool) (fun ((v686, v687) : (Bool × Int)) =>
         if v687 < (l183.length : Int) then (
          (idx l183 v687).bind fun x710 =>
          Option.bind (α := Bool) (
           if v686 = true then (
            (p1 x710 x679).bind fun r716 =>
            some (!r716)
           ) else
           some false
          ) fun (v714 : Bool) =>
          (chkI (v687 + 1)).bind fun v717 =>
          some (.inl (v714, v717))
         ) else
         some (.inr v686)
        ) N (true, 0)
       ) fun (v708 : Bool) =>
       if v708 = true then (
        some (.inr v591)
       ) else
       (chkI (v591 + 1)).bind fun v719 =>
       some (.inl v719)
      ) else
      some (.inr (-1))
     ) N 0
    ) fun (v677 : Int) =>
    if v677 < 0 then (
     some (.inr (.ret (([] : List Int), false)))
    ) else
    (idx l183 v677).bind fun x721 =>
    (appL 8 l184 [x721]).bind fun _l723 =>
    (natI v677 l183.length).bind fun n724 =>
    letv (l183.take n724) fun l725 =>
    (appL 8 ([] : List Int) l725).bind fun _l726 =>
    (chkI ((n724 : Int) + 1)).bind fun v727 =>
    (natI v727 l183.length).bind fun n728 =>
    letv (l183.drop n728) fun l729 =>
    (appL 8 l725 l729).bind fun _l730 =>
    some (.inl ((l725 ++ l729), (l184 ++ [x721])))
   ) else
   some (.inr (.go l184))
  ) N (r1, ([] : List Int))
 ) fun (l549 : List Int) =>
 some (l549, true)
set_option maxRecDepth 100000 in
set_option maxHeartbeats 4000000 in
theorem p24 (N : Nat) (a0 : (List Int)) (g1 : Nat) (cs1 : List D) (p1 : Int → Int → Option Bool) (ent_1 : Rp.Enters Try.prog g1) (hp1 : ∀ a0 a1 r, p1 a0 a1 = some r → FunC Try.prog g1 ([.i a0, .i a1] ++ cs1.map .d) (.b r)) (r : ((List Int) × Bool)) (h : d24 N a0 p1 = some r) : FunC Try.prog 24 [.d (.sl (a0.map (cI .i64))), .fn (.func g1) (cs1.map .d)] (.tup [.d (.sl (r.1.map (cI .i64))), .b r.2]) := by
 unfold d24 at h
 refine FunC.enter 64 [(0, .d (.sl (a0.map (cI .i64)))), (1, .fn (.func g1) (cs1.map .d))] (by simp) Try.func24 rfl (of_decide_eq_true rfl) rfl rfl ?_
 refine AW.seqR ?_
 refine Chain.runK [] 2 fun K hK => ?_; simp; refine hK _ _ ?_; clear hK K
 refine Chain.sub (S' := mk 64 [] [(0, .d (.sl (a0.map (cI .i64)))), (1, .fn (.func g1) (cs1.map .d))] []) Sub.tt ?_
 refine Chain.nil ?_
 refine AW.seqR ?_
 refine Chain.runK [] 1 fun K hK => ?_; simp; refine hK _ _ ?_; clear hK K
 refine Chain.sub (S' := mk 64 [] [(1, .fn (.func g1) (cs1.map .d)), (14, .d (.sl (a0.map (cI .i64))))] []) Sub.tt ?_
 replace h := bsome h; obtain ⟨r1, hr1, h⟩ := h
 refine Chain.callO (d := 15) (p37 N a0 r1 hr1) (by simp) rfl rfl (by simp <;> rfl) (by simp <;> rfl) ent37 (by simp) ⟨by simp, by simp⟩ ?_
 refine Chain.sub (S' := mk 64 [] [(1, .fn (.func g1) (cs1.map .d)), (14, .d (.sl (a0.map (cI .i64)))), (15, .ref 15 0 r1.length)] [(15, R3 r1)]) (by simp; exact Sub.table (by simp) (by simp)) ?_
 refine Chain.sub (Sub.freeze 15 rfl) ?_
 refine Chain.sub (S' := mk 64 [] [(1, .fn (.func g1) (cs1.map .d)), (14, .d (.sl (a0.map (cI .i64)))), (15, .d (.sl (r1.map (cI .i64))))] []) (by simp; exact Sub.table (by simp) (by simp)) ?_
 refine Chain.runK [] 1 fun K hK => ?_; simp; refine hK _ _ ?_; clear hK K
 refine Chain.sub (S' := mk 64 [] [(1, .fn (.func g1) (cs1.map .d)), (6, .d (.sl (r1.map (cI .i64))))] []) Sub.tt ?_
 refine Chain.nil ?_
 refine AW.seqR ?_
 refine Chain.runK [] 1 fun K hK => ?_; simp; refine hK _ _ ?_; clear hK K
 refine Chain.sub (S' := mk 64 [] [(1, .fn (.func g1) (cs1.map .d)), (6, .d (.sl (r1.map (cI .i64)))), (7, .d (.lit (.slice none 0 0)))] []) Sub.tt ?_
 refine Chain.nil ?_
 refine AW.seqJ (fun (l549 : List Int) => mk 64 [] [(7, .ref 52 0 l549.length)] [(52, R3 l549)]) h ?_ ?_ <;> clear h
 ·intro o h
  refine AW.block ?_
  refine AW.iter (fun ((l183, l184) : ((List Int) × (List Int))) => mk 64 [] [(1, .fn (.func g1) (cs1.map .d)), (6, .d (.sl (l183.map (cI .i64)))), (7, .ref 52 0 l184.length)] [(52, R3 l184)]) h (Sub.trans (Sub.nilOwn (t := 7) (id := 52) (T := 3) (n := 1) rfl rfl (by decide)) (by simp; exact Sub.table (by simp) (by simp))) ?_
  clear h
  rintro ⟨l183, l184⟩ x h
  dsimp only at h ⊢
  refine AW.seq ?_
  refine AW.seqR ?_
  refine Chain.runK [] 3 fun K hK => ?_; simp; refine hK _ _ ?_; clear hK K
  refine Chain.sub (S' := mk 64 [] [(1, .fn (.func g1) (cs1.map .d)), (6, .d (.sl (l183.map (cI .i64)))), (7, .ref 52 0 l184.length), (18, .b (decide ((l183.length : Int) > 0)))] [(52, R3 l184)]) Sub.tt ?_
  refine Chain.nil ?_
  replace h := isome h; rcases h with ⟨c550, h⟩ | ⟨c550, h⟩
  ·have c550_ : decide ((l183.length : Int) > 0) = true := decide_eq_true c550
   refine AW.condT (b := decide ((l183.length : Int) > 0)) rfl c550_ ?_
   refine AW.sub (Sub.bool 18 (b := decide ((l183.length : Int) > 0)) rfl c550_) ?_
   refine AW.sub (S' := mk 64 [] [(1, .fn (.func g1) (cs1.map .d)), (6, .d (.sl (l183.map (cI .i64)))), (7, .ref 52 0 l184.length), (18, .b true)] [(52, R3 l184)]) (by simp; exact Sub.table (by simp) (by simp)) ?_
   refine AW.skip ?_
   refine thenQ_normal ?_
   refine AW.block ?_
   refine AW.seqR ?_
   refine Chain.runK [] 1 fun K hK => ?_; simp; refine hK _ _ ?_; clear hK K
   refine Chain.sub (S' := mk 64 [] [(1, .fn (.func g1) (cs1.map .d)), (6, .d (.sl (l183.map (cI .i64)))), (7, .ref 52 0 l184.length), (8, .i (-1))] [(52, R3 l184)]) Sub.tt ?_
   refine Chain.nil ?_
   refine AW.seq ?_
   refine AW.seqR ?_
   refine Chain.runK [] 3 fun K hK => ?_; simp; refine hK _ _ ?_; clear hK K
   refine Chain.sub (S' := mk 64 [] [(1, .fn (.func g1) (cs1.map .d)), (6, .d (.sl (l183.map (cI .i64)))), (7, .ref 52 0 l184.length), (8, .i (-1)), (19, .d (.sl (l183.map (cI .i64)))), (20, .i (l183.length : Int)), (21, .i 0)] [(52, R3 l184)]) Sub.tt ?_
   refine Chain.nil ?_
   refine AW.lastN (fun (v677 : Int) => mk 64 [] [(1, .fn (.func g1) (cs1.map .d)), (6, .d (.sl (l183.map (cI .i64)))), (7, .ref 52 0 l184.length), (8, .i v677)] [(52, R3 l184)]) h ?_ ?_ <;> clear h
   ·intro o h
    refine AW.block ?_
    refine AW.iter (fun (v591 : Int) => mk 64 [] [(1, .fn (.func g1) (cs1.map .d)), (6, .d (.sl (l183.map (cI .i64)))), (7, .ref 52 0 l184.length), (8, .i (-1)), (19, .d (.sl (l183.map (cI .i64)))), (20, .i (l183.length : Int)), (21, .i v591)] [(52, R3 l184)]) h Sub.tt ?_
    clear h
    rintro v591 x h
    refine AW.seqR ?_
    refine Chain.runK [] 1 fun K hK => ?_; simp; refine hK _ _ ?_; clear hK K
    refine Chain.sub (S' := mk 64 [] [(1, .fn (.func g1) (cs1.map .d)), (6, .d (.sl (l183.map (cI .i64)))), (7, .ref 52 0 l184.length), (8, .i (-1)), (19, .d (.sl (l183.map (cI .i64)))), (20, .i (l183.length : Int)), (21, .i v591), (22, .b (decide (v591 < (l183.length : Int))))] [(52, R3 l184)]) Sub.tt ?_
    refine Chain.nil ?_
    refine AW.seq ?_
    replace h := isome h; rcases h with ⟨c678, h⟩ | ⟨c678, h⟩
    ·have c678_ : decide (v591 < (l183.length : Int)) = true := decide_eq_true c678
     refine AW.condT (b := decide (v591 < (l183.length : Int))) rfl c678_ ?_
     refine AW.sub (Sub.bool 22 (b := decide (v591 < (l183.length : Int))) rfl c678_) ?_
     refine AW.sub (S' := mk 64 [] [(1, .fn (.func g1) (cs1.map .d)), (6, .d (.sl (l183.map (cI .i64)))), (7, .ref 52 0 l184.length), (8, .i (-1)), (19, .d (.sl (l183.map (cI .i64)))), (20, .i (l183.length : Int)), (21, .i v591), (22, .b true)] [(52, R3 l184)]) (by simp; exact Sub.table (by simp) (by simp)) ?_
     refine AW.skip ?_
     refine thenQ_normal ?_
     refine AW.seq ?_
     refine AW.block ?_
     refine AW.seqR ?_
     replace h := bsome h; obtain ⟨x679, hx679, h⟩ := h
     obtain ⟨k680, hx679k, hx679, hx679a, hx679b⟩ := idx_some hx679
     refine Chain.runK [] 5 fun K hK => ?_; simp [hx679, hx679k, hx679a]; refine hK _ _ ?_; clear hK K
     refine Chain.sub (S' := mk 64 [] [(1, .fn (.func g1) (cs1.map .d)), (6, .d (.sl (l183.map (cI .i64)))), (7, .ref 52 0 l184.length), (8, .i (-1)), (9, .i v591), (10, .i x679), (19, .d (.sl (l183.map (cI .i64)))), (20, .i (l183.length : Int)), (21, .i v591)] [(52, R3 l184)]) Sub.tt ?_
     refine Chain.nil ?_
     refine AW.seqR ?_
     refine Chain.runK [] 1 fun K hK => ?_; simp; refine hK _ _ ?_; clear hK K
     refine Chain.sub (S' := mk 64 [] [(1, .fn (.func g1) (cs1.map .d)), (6, .d (.sl (l183.map (cI .i64)))), (7, .ref 52 0 l184.length), (8, .i (-1)), (9, .i v591), (10, .i x679), (11, .b true), (19, .d (.sl (l183.map (cI .i64)))), (20, .i (l183.length : Int)), (21, .i v591)] [(52, R3 l184)]) Sub.tt ?_
     refine Chain.nil ?_
     refine AW.seq ?_
     refine AW.seqR ?_
     refine Chain.runK [] 3 fun K hK => ?_; simp; refine hK _ _ ?_; clear hK K
     refine Chain.sub (S' := mk 64 [] [(1, .fn (.func g1) (cs1.map .d)), (6, .d (.sl (l183.map (cI .i64)))), (7, .ref 52 0 l184.length), (8, .i (-1)), (9, .i v591), (10, .i x679), (11, .b true), (19, .d (.sl (l183.map (cI .i64)))), (20, .i (l183.length : Int)), (21, .i v591), (26, .d (.sl (l183.map (cI .i64)))), (27, .i (l183.length : Int)), (28, .i 0)] [(52, R3 l184)]) Sub.tt ?_
     refine Chain.nil ?_
     refine AW.lastN (fun (v708 : Bool) => mk 64 [] [(1, .fn (.func g1) (cs1.map .d)), (6, .d (.sl (l183.map (cI .i64)))), (7, .ref 52 0 l184.length), (8, .i (-1)), (9, .i v591), (11, .b v708), (19, .d (.sl (l183.map (cI .i64)))), (20, .i (l183.length : Int)), (21, .i v591)] [(52, R3 l184)]) h ?_ ?_ <;> clear h
     ·intro o h
      refine AW.block ?_
      refine AW.iter (fun ((v686, v687) : (Bool × Int)) => mk 64 [] [(1, .fn (.func g1) (cs1.map .d)), (6, .d (.sl (l183.map (cI .i64)))), (7, .ref 52 0 l184.length), (8, .i (-1)), (9, .i v591), (10, .i x679), (11, .b v686), (19, .d (.sl (l183.map (cI .i64)))), (20, .i (l183.length : Int)), (21, .i v591), (26, .d (.sl (l183.map (cI .i64)))), (27, .i (l183.length : Int)), (28, .i v687)] [(52, R3 l184)]) h Sub.tt ?_
      clear h
      rintro ⟨v686, v687⟩ x h
      dsimp only at h ⊢
      refine AW.seqR ?_
      refine Chain.runK [] 1 fun K hK => ?_; simp; refine hK _ _ ?_; clear hK K
      refine Chain.sub (S' := mk 64 [] [(1, .fn (.func g1) (cs1.map .d)), (6, .d (.sl (l183.map (cI .i64)))), (7, .ref 52 0 l184.length), (8, .i (-1)), (9, .i v591), (10, .i x679), (11, .b v686), (19, .d (.sl (l183.map (cI .i64)))), (20, .i (l183.length : Int)), (21, .i v591), (26, .d (.sl (l183.map (cI .i64)))), (27, .i (l183.length : Int)), (28, .i v687), (29, .b (decide (v687 < (l183.length : Int))))] [(52, R3 l184)]) Sub.tt ?_
      refine Chain.nil ?_
      refine AW.seq ?_
      replace h := isome h; rcases h with ⟨c709, h⟩ | ⟨c709, h⟩
      ·have c709_ : decide (v687 < (l183.length : Int)) = true := decide_eq_true c709
       refine AW.condT (b := decide (v687 < (l183.length : Int))) rfl c709_ ?_
       refine AW.sub (Sub.bool 29 (b := decide (v687 < (l183.length : Int))) rfl c709_) ?_
       refine AW.sub (S' := mk 64 [] [(1, .fn (.func g1) (cs1.map .d)), (6, .d (.sl (l183.map (cI .i64)))), (7, .ref 52 0 l184.length), (8, .i (-1)), (9, .i v591), (10, .i x679), (11, .b v686), (19, .d (.sl (l183.map (cI .i64)))), (20, .i (l183.length : Int)), (21, .i v591), (26, .d (.sl (l183.map (cI .i64)))), (27, .i (l183.length : Int)), (28, .i v687), (29, .b true)] [(52, R3 l184)]) (by simp; exact Sub.table (by simp) (by simp)) ?_
       refine AW.skip ?_
       refine thenQ_normal ?_
       refine AW.seq ?_
       refine AW.block ?_
       refine AW.seqR ?_
       replace h := bsome h; obtain ⟨x710, hx710, h⟩ := h
       obtain ⟨k711, hx710k, hx710, hx710a, hx710b⟩ := idx_some hx710
       refine Chain.runK [] 3 fun K hK => ?_; simp [hx710, hx710k, hx710a]; refine hK _ _ ?_; clear hK K
       refine Chain.sub (S' := mk 64 [] [(1, .fn (.func g1) (cs1.map .d)), (6, .d (.sl (l183.map (cI .i64)))), (7, .ref 52 0 l184.length), (8, .i (-1)), (9, .i v591), (10, .i x679), (11, .b v686), (13, .i x710), (19, .d (.sl (l183.map (cI .i64)))), (20, .i (l183.length : Int)), (21, .i v591), (26, .d (.sl (l183.map (cI .i64)))), (27, .i (l183.length : Int)), (28, .i v687)] [(52, R3 l184)]) Sub.tt ?_
       refine Chain.nil ?_
       replace h := bsome h; obtain ⟨v714, hj, h⟩ := h
       refine AW.region (Chain.cut (mk 64 [] [(1, .fn (.func g1) (cs1.map .d)), (6, .d (.sl (l183.map (cI .i64)))), (7, .ref 52 0 l184.length), (8, .i (-1)), (9, .i v591), (10, .i x679), (11, .b v714), (19, .d (.sl (l183.map (cI .i64)))), (20, .i (l183.length : Int)), (21, .i v591), (26, .d (.sl (l183.map (cI .i64)))), (27, .i (l183.length : Int)), (28, .i v687)] [(52, R3 l184)]) ?_ fun S' hS => ?_)
       ·clear h; have h := hj; clear hj
        refine Chain.runK [] 2 fun K hK => ?_; simp; refine hK _ _ ?_; clear hK K
        refine Chain.sub (S' := mk 64 [] [(1, .fn (.func g1) (cs1.map .d)), (6, .d (.sl (l183.map (cI .i64)))), (7, .ref 52 0 l184.length), (8, .i (-1)), (9, .i v591), (10, .i x679), (13, .i x710), (19, .d (.sl (l183.map (cI .i64)))), (20, .i (l183.length : Int)), (21, .i v591), (26, .d (.sl (l183.map (cI .i64)))), (27, .i (l183.length : Int)), (28, .i v687), (33, .b v686)] [(52, R3 l184)]) Sub.tt ?_
        replace h := isome h; rcases h with ⟨c715, h⟩ | ⟨c715, h⟩
        ·have c715_ : v686 = true := c715
         refine Chain.sub (Sub.bool 33 (b := v686) rfl c715_) ?_
         refine Chain.sub (S' := mk 64 [] [(1, .fn (.func g1) (cs1.map .d)), (6, .d (.sl (l183.map (cI .i64)))), (7, .ref 52 0 l184.length), (8, .i (-1)), (9, .i v591), (10, .i x679), (13, .i x710), (19, .d (.sl (l183.map (cI .i64)))), (20, .i (l183.length : Int)), (21, .i v591), (26, .d (.sl (l183.map (cI .i64)))), (27, .i (l183.length : Int)), (28, .i v687), (33, .b true)] [(52, R3 l184)]) (by simp; exact Sub.table (by simp) (by simp)) ?_
         refine Chain.runK [] 3 fun K hK => ?_; simp; refine hK _ _ ?_; clear hK K
         refine Chain.sub (S' := mk 64 [] [(1, .fn (.func g1) (cs1.map .d)), (6, .d (.sl (l183.map (cI .i64)))), (7, .ref 52 0 l184.length), (8, .i (-1)), (9, .i v591), (10, .i x679), (19, .d (.sl (l183.map (cI .i64)))), (20, .i (l183.length : Int)), (21, .i v591), (26, .d (.sl (l183.map (cI .i64)))), (27, .i (l183.length : Int)), (28, .i v687), (33, .b true), (34, .fn (.func g1) (cs1.map .d)), (35, .i x710), (36, .i x679)] [(52, R3 l184)]) Sub.tt ?_
         replace h := bsome h; obtain ⟨r716, hr716, h⟩ := h
         refine Chain.callL (d := 37) (hp1 x710 x679 r716 hr716) (by simp) rfl rfl (by simp <;> rfl) (by simp <;> rfl) ent_1 (by simp <;> rfl) ?_
         refine Chain.sub (S' := mk 64 [] [(1, .fn (.func g1) (cs1.map .d)), (6, .d (.sl (l183.map (cI .i64)))), (7, .ref 52 0 l184.length), (8, .i (-1)), (9, .i v591), (10, .i x679), (19, .d (.sl (l183.map (cI .i64)))), (20, .i (l183.length : Int)), (21, .i v591), (26, .d (.sl (l183.map (cI .i64)))), (27, .i (l183.length : Int)), (28, .i v687), (33, .b true), (34, .fn (.func g1) (cs1.map .d)), (35, .i x710), (36, .i x679), (37, .b r716)] [(52, R3 l184)]) (by simp; exact Sub.table (by simp) (by simp)) ?_
         refine Chain.runK [] 3 fun K hK => ?_; simp; refine hK _ _ ?_; clear hK K
         refine Chain.sub (S' := mk 64 [] [(1, .fn (.func g1) (cs1.map .d)), (6, .d (.sl (l183.map (cI .i64)))), (7, .ref 52 0 l184.length), (8, .i (-1)), (9, .i v591), (10, .i x679), (11, .b (!r716)), (19, .d (.sl (l183.map (cI .i64)))), (20, .i (l183.length : Int)), (21, .i v591), (26, .d (.sl (l183.map (cI .i64)))), (27, .i (l183.length : Int)), (28, .i v687), (34, .fn (.func g1) (cs1.map .d)), (35, .i x710), (36, .i x679), (37, .b r716), (38, .b (!r716))] [(52, R3 l184)]) Sub.tt ?_
         cases h
         exact Chain.nil Sub.tt
        ·have c715_ : v686 = false := Bool.eq_false_iff.2 c715
         refine Chain.sub (Sub.bool 33 (b := v686) rfl c715_) ?_
         refine Chain.sub (S' := mk 64 [] [(1, .fn (.func g1) (cs1.map .d)), (6, .d (.sl (l183.map (cI .i64)))), (7, .ref 52 0 l184.length), (8, .i (-1)), (9, .i v591), (10, .i x679), (13, .i x710), (19, .d (.sl (l183.map (cI .i64)))), (20, .i (l183.length : Int)), (21, .i v591), (26, .d (.sl (l183.map (cI .i64)))), (27, .i (l183.length : Int)), (28, .i v687), (33, .b false)] [(52, R3 l184)]) (by simp; exact Sub.table (by simp) (by simp)) ?_
         refine Chain.runK [] 7 fun K hK => ?_; simp; refine hK _ _ ?_; clear hK K
         refine Chain.sub (S' := mk 64 [] [(1, .fn (.func g1) (cs1.map .d)), (6, .d (.sl (l183.map (cI .i64)))), (7, .ref 52 0 l184.length), (8, .i (-1)), (9, .i v591), (10, .i x679), (11, .b false), (19, .d (.sl (l183.map (cI .i64)))), (20, .i (l183.length : Int)), (21, .i v591), (26, .d (.sl (l183.map (cI .i64)))), (27, .i (l183.length : Int)), (28, .i v687), (34, .tup []), (35, .tup []), (36, .tup []), (37, .tup []), (38, .tup [])] [(52, R3 l184)]) Sub.tt ?_
         cases h
         exact Chain.nil Sub.tt
       ·clear hj
        refine blockQ.normal ?_
        refine thenQ_normal ?_
        refine AW.sub hS ?_
        refine AW.region ?_
        replace h := bsome h; obtain ⟨v717, hv717, h⟩ := h
        have hv717 := chkI_some hv717
        refine Chain.runK [] 2 fun K hK => ?_; simp [hv717]; refine hK _ _ ?_; clear hK K
        refine Chain.sub (S' := mk 64 [] [(1, .fn (.func g1) (cs1.map .d)), (6, .d (.sl (l183.map (cI .i64)))), (7, .ref 52 0 l184.length), (8, .i (-1)), (9, .i v591), (10, .i x679), (11, .b v714), (19, .d (.sl (l183.map (cI .i64)))), (20, .i (l183.length : Int)), (21, .i v591), (26, .d (.sl (l183.map (cI .i64)))), (27, .i (l183.length : Int)), (28, .i v717)] [(52, R3 l184)]) Sub.tt ?_
        refine Chain.nil ?_
        cases h
        refine PostI.next ?_
        exact Sub.tt
      ·have c709_ : decide (v687 < (l183.length : Int)) = false := decide_eq_false c709
       refine AW.condF (b := decide (v687 < (l183.length : Int))) rfl c709_ ?_
       refine AW.sub (Sub.bool 29 (b := decide (v687 < (l183.length : Int))) rfl c709_) ?_
       refine AW.sub (S' := mk 64 [] [(1, .fn (.func g1) (cs1.map .d)), (6, .d (.sl (l183.map (cI .i64)))), (7, .ref 52 0 l184.length), (8, .i (-1)), (9, .i v591), (10, .i x679), (11, .b v686), (19, .d (.sl (l183.map (cI .i64)))), (20, .i (l183.length : Int)), (21, .i v591), (26, .d (.sl (l183.map (cI .i64)))), (27, .i (l183.length : Int)), (28, .i v687), (29, .b false)] [(52, R3 l184)]) (by simp; exact Sub.table (by simp) (by simp)) ?_
       refine AW.exit ?_
       cases h
       refine thenQ_pass (by simp) ?_
       refine PostI.out (by simp) ?_
       rintro rfl
       refine blockQ.hit ?_
       refine PostN.next ?_
       exact Sub.tt
     ·rintro v708 h
      refine thenQ_normal ?_
      refine AW.seqR ?_
      refine Chain.runK [] 1 fun K hK => ?_; simp; refine hK _ _ ?_; clear hK K
      refine Chain.sub (S' := mk 64 [] [(1, .fn (.func g1) (cs1.map .d)), (6, .d (.sl (l183.map (cI .i64)))), (7, .ref 52 0 l184.length), (8, .i (-1)), (9, .i v591), (19, .d (.sl (l183.map (cI .i64)))), (20, .i (l183.length : Int)), (21, .i v591), (41, .b v708)] [(52, R3 l184)]) Sub.tt ?_
      refine Chain.nil ?_
      replace h := isome h; rcases h with ⟨c718, h⟩ | ⟨c718, h⟩
      ·have c718_ : v708 = true := c718
       refine AW.condT (b := v708) rfl c718_ ?_
       refine AW.sub (Sub.bool 41 (b := v708) rfl c718_) ?_
       refine AW.sub (S' := mk 64 [] [(1, .fn (.func g1) (cs1.map .d)), (6, .d (.sl (l183.map (cI .i64)))), (7, .ref 52 0 l184.length), (8, .i (-1)), (9, .i v591), (19, .d (.sl (l183.map (cI .i64)))), (20, .i (l183.length : Int)), (21, .i v591), (41, .b true)] [(52, R3 l184)]) (by simp; exact Sub.table (by simp) (by simp)) ?_
       refine AW.seqR ?_
       refine Chain.runK [] 2 fun K hK => ?_; simp; refine hK _ _ ?_; clear hK K
       refine Chain.sub (S' := mk 64 [] [(1, .fn (.func g1) (cs1.map .d)), (6, .d (.sl (l183.map (cI .i64)))), (7, .ref 52 0 l184.length), (8, .i v591)] [(52, R3 l184)]) Sub.tt ?_
       refine Chain.nil ?_
       refine AW.exit ?_
       cases h
       refine blockQ.pass (by decide) ?_
       refine thenQ_pass (by simp) ?_
       refine PostI.out (by simp) ?_
       rintro rfl
       refine blockQ.hit ?_
       refine PostN.next ?_
       exact Sub.tt
      ·have c718_ : v708 = false := Bool.eq_false_iff.2 c718
       refine AW.condF (b := v708) rfl c718_ ?_
       refine AW.sub (Sub.bool 41 (b := v708) rfl c718_) ?_
       refine AW.sub (S' := mk 64 [] [(1, .fn (.func g1) (cs1.map .d)), (6, .d (.sl (l183.map (cI .i64)))), (7, .ref 52 0 l184.length), (8, .i (-1)), (9, .i v591), (19, .d (.sl (l183.map (cI .i64)))), (20, .i (l183.length : Int)), (21, .i v591), (41, .b false)] [(52, R3 l184)]) (by simp; exact Sub.table (by simp) (by simp)) ?_
       refine AW.skip ?_
       refine blockQ.normal ?_
       refine thenQ_normal ?_
       refine AW.region ?_
       replace h := bsome h; obtain ⟨v719, hv719, h⟩ := h
       have hv719 := chkI_some hv719
       refine Chain.runK [] 2 fun K hK => ?_; simp [hv719]; refine hK _ _ ?_; clear hK K
       refine Chain.sub (S' := mk 64 [] [(1, .fn (.func g1) (cs1.map .d)), (6, .d (.sl (l183.map (cI .i64)))), (7, .ref 52 0 l184.length), (8, .i (-1)), (19, .d (.sl (l183.map (cI .i64)))), (20, .i (l183.length : Int)), (21, .i v719)] [(52, R3 l184)]) Sub.tt ?_
       refine Chain.nil ?_
       cases h
       refine PostI.next ?_
       exact Sub.tt
    ·have c678_ : decide (v591 < (l183.length : Int)) = false := decide_eq_false c678
     refine AW.condF (b := decide (v591 < (l183.length : Int))) rfl c678_ ?_
     refine AW.sub (Sub.bool 22 (b := decide (v591 < (l183.length : Int))) rfl c678_) ?_
     refine AW.sub (S' := mk 64 [] [(1, .fn (.func g1) (cs1.map .d)), (6, .d (.sl (l183.map (cI .i64)))), (7, .ref 52 0 l184.length), (8, .i (-1)), (19, .d (.sl (l183.map (cI .i64)))), (20, .i (l183.length : Int)), (21, .i v591), (22, .b false)] [(52, R3 l184)]) (by simp; exact Sub.table (by simp) (by simp)) ?_
     refine AW.exit ?_
     cases h
     refine thenQ_pass (by simp) ?_
     refine PostI.out (by simp) ?_
     rintro rfl
     refine blockQ.hit ?_
     refine PostN.next ?_
     exact Sub.tt
   ·rintro v677 h
    refine thenQ_normal ?_
    refine AW.seq ?_
    refine AW.seqR ?_
    refine Chain.runK [] 2 fun K hK => ?_; simp; refine hK _ _ ?_; clear hK K
    refine Chain.sub (S' := mk 64 [] [(1, .fn (.func g1) (cs1.map .d)), (6, .d (.sl (l183.map (cI .i64)))), (7, .ref 52 0 l184.length), (8, .i v677), (45, .b (decide (v677 < 0)))] [(52, R3 l184)]) Sub.tt ?_
    refine Chain.nil ?_
    replace h := isome h; rcases h with ⟨c720, h⟩ | ⟨c720, h⟩
    ·have c720_ : decide (v677 < 0) = true := decide_eq_true c720
     refine AW.condT (b := decide (v677 < 0)) rfl c720_ ?_
     refine AW.sub (Sub.bool 45 (b := decide (v677 < 0)) rfl c720_) ?_
     refine AW.sub (S' := mk 64 [] [(1, .fn (.func g1) (cs1.map .d)), (6, .d (.sl (l183.map (cI .i64)))), (7, .ref 52 0 l184.length), (8, .i v677), (45, .b true)] [(52, R3 l184)]) (by simp; exact Sub.table (by simp) (by simp)) ?_
     refine AW.seqR ?_
     refine Chain.runK [] 2 fun K hK => ?_; simp; refine hK _ _ ?_; clear hK K
     refine Chain.sub (S' := mk 64 [] [(4, .d (.lit (.slice none 0 0))), (5, .b false)] []) Sub.tt ?_
     refine Chain.nil ?_
     refine AW.sub (Sub.wk 4 rfl) ?_
     refine AW.sub (S' := mk 64 [] [(4, .d (.sl (([] : List Int).map (cI .i64)))), (5, .b false)] []) (by simp; exact Sub.table (by simp) (by simp)) ?_
     refine AW.ret ?_
     cases h
     refine thenQ_pass (by simp) ?_
     refine blockQ.ret ?_
     refine PostI.out (by simp) ?_
     rintro rfl
     refine blockQ.ret ?_
     refine PostJ.out (by simp) ?_
     rintro rfl
     exact FinC.ret (by simp) (by simp)
    ·have c720_ : decide (v677 < 0) = false := decide_eq_false c720
     refine AW.condF (b := decide (v677 < 0)) rfl c720_ ?_
     refine AW.sub (Sub.bool 45 (b := decide (v677 < 0)) rfl c720_) ?_
     refine AW.sub (S' := mk 64 [] [(1, .fn (.func g1) (cs1.map .d)), (6, .d (.sl (l183.map (cI .i64)))), (7, .ref 52 0 l184.length), (8, .i v677), (45, .b false)] [(52, R3 l184)]) (by simp; exact Sub.table (by simp) (by simp)) ?_
     refine AW.skip ?_
     refine thenQ_normal ?_
     refine AW.seqR ?_
     replace h := bsome h; obtain ⟨x721, hx721, h⟩ := h
     obtain ⟨k722, hx721k, hx721, hx721a, hx721b⟩ := idx_some hx721
     replace h := bsome h; obtain ⟨l723, hl723, h⟩ := h
     obtain ⟨hl723a, hl723⟩ := appL_some hl723
     subst hl723
     try simp only [List.length_cons, List.length_nil, Nat.zero_add] at hl723a
     refine Chain.runK [51] 8 fun K hK => ?_; simp [hx721, hx721k, hx721a, hl723a]; refine hK _ _ ?_; clear hK K
     refine Chain.sub (S' := mk 64 [] [(1, .fn (.func g1) (cs1.map .d)), (6, .d (.sl (l183.map (cI .i64)))), (7, .ref 52 0 ((l184 ++ [x721]).length)), (8, .i v677)] [(52, R3 (l184 ++ [x721]))]) Sub.tt ?_
     refine Chain.nil ?_
     replace h := bsome h; obtain ⟨n724, gn724, h⟩ := h
     obtain ⟨hn724a, hn724⟩ := natI_some gn724
     clear gn724
     subst hn724a
     replace h := lsome h; obtain ⟨l725, gl725, h⟩ := h
     have hl725 : ((l183.map (cI .i64)).take n724) = l725.map (cI .i64) := by rw [← gl725]; simp
     clear gl725
     replace h := bsome h; obtain ⟨l726, hl726, h⟩ := h
     obtain ⟨hl726a, hl726⟩ := appL_some hl726
     subst hl726
     try simp only [List.length_nil, Nat.zero_add] at hl726a
     replace h := bsome h; obtain ⟨v727, hv727, h⟩ := h
     have hv727 := chkI_some hv727
     replace h := bsome h; obtain ⟨n728, gn728, h⟩ := h
     obtain ⟨hn728a, hn728⟩ := natI_some gn728
     clear gn728
     subst hn728a
     replace h := lsome h; obtain ⟨l729, gl729, h⟩ := h
     have hl729 : ((l183.map (cI .i64)).drop n728) = l729.map (cI .i64) := by rw [← gl729]; simp
     clear gl729
     replace h := bsome h; obtain ⟨l730, hl730, h⟩ := h
     obtain ⟨hl730a, hl730⟩ := appL_some hl730
     subst hl730
     try simp only [List.length_append, List.length_cons, List.length_nil, Nat.zero_add, Nat.mul_one] at hl730a
     refine AW.lastAnyS [[], [], [], [1, 2], [0, 1, 2, 3], [], [], [6], [5, 6, 7], [0, 1, 2, 3, 4, 5, 6, 7, 8], [0, 1, 2, 3, 4, 5, 6, 7, 8, 9]] (fun (b : Nat → Bool) => mk 64 [] [(1, .fn (.func g1) (cs1.map .d)), (6, (if b 10 then .ref 53 0 ((l725 ++ l729).length) else .d (.sl (l183.map (cI .i64))))), (7, .ref 52 0 ((l184 ++ [x721]).length)), (8, .i (n724 : Int)), (53, (if b 4 then .junk else (if b 0 then .ref 53 0 (([] : List Int).length) else .junk))), (54, (if b 1 then .d (.sl (l183.map (cI .i64))) else .junk)), (55, (if b 2 then .i (n724 : Int) else .junk)), (56, (if b 3 then .d (.sl (l725.map (cI .i64))) else .junk)), (57, (if b 9 then .junk else (if b 4 then .ref 53 0 l725.length else .junk))), (58, (if b 5 then .d (.sl (l183.map (cI .i64))) else .junk)), (59, (if b 6 then .i (n724 : Int) else .junk)), (60, (if b 7 then .i (n728 : Int) else .junk)), (61, (if b 8 then .d (.sl (l729.map (cI .i64))) else .junk)), (62, (if b 9 then .ref 53 0 ((l725 ++ l729).length) else .junk))] [(52, R3 (l184 ++ [x721])), (53, (if b 9 then R3 (l725 ++ l729) else (if b 4 then R3 l725 else (if b 0 then R3 ([] : List Int) else none))))]) (mk 64 [] [(1, .fn (.func g1) (cs1.map .d)), (6, .ref 53 0 ((l725 ++ l729).length)), (7, .ref 52 0 ((l184 ++ [x721]).length))] [(52, R3 (l184 ++ [x721])), (53, R3 (l725 ++ l729))]) (by kernel_rfl) (by kernel_rfl) Sub.tt (Steps.cons ?_ (Steps.cons ?_ (Steps.cons ?_ (Steps.cons ?_ (Steps.cons ?_ (Steps.cons ?_ (Steps.cons ?_ (Steps.cons ?_ (Steps.cons ?_ (Steps.cons ?_ (Steps.cons ?_ (Steps.nil)))))))))))) ?_ ?_
     ·intro b h0 ha hd
      have f4 : b 4 = false := hd 4 (by decide)
      have f9 : b 9 = false := hd 9 (by decide)
      have f10 : b 10 = false := hd 10 (by decide)
      refine Chain.runK [] 1 fun K hK => ?_; simp [h0, f4, f9, f10]; refine hK _ _ ?_; clear hK K
      exact Chain.nil (Sub.table (by simp [f4, f9, f10]) (by simp [f4, f9]))
     ·intro b h0 ha hd
      have f3 : b 3 = false := hd 3 (by decide)
      have f4 : b 4 = false := hd 4 (by decide)
      have f9 : b 9 = false := hd 9 (by decide)
      have f10 : b 10 = false := hd 10 (by decide)
      refine Chain.runK [] 1 fun K hK => ?_; simp [h0, f3, f4, f9, f10]; refine hK _ _ ?_; clear hK K
      exact Chain.nil (Sub.table (by simp [f3, f4, f9, f10]) (by simp [f4, f9]))
     ·intro b h0 ha hd
      have f3 : b 3 = false := hd 3 (by decide)
      have f4 : b 4 = false := hd 4 (by decide)
      have f9 : b 9 = false := hd 9 (by decide)
      have f10 : b 10 = false := hd 10 (by decide)
      refine Chain.runK [] 1 fun K hK => ?_; simp [h0, f3, f4, f9, f10]; refine hK _ _ ?_; clear hK K
      exact Chain.nil (Sub.table (by simp [f3, f4, f9, f10]) (by simp [f4, f9]))
     ·intro b h0 ha hd
      have t1 : b 1 = true := ha 1 (by decide)
      have t2 : b 2 = true := ha 2 (by decide)
      have f4 : b 4 = false := hd 4 (by decide)
      have f9 : b 9 = false := hd 9 (by decide)
      have f10 : b 10 = false := hd 10 (by decide)
      refine Chain.runK [] 1 fun K hK => ?_; simp [h0, t1, t2, f4, f9, f10, hn724, hl725]; refine hK _ _ ?_; clear hK K
      exact Chain.nil (Sub.table (by simp [t1, t2, f4, f9, f10]) (by simp [f4, f9]))
     ·intro b h0 ha hd
      have t0 : b 0 = true := ha 0 (by decide)
      have t1 : b 1 = true := ha 1 (by decide)
      have t2 : b 2 = true := ha 2 (by decide)
      have t3 : b 3 = true := ha 3 (by decide)
      have f9 : b 9 = false := hd 9 (by decide)
      have f10 : b 10 = false := hd 10 (by decide)
      refine Chain.runK [] 1 fun K hK => ?_; simp [h0, t0, t1, t2, t3, f9, f10, hl726a]; refine hK _ _ ?_; clear hK K
      exact Chain.nil (Sub.table (by simp [t1, t2, t3, f9, f10]) (by simp [f9]))
     ·intro b h0 ha hd
      have f8 : b 8 = false := hd 8 (by decide)
      have f9 : b 9 = false := hd 9 (by decide)
      have f10 : b 10 = false := hd 10 (by decide)
      refine Chain.runK [] 1 fun K hK => ?_; simp [h0, f8, f9, f10]; refine hK _ _ ?_; clear hK K
      exact Chain.nil (Sub.table (by simp [f8, f9, f10]) (by simp [f9]))
     ·intro b h0 ha hd
      have f7 : b 7 = false := hd 7 (by decide)
      have f8 : b 8 = false := hd 8 (by decide)
      have f9 : b 9 = false := hd 9 (by decide)
      have f10 : b 10 = false := hd 10 (by decide)
      refine Chain.runK [] 1 fun K hK => ?_; simp [h0, f7, f8, f9, f10]; refine hK _ _ ?_; clear hK K
      exact Chain.nil (Sub.table (by simp [f7, f8, f9, f10]) (by simp [f9]))
     ·intro b h0 ha hd
      have t6 : b 6 = true := ha 6 (by decide)
      have f8 : b 8 = false := hd 8 (by decide)
      have f9 : b 9 = false := hd 9 (by decide)
      have f10 : b 10 = false := hd 10 (by decide)
      refine Chain.runK [] 1 fun K hK => ?_; simp [h0, t6, f8, f9, f10, hv727]; refine hK _ _ ?_; clear hK K
      exact Chain.nil (Sub.table (by simp [t6, f8, f9, f10]) (by simp [f9]))
     ·intro b h0 ha hd
      have t5 : b 5 = true := ha 5 (by decide)
      have t6 : b 6 = true := ha 6 (by decide)
      have t7 : b 7 = true := ha 7 (by decide)
      have f9 : b 9 = false := hd 9 (by decide)
      have f10 : b 10 = false := hd 10 (by decide)
      refine Chain.runK [] 1 fun K hK => ?_; simp [h0, t5, t6, t7, f9, f10, hn728, hl729]; refine hK _ _ ?_; clear hK K
      exact Chain.nil (Sub.table (by simp [t5, t6, t7, f9, f10]) (by simp [f9]))
     ·intro b h0 ha hd
      have t0 : b 0 = true := ha 0 (by decide)
      have t1 : b 1 = true := ha 1 (by decide)
      have t2 : b 2 = true := ha 2 (by decide)
      have t3 : b 3 = true := ha 3 (by decide)
      have t4 : b 4 = true := ha 4 (by decide)
      have t5 : b 5 = true := ha 5 (by decide)
      have t6 : b 6 = true := ha 6 (by decide)
      have t7 : b 7 = true := ha 7 (by decide)
      have t8 : b 8 = true := ha 8 (by decide)
      have f10 : b 10 = false := hd 10 (by decide)
      refine Chain.runK [] 1 fun K hK => ?_; simp [h0, t1, t2, t3, t4, t5, t6, t7, t8, f10, hl730a]; refine hK _ _ ?_; clear hK K
      exact Chain.nil (Sub.table (by simp [t1, t2, t3, t4, t5, t6, t7, t8, f10]) (by simp))
     ·intro b h0 ha hd
      have t0 : b 0 = true := ha 0 (by decide)
      have t1 : b 1 = true := ha 1 (by decide)
      have t2 : b 2 = true := ha 2 (by decide)
      have t3 : b 3 = true := ha 3 (by decide)
      have t4 : b 4 = true := ha 4 (by decide)
      have t5 : b 5 = true := ha 5 (by decide)
      have t6 : b 6 = true := ha 6 (by decide)
      have t7 : b 7 = true := ha 7 (by decide)
      have t8 : b 8 = true := ha 8 (by decide)
      have t9 : b 9 = true := ha 9 (by decide)
      refine Chain.runK [] 1 fun K hK => ?_; simp [h0, t1, t2, t3, t4, t5, t6, t7, t8, t9]; refine hK _ _ ?_; clear hK K
      exact Chain.nil (Sub.table (by simp [t1, t2, t3, t4, t5, t6, t7, t8, t9]) (by simp [t9]))
     ·intro b hb
      have t0 := hb 0 (by decide)
      have t1 := hb 1 (by decide)
      have t2 := hb 2 (by decide)
      have t3 := hb 3 (by decide)
      have t4 := hb 4 (by decide)
      have t5 := hb 5 (by decide)
      have t6 := hb 6 (by decide)
      have t7 := hb 7 (by decide)
      have t8 := hb 8 (by decide)
      have t9 := hb 9 (by decide)
      have t10 := hb 10 (by decide)
      exact Sub.table (by simp [t1, t2, t3, t4, t5, t6, t7, t8, t9, t10]) (by simp [t9])
     ·skip
      cases h
      refine blockQ.normal ?_
      refine PostI.next ?_
      exact (Sub.trans (Sub.freeze 53 rfl) (by simp; exact Sub.table (by simp) (by simp)))
  ·have c550_ : decide ((l183.length : Int) > 0) = false := decide_eq_false c550
   refine AW.condF (b := decide ((l183.length : Int) > 0)) rfl c550_ ?_
   refine AW.sub (Sub.bool 18 (b := decide ((l183.length : Int) > 0)) rfl c550_) ?_
   refine AW.sub (S' := mk 64 [] [(1, .fn (.func g1) (cs1.map .d)), (6, .d (.sl (l183.map (cI .i64)))), (7, .ref 52 0 l184.length), (18, .b false)] [(52, R3 l184)]) (by simp; exact Sub.table (by simp) (by simp)) ?_
   refine AW.exit ?_
   cases h
   refine thenQ_pass (by simp) ?_
   refine PostI.out (by simp) ?_
   rintro rfl
   refine blockQ.hit ?_
   refine PostJ.next ?_
   exact Sub.tt
 ·rintro l549 h
  refine AW.seqR ?_
  refine Chain.runK [] 3 fun K hK => ?_; simp; refine hK _ _ ?_; clear hK K
  refine Chain.sub (S' := mk 64 [] [(4, .ref 52 0 l549.length), (5, .b true)] [(52, R3 l549)]) Sub.tt ?_
  refine Chain.nil ?_
  refine AW.sub (Sub.freeze 52 rfl) ?_
  refine AW.sub (S' := mk 64 [] [(4, .d (.sl (l549.map (cI .i64)))), (5, .b true)] []) (by simp; exact Sub.table (by simp) (by simp)) ?_
  refine AW.ret ?_
  cases h
  exact FinC.ret (by simp) (by simp)

end Go.Proofs.Ytifcmomjjkbboaa
