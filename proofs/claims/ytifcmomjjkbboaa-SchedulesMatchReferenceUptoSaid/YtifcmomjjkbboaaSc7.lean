/- Functions of the program as functional programs; the code computes them. -/
import Derived.Test.YtifcmomjjkbboaaSc6
namespace Go.Proofs.Ytifcmomjjkbboaa
open Go.Ab Go.Rp
attribute [-simp] List.all_eq_true Array.all_toList Array.all_eq_true

/-- stemma/stemref5.CountClasses -/
def d11 : (N : Nat) → (a0 : (List (List S27))) → (a1 : (List Int)) → (a2 : (List S27)) → Option Int
 | 0, _, _, _ => none
 | N + 1, a0, a1, a2 =>
  Option.bind (α := (Int × Bool)) (
   iterN (σ := (Int × Bool × Int)) (ρ := (Int × Bool)) (fun ((v181, v182, v183) : (Int × Bool × Int)) =>
    if v183 < (a0.length : Int) then (
     Option.bind (α := (Int × Bool)) (
      (idx a0 v183).bind fun x650 =>
      (idx a1 v183).bind fun x652 =>
      if (x652 == (x650.length : Int)) then (
       some (v181, v182)
      ) else
      (idx x650 x652).bind fun x654 =>
      (chkI ((a2.length : Int) - 1)).bind fun v656 =>
      Option.bind (α := Bool) (
       iterN (σ := (Bool × Int)) (ρ := Bool) (fun ((v672, v673) : (Bool × Int)) =>
        Option.bind (α := (Bool × Bool)) (
         if v673 ≥ 0 then (
          if v672 = true then (
           (idx a2 v673).bind fun x723 =>
           if (x723.Tx != x654.Tx) then (
            (d19 N x723 x654).bind fun r726 =>
            some (true, (!r726))
           ) else
           some (true, false)
          ) else
          some (false, false)
         ) else
         some (v672, false)
        ) fun ((v719, v720) : (Bool × Bool)) =>
        if v720 = true then (
         (idx a2 v673).bind fun x728 =>
         (chkI (v673 - 1)).bind fun v730 =>
         some (.inl (decide (x728.Tx < x654.Tx), v730))
        ) else
        some (.inr v719)
       ) N (true, v656)
      ) fun (v712 : Bool) =>
      if v712 = true then (
       (appL 8 ([] : List Int) a1).bind fun _l732 =>
       (idx a1 v183).bind fun x733 =>
       (chkI (x733 + 1)).bind fun v735 =>
       letv (setI a1 v183 v735) fun l736 =>
       (appL 32 a2 [x654]).bind fun _l737 =>
       (d11 N a0 l736 (a2 ++ [x654])).bind fun r738 =>
       (chkI (v181 + r738)).bind fun v739 =>
       some (v739, false)
      ) else
      some (v181, false)
     ) fun ((v648, v649) : (Int × Bool)) =>
     (chkI (v183 + 1)).bind fun v740 =>
     some (.inl (v648, v649, v740))
    ) else
    some (.inr (v181, v182))
   ) N (0, true, 0)
  ) fun ((v555, v556) : (Int × Bool)) =>
  if v556 = true then (
   some 1
  ) else
  some v555
set_option maxRecDepth 100000 in
set_option maxHeartbeats 4000000 in
theorem p11 (N : Nat) : ∀ (a0 : (List (List S27))) (a1 : (List Int)) (a2 : (List S27)) (r : Int) (_ : d11 N a0 a1 a2 = some r), FunC Try.prog 11 [.d (.sl (a0.map (cL cS27))), .d (.sl (a1.map (cI .i64))), .d (.sl (a2.map cS27))] (.i r) := by
 induction N with
 | zero => intro a0 a1 a2 r h; cases h
 | succ N ih =>
 intro a0 a1 a2 r h
 unfold d11 at h
 refine FunC.enter 100 [(0, .d (.sl (a0.map (cL cS27)))), (1, .d (.sl (a1.map (cI .i64)))), (2, .d (.sl (a2.map cS27)))] (by simp) Try.func11 rfl (of_decide_eq_true rfl) rfl rfl ?_
 refine AW.seqR ?_
 refine Chain.runK [] 1 fun K hK => ?_; simp; refine hK _ _ ?_; clear hK K
 refine Chain.sub (S' := mk 100 [] [(0, .d (.sl (a0.map (cL cS27)))), (1, .d (.sl (a1.map (cI .i64)))), (2, .d (.sl (a2.map cS27)))] []) Sub.tt ?_
 refine Chain.nil ?_
 refine AW.seqR ?_
 refine Chain.runK [] 2 fun K hK => ?_; simp; refine hK _ _ ?_; clear hK K
 refine Chain.sub (S' := mk 100 [] [(0, .d (.sl (a0.map (cL cS27)))), (1, .d (.sl (a1.map (cI .i64)))), (2, .d (.sl (a2.map cS27))), (7, .i 0), (8, .b true)] []) Sub.tt ?_
 refine Chain.nil ?_
 refine AW.seq ?_
 refine AW.seqR ?_
 refine Chain.runK [] 3 fun K hK => ?_; simp; refine hK _ _ ?_; clear hK K
 refine Chain.sub (S' := mk 100 [] [(0, .d (.sl (a0.map (cL cS27)))), (1, .d (.sl (a1.map (cI .i64)))), (2, .d (.sl (a2.map cS27))), (7, .i 0), (8, .b true), (15, .d (.sl (a0.map (cL cS27)))), (16, .i (a0.length : Int)), (17, .i 0)] []) Sub.tt ?_
 refine Chain.nil ?_
 refine AW.lastN (fun ((v555, v556) : (Int × Bool)) => mk 100 [] [(7, .i v555), (8, .b v556)] []) h ?_ ?_ <;> clear h
 ·intro o h
  refine AW.block ?_
  refine AW.iter (fun ((v181, v182, v183) : (Int × Bool × Int)) => mk 100 [] [(0, .d (.sl (a0.map (cL cS27)))), (1, .d (.sl (a1.map (cI .i64)))), (2, .d (.sl (a2.map cS27))), (7, .i v181), (8, .b v182), (15, .d (.sl (a0.map (cL cS27)))), (16, .i (a0.length : Int)), (17, .i v183)] []) h Sub.tt ?_
  clear h
  rintro ⟨v181, v182, v183⟩ x h
  dsimp only at h ⊢
  refine AW.seqR ?_
  refine Chain.runK [] 1 fun K hK => ?_; simp; refine hK _ _ ?_; clear hK K
  refine Chain.sub (S' := mk 100 [] [(0, .d (.sl (a0.map (cL cS27)))), (1, .d (.sl (a1.map (cI .i64)))), (2, .d (.sl (a2.map cS27))), (7, .i v181), (8, .b v182), (15, .d (.sl (a0.map (cL cS27)))), (16, .i (a0.length : Int)), (17, .i v183), (18, .b (decide (v183 < (a0.length : Int))))] []) Sub.tt ?_
  refine Chain.nil ?_
  refine AW.seq ?_
  replace h := isome h; rcases h with ⟨c557, h⟩ | ⟨c557, h⟩
  ·have c557_ : decide (v183 < (a0.length : Int)) = true := decide_eq_true c557
   refine AW.condT (b := decide (v183 < (a0.length : Int))) rfl c557_ ?_
   refine AW.sub (Sub.bool 18 (b := decide (v183 < (a0.length : Int))) rfl c557_) ?_
   refine AW.sub (S' := mk 100 [] [(0, .d (.sl (a0.map (cL cS27)))), (1, .d (.sl (a1.map (cI .i64)))), (2, .d (.sl (a2.map cS27))), (7, .i v181), (8, .b v182), (15, .d (.sl (a0.map (cL cS27)))), (16, .i (a0.length : Int)), (17, .i v183), (18, .b true)] []) (by simp; exact Sub.table (by simp) (by simp)) ?_
   refine AW.skip ?_
   refine thenQ_normal ?_
   refine AW.seqN (fun ((v648, v649) : (Int × Bool)) => mk 100 [] [(0, .d (.sl (a0.map (cL cS27)))), (1, .d (.sl (a1.map (cI .i64)))), (2, .d (.sl (a2.map cS27))), (7, .i v648), (8, .b v649), (15, .d (.sl (a0.map (cL cS27)))), (16, .i (a0.length : Int)), (17, .i v183)] []) h ?_ ?_ <;> clear h
   ·intro o h
    refine AW.block ?_
    refine AW.seqR ?_
    replace h := bsome h; obtain ⟨x650, hx650, h⟩ := h
    obtain ⟨k651, hx650k, hx650, hx650a, hx650b⟩ := idx_some hx650
    refine Chain.runK [] 5 fun K hK => ?_; simp [hx650, hx650k, hx650a]; refine hK _ _ ?_; clear hK K
    refine Chain.sub (S' := mk 100 [] [(0, .d (.sl (a0.map (cL cS27)))), (1, .d (.sl (a1.map (cI .i64)))), (2, .d (.sl (a2.map cS27))), (7, .i v181), (8, .b v182), (9, .i v183), (10, .d (.sl (x650.map cS27))), (15, .d (.sl (a0.map (cL cS27)))), (16, .i (a0.length : Int)), (17, .i v183)] []) Sub.tt ?_
    refine Chain.nil ?_
    refine AW.seq ?_
    refine AW.seqR ?_
    replace h := bsome h; obtain ⟨x652, hx652, h⟩ := h
    obtain ⟨hx652, hx652a, hx652b⟩ := idx_some2 hx652 hx650k
    refine Chain.runK [] 7 fun K hK => ?_; simp [hx652, hx650k, hx652a]; refine hK _ _ ?_; clear hK K
    refine Chain.sub (S' := mk 100 [] [(0, .d (.sl (a0.map (cL cS27)))), (1, .d (.sl (a1.map (cI .i64)))), (2, .d (.sl (a2.map cS27))), (7, .i v181), (8, .b v182), (9, .i v183), (10, .d (.sl (x650.map cS27))), (15, .d (.sl (a0.map (cL cS27)))), (16, .i (a0.length : Int)), (17, .i v183), (28, .b (x652 == (x650.length : Int)))] []) Sub.tt ?_
    refine Chain.nil ?_
    replace h := isome h; rcases h with ⟨c653, h⟩ | ⟨c653, h⟩
    ·have c653_ : (x652 == (x650.length : Int)) = true := c653
     refine AW.condT (b := (x652 == (x650.length : Int))) rfl c653_ ?_
     refine AW.sub (Sub.bool 28 (b := (x652 == (x650.length : Int))) rfl c653_) ?_
     refine AW.sub (S' := mk 100 [] [(0, .d (.sl (a0.map (cL cS27)))), (1, .d (.sl (a1.map (cI .i64)))), (2, .d (.sl (a2.map cS27))), (7, .i v181), (8, .b v182), (9, .i v183), (10, .d (.sl (x650.map cS27))), (15, .d (.sl (a0.map (cL cS27)))), (16, .i (a0.length : Int)), (17, .i v183), (28, .b true)] []) (by simp; exact Sub.table (by simp) (by simp)) ?_
     refine AW.exit ?_
     cases h
     refine thenQ_pass (by simp) ?_
     refine blockQ.hit ?_
     refine PostN.next ?_
     exact Sub.tt
    ·have c653_ : (x652 == (x650.length : Int)) = false := Bool.eq_false_iff.2 c653
     refine AW.condF (b := (x652 == (x650.length : Int))) rfl c653_ ?_
     refine AW.sub (Sub.bool 28 (b := (x652 == (x650.length : Int))) rfl c653_) ?_
     refine AW.sub (S' := mk 100 [] [(0, .d (.sl (a0.map (cL cS27)))), (1, .d (.sl (a1.map (cI .i64)))), (2, .d (.sl (a2.map cS27))), (7, .i v181), (8, .b v182), (9, .i v183), (10, .d (.sl (x650.map cS27))), (15, .d (.sl (a0.map (cL cS27)))), (16, .i (a0.length : Int)), (17, .i v183), (28, .b false)] []) (by simp; exact Sub.table (by simp) (by simp)) ?_
     refine AW.skip ?_
     refine thenQ_normal ?_
     refine AW.seqR ?_
     refine Chain.runK [] 1 fun K hK => ?_; simp; refine hK _ _ ?_; clear hK K
     refine Chain.sub (S' := mk 100 [] [(0, .d (.sl (a0.map (cL cS27)))), (1, .d (.sl (a1.map (cI .i64)))), (2, .d (.sl (a2.map cS27))), (7, .i v181), (8, .b false), (9, .i v183), (10, .d (.sl (x650.map cS27))), (15, .d (.sl (a0.map (cL cS27)))), (16, .i (a0.length : Int)), (17, .i v183)] []) Sub.tt ?_
     refine Chain.nil ?_
     refine AW.seqR ?_
     replace h := bsome h; obtain ⟨x654, hx654, h⟩ := h
     obtain ⟨k655, hx654k, hx654, hx654a, hx654b⟩ := idx_some hx654
     refine Chain.runK [] 9 fun K hK => ?_; simp [hx652, hx650k, hx652a, hx654, hx654k, hx654a]; refine hK _ _ ?_; clear hK K
     refine Chain.sub (S' := mk 100 [] [(0, .d (.sl (a0.map (cL cS27)))), (1, .d (.sl (a1.map (cI .i64)))), (2, .d (.sl (a2.map cS27))), (7, .i v181), (8, .b false), (9, .i v183), (11, .ptr 11 0 0), (15, .d (.sl (a0.map (cL cS27)))), (16, .i (a0.length : Int)), (17, .i v183)] [(11, some (.box [.i x654.Tx, .i x654.Kind, .d (.lit (.string x654.Key))]))]) Sub.tt ?_
     refine Chain.nil ?_
     refine AW.seqR ?_
     refine Chain.runK [] 1 fun K hK => ?_; simp; refine hK _ _ ?_; clear hK K
     refine Chain.sub (S' := mk 100 [] [(0, .d (.sl (a0.map (cL cS27)))), (1, .d (.sl (a1.map (cI .i64)))), (2, .d (.sl (a2.map cS27))), (7, .i v181), (8, .b false), (9, .i v183), (11, .ptr 11 0 0), (12, .b true), (15, .d (.sl (a0.map (cL cS27)))), (16, .i (a0.length : Int)), (17, .i v183)] [(11, some (.box [.i x654.Tx, .i x654.Kind, .d (.lit (.string x654.Key))]))]) Sub.tt ?_
     refine Chain.nil ?_
     refine AW.seq ?_
     refine AW.seqR ?_
     replace h := bsome h; obtain ⟨v656, hv656, h⟩ := h
     have hv656 := chkI_some hv656
     refine Chain.runK [] 4 fun K hK => ?_; simp [hv656]; refine hK _ _ ?_; clear hK K
     refine Chain.sub (S' := mk 100 [] [(0, .d (.sl (a0.map (cL cS27)))), (1, .d (.sl (a1.map (cI .i64)))), (2, .d (.sl (a2.map cS27))), (7, .i v181), (8, .b false), (9, .i v183), (11, .ptr 11 0 0), (12, .b true), (13, .i v656), (15, .d (.sl (a0.map (cL cS27)))), (16, .i (a0.length : Int)), (17, .i v183)] [(11, some (.box [.i x654.Tx, .i x654.Kind, .d (.lit (.string x654.Key))]))]) Sub.tt ?_
     refine Chain.nil ?_
     refine AW.lastN (fun (v712 : Bool) => mk 100 [] [(0, .d (.sl (a0.map (cL cS27)))), (1, .d (.sl (a1.map (cI .i64)))), (2, .d (.sl (a2.map cS27))), (7, .i v181), (8, .b false), (9, .i v183), (11, .ptr 11 0 0), (12, .b v712), (15, .d (.sl (a0.map (cL cS27)))), (16, .i (a0.length : Int)), (17, .i v183)] [(11, some (.box [.i x654.Tx, .i x654.Kind, .d (.lit (.string x654.Key))]))]) h ?_ ?_ <;> clear h
     ·intro o h
      refine AW.block ?_
      refine AW.iter (fun ((v672, v673) : (Bool × Int)) => mk 100 [] [(0, .d (.sl (a0.map (cL cS27)))), (1, .d (.sl (a1.map (cI .i64)))), (2, .d (.sl (a2.map cS27))), (7, .i v181), (8, .b false), (9, .i v183), (11, .ptr 11 0 0), (12, .b v672), (13, .i v673), (15, .d (.sl (a0.map (cL cS27)))), (16, .i (a0.length : Int)), (17, .i v183)] [(11, some (.box [.i x654.Tx, .i x654.Kind, .d (.lit (.string x654.Key))]))]) h Sub.tt ?_
      clear h
      rintro ⟨v672, v673⟩ x h
      dsimp only at h ⊢
      refine AW.seq ?_
      replace h := bsome h; obtain ⟨⟨v719, v720⟩, hj, h⟩ := h
      dsimp only at h
      refine AW.cutQ (by kernel_rfl) (by kernel_rfl) (mk 100 [] [(0, .d (.sl (a0.map (cL cS27)))), (1, .d (.sl (a1.map (cI .i64)))), (2, .d (.sl (a2.map cS27))), (7, .i v181), (8, .b false), (9, .i v183), (11, .ptr 11 0 0), (12, .b v719), (13, .i v673), (15, .d (.sl (a0.map (cL cS27)))), (16, .i (a0.length : Int)), (17, .i v183), (62, .b v720)] [(11, some (.box [.i x654.Tx, .i x654.Kind, .d (.lit (.string x654.Key))]))]) ?_ ?_
      ·clear h; have h := hj; clear hj
       refine Chain.runQ 3 fun K hK => ?_; simp; refine hK _ _ ?_; clear hK K
       refine Chain.sub (S' := mk 100 [] [(0, .d (.sl (a0.map (cL cS27)))), (1, .d (.sl (a1.map (cI .i64)))), (2, .d (.sl (a2.map cS27))), (7, .i v181), (8, .b false), (9, .i v183), (11, .ptr 11 0 0), (12, .b v672), (13, .i v673), (15, .d (.sl (a0.map (cL cS27)))), (16, .i (a0.length : Int)), (17, .i v183), (41, .b (decide (v673 ≥ 0)))] [(11, some (.box [.i x654.Tx, .i x654.Kind, .d (.lit (.string x654.Key))]))]) Sub.tt ?_
       replace h := isome h; rcases h with ⟨c721, h⟩ | ⟨c721, h⟩
       ·have c721_ : decide (v673 ≥ 0) = true := decide_eq_true c721
        refine Chain.sub (Sub.bool 41 (b := decide (v673 ≥ 0)) rfl c721_) ?_
        refine Chain.sub (S' := mk 100 [] [(0, .d (.sl (a0.map (cL cS27)))), (1, .d (.sl (a1.map (cI .i64)))), (2, .d (.sl (a2.map cS27))), (7, .i v181), (8, .b false), (9, .i v183), (11, .ptr 11 0 0), (12, .b v672), (13, .i v673), (15, .d (.sl (a0.map (cL cS27)))), (16, .i (a0.length : Int)), (17, .i v183), (41, .b true)] [(11, some (.box [.i x654.Tx, .i x654.Kind, .d (.lit (.string x654.Key))]))]) (by simp; exact Sub.table (by simp) (by simp)) ?_
        refine Chain.runQ 3 fun K hK => ?_; simp; refine hK _ _ ?_; clear hK K
        refine Chain.sub (S' := mk 100 [] [(0, .d (.sl (a0.map (cL cS27)))), (1, .d (.sl (a1.map (cI .i64)))), (2, .d (.sl (a2.map cS27))), (7, .i v181), (8, .b false), (9, .i v183), (11, .ptr 11 0 0), (12, .b v672), (13, .i v673), (15, .d (.sl (a0.map (cL cS27)))), (16, .i (a0.length : Int)), (17, .i v183), (42, .b v672), (44, .b v672)] [(11, some (.box [.i x654.Tx, .i x654.Kind, .d (.lit (.string x654.Key))]))]) Sub.tt ?_
        replace h := isome h; rcases h with ⟨c722, h⟩ | ⟨c722, h⟩
        ·have c722_ : v672 = true := c722
         refine Chain.sub (Sub.bool 12 (b := v672) rfl c722_) ?_
         refine Chain.sub (Sub.bool 42 (b := v672) rfl c722_) ?_
         refine Chain.sub (Sub.bool 44 (b := v672) rfl c722_) ?_
         refine Chain.sub (S' := mk 100 [] [(0, .d (.sl (a0.map (cL cS27)))), (1, .d (.sl (a1.map (cI .i64)))), (2, .d (.sl (a2.map cS27))), (7, .i v181), (8, .b false), (9, .i v183), (11, .ptr 11 0 0), (12, .b true), (13, .i v673), (15, .d (.sl (a0.map (cL cS27)))), (16, .i (a0.length : Int)), (17, .i v183), (42, .b true), (44, .b true)] [(11, some (.box [.i x654.Tx, .i x654.Kind, .d (.lit (.string x654.Key))]))]) (by simp; exact Sub.table (by simp) (by simp)) ?_
         replace h := bsome h; obtain ⟨x723, hx723, h⟩ := h
         obtain ⟨k724, hx723k, hx723, hx723a, hx723b⟩ := idx_some hx723
         refine Chain.runQ 10 fun K hK => ?_; simp [hx723, hx723k, hx723a]; refine hK _ _ ?_; clear hK K
         refine Chain.sub (S' := mk 100 [] [(0, .d (.sl (a0.map (cL cS27)))), (1, .d (.sl (a1.map (cI .i64)))), (2, .d (.sl (a2.map cS27))), (7, .i v181), (8, .b false), (9, .i v183), (11, .ptr 11 0 0), (12, .b true), (13, .i v673), (15, .d (.sl (a0.map (cL cS27)))), (16, .i (a0.length : Int)), (17, .i v183), (42, .b true), (45, .d (.sl (a2.map cS27))), (46, .i v673), (47, .d (.pim [.lit (.int .i64 x723.Tx), .lit (.int .i64 x723.Kind), .lit (.string x723.Key)])), (48, .d (.pim [.lit (.int .i64 x723.Tx), .lit (.int .i64 x723.Kind), .lit (.string x723.Key)])), (49, .i x723.Tx), (50, .ptr 11 0 0), (51, .i x654.Tx), (52, .b (x723.Tx != x654.Tx)), (54, .b (x723.Tx != x654.Tx))] [(11, some (.box [.i x654.Tx, .i x654.Kind, .d (.lit (.string x654.Key))]))]) Sub.tt ?_
         replace h := isome h; rcases h with ⟨c725, h⟩ | ⟨c725, h⟩
         ·have c725_ : (x723.Tx != x654.Tx) = true := c725
          refine Chain.sub (Sub.bool 52 (b := (x723.Tx != x654.Tx)) rfl c725_) ?_
          refine Chain.sub (Sub.bool 54 (b := (x723.Tx != x654.Tx)) rfl c725_) ?_
          refine Chain.sub (S' := mk 100 [] [(0, .d (.sl (a0.map (cL cS27)))), (1, .d (.sl (a1.map (cI .i64)))), (2, .d (.sl (a2.map cS27))), (7, .i v181), (8, .b false), (9, .i v183), (11, .ptr 11 0 0), (12, .b true), (13, .i v673), (15, .d (.sl (a0.map (cL cS27)))), (16, .i (a0.length : Int)), (17, .i v183), (42, .b true), (45, .d (.sl (a2.map cS27))), (46, .i v673), (47, .d (.pim [.lit (.int .i64 x723.Tx), .lit (.int .i64 x723.Kind), .lit (.string x723.Key)])), (48, .d (.pim [.lit (.int .i64 x723.Tx), .lit (.int .i64 x723.Kind), .lit (.string x723.Key)])), (49, .i x723.Tx), (50, .ptr 11 0 0), (51, .i x654.Tx), (52, .b true), (54, .b true)] [(11, some (.box [.i x654.Tx, .i x654.Kind, .d (.lit (.string x654.Key))]))]) (by simp; exact Sub.table (by simp) (by simp)) ?_
          refine Chain.runQ 5 fun K hK => ?_; simp [hx723, hx723k, hx723a]; refine hK _ _ ?_; clear hK K
          refine Chain.sub (S' := mk 100 [] [(0, .d (.sl (a0.map (cL cS27)))), (1, .d (.sl (a1.map (cI .i64)))), (2, .d (.sl (a2.map cS27))), (7, .i v181), (8, .b false), (9, .i v183), (11, .ptr 11 0 0), (12, .b true), (13, .i v673), (15, .d (.sl (a0.map (cL cS27)))), (16, .i (a0.length : Int)), (17, .i v183), (42, .b true), (45, .d (.sl (a2.map cS27))), (46, .i v673), (47, .d (.pim [.lit (.int .i64 x723.Tx), .lit (.int .i64 x723.Kind), .lit (.string x723.Key)])), (48, .d (.pim [.lit (.int .i64 x723.Tx), .lit (.int .i64 x723.Kind), .lit (.string x723.Key)])), (49, .i x723.Tx), (50, .ptr 11 0 0), (51, .i x654.Tx), (52, .b true), (54, .b true), (55, .d (.sl (a2.map cS27))), (56, .i v673), (57, .d (.pim [.lit (.int .i64 x723.Tx), .lit (.int .i64 x723.Kind), .lit (.string x723.Key)])), (58, .agg [.i x723.Tx, .i x723.Kind, .d (.lit (.string x723.Key))]), (59, .agg [.i x654.Tx, .i x654.Kind, .d (.lit (.string x654.Key))])] [(11, some (.box [.i x654.Tx, .i x654.Kind, .d (.lit (.string x654.Key))]))]) Sub.tt ?_
          replace h := bsome h; obtain ⟨r726, hr726, h⟩ := h
          refine Chain.callL (d := 60) (p19 N x723 x654 r726 hr726) (by simp) rfl rfl (by simp <;> rfl) (by simp <;> rfl) ent19 (by simp <;> rfl) ?_
          refine Chain.sub (S' := mk 100 [] [(0, .d (.sl (a0.map (cL cS27)))), (1, .d (.sl (a1.map (cI .i64)))), (2, .d (.sl (a2.map cS27))), (7, .i v181), (8, .b false), (9, .i v183), (11, .ptr 11 0 0), (12, .b true), (13, .i v673), (15, .d (.sl (a0.map (cL cS27)))), (16, .i (a0.length : Int)), (17, .i v183), (42, .b true), (45, .d (.sl (a2.map cS27))), (46, .i v673), (47, .d (.pim [.lit (.int .i64 x723.Tx), .lit (.int .i64 x723.Kind), .lit (.string x723.Key)])), (48, .d (.pim [.lit (.int .i64 x723.Tx), .lit (.int .i64 x723.Kind), .lit (.string x723.Key)])), (49, .i x723.Tx), (50, .ptr 11 0 0), (51, .i x654.Tx), (52, .b true), (54, .b true), (55, .d (.sl (a2.map cS27))), (56, .i v673), (57, .d (.pim [.lit (.int .i64 x723.Tx), .lit (.int .i64 x723.Kind), .lit (.string x723.Key)])), (58, .agg [.i x723.Tx, .i x723.Kind, .d (.lit (.string x723.Key))]), (59, .agg [.i x654.Tx, .i x654.Kind, .d (.lit (.string x654.Key))]), (60, .b r726)] [(11, some (.box [.i x654.Tx, .i x654.Kind, .d (.lit (.string x654.Key))]))]) (by simp; exact Sub.table (by simp) (by simp)) ?_
          refine Chain.runQ 2 fun K hK => ?_; simp; refine hK _ _ ?_; clear hK K
          refine Chain.sub (S' := mk 100 [] [(0, .d (.sl (a0.map (cL cS27)))), (1, .d (.sl (a1.map (cI .i64)))), (2, .d (.sl (a2.map cS27))), (7, .i v181), (8, .b false), (9, .i v183), (11, .ptr 11 0 0), (12, .b true), (13, .i v673), (15, .d (.sl (a0.map (cL cS27)))), (16, .i (a0.length : Int)), (17, .i v183), (42, .b true), (45, .d (.sl (a2.map cS27))), (46, .i v673), (47, .d (.pim [.lit (.int .i64 x723.Tx), .lit (.int .i64 x723.Kind), .lit (.string x723.Key)])), (48, .d (.pim [.lit (.int .i64 x723.Tx), .lit (.int .i64 x723.Kind), .lit (.string x723.Key)])), (49, .i x723.Tx), (50, .ptr 11 0 0), (51, .i x654.Tx), (52, .b true), (55, .d (.sl (a2.map cS27))), (56, .i v673), (57, .d (.pim [.lit (.int .i64 x723.Tx), .lit (.int .i64 x723.Kind), .lit (.string x723.Key)])), (58, .agg [.i x723.Tx, .i x723.Kind, .d (.lit (.string x723.Key))]), (59, .agg [.i x654.Tx, .i x654.Kind, .d (.lit (.string x654.Key))]), (60, .b r726), (61, .b (!r726)), (62, .b (!r726))] [(11, some (.box [.i x654.Tx, .i x654.Kind, .d (.lit (.string x654.Key))]))]) Sub.tt ?_
          cases h
          exact Chain.nil Sub.tt
         ·have c725_ : (x723.Tx != x654.Tx) = false := Bool.eq_false_iff.2 c725
          refine Chain.sub (Sub.bool 52 (b := (x723.Tx != x654.Tx)) rfl c725_) ?_
          refine Chain.sub (Sub.bool 54 (b := (x723.Tx != x654.Tx)) rfl c725_) ?_
          refine Chain.sub (S' := mk 100 [] [(0, .d (.sl (a0.map (cL cS27)))), (1, .d (.sl (a1.map (cI .i64)))), (2, .d (.sl (a2.map cS27))), (7, .i v181), (8, .b false), (9, .i v183), (11, .ptr 11 0 0), (12, .b true), (13, .i v673), (15, .d (.sl (a0.map (cL cS27)))), (16, .i (a0.length : Int)), (17, .i v183), (42, .b true), (45, .d (.sl (a2.map cS27))), (46, .i v673), (47, .d (.pim [.lit (.int .i64 x723.Tx), .lit (.int .i64 x723.Kind), .lit (.string x723.Key)])), (48, .d (.pim [.lit (.int .i64 x723.Tx), .lit (.int .i64 x723.Kind), .lit (.string x723.Key)])), (49, .i x723.Tx), (50, .ptr 11 0 0), (51, .i x654.Tx), (52, .b false), (54, .b false)] [(11, some (.box [.i x654.Tx, .i x654.Kind, .d (.lit (.string x654.Key))]))]) (by simp; exact Sub.table (by simp) (by simp)) ?_
          refine Chain.runQ 8 fun K hK => ?_; simp; refine hK _ _ ?_; clear hK K
          refine Chain.sub (S' := mk 100 [] [(0, .d (.sl (a0.map (cL cS27)))), (1, .d (.sl (a1.map (cI .i64)))), (2, .d (.sl (a2.map cS27))), (7, .i v181), (8, .b false), (9, .i v183), (11, .ptr 11 0 0), (12, .b true), (13, .i v673), (15, .d (.sl (a0.map (cL cS27)))), (16, .i (a0.length : Int)), (17, .i v183), (42, .b true), (45, .d (.sl (a2.map cS27))), (46, .i v673), (47, .d (.pim [.lit (.int .i64 x723.Tx), .lit (.int .i64 x723.Kind), .lit (.string x723.Key)])), (48, .d (.pim [.lit (.int .i64 x723.Tx), .lit (.int .i64 x723.Kind), .lit (.string x723.Key)])), (49, .i x723.Tx), (50, .ptr 11 0 0), (51, .i x654.Tx), (52, .b false), (55, .tup []), (56, .tup []), (57, .tup []), (58, .tup []), (59, .tup []), (60, .tup []), (61, .tup []), (62, .b false)] [(11, some (.box [.i x654.Tx, .i x654.Kind, .d (.lit (.string x654.Key))]))]) Sub.tt ?_
          cases h
          exact Chain.nil Sub.tt
        ·have c722_ : v672 = false := Bool.eq_false_iff.2 c722
         refine Chain.sub (Sub.bool 12 (b := v672) rfl c722_) ?_
         refine Chain.sub (Sub.bool 42 (b := v672) rfl c722_) ?_
         refine Chain.sub (Sub.bool 44 (b := v672) rfl c722_) ?_
         refine Chain.sub (S' := mk 100 [] [(0, .d (.sl (a0.map (cL cS27)))), (1, .d (.sl (a1.map (cI .i64)))), (2, .d (.sl (a2.map cS27))), (7, .i v181), (8, .b false), (9, .i v183), (11, .ptr 11 0 0), (12, .b false), (13, .i v673), (15, .d (.sl (a0.map (cL cS27)))), (16, .i (a0.length : Int)), (17, .i v183), (42, .b false), (44, .b false)] [(11, some (.box [.i x654.Tx, .i x654.Kind, .d (.lit (.string x654.Key))]))]) (by simp; exact Sub.table (by simp) (by simp)) ?_
         refine Chain.runQ 18 fun K hK => ?_; simp; refine hK _ _ ?_; clear hK K
         refine Chain.sub (S' := mk 100 [] [(0, .d (.sl (a0.map (cL cS27)))), (1, .d (.sl (a1.map (cI .i64)))), (2, .d (.sl (a2.map cS27))), (7, .i v181), (8, .b false), (9, .i v183), (11, .ptr 11 0 0), (12, .b false), (13, .i v673), (15, .d (.sl (a0.map (cL cS27)))), (16, .i (a0.length : Int)), (17, .i v183), (42, .b false), (45, .tup []), (46, .tup []), (47, .tup []), (48, .tup []), (49, .tup []), (50, .tup []), (51, .tup []), (52, .tup []), (55, .tup []), (56, .tup []), (57, .tup []), (58, .tup []), (59, .tup []), (60, .tup []), (61, .tup []), (62, .b false)] [(11, some (.box [.i x654.Tx, .i x654.Kind, .d (.lit (.string x654.Key))]))]) Sub.tt ?_
         cases h
         exact Chain.nil Sub.tt
       ·have c721_ : decide (v673 ≥ 0) = false := decide_eq_false c721
        refine Chain.sub (Sub.bool 41 (b := decide (v673 ≥ 0)) rfl c721_) ?_
        refine Chain.sub (S' := mk 100 [] [(0, .d (.sl (a0.map (cL cS27)))), (1, .d (.sl (a1.map (cI .i64)))), (2, .d (.sl (a2.map cS27))), (7, .i v181), (8, .b false), (9, .i v183), (11, .ptr 11 0 0), (12, .b v672), (13, .i v673), (15, .d (.sl (a0.map (cL cS27)))), (16, .i (a0.length : Int)), (17, .i v183), (41, .b false)] [(11, some (.box [.i x654.Tx, .i x654.Kind, .d (.lit (.string x654.Key))]))]) (by simp; exact Sub.table (by simp) (by simp)) ?_
        refine Chain.runQ 21 fun K hK => ?_; simp; refine hK _ _ ?_; clear hK K
        refine Chain.sub (S' := mk 100 [] [(0, .d (.sl (a0.map (cL cS27)))), (1, .d (.sl (a1.map (cI .i64)))), (2, .d (.sl (a2.map cS27))), (7, .i v181), (8, .b false), (9, .i v183), (11, .ptr 11 0 0), (12, .b v672), (13, .i v673), (15, .d (.sl (a0.map (cL cS27)))), (16, .i (a0.length : Int)), (17, .i v183), (42, .tup []), (45, .tup []), (46, .tup []), (47, .tup []), (48, .tup []), (49, .tup []), (50, .tup []), (51, .tup []), (52, .tup []), (55, .tup []), (56, .tup []), (57, .tup []), (58, .tup []), (59, .tup []), (60, .tup []), (61, .tup []), (62, .b false)] [(11, some (.box [.i x654.Tx, .i x654.Kind, .d (.lit (.string x654.Key))]))]) Sub.tt ?_
        cases h
        exact Chain.nil Sub.tt
      ·clear hj
       replace h := isome h; rcases h with ⟨c727, h⟩ | ⟨c727, h⟩
       ·have c727_ : v720 = true := c727
        refine AW.condT (b := v720) rfl c727_ ?_
        refine AW.sub (Sub.bool 62 (b := v720) rfl c727_) ?_
        refine AW.sub (S' := mk 100 [] [(0, .d (.sl (a0.map (cL cS27)))), (1, .d (.sl (a1.map (cI .i64)))), (2, .d (.sl (a2.map cS27))), (7, .i v181), (8, .b false), (9, .i v183), (11, .ptr 11 0 0), (12, .b v719), (13, .i v673), (15, .d (.sl (a0.map (cL cS27)))), (16, .i (a0.length : Int)), (17, .i v183), (62, .b true)] [(11, some (.box [.i x654.Tx, .i x654.Kind, .d (.lit (.string x654.Key))]))]) (by simp; exact Sub.table (by simp) (by simp)) ?_
        refine AW.skip ?_
        refine thenQ_normal ?_
        refine AW.seq ?_
        refine AW.block ?_
        refine AW.regionQ (by kernel_rfl) (by kernel_rfl) ?_
        replace h := bsome h; obtain ⟨x728, hx728, h⟩ := h
        obtain ⟨k729, hx728k, hx728, hx728a, hx728b⟩ := idx_some hx728
        refine Chain.runQ 9 fun K hK => ?_; simp [hx728, hx728k, hx728a]; refine hK _ _ ?_; clear hK K
        refine Chain.sub (S' := mk 100 [] [(0, .d (.sl (a0.map (cL cS27)))), (1, .d (.sl (a1.map (cI .i64)))), (2, .d (.sl (a2.map cS27))), (7, .i v181), (8, .b false), (9, .i v183), (11, .ptr 11 0 0), (12, .b (decide (x728.Tx < x654.Tx))), (13, .i v673), (15, .d (.sl (a0.map (cL cS27)))), (16, .i (a0.length : Int)), (17, .i v183)] [(11, some (.box [.i x654.Tx, .i x654.Kind, .d (.lit (.string x654.Key))]))]) Sub.tt ?_
        refine Chain.nil ?_
        refine blockQ.normal ?_
        refine thenQ_normal ?_
        refine AW.region ?_
        replace h := bsome h; obtain ⟨v730, hv730, h⟩ := h
        have hv730 := chkI_some hv730
        refine Chain.runK [] 3 fun K hK => ?_; simp [hv730]; refine hK _ _ ?_; clear hK K
        refine Chain.sub (S' := mk 100 [] [(0, .d (.sl (a0.map (cL cS27)))), (1, .d (.sl (a1.map (cI .i64)))), (2, .d (.sl (a2.map cS27))), (7, .i v181), (8, .b false), (9, .i v183), (11, .ptr 11 0 0), (12, .b (decide (x728.Tx < x654.Tx))), (13, .i v730), (15, .d (.sl (a0.map (cL cS27)))), (16, .i (a0.length : Int)), (17, .i v183)] [(11, some (.box [.i x654.Tx, .i x654.Kind, .d (.lit (.string x654.Key))]))]) Sub.tt ?_
        refine Chain.nil ?_
        cases h
        refine PostI.next ?_
        exact Sub.tt
       ·have c727_ : v720 = false := Bool.eq_false_iff.2 c727
        refine AW.condF (b := v720) rfl c727_ ?_
        refine AW.sub (Sub.bool 62 (b := v720) rfl c727_) ?_
        refine AW.sub (S' := mk 100 [] [(0, .d (.sl (a0.map (cL cS27)))), (1, .d (.sl (a1.map (cI .i64)))), (2, .d (.sl (a2.map cS27))), (7, .i v181), (8, .b false), (9, .i v183), (11, .ptr 11 0 0), (12, .b v719), (13, .i v673), (15, .d (.sl (a0.map (cL cS27)))), (16, .i (a0.length : Int)), (17, .i v183), (62, .b false)] [(11, some (.box [.i x654.Tx, .i x654.Kind, .d (.lit (.string x654.Key))]))]) (by simp; exact Sub.table (by simp) (by simp)) ?_
        refine AW.exit ?_
        cases h
        refine thenQ_pass (by simp) ?_
        refine PostI.out (by simp) ?_
        rintro rfl
        refine blockQ.hit ?_
        refine PostN.next ?_
        exact Sub.tt
     ·rintro v712 h
      refine thenQ_normal ?_
      refine AW.seqR ?_
      refine Chain.runK [] 1 fun K hK => ?_; simp; refine hK _ _ ?_; clear hK K
      refine Chain.sub (S' := mk 100 [] [(0, .d (.sl (a0.map (cL cS27)))), (1, .d (.sl (a1.map (cI .i64)))), (2, .d (.sl (a2.map cS27))), (7, .i v181), (8, .b false), (9, .i v183), (11, .ptr 11 0 0), (15, .d (.sl (a0.map (cL cS27)))), (16, .i (a0.length : Int)), (17, .i v183), (73, .b v712)] [(11, some (.box [.i x654.Tx, .i x654.Kind, .d (.lit (.string x654.Key))]))]) Sub.tt ?_
      refine Chain.nil ?_
      replace h := isome h; rcases h with ⟨c731, h⟩ | ⟨c731, h⟩
      ·have c731_ : v712 = true := c731
       refine AW.condT (b := v712) rfl c731_ ?_
       refine AW.sub (Sub.bool 73 (b := v712) rfl c731_) ?_
       refine AW.sub (S' := mk 100 [] [(0, .d (.sl (a0.map (cL cS27)))), (1, .d (.sl (a1.map (cI .i64)))), (2, .d (.sl (a2.map cS27))), (7, .i v181), (8, .b false), (9, .i v183), (11, .ptr 11 0 0), (15, .d (.sl (a0.map (cL cS27)))), (16, .i (a0.length : Int)), (17, .i v183), (73, .b true)] [(11, some (.box [.i x654.Tx, .i x654.Kind, .d (.lit (.string x654.Key))]))]) (by simp; exact Sub.table (by simp) (by simp)) ?_
       refine AW.seqR ?_
       replace h := bsome h; obtain ⟨l732, hl732, h⟩ := h
       obtain ⟨hl732a, hl732⟩ := appL_some hl732
       subst hl732
       try simp only [List.length_nil, Nat.zero_add] at hl732a
       refine Chain.runK [] 4 fun K hK => ?_; simp [hl732a]; refine hK _ _ ?_; clear hK K
       refine Chain.sub (S' := mk 100 [] [(0, .d (.sl (a0.map (cL cS27)))), (1, .d (.sl (a1.map (cI .i64)))), (2, .d (.sl (a2.map cS27))), (7, .i v181), (8, .b false), (9, .i v183), (11, .ptr 11 0 0), (14, .ref 74 0 a1.length), (15, .d (.sl (a0.map (cL cS27)))), (16, .i (a0.length : Int)), (17, .i v183)] [(11, some (.box [.i x654.Tx, .i x654.Kind, .d (.lit (.string x654.Key))])), (74, R3 a1)]) (Sub.table (by simp) (by simp)) ?_
       refine Chain.nil ?_
       refine AW.seqR ?_
       replace h := bsome h; obtain ⟨x733, hx733, h⟩ := h
       obtain ⟨k734, hx733k, hx733, hx733a, hx733b⟩ := idx_some hx733
       replace h := bsome h; obtain ⟨v735, hv735, h⟩ := h
       have hv735 := chkI_some hv735
       replace h := lsome h; obtain ⟨l736, gl736, h⟩ := h
       obtain ⟨hl736, hl736n⟩ := setI_some (cI .i64) gl736 hx733k
       replace hl736 : (a1.map (cI .i64)).set k734 [.lit (.int .i64 v735)] = l736.map (cI .i64) := hl736
       clear gl736
       refine Chain.runK [] 7 fun K hK => ?_; simp [hx733, hx733k, hx733a, hx733b, hv735, hl736]; refine hK _ _ ?_; clear hK K
       refine Chain.sub (S' := mk 100 [] [(0, .d (.sl (a0.map (cL cS27)))), (1, .d (.sl (a1.map (cI .i64)))), (2, .d (.sl (a2.map cS27))), (7, .i v181), (8, .b false), (11, .ptr 11 0 0), (14, .ref 74 0 l736.length), (15, .d (.sl (a0.map (cL cS27)))), (16, .i (a0.length : Int)), (17, .i v183)] [(11, some (.box [.i x654.Tx, .i x654.Kind, .d (.lit (.string x654.Key))])), (74, R3 l736)]) (Sub.table (by simp [hl736n]) (by simp)) ?_
       refine Chain.nil ?_
       replace h := bsome h; obtain ⟨l737, hl737, h⟩ := h
       obtain ⟨hl737a, hl737⟩ := appL_some hl737
       subst hl737
       try simp only [List.length_cons, List.length_nil, Nat.zero_add] at hl737a
       replace h := bsome h; obtain ⟨r738, hr738, h⟩ := h
       replace h := bsome h; obtain ⟨v739, hv739, h⟩ := h
       have hv739 := chkI_some hv739
       refine AW.lastAnyS [[], [], [], [], [], [4], [], [6], [3, 4, 5, 6, 7], [], [9], [3, 4, 5, 6, 7, 8, 9, 10], [1, 2, 3, 4, 5, 6, 7, 8, 9, 10, 11], [0, 1, 2, 3, 4, 5, 6, 7, 8, 9, 10, 11, 12], [0, 1, 2, 3, 4, 5, 6, 7, 8, 9, 10, 11, 12, 13]] (fun (b : Nat → Bool) => mk 100 [] [(0, .d (.sl (a0.map (cL cS27)))), (1, .d (.sl (a1.map (cI .i64)))), (2, .d (.sl (a2.map cS27))), (7, (if b 14 then .i v739 else .i v181)), (8, .b false), (11, .ptr 11 0 0), (14, .ref 74 0 l736.length), (15, .d (.sl (a0.map (cL cS27)))), (16, .i (a0.length : Int)), (17, .i v183), (83, (if b 0 then .i v181 else .junk)), (84, (if b 1 then .d (.sl (a0.map (cL cS27))) else .junk)), (85, (if b 2 then .ref 74 0 l736.length else .junk)), (86, (if b 3 then .d (.sl (a2.map cS27)) else .junk)), (87, (if b 4 then .d (.sl (a2.map cS27)) else .junk)), (88, (if b 5 then .i (a2.length : Int) else .junk)), (89, (if b 6 then .d (.sl (a2.map cS27)) else .junk)), (90, (if b 7 then .i (a2.length : Int) else .junk)), (91, (if b 8 then .dx (a2.map cS27) else .junk)), (92, (if b 9 then .agg [.i x654.Tx, .i x654.Kind, .d (.lit (.string x654.Key))] else .junk)), (93, (if b 10 then .d (.sl ([x654].map cS27)) else .junk)), (94, (if b 11 then .ref 94 0 ((a2 ++ [x654]).length) else .junk)), (95, (if b 12 then .i r738 else .junk)), (96, (if b 13 then .i v739 else .junk))] [(11, some (.box [.i x654.Tx, .i x654.Kind, .d (.lit (.string x654.Key))])), (74, R3 l736), (94, (if b 11 then R34 (a2 ++ [x654]) else none))]) (mk 100 [] [(0, .d (.sl (a0.map (cL cS27)))), (1, .d (.sl (a1.map (cI .i64)))), (2, .d (.sl (a2.map cS27))), (7, .i v739), (8, .b false), (15, .d (.sl (a0.map (cL cS27)))), (16, .i (a0.length : Int)), (17, .i v183)] []) (by kernel_rfl) (by kernel_rfl) Sub.tt (Steps.cons ?_ (Steps.cons ?_ (Steps.cons ?_ (Steps.cons ?_ (Steps.cons ?_ (Steps.cons ?_ (Steps.cons ?_ (Steps.cons ?_ (Steps.cons ?_ (Steps.cons ?_ (Steps.cons ?_ (Steps.cons ?_ (Steps.cons ?_ (Steps.cons ?_ (Steps.cons ?_ (Steps.nil)))))))))))))))) ?_ ?_
       ·intro b h0 ha hd
        have f13 : b 13 = false := hd 13 (by decide)
        have f14 : b 14 = false := hd 14 (by decide)
        refine Chain.runK [93] 1 fun K hK => ?_; simp [h0, f13, f14]; refine hK _ _ ?_; clear hK K
        exact Chain.nil (Sub.table (by simp [f13, f14]) (by simp))
       ·intro b h0 ha hd
        have f12 : b 12 = false := hd 12 (by decide)
        have f13 : b 13 = false := hd 13 (by decide)
        have f14 : b 14 = false := hd 14 (by decide)
        refine Chain.runK [93] 1 fun K hK => ?_; simp [h0, f12, f13, f14]; refine hK _ _ ?_; clear hK K
        exact Chain.nil (Sub.table (by simp [f12, f13, f14]) (by simp))
       ·intro b h0 ha hd
        have f12 : b 12 = false := hd 12 (by decide)
        have f13 : b 13 = false := hd 13 (by decide)
        have f14 : b 14 = false := hd 14 (by decide)
        refine Chain.runK [93] 1 fun K hK => ?_; simp [h0, f12, f13, f14]; refine hK _ _ ?_; clear hK K
        exact Chain.nil (Sub.table (by simp [f12, f13, f14]) (by simp))
       ·intro b h0 ha hd
        have f8 : b 8 = false := hd 8 (by decide)
        have f11 : b 11 = false := hd 11 (by decide)
        have f12 : b 12 = false := hd 12 (by decide)
        have f13 : b 13 = false := hd 13 (by decide)
        have f14 : b 14 = false := hd 14 (by decide)
        refine Chain.runK [93] 1 fun K hK => ?_; simp [h0, f8, f11, f12, f13, f14]; refine hK _ _ ?_; clear hK K
        exact Chain.nil (Sub.table (by simp [f8, f11, f12, f13, f14]) (by simp [f11]))
       ·intro b h0 ha hd
        have f5 : b 5 = false := hd 5 (by decide)
        have f8 : b 8 = false := hd 8 (by decide)
        have f11 : b 11 = false := hd 11 (by decide)
        have f12 : b 12 = false := hd 12 (by decide)
        have f13 : b 13 = false := hd 13 (by decide)
        have f14 : b 14 = false := hd 14 (by decide)
        refine Chain.runK [93] 1 fun K hK => ?_; simp [h0, f5, f8, f11, f12, f13, f14]; refine hK _ _ ?_; clear hK K
        exact Chain.nil (Sub.table (by simp [f5, f8, f11, f12, f13, f14]) (by simp [f11]))
       ·intro b h0 ha hd
        have t4 : b 4 = true := ha 4 (by decide)
        have f8 : b 8 = false := hd 8 (by decide)
        have f11 : b 11 = false := hd 11 (by decide)
        have f12 : b 12 = false := hd 12 (by decide)
        have f13 : b 13 = false := hd 13 (by decide)
        have f14 : b 14 = false := hd 14 (by decide)
        refine Chain.runK [93] 1 fun K hK => ?_; simp [h0, t4, f8, f11, f12, f13, f14]; refine hK _ _ ?_; clear hK K
        exact Chain.nil (Sub.table (by simp [t4, f8, f11, f12, f13, f14]) (by simp [f11]))
       ·intro b h0 ha hd
        have f7 : b 7 = false := hd 7 (by decide)
        have f8 : b 8 = false := hd 8 (by decide)
        have f11 : b 11 = false := hd 11 (by decide)
        have f12 : b 12 = false := hd 12 (by decide)
        have f13 : b 13 = false := hd 13 (by decide)
        have f14 : b 14 = false := hd 14 (by decide)
        refine Chain.runK [93] 1 fun K hK => ?_; simp [h0, f7, f8, f11, f12, f13, f14]; refine hK _ _ ?_; clear hK K
        exact Chain.nil (Sub.table (by simp [f7, f8, f11, f12, f13, f14]) (by simp [f11]))
       ·intro b h0 ha hd
        have t6 : b 6 = true := ha 6 (by decide)
        have f8 : b 8 = false := hd 8 (by decide)
        have f11 : b 11 = false := hd 11 (by decide)
        have f12 : b 12 = false := hd 12 (by decide)
        have f13 : b 13 = false := hd 13 (by decide)
        have f14 : b 14 = false := hd 14 (by decide)
        refine Chain.runK [93] 1 fun K hK => ?_; simp [h0, t6, f8, f11, f12, f13, f14]; refine hK _ _ ?_; clear hK K
        exact Chain.nil (Sub.table (by simp [t6, f8, f11, f12, f13, f14]) (by simp [f11]))
       ·intro b h0 ha hd
        have t3 : b 3 = true := ha 3 (by decide)
        have t4 : b 4 = true := ha 4 (by decide)
        have t5 : b 5 = true := ha 5 (by decide)
        have t6 : b 6 = true := ha 6 (by decide)
        have t7 : b 7 = true := ha 7 (by decide)
        have f11 : b 11 = false := hd 11 (by decide)
        have f12 : b 12 = false := hd 12 (by decide)
        have f13 : b 13 = false := hd 13 (by decide)
        have f14 : b 14 = false := hd 14 (by decide)
        refine Chain.runK [93] 1 fun K hK => ?_; simp [h0, t3, t4, t5, t6, t7, f11, f12, f13, f14]; refine hK _ _ ?_; clear hK K
        exact Chain.nil (Sub.table (by simp [t3, t4, t5, t6, t7, f11, f12, f13, f14]) (by simp [f11]))
       ·intro b h0 ha hd
        have f10 : b 10 = false := hd 10 (by decide)
        have f11 : b 11 = false := hd 11 (by decide)
        have f12 : b 12 = false := hd 12 (by decide)
        have f13 : b 13 = false := hd 13 (by decide)
        have f14 : b 14 = false := hd 14 (by decide)
        refine Chain.runK [93] 1 fun K hK => ?_; simp [h0, f10, f11, f12, f13, f14]; refine hK _ _ ?_; clear hK K
        exact Chain.nil (Sub.table (by simp [f10, f11, f12, f13, f14]) (by simp [f11]))
       ·intro b h0 ha hd
        have t9 : b 9 = true := ha 9 (by decide)
        have f11 : b 11 = false := hd 11 (by decide)
        have f12 : b 12 = false := hd 12 (by decide)
        have f13 : b 13 = false := hd 13 (by decide)
        have f14 : b 14 = false := hd 14 (by decide)
        refine Chain.runK [93] 1 fun K hK => ?_; simp [h0, t9, f11, f12, f13, f14]; refine hK _ _ ?_; clear hK K
        exact Chain.nil (Sub.table (by simp [t9, f11, f12, f13, f14]) (by simp [f11]))
       ·intro b h0 ha hd
        have t3 : b 3 = true := ha 3 (by decide)
        have t4 : b 4 = true := ha 4 (by decide)
        have t5 : b 5 = true := ha 5 (by decide)
        have t6 : b 6 = true := ha 6 (by decide)
        have t7 : b 7 = true := ha 7 (by decide)
        have t8 : b 8 = true := ha 8 (by decide)
        have t9 : b 9 = true := ha 9 (by decide)
        have t10 : b 10 = true := ha 10 (by decide)
        have f12 : b 12 = false := hd 12 (by decide)
        have f13 : b 13 = false := hd 13 (by decide)
        have f14 : b 14 = false := hd 14 (by decide)
        simp only [h0, t3, t4, t5, t6, t7, t8, t9, t10, f12, f13, f14, if_true, if_false, Bool.false_eq_true]
        refine Chain.appDx (d := 94) (es := a2.map cS27) (ys := ([x654] : List S27).map cS27) (te := ⟨_, 3, 32, _⟩) (by simp) rfl rfl rfl rfl ty30 rfl ty34 rfl rfl rfl (by simp) (by simp [srcV]) (by simp) (by simp) (by decide) (by decide) rfl (by simp [hl737a]) ?_
        exact Chain.nil (by simp [t3, t4, t5, t6, t7, t8, t9, t10, f12, f13, f14]; exact Sub.table (by simp) (by simp))
       ·intro b h0 ha hd
        have t1 : b 1 = true := ha 1 (by decide)
        have t2 : b 2 = true := ha 2 (by decide)
        have t3 : b 3 = true := ha 3 (by decide)
        have t4 : b 4 = true := ha 4 (by decide)
        have t5 : b 5 = true := ha 5 (by decide)
        have t6 : b 6 = true := ha 6 (by decide)
        have t7 : b 7 = true := ha 7 (by decide)
        have t8 : b 8 = true := ha 8 (by decide)
        have t9 : b 9 = true := ha 9 (by decide)
        have t10 : b 10 = true := ha 10 (by decide)
        have t11 : b 11 = true := ha 11 (by decide)
        have f13 : b 13 = false := hd 13 (by decide)
        have f14 : b 14 = false := hd 14 (by decide)
        simp only [h0, t1, t2, t3, t4, t5, t6, t7, t8, t9, t10, t11, f13, f14, if_true, if_false, Bool.false_eq_true]
        refine Chain.callL (d := 95) (ih a0 l736 (a2 ++ [x654]) r738 hr738) (by simp) rfl rfl (by simp <;> rfl) (by simp <;> rfl) ent11 (by simp <;> rfl) ?_
        exact Chain.nil (by simp [t1, t2, t3, t4, t5, t6, t7, t8, t9, t10, t11, f13, f14]; exact Sub.table (by simp) (by simp))
       ·intro b h0 ha hd
        have t0 : b 0 = true := ha 0 (by decide)
        have t1 : b 1 = true := ha 1 (by decide)
        have t2 : b 2 = true := ha 2 (by decide)
        have t3 : b 3 = true := ha 3 (by decide)
        have t4 : b 4 = true := ha 4 (by decide)
        have t5 : b 5 = true := ha 5 (by decide)
        have t6 : b 6 = true := ha 6 (by decide)
        have t7 : b 7 = true := ha 7 (by decide)
        have t8 : b 8 = true := ha 8 (by decide)
        have t9 : b 9 = true := ha 9 (by decide)
        have t10 : b 10 = true := ha 10 (by decide)
        have t11 : b 11 = true := ha 11 (by decide)
        have t12 : b 12 = true := ha 12 (by decide)
        have f14 : b 14 = false := hd 14 (by decide)
        refine Chain.runK [93] 1 fun K hK => ?_; simp [h0, t0, t1, t2, t3, t4, t5, t6, t7, t8, t9, t10, t11, t12, f14, hv739]; refine hK _ _ ?_; clear hK K
        exact Chain.nil (Sub.table (by simp [t0, t1, t2, t3, t4, t5, t6, t7, t8, t9, t10, t11, t12, f14]) (by simp [t11]))
       ·intro b h0 ha hd
        have t0 : b 0 = true := ha 0 (by decide)
        have t1 : b 1 = true := ha 1 (by decide)
        have t2 : b 2 = true := ha 2 (by decide)
        have t3 : b 3 = true := ha 3 (by decide)
        have t4 : b 4 = true := ha 4 (by decide)
        have t5 : b 5 = true := ha 5 (by decide)
        have t6 : b 6 = true := ha 6 (by decide)
        have t7 : b 7 = true := ha 7 (by decide)
        have t8 : b 8 = true := ha 8 (by decide)
        have t9 : b 9 = true := ha 9 (by decide)
        have t10 : b 10 = true := ha 10 (by decide)
        have t11 : b 11 = true := ha 11 (by decide)
        have t12 : b 12 = true := ha 12 (by decide)
        have t13 : b 13 = true := ha 13 (by decide)
        refine Chain.runK [93] 1 fun K hK => ?_; simp [h0, t0, t1, t2, t3, t4, t5, t6, t7, t8, t9, t10, t11, t12, t13]; refine hK _ _ ?_; clear hK K
        exact Chain.nil (Sub.table (by simp [t0, t1, t2, t3, t4, t5, t6, t7, t8, t9, t10, t11, t12, t13]) (by simp [t11]))
       ·intro b hb
        have t0 := hb 0 (by decide)
        have t1 := hb 1 (by decide)
        have t2 := hb 2 (by decide)
        have t3 := hb 3 (by decide)
        have t4 := hb 4 (by decide)
        have t5 := hb 5 (by decide)
        have t6 := hb 6 (by decide)
        have t7 := hb 7 (by decide)
        have t8 := hb 8 (by decide)
        have t9 := hb 9 (by decide)
        have t10 := hb 10 (by decide)
        have t11 := hb 11 (by decide)
        have t12 := hb 12 (by decide)
        have t13 := hb 13 (by decide)
        have t14 := hb 14 (by decide)
        exact Sub.table (by simp [t0, t1, t2, t3, t4, t5, t6, t7, t8, t9, t10, t11, t12, t13, t14]) (by simp [t11])
       ·skip
        cases h
        refine blockQ.normal ?_
        refine PostN.next ?_
        exact Sub.tt
      ·have c731_ : v712 = false := Bool.eq_false_iff.2 c731
       refine AW.condF (b := v712) rfl c731_ ?_
       refine AW.sub (Sub.bool 73 (b := v712) rfl c731_) ?_
       refine AW.sub (S' := mk 100 [] [(0, .d (.sl (a0.map (cL cS27)))), (1, .d (.sl (a1.map (cI .i64)))), (2, .d (.sl (a2.map cS27))), (7, .i v181), (8, .b false), (9, .i v183), (11, .ptr 11 0 0), (15, .d (.sl (a0.map (cL cS27)))), (16, .i (a0.length : Int)), (17, .i v183), (73, .b false)] [(11, some (.box [.i x654.Tx, .i x654.Kind, .d (.lit (.string x654.Key))]))]) (by simp; exact Sub.table (by simp) (by simp)) ?_
       refine AW.skip ?_
       cases h
       refine blockQ.normal ?_
       refine PostN.next ?_
       exact Sub.tt
   ·rintro ⟨v648, v649⟩ h
    dsimp only at h ⊢
    refine AW.region ?_
    replace h := bsome h; obtain ⟨v740, hv740, h⟩ := h
    have hv740 := chkI_some hv740
    refine Chain.runK [] 2 fun K hK => ?_; simp [hv740]; refine hK _ _ ?_; clear hK K
    refine Chain.sub (S' := mk 100 [] [(0, .d (.sl (a0.map (cL cS27)))), (1, .d (.sl (a1.map (cI .i64)))), (2, .d (.sl (a2.map cS27))), (7, .i v648), (8, .b v649), (15, .d (.sl (a0.map (cL cS27)))), (16, .i (a0.length : Int)), (17, .i v740)] []) Sub.tt ?_
    refine Chain.nil ?_
    cases h
    refine PostI.next ?_
    exact Sub.tt
  ·have c557_ : decide (v183 < (a0.length : Int)) = false := decide_eq_false c557
   refine AW.condF (b := decide (v183 < (a0.length : Int))) rfl c557_ ?_
   refine AW.sub (Sub.bool 18 (b := decide (v183 < (a0.length : Int))) rfl c557_) ?_
   refine AW.sub (S' := mk 100 [] [(0, .d (.sl (a0.map (cL cS27)))), (1, .d (.sl (a1.map (cI .i64)))), (2, .d (.sl (a2.map cS27))), (7, .i v181), (8, .b v182), (15, .d (.sl (a0.map (cL cS27)))), (16, .i (a0.length : Int)), (17, .i v183), (18, .b false)] []) (by simp; exact Sub.table (by simp) (by simp)) ?_
   refine AW.exit ?_
   cases h
   refine thenQ_pass (by simp) ?_
   refine PostI.out (by simp) ?_
   rintro rfl
   refine blockQ.hit ?_
   refine PostN.next ?_
   exact Sub.tt
 ·rintro ⟨v555, v556⟩ h
  dsimp only at h ⊢
  refine thenQ_normal ?_
  refine AW.seq ?_
  refine AW.seqR ?_
  refine Chain.runK [] 1 fun K hK => ?_; simp; refine hK _ _ ?_; clear hK K
  refine Chain.sub (S' := mk 100 [] [(7, .i v555), (98, .b v556)] []) Sub.tt ?_
  refine Chain.nil ?_
  replace h := isome h; rcases h with ⟨c741, h⟩ | ⟨c741, h⟩
  ·have c741_ : v556 = true := c741
   refine AW.condT (b := v556) rfl c741_ ?_
   refine AW.sub (Sub.bool 98 (b := v556) rfl c741_) ?_
   refine AW.sub (S' := mk 100 [] [(7, .i v555), (98, .b true)] []) (by simp; exact Sub.table (by simp) (by simp)) ?_
   refine AW.seqR ?_
   refine Chain.runK [] 1 fun K hK => ?_; simp; refine hK _ _ ?_; clear hK K
   refine Chain.sub (S' := mk 100 [] [(6, .i 1)] []) Sub.tt ?_
   refine Chain.nil ?_
   refine AW.ret ?_
   cases h
   refine thenQ_pass (by simp) ?_
   exact FinC.ret (by simp) (by simp)
  ·have c741_ : v556 = false := Bool.eq_false_iff.2 c741
   refine AW.condF (b := v556) rfl c741_ ?_
   refine AW.sub (Sub.bool 98 (b := v556) rfl c741_) ?_
   refine AW.sub (S' := mk 100 [] [(7, .i v555), (98, .b false)] []) (by simp; exact Sub.table (by simp) (by simp)) ?_
   refine AW.skip ?_
   refine thenQ_normal ?_
   refine AW.seqR ?_
   refine Chain.runK [] 2 fun K hK => ?_; simp; refine hK _ _ ?_; clear hK K
   refine Chain.sub (S' := mk 100 [] [(6, .i v555)] []) Sub.tt ?_
   refine Chain.nil ?_
   refine AW.ret ?_
   cases h
   exact FinC.ret (by simp) (by simp)

end Go.Proofs.Ytifcmomjjkbboaa
