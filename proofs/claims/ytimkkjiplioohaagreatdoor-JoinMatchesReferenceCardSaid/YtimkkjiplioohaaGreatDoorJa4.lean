/- Functions of the program as functional programs; the code computes them. -/
import Derived.Test.YtimkkjiplioohaaGreatDoorJa3
namespace Go.Proofs.YtimkkjiplioohaaGreatDoor
open Go.Ab Go.Rp
attribute [-simp] List.all_eq_true Array.all_toList Array.all_eq_true

/-- stemma/joinalgo.NestedLoopJoin -/
def d22 (N : Nat) (a0 : (List (List S61))) (a1 : (List (List S61))) (a2 : S50) : Option ((List (List S61)) × Int) :=
 (d25 N a0 a1 a2).bind fun r1 =>
 if (r1 != 0) then (
  some (([] : List (List S61)), r1)
 ) else
 Option.bind (α := List (List S61)) (
  iterN (σ := ((List (List S61)) × Int)) (ρ := List (List S61)) (fun ((l91, v92) : ((List (List S61)) × Int)) =>
   if v92 < (a0.length : Int) then (
    (idx a0 v92).bind fun x275 =>
    (d58 N x275 a2.Left).bind fun r277 =>
    Option.bind (α := ((List (List S61)) × Bool)) (
     iterN (σ := ((List (List S61)) × Bool × Bool × Int)) (ρ := ((List (List S61)) × Bool)) (fun ((l294, v295, v296, v297) : ((List (List S61)) × Bool × Bool × Int)) =>
      if v297 < (a1.length : Int) then (
       (idx a1 v297).bind fun x339 =>
       (d58 N x339 a2.Right).bind fun r341 =>
       Option.bind (α := (Bool × Bool)) (
        if v296 = true then (
         if r341.2 = true then (
          (d47 N r277.1 r341.1).bind fun r349 =>
          some (true, r349)
         ) else
         some (true, false)
        ) else
        some (false, false)
       ) fun ((v345, v346) : (Bool × Bool)) =>
       if v346 = true then (
        (d59 N x275 x339).bind fun r351 =>
        (appL 24 l294 [r351]).bind fun _l352 =>
        (chkI (v297 + 1)).bind fun v353 =>
        some (.inl ((l294 ++ [r351]), true, v345, v353))
       ) else
       (chkI (v297 + 1)).bind fun v354 =>
       some (.inl (l294, v295, v345, v354))
      ) else
      some (.inr (l294, v295))
     ) N (l91, false, r277.2, 0)
    ) fun ((l336, v337) : ((List (List S61)) × Bool)) =>
    Option.bind (α := Bool) (
     if (!v337) = true then (
      some a2.Outer
     ) else
     some false
    ) fun (v356 : Bool) =>
    if v356 = true then (
     (d60 N x275 a2).bind fun r359 =>
     (appL 24 l336 [r359]).bind fun _l360 =>
     (chkI (v92 + 1)).bind fun v361 =>
     some (.inl ((l336 ++ [r359]), v361))
    ) else
    (chkI (v92 + 1)).bind fun v362 =>
    some (.inl (l336, v362))
   ) else
   some (.inr l91)
  ) N (([] : List (List S61)), 0)
 ) fun (l273 : List (List S61)) =>
 some (l273, 0)
set_option maxRecDepth 100000 in
set_option maxHeartbeats 4000000 in
theorem p22 (N : Nat) (a0 : (List (List S61))) (a1 : (List (List S61))) (a2 : S50) (r : ((List (List S61)) × Int)) (h : d22 N a0 a1 a2 = some r) : FunC Tryz.prog 22 [.d (.sl (a0.map (cL cS61))), .d (.sl (a1.map (cL cS61))), .agg [.d (.sl (a2.Left.map (cI .i64))), .d (.sl (a2.Right.map (cI .i64))), .b a2.Outer, .i a2.RightWidth]] (.tup [.d (.sl (r.1.map (cL cS61))), .i r.2]) := by
 unfold d22 at h
 refine FunC.enter 82 [(0, .d (.sl (a0.map (cL cS61)))), (1, .d (.sl (a1.map (cL cS61)))), (2, .agg [.d (.sl (a2.Left.map (cI .i64))), .d (.sl (a2.Right.map (cI .i64))), .b a2.Outer, .i a2.RightWidth])] (by simp) Tryz.func22 rfl (of_decide_eq_true rfl) rfl rfl ?_
 refine AW.seqR ?_
 refine Chain.runK [] 3 fun K hK => ?_; simp; refine hK _ _ ?_; clear hK K
 refine Chain.sub (S' := mk 82 [] [(0, .d (.sl (a0.map (cL cS61)))), (1, .d (.sl (a1.map (cL cS61)))), (5, .ptr 5 0 0)] [(5, BX a2)]) Sub.tt ?_
 refine Chain.nil ?_
 refine AW.seq ?_
 refine AW.seqR ?_
 refine Chain.runK [] 3 fun K hK => ?_; simp; refine hK _ _ ?_; clear hK K
 refine Chain.sub (S' := mk 82 [] [(0, .d (.sl (a0.map (cL cS61)))), (1, .d (.sl (a1.map (cL cS61)))), (5, .ptr 5 0 0), (19, .d (.sl (a0.map (cL cS61)))), (20, .d (.sl (a1.map (cL cS61)))), (21, .agg [.d (.sl (a2.Left.map (cI .i64))), .d (.sl (a2.Right.map (cI .i64))), .b a2.Outer, .i a2.RightWidth])] [(5, BX a2)]) Sub.tt ?_
 replace h := bsome h; obtain ⟨r1, hr1, h⟩ := h
 refine Chain.callL (d := 22) (p25 N a0 a1 a2 r1 hr1) (by simp) rfl rfl (by simp <;> rfl) (by simp <;> rfl) ent25 (by simp <;> rfl) ?_
 refine Chain.sub (S' := mk 82 [] [(0, .d (.sl (a0.map (cL cS61)))), (1, .d (.sl (a1.map (cL cS61)))), (5, .ptr 5 0 0), (19, .d (.sl (a0.map (cL cS61)))), (20, .d (.sl (a1.map (cL cS61)))), (21, .agg [.d (.sl (a2.Left.map (cI .i64))), .d (.sl (a2.Right.map (cI .i64))), .b a2.Outer, .i a2.RightWidth]), (22, .i r1)] [(5, BX a2)]) (by simp; exact Sub.table (by simp) (by simp)) ?_
 refine Chain.runK [] 1 fun K hK => ?_; simp; refine hK _ _ ?_; clear hK K
 refine Chain.sub (S' := mk 82 [] [(0, .d (.sl (a0.map (cL cS61)))), (1, .d (.sl (a1.map (cL cS61)))), (5, .ptr 5 0 0), (8, .i r1)] [(5, BX a2)]) Sub.tt ?_
 refine Chain.nil ?_
 refine AW.seqR ?_
 refine Chain.runK [] 2 fun K hK => ?_; simp; refine hK _ _ ?_; clear hK K
 refine Chain.sub (S' := mk 82 [] [(0, .d (.sl (a0.map (cL cS61)))), (1, .d (.sl (a1.map (cL cS61)))), (5, .ptr 5 0 0), (8, .i r1), (24, .b (r1 != 0))] [(5, BX a2)]) Sub.tt ?_
 refine Chain.nil ?_
 replace h := isome h; rcases h with ⟨c2, h⟩ | ⟨c2, h⟩
 ·have c2_ : (r1 != 0) = true := c2
  refine AW.condT (b := (r1 != 0)) rfl c2_ ?_
  refine AW.sub (Sub.bool 24 (b := (r1 != 0)) rfl c2_) ?_
  refine AW.sub (S' := mk 82 [] [(0, .d (.sl (a0.map (cL cS61)))), (1, .d (.sl (a1.map (cL cS61)))), (5, .ptr 5 0 0), (8, .i r1), (24, .b true)] [(5, BX a2)]) (by simp; exact Sub.table (by simp) (by simp)) ?_
  refine AW.seqR ?_
  refine Chain.runK [] 3 fun K hK => ?_; simp; refine hK _ _ ?_; clear hK K
  refine Chain.sub (S' := mk 82 [] [(6, .d (.lit (.slice none 0 0))), (7, .i r1)] []) Sub.tt ?_
  refine Chain.nil ?_
  refine AW.sub (Sub.wk 6 rfl) ?_
  refine AW.sub (S' := mk 82 [] [(6, .d (.sl (([] : List (List S61)).map (cL cS61)))), (7, .i r1)] []) (by simp; exact Sub.table (by simp) (by simp)) ?_
  refine AW.ret ?_
  cases h
  refine thenQ_pass (by simp) ?_
  exact FinC.ret (by simp) (by simp)
 ·have c2_ : (r1 != 0) = false := Bool.eq_false_iff.2 c2
  refine AW.condF (b := (r1 != 0)) rfl c2_ ?_
  refine AW.sub (Sub.bool 24 (b := (r1 != 0)) rfl c2_) ?_
  refine AW.sub (S' := mk 82 [] [(0, .d (.sl (a0.map (cL cS61)))), (1, .d (.sl (a1.map (cL cS61)))), (5, .ptr 5 0 0), (8, .i r1), (24, .b false)] [(5, BX a2)]) (by simp; exact Sub.table (by simp) (by simp)) ?_
  refine AW.skip ?_
  refine thenQ_normal ?_
  refine AW.seqR ?_
  refine Chain.runK [] 1 fun K hK => ?_; simp; refine hK _ _ ?_; clear hK K
  refine Chain.sub (S' := mk 82 [] [(0, .d (.sl (a0.map (cL cS61)))), (1, .d (.sl (a1.map (cL cS61)))), (5, .ptr 5 0 0), (9, .d (.lit (.slice none 0 0)))] [(5, BX a2)]) Sub.tt ?_
  refine Chain.nil ?_
  refine AW.seq ?_
  refine AW.seqR ?_
  refine Chain.runK [] 3 fun K hK => ?_; simp; refine hK _ _ ?_; clear hK K
  refine Chain.sub (S' := mk 82 [] [(1, .d (.sl (a1.map (cL cS61)))), (5, .ptr 5 0 0), (9, .d (.lit (.slice none 0 0))), (26, .d (.sl (a0.map (cL cS61)))), (27, .i (a0.length : Int)), (28, .i 0)] [(5, BX a2)]) Sub.tt ?_
  refine Chain.nil ?_
  refine AW.lastN (fun (l273 : List (List S61)) => mk 82 [] [(9, .ref 66 0 l273.length)] [(66, R57 l273)]) h ?_ ?_ <;> clear h
  ·intro o h
   refine AW.block ?_
   refine AW.iter (fun ((l91, v92) : ((List (List S61)) × Int)) => mk 82 [] [(1, .d (.sl (a1.map (cL cS61)))), (5, .ptr 5 0 0), (9, .ref 66 0 l91.length), (26, .d (.sl (a0.map (cL cS61)))), (27, .i (a0.length : Int)), (28, .i v92)] [(5, BX a2), (66, R57 l91)]) h (Sub.trans (Sub.nilOwn (t := 9) (id := 66) (T := 57) (n := 1) rfl rfl (by decide)) (by simp; exact Sub.table (by simp) (by simp))) ?_
   clear h
   rintro ⟨l91, v92⟩ x h
   dsimp only at h ⊢
   refine AW.seqR ?_
   refine Chain.runK [] 1 fun K hK => ?_; simp; refine hK _ _ ?_; clear hK K
   refine Chain.sub (S' := mk 82 [] [(1, .d (.sl (a1.map (cL cS61)))), (5, .ptr 5 0 0), (9, .ref 66 0 l91.length), (26, .d (.sl (a0.map (cL cS61)))), (27, .i (a0.length : Int)), (28, .i v92), (29, .b (decide (v92 < (a0.length : Int))))] [(5, BX a2), (66, R57 l91)]) Sub.tt ?_
   refine Chain.nil ?_
   refine AW.seq ?_
   replace h := isome h; rcases h with ⟨c274, h⟩ | ⟨c274, h⟩
   ·have c274_ : decide (v92 < (a0.length : Int)) = true := decide_eq_true c274
    refine AW.condT (b := decide (v92 < (a0.length : Int))) rfl c274_ ?_
    refine AW.sub (Sub.bool 29 (b := decide (v92 < (a0.length : Int))) rfl c274_) ?_
    refine AW.sub (S' := mk 82 [] [(1, .d (.sl (a1.map (cL cS61)))), (5, .ptr 5 0 0), (9, .ref 66 0 l91.length), (26, .d (.sl (a0.map (cL cS61)))), (27, .i (a0.length : Int)), (28, .i v92), (29, .b true)] [(5, BX a2), (66, R57 l91)]) (by simp; exact Sub.table (by simp) (by simp)) ?_
    refine AW.skip ?_
    refine thenQ_normal ?_
    refine AW.seq ?_
    refine AW.block ?_
    refine AW.seqR ?_
    replace h := bsome h; obtain ⟨x275, hx275, h⟩ := h
    obtain ⟨k276, hx275k, hx275, hx275a, hx275b⟩ := idx_some hx275
    refine Chain.runK [] 3 fun K hK => ?_; simp [hx275, hx275k, hx275a]; refine hK _ _ ?_; clear hK K
    refine Chain.sub (S' := mk 82 [] [(1, .d (.sl (a1.map (cL cS61)))), (5, .ptr 5 0 0), (9, .ref 66 0 l91.length), (11, .d (.sl (x275.map cS61))), (26, .d (.sl (a0.map (cL cS61)))), (27, .i (a0.length : Int)), (28, .i v92)] [(5, BX a2), (66, R57 l91)]) Sub.tt ?_
    refine Chain.nil ?_
    refine AW.seqR ?_
    refine Chain.runK [] 1 fun K hK => ?_; simp; refine hK _ _ ?_; clear hK K
    refine Chain.sub (S' := mk 82 [] [(1, .d (.sl (a1.map (cL cS61)))), (5, .ptr 5 0 0), (9, .ref 66 0 l91.length), (11, .d (.sl (x275.map cS61))), (12, .b false), (26, .d (.sl (a0.map (cL cS61)))), (27, .i (a0.length : Int)), (28, .i v92)] [(5, BX a2), (66, R57 l91)]) Sub.tt ?_
    refine Chain.nil ?_
    refine AW.seqR ?_
    refine Chain.runK [] 3 fun K hK => ?_; simp; refine hK _ _ ?_; clear hK K
    refine Chain.sub (S' := mk 82 [] [(1, .d (.sl (a1.map (cL cS61)))), (5, .ptr 5 0 0), (9, .ref 66 0 l91.length), (11, .d (.sl (x275.map cS61))), (12, .b false), (26, .d (.sl (a0.map (cL cS61)))), (27, .i (a0.length : Int)), (28, .i v92), (33, .d (.sl (x275.map cS61))), (35, .d (.sl (a2.Left.map (cI .i64))))] [(5, BX a2), (66, R57 l91)]) Sub.tt ?_
    replace h := bsome h; obtain ⟨r277, hr277, h⟩ := h
    refine Chain.callC (d := 36) (p58 N x275 a2.Left r277 hr277) (by simp) rfl rfl (by simp <;> rfl) (by simp <;> rfl) ent58 (by simp) (.inl ⟨by simp, by simp⟩) ?_
    refine Chain.sub (S' := mk 82 [] [(1, .d (.sl (a1.map (cL cS61)))), (5, .ptr 5 0 0), (9, .ref 66 0 l91.length), (11, .d (.sl (x275.map cS61))), (12, .b false), (26, .d (.sl (a0.map (cL cS61)))), (27, .i (a0.length : Int)), (28, .i v92), (33, .d (.sl (x275.map cS61))), (35, .d (.sl (a2.Left.map (cI .i64)))), (36, .tup [.d (.sl (r277.1.map cS61)), .b r277.2])] [(5, BX a2), (66, R57 l91)]) (by simp; exact Sub.table (by simp) (by simp)) ?_
    refine Chain.runK [] 5 fun K hK => ?_; simp; refine hK _ _ ?_; clear hK K
    refine Chain.sub (S' := mk 82 [] [(1, .d (.sl (a1.map (cL cS61)))), (5, .ptr 5 0 0), (9, .ref 66 0 l91.length), (11, .d (.sl (x275.map cS61))), (12, .b false), (13, .d (.sl (r277.1.map cS61))), (14, .b r277.2), (26, .d (.sl (a0.map (cL cS61)))), (27, .i (a0.length : Int)), (28, .i v92)] [(5, BX a2), (66, R57 l91)]) Sub.tt ?_
    refine Chain.nil ?_
    refine AW.seq ?_
    refine AW.seqR ?_
    refine Chain.runK [] 3 fun K hK => ?_; simp; refine hK _ _ ?_; clear hK K
    refine Chain.sub (S' := mk 82 [] [(1, .d (.sl (a1.map (cL cS61)))), (5, .ptr 5 0 0), (9, .ref 66 0 l91.length), (11, .d (.sl (x275.map cS61))), (12, .b false), (13, .d (.sl (r277.1.map cS61))), (14, .b r277.2), (26, .d (.sl (a0.map (cL cS61)))), (27, .i (a0.length : Int)), (28, .i v92), (39, .d (.sl (a1.map (cL cS61)))), (40, .i (a1.length : Int)), (41, .i 0)] [(5, BX a2), (66, R57 l91)]) Sub.tt ?_
    refine Chain.nil ?_
    refine AW.lastN (fun ((l336, v337) : ((List (List S61)) × Bool)) => mk 82 [] [(1, .d (.sl (a1.map (cL cS61)))), (5, .ptr 5 0 0), (9, .ref 66 0 l336.length), (11, .d (.sl (x275.map cS61))), (12, .b v337), (26, .d (.sl (a0.map (cL cS61)))), (27, .i (a0.length : Int)), (28, .i v92)] [(5, BX a2), (66, R57 l336)]) h ?_ ?_ <;> clear h
    ·intro o h
     refine AW.block ?_
     refine AW.iter (fun ((l294, v295, v296, v297) : ((List (List S61)) × Bool × Bool × Int)) => mk 82 [] [(1, .d (.sl (a1.map (cL cS61)))), (5, .ptr 5 0 0), (9, .ref 66 0 l294.length), (11, .d (.sl (x275.map cS61))), (12, .b v295), (13, .d (.sl (r277.1.map cS61))), (14, .b v296), (26, .d (.sl (a0.map (cL cS61)))), (27, .i (a0.length : Int)), (28, .i v92), (39, .d (.sl (a1.map (cL cS61)))), (40, .i (a1.length : Int)), (41, .i v297)] [(5, BX a2), (66, R57 l294)]) h Sub.tt ?_
     clear h
     rintro ⟨l294, v295, v296, v297⟩ x h
     dsimp only at h ⊢
     refine AW.seqR ?_
     refine Chain.runK [] 1 fun K hK => ?_; simp; refine hK _ _ ?_; clear hK K
     refine Chain.sub (S' := mk 82 [] [(1, .d (.sl (a1.map (cL cS61)))), (5, .ptr 5 0 0), (9, .ref 66 0 l294.length), (11, .d (.sl (x275.map cS61))), (12, .b v295), (13, .d (.sl (r277.1.map cS61))), (14, .b v296), (26, .d (.sl (a0.map (cL cS61)))), (27, .i (a0.length : Int)), (28, .i v92), (39, .d (.sl (a1.map (cL cS61)))), (40, .i (a1.length : Int)), (41, .i v297), (42, .b (decide (v297 < (a1.length : Int))))] [(5, BX a2), (66, R57 l294)]) Sub.tt ?_
     refine Chain.nil ?_
     refine AW.seq ?_
     replace h := isome h; rcases h with ⟨c338, h⟩ | ⟨c338, h⟩
     ·have c338_ : decide (v297 < (a1.length : Int)) = true := decide_eq_true c338
      refine AW.condT (b := decide (v297 < (a1.length : Int))) rfl c338_ ?_
      refine AW.sub (Sub.bool 42 (b := decide (v297 < (a1.length : Int))) rfl c338_) ?_
      refine AW.sub (S' := mk 82 [] [(1, .d (.sl (a1.map (cL cS61)))), (5, .ptr 5 0 0), (9, .ref 66 0 l294.length), (11, .d (.sl (x275.map cS61))), (12, .b v295), (13, .d (.sl (r277.1.map cS61))), (14, .b v296), (26, .d (.sl (a0.map (cL cS61)))), (27, .i (a0.length : Int)), (28, .i v92), (39, .d (.sl (a1.map (cL cS61)))), (40, .i (a1.length : Int)), (41, .i v297), (42, .b true)] [(5, BX a2), (66, R57 l294)]) (by simp; exact Sub.table (by simp) (by simp)) ?_
      refine AW.skip ?_
      refine thenQ_normal ?_
      refine AW.seq ?_
      refine AW.block ?_
      refine AW.seqR ?_
      replace h := bsome h; obtain ⟨x339, hx339, h⟩ := h
      obtain ⟨k340, hx339k, hx339, hx339a, hx339b⟩ := idx_some hx339
      refine Chain.runK [] 3 fun K hK => ?_; simp [hx339, hx339k, hx339a]; refine hK _ _ ?_; clear hK K
      refine Chain.sub (S' := mk 82 [] [(1, .d (.sl (a1.map (cL cS61)))), (5, .ptr 5 0 0), (9, .ref 66 0 l294.length), (11, .d (.sl (x275.map cS61))), (12, .b v295), (13, .d (.sl (r277.1.map cS61))), (14, .b v296), (16, .d (.sl (x339.map cS61))), (26, .d (.sl (a0.map (cL cS61)))), (27, .i (a0.length : Int)), (28, .i v92), (39, .d (.sl (a1.map (cL cS61)))), (40, .i (a1.length : Int)), (41, .i v297)] [(5, BX a2), (66, R57 l294)]) Sub.tt ?_
      refine Chain.nil ?_
      refine AW.seqR ?_
      refine Chain.runK [] 3 fun K hK => ?_; simp; refine hK _ _ ?_; clear hK K
      refine Chain.sub (S' := mk 82 [] [(1, .d (.sl (a1.map (cL cS61)))), (5, .ptr 5 0 0), (9, .ref 66 0 l294.length), (11, .d (.sl (x275.map cS61))), (12, .b v295), (13, .d (.sl (r277.1.map cS61))), (14, .b v296), (16, .d (.sl (x339.map cS61))), (26, .d (.sl (a0.map (cL cS61)))), (27, .i (a0.length : Int)), (28, .i v92), (39, .d (.sl (a1.map (cL cS61)))), (40, .i (a1.length : Int)), (41, .i v297), (46, .d (.sl (x339.map cS61))), (48, .d (.sl (a2.Right.map (cI .i64))))] [(5, BX a2), (66, R57 l294)]) Sub.tt ?_
      replace h := bsome h; obtain ⟨r341, hr341, h⟩ := h
      refine Chain.callC (d := 49) (p58 N x339 a2.Right r341 hr341) (by simp) rfl rfl (by simp <;> rfl) (by simp <;> rfl) ent58 (by simp) (.inl ⟨by simp, by simp⟩) ?_
      refine Chain.sub (S' := mk 82 [] [(1, .d (.sl (a1.map (cL cS61)))), (5, .ptr 5 0 0), (9, .ref 66 0 l294.length), (11, .d (.sl (x275.map cS61))), (12, .b v295), (13, .d (.sl (r277.1.map cS61))), (14, .b v296), (16, .d (.sl (x339.map cS61))), (26, .d (.sl (a0.map (cL cS61)))), (27, .i (a0.length : Int)), (28, .i v92), (39, .d (.sl (a1.map (cL cS61)))), (40, .i (a1.length : Int)), (41, .i v297), (46, .d (.sl (x339.map cS61))), (48, .d (.sl (a2.Right.map (cI .i64)))), (49, .tup [.d (.sl (r341.1.map cS61)), .b r341.2])] [(5, BX a2), (66, R57 l294)]) (by simp; exact Sub.table (by simp) (by simp)) ?_
      refine Chain.runK [] 5 fun K hK => ?_; simp; refine hK _ _ ?_; clear hK K
      refine Chain.sub (S' := mk 82 [] [(1, .d (.sl (a1.map (cL cS61)))), (5, .ptr 5 0 0), (9, .ref 66 0 l294.length), (11, .d (.sl (x275.map cS61))), (12, .b v295), (13, .d (.sl (r277.1.map cS61))), (14, .b v296), (16, .d (.sl (x339.map cS61))), (17, .d (.sl (r341.1.map cS61))), (18, .b r341.2), (26, .d (.sl (a0.map (cL cS61)))), (27, .i (a0.length : Int)), (28, .i v92), (39, .d (.sl (a1.map (cL cS61)))), (40, .i (a1.length : Int)), (41, .i v297)] [(5, BX a2), (66, R57 l294)]) Sub.tt ?_
      refine Chain.nil ?_
      replace h := bsome h; obtain ⟨⟨v345, v346⟩, hj, h⟩ := h
      dsimp only at h
      refine AW.cutR (mk 82 [] [(1, .d (.sl (a1.map (cL cS61)))), (5, .ptr 5 0 0), (9, .ref 66 0 l294.length), (11, .d (.sl (x275.map cS61))), (12, .b v295), (13, .d (.sl (r277.1.map cS61))), (14, .b v345), (16, .d (.sl (x339.map cS61))), (26, .d (.sl (a0.map (cL cS61)))), (27, .i (a0.length : Int)), (28, .i v92), (39, .d (.sl (a1.map (cL cS61)))), (40, .i (a1.length : Int)), (41, .i v297), (60, .b v346)] [(5, BX a2), (66, R57 l294)]) ?_ ?_
      ·clear h; have h := hj; clear hj
       refine Chain.runK [] 2 fun K hK => ?_; simp; refine hK _ _ ?_; clear hK K
       refine Chain.sub (S' := mk 82 [] [(1, .d (.sl (a1.map (cL cS61)))), (5, .ptr 5 0 0), (9, .ref 66 0 l294.length), (11, .d (.sl (x275.map cS61))), (12, .b v295), (13, .d (.sl (r277.1.map cS61))), (14, .b v296), (16, .d (.sl (x339.map cS61))), (17, .d (.sl (r341.1.map cS61))), (18, .b r341.2), (26, .d (.sl (a0.map (cL cS61)))), (27, .i (a0.length : Int)), (28, .i v92), (39, .d (.sl (a1.map (cL cS61)))), (40, .i (a1.length : Int)), (41, .i v297), (53, .b v296)] [(5, BX a2), (66, R57 l294)]) Sub.tt ?_
       replace h := isome h; rcases h with ⟨c347, h⟩ | ⟨c347, h⟩
       ·have c347_ : v296 = true := c347
        refine Chain.sub (Sub.bool 14 (b := v296) rfl c347_) ?_
        refine Chain.sub (Sub.bool 53 (b := v296) rfl c347_) ?_
        refine Chain.sub (S' := mk 82 [] [(1, .d (.sl (a1.map (cL cS61)))), (5, .ptr 5 0 0), (9, .ref 66 0 l294.length), (11, .d (.sl (x275.map cS61))), (12, .b v295), (13, .d (.sl (r277.1.map cS61))), (14, .b true), (16, .d (.sl (x339.map cS61))), (17, .d (.sl (r341.1.map cS61))), (18, .b r341.2), (26, .d (.sl (a0.map (cL cS61)))), (27, .i (a0.length : Int)), (28, .i v92), (39, .d (.sl (a1.map (cL cS61)))), (40, .i (a1.length : Int)), (41, .i v297), (53, .b true)] [(5, BX a2), (66, R57 l294)]) (by simp; exact Sub.table (by simp) (by simp)) ?_
        refine Chain.runK [] 3 fun K hK => ?_; simp; refine hK _ _ ?_; clear hK K
        refine Chain.sub (S' := mk 82 [] [(1, .d (.sl (a1.map (cL cS61)))), (5, .ptr 5 0 0), (9, .ref 66 0 l294.length), (11, .d (.sl (x275.map cS61))), (12, .b v295), (13, .d (.sl (r277.1.map cS61))), (14, .b true), (16, .d (.sl (x339.map cS61))), (17, .d (.sl (r341.1.map cS61))), (26, .d (.sl (a0.map (cL cS61)))), (27, .i (a0.length : Int)), (28, .i v92), (39, .d (.sl (a1.map (cL cS61)))), (40, .i (a1.length : Int)), (41, .i v297), (54, .b r341.2), (56, .b r341.2)] [(5, BX a2), (66, R57 l294)]) Sub.tt ?_
        replace h := isome h; rcases h with ⟨c348, h⟩ | ⟨c348, h⟩
        ·have c348_ : r341.2 = true := c348
         refine Chain.sub (Sub.bool 54 (b := r341.2) rfl c348_) ?_
         refine Chain.sub (Sub.bool 56 (b := r341.2) rfl c348_) ?_
         refine Chain.sub (S' := mk 82 [] [(1, .d (.sl (a1.map (cL cS61)))), (5, .ptr 5 0 0), (9, .ref 66 0 l294.length), (11, .d (.sl (x275.map cS61))), (12, .b v295), (13, .d (.sl (r277.1.map cS61))), (14, .b true), (16, .d (.sl (x339.map cS61))), (17, .d (.sl (r341.1.map cS61))), (26, .d (.sl (a0.map (cL cS61)))), (27, .i (a0.length : Int)), (28, .i v92), (39, .d (.sl (a1.map (cL cS61)))), (40, .i (a1.length : Int)), (41, .i v297), (54, .b true), (56, .b true)] [(5, BX a2), (66, R57 l294)]) (by simp; exact Sub.table (by simp) (by simp)) ?_
         refine Chain.runK [] 2 fun K hK => ?_; simp; refine hK _ _ ?_; clear hK K
         refine Chain.sub (S' := mk 82 [] [(1, .d (.sl (a1.map (cL cS61)))), (5, .ptr 5 0 0), (9, .ref 66 0 l294.length), (11, .d (.sl (x275.map cS61))), (12, .b v295), (13, .d (.sl (r277.1.map cS61))), (14, .b true), (16, .d (.sl (x339.map cS61))), (26, .d (.sl (a0.map (cL cS61)))), (27, .i (a0.length : Int)), (28, .i v92), (39, .d (.sl (a1.map (cL cS61)))), (40, .i (a1.length : Int)), (41, .i v297), (54, .b true), (56, .b true), (57, .d (.sl (r277.1.map cS61))), (58, .d (.sl (r341.1.map cS61)))] [(5, BX a2), (66, R57 l294)]) Sub.tt ?_
         replace h := bsome h; obtain ⟨r349, hr349, h⟩ := h
         refine Chain.callL (d := 59) (p47 N r277.1 r341.1 r349 hr349) (by simp) rfl rfl (by simp <;> rfl) (by simp <;> rfl) ent47 (by simp <;> rfl) ?_
         refine Chain.sub (S' := mk 82 [] [(1, .d (.sl (a1.map (cL cS61)))), (5, .ptr 5 0 0), (9, .ref 66 0 l294.length), (11, .d (.sl (x275.map cS61))), (12, .b v295), (13, .d (.sl (r277.1.map cS61))), (14, .b true), (16, .d (.sl (x339.map cS61))), (26, .d (.sl (a0.map (cL cS61)))), (27, .i (a0.length : Int)), (28, .i v92), (39, .d (.sl (a1.map (cL cS61)))), (40, .i (a1.length : Int)), (41, .i v297), (54, .b true), (56, .b true), (57, .d (.sl (r277.1.map cS61))), (58, .d (.sl (r341.1.map cS61))), (59, .b r349)] [(5, BX a2), (66, R57 l294)]) (by simp; exact Sub.table (by simp) (by simp)) ?_
         refine Chain.runK [] 1 fun K hK => ?_; simp; refine hK _ _ ?_; clear hK K
         refine Chain.sub (S' := mk 82 [] [(1, .d (.sl (a1.map (cL cS61)))), (5, .ptr 5 0 0), (9, .ref 66 0 l294.length), (11, .d (.sl (x275.map cS61))), (12, .b v295), (13, .d (.sl (r277.1.map cS61))), (14, .b true), (16, .d (.sl (x339.map cS61))), (26, .d (.sl (a0.map (cL cS61)))), (27, .i (a0.length : Int)), (28, .i v92), (39, .d (.sl (a1.map (cL cS61)))), (40, .i (a1.length : Int)), (41, .i v297), (54, .b true), (57, .d (.sl (r277.1.map cS61))), (58, .d (.sl (r341.1.map cS61))), (59, .b r349), (60, .b r349)] [(5, BX a2), (66, R57 l294)]) Sub.tt ?_
         cases h
         exact Chain.nil Sub.tt
        ·have c348_ : r341.2 = false := Bool.eq_false_iff.2 c348
         refine Chain.sub (Sub.bool 54 (b := r341.2) rfl c348_) ?_
         refine Chain.sub (Sub.bool 56 (b := r341.2) rfl c348_) ?_
         refine Chain.sub (S' := mk 82 [] [(1, .d (.sl (a1.map (cL cS61)))), (5, .ptr 5 0 0), (9, .ref 66 0 l294.length), (11, .d (.sl (x275.map cS61))), (12, .b v295), (13, .d (.sl (r277.1.map cS61))), (14, .b true), (16, .d (.sl (x339.map cS61))), (17, .d (.sl (r341.1.map cS61))), (26, .d (.sl (a0.map (cL cS61)))), (27, .i (a0.length : Int)), (28, .i v92), (39, .d (.sl (a1.map (cL cS61)))), (40, .i (a1.length : Int)), (41, .i v297), (54, .b false), (56, .b false)] [(5, BX a2), (66, R57 l294)]) (by simp; exact Sub.table (by simp) (by simp)) ?_
         refine Chain.runK [] 4 fun K hK => ?_; simp; refine hK _ _ ?_; clear hK K
         refine Chain.sub (S' := mk 82 [] [(1, .d (.sl (a1.map (cL cS61)))), (5, .ptr 5 0 0), (9, .ref 66 0 l294.length), (11, .d (.sl (x275.map cS61))), (12, .b v295), (13, .d (.sl (r277.1.map cS61))), (14, .b true), (16, .d (.sl (x339.map cS61))), (26, .d (.sl (a0.map (cL cS61)))), (27, .i (a0.length : Int)), (28, .i v92), (39, .d (.sl (a1.map (cL cS61)))), (40, .i (a1.length : Int)), (41, .i v297), (54, .b false), (57, .tup []), (58, .tup []), (59, .tup []), (60, .b false)] [(5, BX a2), (66, R57 l294)]) Sub.tt ?_
         cases h
         exact Chain.nil Sub.tt
       ·have c347_ : v296 = false := Bool.eq_false_iff.2 c347
        refine Chain.sub (Sub.bool 14 (b := v296) rfl c347_) ?_
        refine Chain.sub (Sub.bool 53 (b := v296) rfl c347_) ?_
        refine Chain.sub (S' := mk 82 [] [(1, .d (.sl (a1.map (cL cS61)))), (5, .ptr 5 0 0), (9, .ref 66 0 l294.length), (11, .d (.sl (x275.map cS61))), (12, .b v295), (13, .d (.sl (r277.1.map cS61))), (14, .b false), (16, .d (.sl (x339.map cS61))), (17, .d (.sl (r341.1.map cS61))), (18, .b r341.2), (26, .d (.sl (a0.map (cL cS61)))), (27, .i (a0.length : Int)), (28, .i v92), (39, .d (.sl (a1.map (cL cS61)))), (40, .i (a1.length : Int)), (41, .i v297), (53, .b false)] [(5, BX a2), (66, R57 l294)]) (by simp; exact Sub.table (by simp) (by simp)) ?_
        refine Chain.runK [] 7 fun K hK => ?_; simp; refine hK _ _ ?_; clear hK K
        refine Chain.sub (S' := mk 82 [] [(1, .d (.sl (a1.map (cL cS61)))), (5, .ptr 5 0 0), (9, .ref 66 0 l294.length), (11, .d (.sl (x275.map cS61))), (12, .b v295), (13, .d (.sl (r277.1.map cS61))), (14, .b false), (16, .d (.sl (x339.map cS61))), (26, .d (.sl (a0.map (cL cS61)))), (27, .i (a0.length : Int)), (28, .i v92), (39, .d (.sl (a1.map (cL cS61)))), (40, .i (a1.length : Int)), (41, .i v297), (54, .tup []), (57, .tup []), (58, .tup []), (59, .tup []), (60, .b false)] [(5, BX a2), (66, R57 l294)]) Sub.tt ?_
        cases h
        exact Chain.nil Sub.tt
      ·clear hj
       replace h := isome h; rcases h with ⟨c350, h⟩ | ⟨c350, h⟩
       ·have c350_ : v346 = true := c350
        refine AW.condT (b := v346) rfl c350_ ?_
        refine AW.sub (Sub.bool 60 (b := v346) rfl c350_) ?_
        refine AW.sub (S' := mk 82 [] [(1, .d (.sl (a1.map (cL cS61)))), (5, .ptr 5 0 0), (9, .ref 66 0 l294.length), (11, .d (.sl (x275.map cS61))), (12, .b v295), (13, .d (.sl (r277.1.map cS61))), (14, .b v345), (16, .d (.sl (x339.map cS61))), (26, .d (.sl (a0.map (cL cS61)))), (27, .i (a0.length : Int)), (28, .i v92), (39, .d (.sl (a1.map (cL cS61)))), (40, .i (a1.length : Int)), (41, .i v297), (60, .b true)] [(5, BX a2), (66, R57 l294)]) (by simp; exact Sub.table (by simp) (by simp)) ?_
        refine AW.seqR ?_
        refine Chain.runK [65] 3 fun K hK => ?_; simp; refine hK _ _ ?_; clear hK K
        refine Chain.sub (S' := mk 82 [] [(1, .d (.sl (a1.map (cL cS61)))), (5, .ptr 5 0 0), (11, .d (.sl (x275.map cS61))), (13, .d (.sl (r277.1.map cS61))), (14, .b v345), (26, .d (.sl (a0.map (cL cS61)))), (27, .i (a0.length : Int)), (28, .i v92), (39, .d (.sl (a1.map (cL cS61)))), (40, .i (a1.length : Int)), (41, .i v297), (61, .ref 66 0 l294.length), (62, .d (.sl (x275.map cS61))), (63, .d (.sl (x339.map cS61)))] [(5, BX a2), (66, R57 l294)]) Sub.tt ?_
        replace h := bsome h; obtain ⟨r351, hr351, h⟩ := h
        refine Chain.callC (d := 64) (p59 N x275 x339 r351 hr351) (by simp) rfl rfl (by simp <;> rfl) (by simp <;> rfl) ent59 (by simp) (.inl ⟨by simp, by simp⟩) ?_
        refine Chain.sub (S' := mk 82 [] [(1, .d (.sl (a1.map (cL cS61)))), (5, .ptr 5 0 0), (11, .d (.sl (x275.map cS61))), (13, .d (.sl (r277.1.map cS61))), (14, .b v345), (26, .d (.sl (a0.map (cL cS61)))), (27, .i (a0.length : Int)), (28, .i v92), (39, .d (.sl (a1.map (cL cS61)))), (40, .i (a1.length : Int)), (41, .i v297), (61, .ref 66 0 l294.length), (62, .d (.sl (x275.map cS61))), (63, .d (.sl (x339.map cS61))), (64, .d (.sl (r351.map cS61)))] [(5, BX a2), (66, R57 l294)]) (by simp; exact Sub.table (by simp) (by simp)) ?_
        replace h := bsome h; obtain ⟨l352, hl352, h⟩ := h
        obtain ⟨hl352a, hl352⟩ := appL_some hl352
        subst hl352
        try simp only [List.length_cons, List.length_nil, Nat.zero_add] at hl352a
        refine Chain.runK [65] 3 fun K hK => ?_; simp [hl352a]; refine hK _ _ ?_; clear hK K
        refine Chain.sub (S' := mk 82 [] [(1, .d (.sl (a1.map (cL cS61)))), (5, .ptr 5 0 0), (9, .ref 66 0 ((l294 ++ [r351]).length)), (11, .d (.sl (x275.map cS61))), (13, .d (.sl (r277.1.map cS61))), (14, .b v345), (26, .d (.sl (a0.map (cL cS61)))), (27, .i (a0.length : Int)), (28, .i v92), (39, .d (.sl (a1.map (cL cS61)))), (40, .i (a1.length : Int)), (41, .i v297)] [(5, BX a2), (66, R57 (l294 ++ [r351]))]) Sub.tt ?_
        refine Chain.nil ?_
        refine AW.region ?_
        refine Chain.runK [] 1 fun K hK => ?_; simp; refine hK _ _ ?_; clear hK K
        refine Chain.sub (S' := mk 82 [] [(1, .d (.sl (a1.map (cL cS61)))), (5, .ptr 5 0 0), (9, .ref 66 0 ((l294 ++ [r351]).length)), (11, .d (.sl (x275.map cS61))), (12, .b true), (13, .d (.sl (r277.1.map cS61))), (14, .b v345), (26, .d (.sl (a0.map (cL cS61)))), (27, .i (a0.length : Int)), (28, .i v92), (39, .d (.sl (a1.map (cL cS61)))), (40, .i (a1.length : Int)), (41, .i v297)] [(5, BX a2), (66, R57 (l294 ++ [r351]))]) Sub.tt ?_
        refine Chain.nil ?_
        refine blockQ.normal ?_
        refine thenQ_normal ?_
        refine AW.region ?_
        replace h := bsome h; obtain ⟨v353, hv353, h⟩ := h
        have hv353 := chkI_some hv353
        refine Chain.runK [] 2 fun K hK => ?_; simp [hv353]; refine hK _ _ ?_; clear hK K
        refine Chain.sub (S' := mk 82 [] [(1, .d (.sl (a1.map (cL cS61)))), (5, .ptr 5 0 0), (9, .ref 66 0 ((l294 ++ [r351]).length)), (11, .d (.sl (x275.map cS61))), (12, .b true), (13, .d (.sl (r277.1.map cS61))), (14, .b v345), (26, .d (.sl (a0.map (cL cS61)))), (27, .i (a0.length : Int)), (28, .i v92), (39, .d (.sl (a1.map (cL cS61)))), (40, .i (a1.length : Int)), (41, .i v353)] [(5, BX a2), (66, R57 (l294 ++ [r351]))]) Sub.tt ?_
        refine Chain.nil ?_
        cases h
        refine PostI.next ?_
        exact Sub.tt
       ·have c350_ : v346 = false := Bool.eq_false_iff.2 c350
        refine AW.condF (b := v346) rfl c350_ ?_
        refine AW.sub (Sub.bool 60 (b := v346) rfl c350_) ?_
        refine AW.sub (S' := mk 82 [] [(1, .d (.sl (a1.map (cL cS61)))), (5, .ptr 5 0 0), (9, .ref 66 0 l294.length), (11, .d (.sl (x275.map cS61))), (12, .b v295), (13, .d (.sl (r277.1.map cS61))), (14, .b v345), (16, .d (.sl (x339.map cS61))), (26, .d (.sl (a0.map (cL cS61)))), (27, .i (a0.length : Int)), (28, .i v92), (39, .d (.sl (a1.map (cL cS61)))), (40, .i (a1.length : Int)), (41, .i v297), (60, .b false)] [(5, BX a2), (66, R57 l294)]) (by simp; exact Sub.table (by simp) (by simp)) ?_
        refine AW.skip ?_
        refine blockQ.normal ?_
        refine thenQ_normal ?_
        refine AW.region ?_
        replace h := bsome h; obtain ⟨v354, hv354, h⟩ := h
        have hv354 := chkI_some hv354
        refine Chain.runK [] 2 fun K hK => ?_; simp [hv354]; refine hK _ _ ?_; clear hK K
        refine Chain.sub (S' := mk 82 [] [(1, .d (.sl (a1.map (cL cS61)))), (5, .ptr 5 0 0), (9, .ref 66 0 l294.length), (11, .d (.sl (x275.map cS61))), (12, .b v295), (13, .d (.sl (r277.1.map cS61))), (14, .b v345), (26, .d (.sl (a0.map (cL cS61)))), (27, .i (a0.length : Int)), (28, .i v92), (39, .d (.sl (a1.map (cL cS61)))), (40, .i (a1.length : Int)), (41, .i v354)] [(5, BX a2), (66, R57 l294)]) Sub.tt ?_
        refine Chain.nil ?_
        cases h
        refine PostI.next ?_
        exact Sub.tt
     ·have c338_ : decide (v297 < (a1.length : Int)) = false := decide_eq_false c338
      refine AW.condF (b := decide (v297 < (a1.length : Int))) rfl c338_ ?_
      refine AW.sub (Sub.bool 42 (b := decide (v297 < (a1.length : Int))) rfl c338_) ?_
      refine AW.sub (S' := mk 82 [] [(1, .d (.sl (a1.map (cL cS61)))), (5, .ptr 5 0 0), (9, .ref 66 0 l294.length), (11, .d (.sl (x275.map cS61))), (12, .b v295), (13, .d (.sl (r277.1.map cS61))), (14, .b v296), (26, .d (.sl (a0.map (cL cS61)))), (27, .i (a0.length : Int)), (28, .i v92), (39, .d (.sl (a1.map (cL cS61)))), (40, .i (a1.length : Int)), (41, .i v297), (42, .b false)] [(5, BX a2), (66, R57 l294)]) (by simp; exact Sub.table (by simp) (by simp)) ?_
      refine AW.exit ?_
      cases h
      refine thenQ_pass (by simp) ?_
      refine PostI.out (by simp) ?_
      rintro rfl
      refine blockQ.hit ?_
      refine PostN.next ?_
      exact Sub.tt
    ·rintro ⟨l336, v337⟩ h
     dsimp only at h ⊢
     refine thenQ_normal ?_
     replace h := bsome h; obtain ⟨v356, hj, h⟩ := h
     refine AW.cutR (mk 82 [] [(1, .d (.sl (a1.map (cL cS61)))), (5, .ptr 5 0 0), (9, .ref 66 0 l336.length), (11, .d (.sl (x275.map cS61))), (26, .d (.sl (a0.map (cL cS61)))), (27, .i (a0.length : Int)), (28, .i v92), (73, .b v356)] [(5, BX a2), (66, R57 l336)]) ?_ ?_
     ·clear h; have h := hj; clear hj
      refine Chain.runK [] 3 fun K hK => ?_; simp; refine hK _ _ ?_; clear hK K
      refine Chain.sub (S' := mk 82 [] [(1, .d (.sl (a1.map (cL cS61)))), (5, .ptr 5 0 0), (9, .ref 66 0 l336.length), (11, .d (.sl (x275.map cS61))), (26, .d (.sl (a0.map (cL cS61)))), (27, .i (a0.length : Int)), (28, .i v92), (70, .b (!v337))] [(5, BX a2), (66, R57 l336)]) Sub.tt ?_
      replace h := isome h; rcases h with ⟨c357, h⟩ | ⟨c357, h⟩
      ·have c357_ : (!v337) = true := c357
       refine Chain.sub (Sub.bool 70 (b := (!v337)) rfl c357_) ?_
       refine Chain.sub (S' := mk 82 [] [(1, .d (.sl (a1.map (cL cS61)))), (5, .ptr 5 0 0), (9, .ref 66 0 l336.length), (11, .d (.sl (x275.map cS61))), (26, .d (.sl (a0.map (cL cS61)))), (27, .i (a0.length : Int)), (28, .i v92), (70, .b true)] [(5, BX a2), (66, R57 l336)]) (by simp; exact Sub.table (by simp) (by simp)) ?_
       refine Chain.runK [] 3 fun K hK => ?_; simp; refine hK _ _ ?_; clear hK K
       refine Chain.sub (S' := mk 82 [] [(1, .d (.sl (a1.map (cL cS61)))), (5, .ptr 5 0 0), (9, .ref 66 0 l336.length), (11, .d (.sl (x275.map cS61))), (26, .d (.sl (a0.map (cL cS61)))), (27, .i (a0.length : Int)), (28, .i v92), (71, .ptr 5 0 2), (72, .b a2.Outer), (73, .b a2.Outer)] [(5, BX a2), (66, R57 l336)]) Sub.tt ?_
       cases h
       exact Chain.nil Sub.tt
      ·have c357_ : (!v337) = false := Bool.eq_false_iff.2 c357
       refine Chain.sub (Sub.bool 70 (b := (!v337)) rfl c357_) ?_
       refine Chain.sub (S' := mk 82 [] [(1, .d (.sl (a1.map (cL cS61)))), (5, .ptr 5 0 0), (9, .ref 66 0 l336.length), (11, .d (.sl (x275.map cS61))), (26, .d (.sl (a0.map (cL cS61)))), (27, .i (a0.length : Int)), (28, .i v92), (70, .b false)] [(5, BX a2), (66, R57 l336)]) (by simp; exact Sub.table (by simp) (by simp)) ?_
       refine Chain.runK [] 3 fun K hK => ?_; simp; refine hK _ _ ?_; clear hK K
       refine Chain.sub (S' := mk 82 [] [(1, .d (.sl (a1.map (cL cS61)))), (5, .ptr 5 0 0), (9, .ref 66 0 l336.length), (11, .d (.sl (x275.map cS61))), (26, .d (.sl (a0.map (cL cS61)))), (27, .i (a0.length : Int)), (28, .i v92), (71, .tup []), (72, .tup []), (73, .b false)] [(5, BX a2), (66, R57 l336)]) Sub.tt ?_
       cases h
       exact Chain.nil Sub.tt
     ·clear hj
      replace h := isome h; rcases h with ⟨c358, h⟩ | ⟨c358, h⟩
      ·have c358_ : v356 = true := c358
       refine AW.condT (b := v356) rfl c358_ ?_
       refine AW.sub (Sub.bool 73 (b := v356) rfl c358_) ?_
       refine AW.sub (S' := mk 82 [] [(1, .d (.sl (a1.map (cL cS61)))), (5, .ptr 5 0 0), (9, .ref 66 0 l336.length), (11, .d (.sl (x275.map cS61))), (26, .d (.sl (a0.map (cL cS61)))), (27, .i (a0.length : Int)), (28, .i v92), (73, .b true)] [(5, BX a2), (66, R57 l336)]) (by simp; exact Sub.table (by simp) (by simp)) ?_
       refine AW.region ?_
       refine Chain.runK [78] 3 fun K hK => ?_; simp; refine hK _ _ ?_; clear hK K
       refine Chain.sub (S' := mk 82 [] [(1, .d (.sl (a1.map (cL cS61)))), (5, .ptr 5 0 0), (26, .d (.sl (a0.map (cL cS61)))), (27, .i (a0.length : Int)), (28, .i v92), (74, .ref 66 0 l336.length), (75, .d (.sl (x275.map cS61))), (76, .agg [.d (.sl (a2.Left.map (cI .i64))), .d (.sl (a2.Right.map (cI .i64))), .b a2.Outer, .i a2.RightWidth])] [(5, BX a2), (66, R57 l336)]) Sub.tt ?_
       replace h := bsome h; obtain ⟨r359, hr359, h⟩ := h
       refine Chain.callC (d := 77) (p60 N x275 a2 r359 hr359) (by simp) rfl rfl (by simp <;> rfl) (by simp <;> rfl) ent60 (by simp) (.inl ⟨by simp, by simp⟩) ?_
       refine Chain.sub (S' := mk 82 [] [(1, .d (.sl (a1.map (cL cS61)))), (5, .ptr 5 0 0), (26, .d (.sl (a0.map (cL cS61)))), (27, .i (a0.length : Int)), (28, .i v92), (74, .ref 66 0 l336.length), (75, .d (.sl (x275.map cS61))), (76, .agg [.d (.sl (a2.Left.map (cI .i64))), .d (.sl (a2.Right.map (cI .i64))), .b a2.Outer, .i a2.RightWidth]), (77, .d (.sl (r359.map cS61)))] [(5, BX a2), (66, R57 l336)]) (by simp; exact Sub.table (by simp) (by simp)) ?_
       replace h := bsome h; obtain ⟨l360, hl360, h⟩ := h
       obtain ⟨hl360a, hl360⟩ := appL_some hl360
       subst hl360
       try simp only [List.length_cons, List.length_nil, Nat.zero_add] at hl360a
       refine Chain.runK [78] 3 fun K hK => ?_; simp [hl360a]; refine hK _ _ ?_; clear hK K
       refine Chain.sub (S' := mk 82 [] [(1, .d (.sl (a1.map (cL cS61)))), (5, .ptr 5 0 0), (9, .ref 66 0 ((l336 ++ [r359]).length)), (26, .d (.sl (a0.map (cL cS61)))), (27, .i (a0.length : Int)), (28, .i v92)] [(5, BX a2), (66, R57 (l336 ++ [r359]))]) Sub.tt ?_
       refine Chain.nil ?_
       refine blockQ.normal ?_
       refine thenQ_normal ?_
       refine AW.region ?_
       replace h := bsome h; obtain ⟨v361, hv361, h⟩ := h
       have hv361 := chkI_some hv361
       refine Chain.runK [] 2 fun K hK => ?_; simp [hv361]; refine hK _ _ ?_; clear hK K
       refine Chain.sub (S' := mk 82 [] [(1, .d (.sl (a1.map (cL cS61)))), (5, .ptr 5 0 0), (9, .ref 66 0 ((l336 ++ [r359]).length)), (26, .d (.sl (a0.map (cL cS61)))), (27, .i (a0.length : Int)), (28, .i v361)] [(5, BX a2), (66, R57 (l336 ++ [r359]))]) Sub.tt ?_
       refine Chain.nil ?_
       cases h
       refine PostI.next ?_
       exact Sub.tt
      ·have c358_ : v356 = false := Bool.eq_false_iff.2 c358
       refine AW.condF (b := v356) rfl c358_ ?_
       refine AW.sub (Sub.bool 73 (b := v356) rfl c358_) ?_
       refine AW.sub (S' := mk 82 [] [(1, .d (.sl (a1.map (cL cS61)))), (5, .ptr 5 0 0), (9, .ref 66 0 l336.length), (11, .d (.sl (x275.map cS61))), (26, .d (.sl (a0.map (cL cS61)))), (27, .i (a0.length : Int)), (28, .i v92), (73, .b false)] [(5, BX a2), (66, R57 l336)]) (by simp; exact Sub.table (by simp) (by simp)) ?_
       refine AW.skip ?_
       refine blockQ.normal ?_
       refine thenQ_normal ?_
       refine AW.region ?_
       replace h := bsome h; obtain ⟨v362, hv362, h⟩ := h
       have hv362 := chkI_some hv362
       refine Chain.runK [] 2 fun K hK => ?_; simp [hv362]; refine hK _ _ ?_; clear hK K
       refine Chain.sub (S' := mk 82 [] [(1, .d (.sl (a1.map (cL cS61)))), (5, .ptr 5 0 0), (9, .ref 66 0 l336.length), (26, .d (.sl (a0.map (cL cS61)))), (27, .i (a0.length : Int)), (28, .i v362)] [(5, BX a2), (66, R57 l336)]) Sub.tt ?_
       refine Chain.nil ?_
       cases h
       refine PostI.next ?_
       exact Sub.tt
   ·have c274_ : decide (v92 < (a0.length : Int)) = false := decide_eq_false c274
    refine AW.condF (b := decide (v92 < (a0.length : Int))) rfl c274_ ?_
    refine AW.sub (Sub.bool 29 (b := decide (v92 < (a0.length : Int))) rfl c274_) ?_
    refine AW.sub (S' := mk 82 [] [(1, .d (.sl (a1.map (cL cS61)))), (5, .ptr 5 0 0), (9, .ref 66 0 l91.length), (26, .d (.sl (a0.map (cL cS61)))), (27, .i (a0.length : Int)), (28, .i v92), (29, .b false)] [(5, BX a2), (66, R57 l91)]) (by simp; exact Sub.table (by simp) (by simp)) ?_
    refine AW.exit ?_
    cases h
    refine thenQ_pass (by simp) ?_
    refine PostI.out (by simp) ?_
    rintro rfl
    refine blockQ.hit ?_
    refine PostN.next ?_
    exact Sub.tt
  ·rintro l273 h
   refine thenQ_normal ?_
   refine AW.seqR ?_
   refine Chain.runK [] 3 fun K hK => ?_; simp; refine hK _ _ ?_; clear hK K
   refine Chain.sub (S' := mk 82 [] [(6, .ref 66 0 l273.length), (7, .i 0)] [(66, R57 l273)]) Sub.tt ?_
   refine Chain.nil ?_
   refine AW.sub (Sub.freeze 66 rfl) ?_
   refine AW.sub (S' := mk 82 [] [(6, .d (.sl (l273.map (cL cS61)))), (7, .i 0)] []) (by simp; exact Sub.table (by simp) (by simp)) ?_
   refine AW.ret ?_
   cases h
   exact FinC.ret (by simp) (by simp)

def d99 (_N : Nat) (a0 : Int) : Option ByteArray := if -9223372036854775808 ≤ a0 ∧ a0 ≤ 9223372036854775807 then some ⟨(Lib.itoa a0).toArray⟩ else none
theorem p99 (N : Nat) (a0 : Int) (r : ByteArray) (h : d99 N a0 = some r) : FunC Tryz.prog 99 [.i a0] (.d (.lit (.string r))) := by
 unfold d99 at h
 split at h
 case isFalse => cases h
 rename_i hb
 injection h with h; subst h
 exact FunC.of_calls (vals := [.int .i64 a0]) (by rintro E w vs ⟨_, _, rfl, ⟨rfl, _⟩, rfl⟩; rfl) rfl (fun w g => (Tryz.strconv_Itoa a0 hb.1 hb.2 w g.c.2.2).mono (by rintro e w2 ⟨rfl, k, os, rfl⟩; exact ⟨rfl, grow_drewN _ _ _⟩))

/-- stemma/joinalgo.text -/
def d61 (N : Nat) (a0 : (List S61)) : Option ByteArray :=
 Option.bind (α := ByteArray) (
  iterN (σ := (ByteArray × Int)) (ρ := ByteArray) (fun ((v14, v15) : (ByteArray × Int)) =>
   if v15 < (a0.length : Int) then (
    (idx a0 v15).bind fun x48 =>
    (d99 N x48.Kind).bind fun r50 =>
    (catB r50 (ByteArray.mk #[44])).bind fun v51 =>
    (d99 N x48.Int).bind fun r52 =>
    (catB v51 r52).bind fun v53 =>
    (catB v53 (ByteArray.mk #[44])).bind fun v54 =>
    (d99 N (x48.Text.size : Int)).bind fun r55 =>
    (catB v54 r55).bind fun v56 =>
    (catB v56 (ByteArray.mk #[44])).bind fun v57 =>
    (catB v57 x48.Text).bind fun v58 =>
    (catB v14 v58).bind fun v59 =>
    (chkI (v15 + 1)).bind fun v60 =>
    some (.inl (v59, v60))
   ) else
   some (.inr v14)
  ) N ((ByteArray.mk #[]), 0)
 ) fun (v46 : ByteArray) =>
 some v46
set_option maxRecDepth 100000 in
set_option maxHeartbeats 4000000 in
theorem p61 (N : Nat) (a0 : (List S61)) (r : ByteArray) (h : d61 N a0 = some r) : FunC Tryz.prog 61 [.d (.sl (a0.map cS61))] (.d (.lit (.string r))) := by
 unfold d61 at h
 refine FunC.enter 34 [(0, .d (.sl (a0.map cS61)))] (by simp) Tryz.func61 rfl (of_decide_eq_true rfl) rfl rfl ?_
 refine AW.seqR ?_
 refine Chain.runK [] 1 fun K hK => ?_; simp; refine hK _ _ ?_; clear hK K
 refine Chain.sub (S' := mk 34 [] [(0, .d (.sl (a0.map cS61)))] []) Sub.tt ?_
 refine Chain.nil ?_
 refine AW.seqR ?_
 refine Chain.runK [] 1 fun K hK => ?_; simp; refine hK _ _ ?_; clear hK K
 refine Chain.sub (S' := mk 34 [] [(0, .d (.sl (a0.map cS61))), (3, .d (.lit (.string (ByteArray.mk #[]))))] []) Sub.tt ?_
 refine Chain.nil ?_
 refine AW.seq ?_
 refine AW.seqR ?_
 refine Chain.runK [] 3 fun K hK => ?_; simp; refine hK _ _ ?_; clear hK K
 refine Chain.sub (S' := mk 34 [] [(3, .d (.lit (.string (ByteArray.mk #[])))), (6, .d (.sl (a0.map cS61))), (7, .i (a0.length : Int)), (8, .i 0)] []) Sub.tt ?_
 refine Chain.nil ?_
 refine AW.lastN (fun (v46 : ByteArray) => mk 34 [] [(3, .d (.lit (.string v46)))] []) h ?_ ?_ <;> clear h
 ·intro o h
  refine AW.block ?_
  refine AW.iter (fun ((v14, v15) : (ByteArray × Int)) => mk 34 [] [(3, .d (.lit (.string v14))), (6, .d (.sl (a0.map cS61))), (7, .i (a0.length : Int)), (8, .i v15)] []) h Sub.tt ?_
  clear h
  rintro ⟨v14, v15⟩ x h
  dsimp only at h ⊢
  refine AW.seqR ?_
  refine Chain.runK [] 1 fun K hK => ?_; simp; refine hK _ _ ?_; clear hK K
  refine Chain.sub (S' := mk 34 [] [(3, .d (.lit (.string v14))), (6, .d (.sl (a0.map cS61))), (7, .i (a0.length : Int)), (8, .i v15), (9, .b (decide (v15 < (a0.length : Int))))] []) Sub.tt ?_
  refine Chain.nil ?_
  refine AW.seq ?_
  replace h := isome h; rcases h with ⟨c47, h⟩ | ⟨c47, h⟩
  ·have c47_ : decide (v15 < (a0.length : Int)) = true := decide_eq_true c47
   refine AW.condT (b := decide (v15 < (a0.length : Int))) rfl c47_ ?_
   refine AW.sub (Sub.bool 9 (b := decide (v15 < (a0.length : Int))) rfl c47_) ?_
   refine AW.sub (S' := mk 34 [] [(3, .d (.lit (.string v14))), (6, .d (.sl (a0.map cS61))), (7, .i (a0.length : Int)), (8, .i v15), (9, .b true)] []) (by simp; exact Sub.table (by simp) (by simp)) ?_
   refine AW.skip ?_
   refine thenQ_normal ?_
   refine AW.seq ?_
   refine AW.block ?_
   refine AW.seqR ?_
   replace h := bsome h; obtain ⟨x48, hx48, h⟩ := h
   obtain ⟨k49, hx48k, hx48, hx48a, hx48b⟩ := idx_some hx48
   refine Chain.runK [] 4 fun K hK => ?_; simp [hx48, hx48k, hx48a]; refine hK _ _ ?_; clear hK K
   refine Chain.sub (S' := mk 34 [] [(3, .d (.lit (.string v14))), (5, .ptr 5 0 0), (6, .d (.sl (a0.map cS61))), (7, .i (a0.length : Int)), (8, .i v15)] [(5, some (.box [.i x48.Kind, .i x48.Int, .d (.lit (.string x48.Text))]))]) Sub.tt ?_
   refine Chain.nil ?_
   refine AW.regionQ (by kernel_rfl) (by kernel_rfl) ?_
   refine Chain.runQ 3 fun K hK => ?_; simp; refine hK _ _ ?_; clear hK K
   refine Chain.sub (S' := mk 34 [] [(5, .ptr 5 0 0), (6, .d (.sl (a0.map cS61))), (7, .i (a0.length : Int)), (8, .i v15), (12, .d (.lit (.string v14))), (14, .i x48.Kind)] [(5, some (.box [.i x48.Kind, .i x48.Int, .d (.lit (.string x48.Text))]))]) Sub.tt ?_
   replace h := bsome h; obtain ⟨r50, hr50, h⟩ := h
   refine Chain.callL (d := 15) (p99 N x48.Kind r50 hr50) (by simp) rfl rfl (by simp <;> rfl) (by simp <;> rfl) ent99 (by simp <;> rfl) ?_
   refine Chain.sub (S' := mk 34 [] [(5, .ptr 5 0 0), (6, .d (.sl (a0.map cS61))), (7, .i (a0.length : Int)), (8, .i v15), (12, .d (.lit (.string v14))), (14, .i x48.Kind), (15, .d (.lit (.string r50)))] [(5, some (.box [.i x48.Kind, .i x48.Int, .d (.lit (.string x48.Text))]))]) (by simp; exact Sub.table (by simp) (by simp)) ?_
   replace h := bsome h; obtain ⟨v51, gv51, h⟩ := h
   obtain ⟨hv51a, hv51⟩ := catB_some gv51
   refine Chain.runQ 3 fun K hK => ?_; simp [hv51, hv51a]; refine hK _ _ ?_; clear hK K
   refine Chain.sub (S' := mk 34 [] [(5, .ptr 5 0 0), (6, .d (.sl (a0.map cS61))), (7, .i (a0.length : Int)), (8, .i v15), (12, .d (.lit (.string v14))), (16, .d (.lit (.string v51))), (18, .i x48.Int)] [(5, some (.box [.i x48.Kind, .i x48.Int, .d (.lit (.string x48.Text))]))]) Sub.tt ?_
   replace h := bsome h; obtain ⟨r52, hr52, h⟩ := h
   refine Chain.callL (d := 19) (p99 N x48.Int r52 hr52) (by simp) rfl rfl (by simp <;> rfl) (by simp <;> rfl) ent99 (by simp <;> rfl) ?_
   refine Chain.sub (S' := mk 34 [] [(5, .ptr 5 0 0), (6, .d (.sl (a0.map cS61))), (7, .i (a0.length : Int)), (8, .i v15), (12, .d (.lit (.string v14))), (16, .d (.lit (.string v51))), (18, .i x48.Int), (19, .d (.lit (.string r52)))] [(5, some (.box [.i x48.Kind, .i x48.Int, .d (.lit (.string x48.Text))]))]) (by simp; exact Sub.table (by simp) (by simp)) ?_
   replace h := bsome h; obtain ⟨v53, gv53, h⟩ := h
   obtain ⟨hv53a, hv53⟩ := catB_some gv53
   replace h := bsome h; obtain ⟨v54, gv54, h⟩ := h
   obtain ⟨hv54a, hv54⟩ := catB_some gv54
   refine Chain.runQ 5 fun K hK => ?_; simp [hv53, hv53a, hv54, hv54a]; refine hK _ _ ?_; clear hK K
   refine Chain.sub (S' := mk 34 [] [(5, .ptr 5 0 0), (6, .d (.sl (a0.map cS61))), (7, .i (a0.length : Int)), (8, .i v15), (12, .d (.lit (.string v14))), (21, .d (.lit (.string v54))), (24, .i (x48.Text.size : Int))] [(5, some (.box [.i x48.Kind, .i x48.Int, .d (.lit (.string x48.Text))]))]) Sub.tt ?_
   replace h := bsome h; obtain ⟨r55, hr55, h⟩ := h
   refine Chain.callL (d := 25) (p99 N (x48.Text.size : Int) r55 hr55) (by simp) rfl rfl (by simp <;> rfl) (by simp <;> rfl) ent99 (by simp <;> rfl) ?_
   refine Chain.sub (S' := mk 34 [] [(5, .ptr 5 0 0), (6, .d (.sl (a0.map cS61))), (7, .i (a0.length : Int)), (8, .i v15), (12, .d (.lit (.string v14))), (21, .d (.lit (.string v54))), (24, .i (x48.Text.size : Int)), (25, .d (.lit (.string r55)))] [(5, some (.box [.i x48.Kind, .i x48.Int, .d (.lit (.string x48.Text))]))]) (by simp; exact Sub.table (by simp) (by simp)) ?_
   replace h := bsome h; obtain ⟨v56, gv56, h⟩ := h
   obtain ⟨hv56a, hv56⟩ := catB_some gv56
   replace h := bsome h; obtain ⟨v57, gv57, h⟩ := h
   obtain ⟨hv57a, hv57⟩ := catB_some gv57
   replace h := bsome h; obtain ⟨v58, gv58, h⟩ := h
   obtain ⟨hv58a, hv58⟩ := catB_some gv58
   replace h := bsome h; obtain ⟨v59, gv59, h⟩ := h
   obtain ⟨hv59a, hv59⟩ := catB_some gv59
   refine Chain.runQ 7 fun K hK => ?_; simp [hv56, hv56a, hv57, hv57a, hv58, hv58a, hv59, hv59a]; refine hK _ _ ?_; clear hK K
   refine Chain.sub (S' := mk 34 [] [(3, .d (.lit (.string v59))), (6, .d (.sl (a0.map cS61))), (7, .i (a0.length : Int)), (8, .i v15)] []) Sub.tt ?_
   refine Chain.nil ?_
   refine blockQ.normal ?_
   refine thenQ_normal ?_
   refine AW.region ?_
   replace h := bsome h; obtain ⟨v60, hv60, h⟩ := h
   have hv60 := chkI_some hv60
   refine Chain.runK [] 2 fun K hK => ?_; simp [hv60]; refine hK _ _ ?_; clear hK K
   refine Chain.sub (S' := mk 34 [] [(3, .d (.lit (.string v59))), (6, .d (.sl (a0.map cS61))), (7, .i (a0.length : Int)), (8, .i v60)] []) Sub.tt ?_
   refine Chain.nil ?_
   cases h
   refine PostI.next ?_
   exact Sub.tt
  ·have c47_ : decide (v15 < (a0.length : Int)) = false := decide_eq_false c47
   refine AW.condF (b := decide (v15 < (a0.length : Int))) rfl c47_ ?_
   refine AW.sub (Sub.bool 9 (b := decide (v15 < (a0.length : Int))) rfl c47_) ?_
   refine AW.sub (S' := mk 34 [] [(3, .d (.lit (.string v14))), (6, .d (.sl (a0.map cS61))), (7, .i (a0.length : Int)), (8, .i v15), (9, .b false)] []) (by simp; exact Sub.table (by simp) (by simp)) ?_
   refine AW.exit ?_
   cases h
   refine thenQ_pass (by simp) ?_
   refine PostI.out (by simp) ?_
   rintro rfl
   refine blockQ.hit ?_
   refine PostN.next ?_
   exact Sub.tt
 ·rintro v46 h
  refine thenQ_normal ?_
  refine AW.seqR ?_
  refine Chain.runK [] 2 fun K hK => ?_; simp; refine hK _ _ ?_; clear hK K
  refine Chain.sub (S' := mk 34 [] [(2, .d (.lit (.string v46)))] []) Sub.tt ?_
  refine Chain.nil ?_
  refine AW.ret ?_
  cases h
  exact FinC.ret (by simp) (by simp)

end Go.Proofs.YtimkkjiplioohaaGreatDoor
