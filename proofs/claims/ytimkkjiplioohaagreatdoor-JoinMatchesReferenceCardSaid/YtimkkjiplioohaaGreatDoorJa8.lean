/- Functions of the program as functional programs; the code computes them. -/
import Derived.Test.YtimkkjiplioohaaGreatDoorJa7
import Derived.Test.YtimkkjiplioohaaGreatDoorJaS
namespace Go.Proofs.YtimkkjiplioohaaGreatDoor
open Go.Ab Go.Rp
attribute [-simp] List.all_eq_true Array.all_toList Array.all_eq_true

/-- stemma/stemlaw3.JoinMatchesReference -/
def d5 (N : Nat) (a0 : (List (List S61))) (a1 : (List (List S61))) (a2 : S50) (a3 : Bool) : Option Bool :=
 (d9 N ).bind fun r1 =>
 if (!r1) = true then (
  some false
 ) else
 Option.bind (α := Bool) (
  letv ([a0, a1] : List (List (List S61))) fun l8 =>
  (d21 N l8).bind fun r9 =>
  if r9 = true then (
   some true
  ) else
  (chkI ((a2.Left.length : Int) + (a2.Right.length : Int))).bind fun v11 =>
  some (decide (v11 > 20))
 ) fun (v7 : Bool) =>
 if v7 = true then (
  some true
 ) else
 (d22 N a0 a1 a2).bind fun r13 =>
 (d23 N a0 a1 a2).bind fun r14 =>
 (d24 N a0 a1 a2 a3).bind fun r15 =>
 (d25 N a0 a1 a2).bind fun r16 =>
 if (r16 != 0) then (
  Option.bind (α := Bool) (
   if (r13.2 == r16) then (
    if (r14.2 == r16) then (
     if (r15.2 == r16) then (
      (chkI ((r13.1.length : Int) + (r14.1.length : Int))).bind fun v27 =>
      (chkI (v27 + (r15.1.length : Int))).bind fun v28 =>
      some (v28 == 0)
     ) else
     some false
    ) else
    some false
   ) else
   some false
  ) fun (v23 : Bool) =>
  some v23
 ) else
 Option.bind (α := ((List (List S61)) × (List (List S61)))) (
  iterN (σ := ((List (List S61)) × (List (List S61)) × Int)) (ρ := ((List (List S61)) × (List (List S61)))) (fun ((l90, l91, v92) : ((List (List S61)) × (List (List S61)) × Int)) =>
   if v92 < (a0.length : Int) then (
    (idx a0 v92).bind fun x223 =>
    Option.bind (α := List (List S61)) (
     iterN (σ := ((List (List S61)) × Int)) (ρ := List (List S61)) (fun ((l234, v235) : ((List (List S61)) × Int)) =>
      if v235 < (a1.length : Int) then (
       (idx a1 v235).bind fun x260 =>
       (d26 N x223 x260 a2).bind fun r262 =>
       if r262 = true then (
        letv ([x223, x260] : List (List S61)) fun l264 =>
        (d27 N l264).bind fun r265 =>
        (appL 24 l234 [r265]).bind fun _l266 =>
        (chkI (v235 + 1)).bind fun v267 =>
        some (.inl ((l234 ++ [r265]), v267))
       ) else
       (chkI (v235 + 1)).bind fun v268 =>
       some (.inl (l234, v268))
      ) else
      some (.inr l234)
     ) N (l90, 0)
    ) fun (l258 : List (List S61)) =>
    Option.bind (α := List (List S61)) (
     if (!((decide ((l258.length : Int) > (l90.length : Int))) == a3)) then (
      (appL 24 l91 [x223]).bind fun _l273 =>
      some (l91 ++ [x223])
     ) else
     some l91
    ) fun (l271 : List (List S61)) =>
    Option.bind (α := Bool) (
     if ((l258.length : Int) == (l90.length : Int)) then (
      some a2.Outer
     ) else
     some false
    ) fun (v275 : Bool) =>
    if v275 = true then (
     (mkL 32 a2.RightWidth ((S61.mk 0 0 (ByteArray.mk #[])) : S61)).bind fun l278 =>
     letv ([x223, l278] : List (List S61)) fun l279 =>
     (d27 N l279).bind fun r280 =>
     (appL 24 l258 [r280]).bind fun _l281 =>
     (chkI (v92 + 1)).bind fun v282 =>
     some (.inl ((l258 ++ [r280]), l271, v282))
    ) else
    (chkI (v92 + 1)).bind fun v283 =>
    some (.inl (l258, l271, v283))
   ) else
   some (.inr (l90, l91))
  ) N (([] : List (List S61)), ([] : List (List S61)), 0)
 ) fun ((l220, l221) : ((List (List S61)) × (List (List S61)))) =>
 Option.bind (α := Bool) (
  if (r13.2 == 0) then (
   if (r14.2 == 0) then (
    if (r15.2 == 0) then (
     (d28 N r13.1 l220).bind fun r296 =>
     if r296 = true then (
      (d28 N r14.1 l220).bind fun r298 =>
      if r298 = true then (
       (d28 N r15.1 l221).bind fun r300 =>
       some r300
      ) else
      some false
     ) else
     some false
    ) else
    some false
   ) else
   some false
  ) else
  some false
 ) fun (v292 : Bool) =>
 some v292
set_option maxRecDepth 100000 in
set_option maxHeartbeats 4000000 in
theorem p5 (N : Nat) (a0 : (List (List S61))) (a1 : (List (List S61))) (a2 : S50) (a3 : Bool) (r : Bool) (h : d5 N a0 a1 a2 a3 = some r) : FunC Tryz.prog 5 [.d (.sl (a0.map (cL cS61))), .d (.sl (a1.map (cL cS61))), .agg [.d (.sl (a2.Left.map (cI .i64))), .d (.sl (a2.Right.map (cI .i64))), .b a2.Outer, .i a2.RightWidth], .b a3] (.b r) := by
 unfold d5 at h
 refine FunC.enter 170 [(0, .d (.sl (a0.map (cL cS61)))), (1, .d (.sl (a1.map (cL cS61)))), (2, .agg [.d (.sl (a2.Left.map (cI .i64))), .d (.sl (a2.Right.map (cI .i64))), .b a2.Outer, .i a2.RightWidth]), (3, .b a3)] (by simp) Tryz.func5 rfl (of_decide_eq_true rfl) rfl rfl ?_
 refine AW.seqR ?_
 refine Chain.runK [] 2 fun K hK => ?_; simp; refine hK _ _ ?_; clear hK K
 refine Chain.sub (S' := mk 170 [] [(0, .d (.sl (a0.map (cL cS61)))), (1, .d (.sl (a1.map (cL cS61)))), (3, .b a3), (6, .ptr 6 0 0)] [(6, BX a2)]) Sub.tt ?_
 refine Chain.nil ?_
 refine AW.seq ?_
 refine AW.seqR ?_
 replace h := bsome h; obtain ⟨r1, hr1, h⟩ := h
 refine Chain.callL (d := 23) (p9 N  r1 hr1) (by simp) rfl rfl (by simp <;> rfl) (by simp <;> rfl) ent9 (by simp <;> rfl) ?_
 refine Chain.sub (S' := mk 170 [] [(0, .d (.sl (a0.map (cL cS61)))), (1, .d (.sl (a1.map (cL cS61)))), (3, .b a3), (6, .ptr 6 0 0), (23, .b r1)] [(6, BX a2)]) (by simp; exact Sub.table (by simp) (by simp)) ?_
 refine Chain.runK [] 1 fun K hK => ?_; simp; refine hK _ _ ?_; clear hK K
 refine Chain.sub (S' := mk 170 [] [(0, .d (.sl (a0.map (cL cS61)))), (1, .d (.sl (a1.map (cL cS61)))), (3, .b a3), (6, .ptr 6 0 0), (24, .b (!r1))] [(6, BX a2)]) Sub.tt ?_
 refine Chain.nil ?_
 replace h := isome h; rcases h with ⟨c2, h⟩ | ⟨c2, h⟩
 ·have c2_ : (!r1) = true := c2
  refine AW.condT (b := (!r1)) rfl c2_ ?_
  refine AW.sub (Sub.bool 24 (b := (!r1)) rfl c2_) ?_
  refine AW.sub (S' := mk 170 [] [(0, .d (.sl (a0.map (cL cS61)))), (1, .d (.sl (a1.map (cL cS61)))), (3, .b a3), (6, .ptr 6 0 0), (24, .b true)] [(6, BX a2)]) (by simp; exact Sub.table (by simp) (by simp)) ?_
  refine AW.seqR ?_
  refine Chain.runK [] 1 fun K hK => ?_; simp; refine hK _ _ ?_; clear hK K
  refine Chain.sub (S' := mk 170 [] [(8, .b false)] []) Sub.tt ?_
  refine Chain.nil ?_
  refine AW.ret ?_
  cases h
  refine thenQ_pass (by simp) ?_
  exact FinC.ret (by simp) (by simp)
 ·have c2_ : (!r1) = false := Bool.eq_false_iff.2 c2
  refine AW.condF (b := (!r1)) rfl c2_ ?_
  refine AW.sub (Sub.bool 24 (b := (!r1)) rfl c2_) ?_
  refine AW.sub (S' := mk 170 [] [(0, .d (.sl (a0.map (cL cS61)))), (1, .d (.sl (a1.map (cL cS61)))), (3, .b a3), (6, .ptr 6 0 0), (24, .b false)] [(6, BX a2)]) (by simp; exact Sub.table (by simp) (by simp)) ?_
  refine AW.skip ?_
  refine thenQ_normal ?_
  refine AW.seq ?_
  replace h := bsome h; obtain ⟨v7, hj, h⟩ := h
  refine AW.cutR (mk 170 [] [(0, .d (.sl (a0.map (cL cS61)))), (1, .d (.sl (a1.map (cL cS61)))), (3, .b a3), (6, .ptr 6 0 0), (38, .b v7)] [(6, BX a2)]) ?_ ?_
  ·clear h; have h := hj; clear hj
   refine Chain.runK [] 3 fun K hK => ?_; simp; refine hK _ _ ?_; clear hK K
   refine Chain.sub (Sub.wkRow 27 rfl) ?_
   replace h := lsome h; obtain ⟨l8, hl8, h⟩ := h
   refine Chain.sub (S' := mk 170 [] [(0, .d (.sl (a0.map (cL cS61)))), (1, .d (.sl (a1.map (cL cS61)))), (3, .b a3), (6, .ptr 6 0 0), (24, .b false), (25, .d (.sl (a0.map (cL cS61)))), (26, .d (.sl (a1.map (cL cS61)))), (27, .ref 27 0 l8.length)] [(6, BX a2), (27, R48 l8)]) (by simp; subst hl8; exact Sub.table (by simp) (by simp)) ?_
   replace h := bsome h; obtain ⟨r9, hr9, h⟩ := h
   refine Chain.callL (d := 28) (p21 N l8 r9 hr9) (by simp) rfl rfl (by simp <;> rfl) (by simp <;> rfl) ent21 (by simp <;> rfl) ?_
   refine Chain.sub (S' := mk 170 [] [(0, .d (.sl (a0.map (cL cS61)))), (1, .d (.sl (a1.map (cL cS61)))), (3, .b a3), (6, .ptr 6 0 0), (24, .b false), (25, .d (.sl (a0.map (cL cS61)))), (26, .d (.sl (a1.map (cL cS61)))), (27, .ref 27 0 l8.length), (28, .b r9)] [(6, BX a2), (27, R48 l8)]) (by simp; exact Sub.table (by simp) (by simp)) ?_
   refine Chain.runK [] 1 fun K hK => ?_; simp; refine hK _ _ ?_; clear hK K
   refine Chain.sub (S' := mk 170 [] [(0, .d (.sl (a0.map (cL cS61)))), (1, .d (.sl (a1.map (cL cS61)))), (3, .b a3), (6, .ptr 6 0 0), (29, .b r9)] [(6, BX a2)]) Sub.tt ?_
   replace h := isome h; rcases h with ⟨c10, h⟩ | ⟨c10, h⟩
   ·have c10_ : r9 = true := c10
    refine Chain.sub (Sub.bool 29 (b := r9) rfl c10_) ?_
    refine Chain.sub (S' := mk 170 [] [(0, .d (.sl (a0.map (cL cS61)))), (1, .d (.sl (a1.map (cL cS61)))), (3, .b a3), (6, .ptr 6 0 0), (29, .b true)] [(6, BX a2)]) (by simp; exact Sub.table (by simp) (by simp)) ?_
    refine Chain.runK [] 9 fun K hK => ?_; simp; refine hK _ _ ?_; clear hK K
    refine Chain.sub (S' := mk 170 [] [(0, .d (.sl (a0.map (cL cS61)))), (1, .d (.sl (a1.map (cL cS61)))), (3, .b a3), (6, .ptr 6 0 0), (38, .b true)] [(6, BX a2)]) Sub.tt ?_
    cases h
    exact Chain.nil Sub.tt
   ·have c10_ : r9 = false := Bool.eq_false_iff.2 c10
    refine Chain.sub (Sub.bool 29 (b := r9) rfl c10_) ?_
    refine Chain.sub (S' := mk 170 [] [(0, .d (.sl (a0.map (cL cS61)))), (1, .d (.sl (a1.map (cL cS61)))), (3, .b a3), (6, .ptr 6 0 0), (29, .b false)] [(6, BX a2)]) (by simp; exact Sub.table (by simp) (by simp)) ?_
    replace h := bsome h; obtain ⟨v11, hv11, h⟩ := h
    have hv11 := chkI_some hv11
    refine Chain.runK [] 9 fun K hK => ?_; simp [hv11]; refine hK _ _ ?_; clear hK K
    refine Chain.sub (S' := mk 170 [] [(0, .d (.sl (a0.map (cL cS61)))), (1, .d (.sl (a1.map (cL cS61)))), (3, .b a3), (6, .ptr 6 0 0), (38, .b (decide (v11 > 20)))] [(6, BX a2)]) Sub.tt ?_
    cases h
    exact Chain.nil Sub.tt
  ·clear hj
   replace h := isome h; rcases h with ⟨c12, h⟩ | ⟨c12, h⟩
   ·have c12_ : v7 = true := c12
    refine AW.condT (b := v7) rfl c12_ ?_
    refine AW.sub (Sub.bool 38 (b := v7) rfl c12_) ?_
    refine AW.sub (S' := mk 170 [] [(0, .d (.sl (a0.map (cL cS61)))), (1, .d (.sl (a1.map (cL cS61)))), (3, .b a3), (6, .ptr 6 0 0), (38, .b true)] [(6, BX a2)]) (by simp; exact Sub.table (by simp) (by simp)) ?_
    refine AW.seqR ?_
    refine Chain.runK [] 1 fun K hK => ?_; simp; refine hK _ _ ?_; clear hK K
    refine Chain.sub (S' := mk 170 [] [(8, .b true)] []) Sub.tt ?_
    refine Chain.nil ?_
    refine AW.ret ?_
    cases h
    refine thenQ_pass (by simp) ?_
    exact FinC.ret (by simp) (by simp)
   ·have c12_ : v7 = false := Bool.eq_false_iff.2 c12
    refine AW.condF (b := v7) rfl c12_ ?_
    refine AW.sub (Sub.bool 38 (b := v7) rfl c12_) ?_
    refine AW.sub (S' := mk 170 [] [(0, .d (.sl (a0.map (cL cS61)))), (1, .d (.sl (a1.map (cL cS61)))), (3, .b a3), (6, .ptr 6 0 0), (38, .b false)] [(6, BX a2)]) (by simp; exact Sub.table (by simp) (by simp)) ?_
    refine AW.skip ?_
    refine thenQ_normal ?_
    refine AW.seqR ?_
    refine Chain.runK [] 3 fun K hK => ?_; simp; refine hK _ _ ?_; clear hK K
    refine Chain.sub (S' := mk 170 [] [(0, .d (.sl (a0.map (cL cS61)))), (1, .d (.sl (a1.map (cL cS61)))), (3, .b a3), (6, .ptr 6 0 0), (40, .d (.sl (a0.map (cL cS61)))), (41, .d (.sl (a1.map (cL cS61)))), (42, .agg [.d (.sl (a2.Left.map (cI .i64))), .d (.sl (a2.Right.map (cI .i64))), .b a2.Outer, .i a2.RightWidth])] [(6, BX a2)]) Sub.tt ?_
    replace h := bsome h; obtain ⟨r13, hr13, h⟩ := h
    refine Chain.callC (d := 43) (p22 N a0 a1 a2 r13 hr13) (by simp) rfl rfl (by simp <;> rfl) (by simp <;> rfl) ent22 (by simp) (.inl ⟨by simp, by simp⟩) ?_
    refine Chain.sub (S' := mk 170 [] [(0, .d (.sl (a0.map (cL cS61)))), (1, .d (.sl (a1.map (cL cS61)))), (3, .b a3), (6, .ptr 6 0 0), (40, .d (.sl (a0.map (cL cS61)))), (41, .d (.sl (a1.map (cL cS61)))), (42, .agg [.d (.sl (a2.Left.map (cI .i64))), .d (.sl (a2.Right.map (cI .i64))), .b a2.Outer, .i a2.RightWidth]), (43, .tup [.d (.sl (r13.1.map (cL cS61))), .i r13.2])] [(6, BX a2)]) (by simp; exact Sub.table (by simp) (by simp)) ?_
    refine Chain.runK [] 5 fun K hK => ?_; simp; refine hK _ _ ?_; clear hK K
    refine Chain.sub (S' := mk 170 [] [(0, .d (.sl (a0.map (cL cS61)))), (1, .d (.sl (a1.map (cL cS61)))), (3, .b a3), (6, .ptr 6 0 0), (9, .d (.sl (r13.1.map (cL cS61)))), (10, .i r13.2)] [(6, BX a2)]) Sub.tt ?_
    refine Chain.nil ?_
    refine AW.seqR ?_
    refine Chain.runK [] 3 fun K hK => ?_; simp; refine hK _ _ ?_; clear hK K
    refine Chain.sub (S' := mk 170 [] [(0, .d (.sl (a0.map (cL cS61)))), (1, .d (.sl (a1.map (cL cS61)))), (3, .b a3), (6, .ptr 6 0 0), (9, .d (.sl (r13.1.map (cL cS61)))), (10, .i r13.2), (47, .d (.sl (a0.map (cL cS61)))), (48, .d (.sl (a1.map (cL cS61)))), (49, .agg [.d (.sl (a2.Left.map (cI .i64))), .d (.sl (a2.Right.map (cI .i64))), .b a2.Outer, .i a2.RightWidth])] [(6, BX a2)]) Sub.tt ?_
    replace h := bsome h; obtain ⟨r14, hr14, h⟩ := h
    refine Chain.callC (d := 50) (p23 N a0 a1 a2 r14 hr14) (by simp) rfl rfl (by simp <;> rfl) (by simp <;> rfl) ent23 (by simp) (.inl ⟨by simp, by simp⟩) ?_
    refine Chain.sub (S' := mk 170 [] [(0, .d (.sl (a0.map (cL cS61)))), (1, .d (.sl (a1.map (cL cS61)))), (3, .b a3), (6, .ptr 6 0 0), (9, .d (.sl (r13.1.map (cL cS61)))), (10, .i r13.2), (47, .d (.sl (a0.map (cL cS61)))), (48, .d (.sl (a1.map (cL cS61)))), (49, .agg [.d (.sl (a2.Left.map (cI .i64))), .d (.sl (a2.Right.map (cI .i64))), .b a2.Outer, .i a2.RightWidth]), (50, .tup [.d (.sl (r14.1.map (cL cS61))), .i r14.2])] [(6, BX a2)]) (by simp; exact Sub.table (by simp) (by simp)) ?_
    refine Chain.runK [] 5 fun K hK => ?_; simp; refine hK _ _ ?_; clear hK K
    refine Chain.sub (S' := mk 170 [] [(0, .d (.sl (a0.map (cL cS61)))), (1, .d (.sl (a1.map (cL cS61)))), (3, .b a3), (6, .ptr 6 0 0), (9, .d (.sl (r13.1.map (cL cS61)))), (10, .i r13.2), (11, .d (.sl (r14.1.map (cL cS61)))), (12, .i r14.2)] [(6, BX a2)]) Sub.tt ?_
    refine Chain.nil ?_
    refine AW.seqR ?_
    refine Chain.runK [] 4 fun K hK => ?_; simp; refine hK _ _ ?_; clear hK K
    refine Chain.sub (S' := mk 170 [] [(0, .d (.sl (a0.map (cL cS61)))), (1, .d (.sl (a1.map (cL cS61)))), (3, .b a3), (6, .ptr 6 0 0), (9, .d (.sl (r13.1.map (cL cS61)))), (10, .i r13.2), (11, .d (.sl (r14.1.map (cL cS61)))), (12, .i r14.2), (54, .d (.sl (a0.map (cL cS61)))), (55, .d (.sl (a1.map (cL cS61)))), (56, .agg [.d (.sl (a2.Left.map (cI .i64))), .d (.sl (a2.Right.map (cI .i64))), .b a2.Outer, .i a2.RightWidth]), (57, .b a3)] [(6, BX a2)]) Sub.tt ?_
    replace h := bsome h; obtain ⟨r15, hr15, h⟩ := h
    refine Chain.callC (d := 58) (p24 N a0 a1 a2 a3 r15 hr15) (by simp) rfl rfl (by simp <;> rfl) (by simp <;> rfl) ent24 (by simp) (.inl ⟨by simp, by simp⟩) ?_
    refine Chain.sub (S' := mk 170 [] [(0, .d (.sl (a0.map (cL cS61)))), (1, .d (.sl (a1.map (cL cS61)))), (3, .b a3), (6, .ptr 6 0 0), (9, .d (.sl (r13.1.map (cL cS61)))), (10, .i r13.2), (11, .d (.sl (r14.1.map (cL cS61)))), (12, .i r14.2), (54, .d (.sl (a0.map (cL cS61)))), (55, .d (.sl (a1.map (cL cS61)))), (56, .agg [.d (.sl (a2.Left.map (cI .i64))), .d (.sl (a2.Right.map (cI .i64))), .b a2.Outer, .i a2.RightWidth]), (57, .b a3), (58, .tup [.d (.sl (r15.1.map (cL cS61))), .i r15.2])] [(6, BX a2)]) (by simp; exact Sub.table (by simp) (by simp)) ?_
    refine Chain.runK [] 5 fun K hK => ?_; simp; refine hK _ _ ?_; clear hK K
    refine Chain.sub (S' := mk 170 [] [(0, .d (.sl (a0.map (cL cS61)))), (1, .d (.sl (a1.map (cL cS61)))), (3, .b a3), (6, .ptr 6 0 0), (9, .d (.sl (r13.1.map (cL cS61)))), (10, .i r13.2), (11, .d (.sl (r14.1.map (cL cS61)))), (12, .i r14.2), (13, .d (.sl (r15.1.map (cL cS61)))), (14, .i r15.2)] [(6, BX a2)]) Sub.tt ?_
    refine Chain.nil ?_
    refine AW.seq ?_
    refine AW.seqR ?_
    refine Chain.runK [] 3 fun K hK => ?_; simp; refine hK _ _ ?_; clear hK K
    refine Chain.sub (S' := mk 170 [] [(0, .d (.sl (a0.map (cL cS61)))), (1, .d (.sl (a1.map (cL cS61)))), (3, .b a3), (6, .ptr 6 0 0), (9, .d (.sl (r13.1.map (cL cS61)))), (10, .i r13.2), (11, .d (.sl (r14.1.map (cL cS61)))), (12, .i r14.2), (13, .d (.sl (r15.1.map (cL cS61)))), (14, .i r15.2), (61, .d (.sl (a0.map (cL cS61)))), (62, .d (.sl (a1.map (cL cS61)))), (63, .agg [.d (.sl (a2.Left.map (cI .i64))), .d (.sl (a2.Right.map (cI .i64))), .b a2.Outer, .i a2.RightWidth])] [(6, BX a2)]) Sub.tt ?_
    replace h := bsome h; obtain ⟨r16, hr16, h⟩ := h
    refine Chain.callL (d := 64) (p25 N a0 a1 a2 r16 hr16) (by simp) rfl rfl (by simp <;> rfl) (by simp <;> rfl) ent25 (by simp <;> rfl) ?_
    refine Chain.sub (S' := mk 170 [] [(0, .d (.sl (a0.map (cL cS61)))), (1, .d (.sl (a1.map (cL cS61)))), (3, .b a3), (6, .ptr 6 0 0), (9, .d (.sl (r13.1.map (cL cS61)))), (10, .i r13.2), (11, .d (.sl (r14.1.map (cL cS61)))), (12, .i r14.2), (13, .d (.sl (r15.1.map (cL cS61)))), (14, .i r15.2), (61, .d (.sl (a0.map (cL cS61)))), (62, .d (.sl (a1.map (cL cS61)))), (63, .agg [.d (.sl (a2.Left.map (cI .i64))), .d (.sl (a2.Right.map (cI .i64))), .b a2.Outer, .i a2.RightWidth]), (64, .i r16)] [(6, BX a2)]) (by simp; exact Sub.table (by simp) (by simp)) ?_
    refine Chain.runK [] 1 fun K hK => ?_; simp; refine hK _ _ ?_; clear hK K
    refine Chain.sub (S' := mk 170 [] [(0, .d (.sl (a0.map (cL cS61)))), (1, .d (.sl (a1.map (cL cS61)))), (3, .b a3), (6, .ptr 6 0 0), (9, .d (.sl (r13.1.map (cL cS61)))), (10, .i r13.2), (11, .d (.sl (r14.1.map (cL cS61)))), (12, .i r14.2), (13, .d (.sl (r15.1.map (cL cS61)))), (14, .i r15.2), (15, .i r16)] [(6, BX a2)]) Sub.tt ?_
    refine Chain.nil ?_
    refine AW.seqR ?_
    refine Chain.runK [] 2 fun K hK => ?_; simp; refine hK _ _ ?_; clear hK K
    refine Chain.sub (S' := mk 170 [] [(0, .d (.sl (a0.map (cL cS61)))), (1, .d (.sl (a1.map (cL cS61)))), (3, .b a3), (6, .ptr 6 0 0), (9, .d (.sl (r13.1.map (cL cS61)))), (10, .i r13.2), (11, .d (.sl (r14.1.map (cL cS61)))), (12, .i r14.2), (13, .d (.sl (r15.1.map (cL cS61)))), (14, .i r15.2), (15, .i r16), (66, .b (r16 != 0))] [(6, BX a2)]) Sub.tt ?_
    refine Chain.nil ?_
    replace h := isome h; rcases h with ⟨c17, h⟩ | ⟨c17, h⟩
    ·have c17_ : (r16 != 0) = true := c17
     refine AW.condT (b := (r16 != 0)) rfl c17_ ?_
     refine AW.sub (Sub.bool 66 (b := (r16 != 0)) rfl c17_) ?_
     refine AW.sub (S' := mk 170 [] [(0, .d (.sl (a0.map (cL cS61)))), (1, .d (.sl (a1.map (cL cS61)))), (3, .b a3), (6, .ptr 6 0 0), (9, .d (.sl (r13.1.map (cL cS61)))), (10, .i r13.2), (11, .d (.sl (r14.1.map (cL cS61)))), (12, .i r14.2), (13, .d (.sl (r15.1.map (cL cS61)))), (14, .i r15.2), (15, .i r16), (66, .b true)] [(6, BX a2)]) (by simp; exact Sub.table (by simp) (by simp)) ?_
     replace h := bsome h; obtain ⟨v23, hj, h⟩ := h
     refine AW.cutR (mk 170 [] [(8, .b v23)] []) ?_ ?_
     ·clear h; have h := hj; clear hj
      refine Chain.runK [] 4 fun K hK => ?_; simp; refine hK _ _ ?_; clear hK K
      refine Chain.sub (S' := mk 170 [] [(9, .d (.sl (r13.1.map (cL cS61)))), (11, .d (.sl (r14.1.map (cL cS61)))), (12, .i r14.2), (13, .d (.sl (r15.1.map (cL cS61)))), (14, .i r15.2), (15, .i r16), (70, .b (r13.2 == r16))] []) Sub.tt ?_
      replace h := isome h; rcases h with ⟨c24, h⟩ | ⟨c24, h⟩
      ·have c24_ : (r13.2 == r16) = true := c24
       refine Chain.sub (Sub.bool 70 (b := (r13.2 == r16)) rfl c24_) ?_
       refine Chain.sub (S' := mk 170 [] [(9, .d (.sl (r13.1.map (cL cS61)))), (11, .d (.sl (r14.1.map (cL cS61)))), (12, .i r14.2), (13, .d (.sl (r15.1.map (cL cS61)))), (14, .i r15.2), (15, .i r16), (70, .b true)] []) (by simp; exact Sub.table (by simp) (by simp)) ?_
       refine Chain.runK [] 5 fun K hK => ?_; simp; refine hK _ _ ?_; clear hK K
       refine Chain.sub (S' := mk 170 [] [(9, .d (.sl (r13.1.map (cL cS61)))), (11, .d (.sl (r14.1.map (cL cS61)))), (13, .d (.sl (r15.1.map (cL cS61)))), (14, .i r15.2), (15, .i r16), (75, .b (r14.2 == r16))] []) Sub.tt ?_
       replace h := isome h; rcases h with ⟨c25, h⟩ | ⟨c25, h⟩
       ·have c25_ : (r14.2 == r16) = true := c25
        refine Chain.sub (Sub.bool 75 (b := (r14.2 == r16)) rfl c25_) ?_
        refine Chain.sub (S' := mk 170 [] [(9, .d (.sl (r13.1.map (cL cS61)))), (11, .d (.sl (r14.1.map (cL cS61)))), (13, .d (.sl (r15.1.map (cL cS61)))), (14, .i r15.2), (15, .i r16), (75, .b true)] []) (by simp; exact Sub.table (by simp) (by simp)) ?_
        refine Chain.runK [] 5 fun K hK => ?_; simp; refine hK _ _ ?_; clear hK K
        refine Chain.sub (S' := mk 170 [] [(9, .d (.sl (r13.1.map (cL cS61)))), (11, .d (.sl (r14.1.map (cL cS61)))), (13, .d (.sl (r15.1.map (cL cS61)))), (80, .b (r15.2 == r16))] []) Sub.tt ?_
        replace h := isome h; rcases h with ⟨c26, h⟩ | ⟨c26, h⟩
        ·have c26_ : (r15.2 == r16) = true := c26
         refine Chain.sub (Sub.bool 80 (b := (r15.2 == r16)) rfl c26_) ?_
         refine Chain.sub (S' := mk 170 [] [(9, .d (.sl (r13.1.map (cL cS61)))), (11, .d (.sl (r14.1.map (cL cS61)))), (13, .d (.sl (r15.1.map (cL cS61)))), (80, .b true)] []) (by simp; exact Sub.table (by simp) (by simp)) ?_
         replace h := bsome h; obtain ⟨v27, hv27, h⟩ := h
         have hv27 := chkI_some hv27
         replace h := bsome h; obtain ⟨v28, hv28, h⟩ := h
         have hv28 := chkI_some hv28
         refine Chain.runK [] 11 fun K hK => ?_; simp [hv27, hv28]; refine hK _ _ ?_; clear hK K
         refine Chain.sub (S' := mk 170 [] [(8, .b (v28 == 0))] []) Sub.tt ?_
         cases h
         exact Chain.nil Sub.tt
        ·have c26_ : (r15.2 == r16) = false := Bool.eq_false_iff.2 c26
         refine Chain.sub (Sub.bool 80 (b := (r15.2 == r16)) rfl c26_) ?_
         refine Chain.sub (S' := mk 170 [] [(9, .d (.sl (r13.1.map (cL cS61)))), (11, .d (.sl (r14.1.map (cL cS61)))), (13, .d (.sl (r15.1.map (cL cS61)))), (80, .b false)] []) (by simp; exact Sub.table (by simp) (by simp)) ?_
         refine Chain.runK [] 11 fun K hK => ?_; simp; refine hK _ _ ?_; clear hK K
         refine Chain.sub (S' := mk 170 [] [(8, .b false)] []) Sub.tt ?_
         cases h
         exact Chain.nil Sub.tt
       ·have c25_ : (r14.2 == r16) = false := Bool.eq_false_iff.2 c25
        refine Chain.sub (Sub.bool 75 (b := (r14.2 == r16)) rfl c25_) ?_
        refine Chain.sub (S' := mk 170 [] [(9, .d (.sl (r13.1.map (cL cS61)))), (11, .d (.sl (r14.1.map (cL cS61)))), (13, .d (.sl (r15.1.map (cL cS61)))), (14, .i r15.2), (15, .i r16), (75, .b false)] []) (by simp; exact Sub.table (by simp) (by simp)) ?_
        refine Chain.runK [] 16 fun K hK => ?_; simp; refine hK _ _ ?_; clear hK K
        refine Chain.sub (S' := mk 170 [] [(8, .b false)] []) Sub.tt ?_
        cases h
        exact Chain.nil Sub.tt
      ·have c24_ : (r13.2 == r16) = false := Bool.eq_false_iff.2 c24
       refine Chain.sub (Sub.bool 70 (b := (r13.2 == r16)) rfl c24_) ?_
       refine Chain.sub (S' := mk 170 [] [(9, .d (.sl (r13.1.map (cL cS61)))), (11, .d (.sl (r14.1.map (cL cS61)))), (12, .i r14.2), (13, .d (.sl (r15.1.map (cL cS61)))), (14, .i r15.2), (15, .i r16), (70, .b false)] []) (by simp; exact Sub.table (by simp) (by simp)) ?_
       refine Chain.runK [] 21 fun K hK => ?_; simp; refine hK _ _ ?_; clear hK K
       refine Chain.sub (S' := mk 170 [] [(8, .b false)] []) Sub.tt ?_
       cases h
       exact Chain.nil Sub.tt
     ·clear hj
      refine AW.ret ?_
      cases h
      refine thenQ_pass (by simp) ?_
      exact FinC.ret (by simp) (by simp)
    ·have c17_ : (r16 != 0) = false := Bool.eq_false_iff.2 c17
     refine AW.condF (b := (r16 != 0)) rfl c17_ ?_
     refine AW.sub (Sub.bool 66 (b := (r16 != 0)) rfl c17_) ?_
     refine AW.sub (S' := mk 170 [] [(0, .d (.sl (a0.map (cL cS61)))), (1, .d (.sl (a1.map (cL cS61)))), (3, .b a3), (6, .ptr 6 0 0), (9, .d (.sl (r13.1.map (cL cS61)))), (10, .i r13.2), (11, .d (.sl (r14.1.map (cL cS61)))), (12, .i r14.2), (13, .d (.sl (r15.1.map (cL cS61)))), (14, .i r15.2), (15, .i r16), (66, .b false)] [(6, BX a2)]) (by simp; exact Sub.table (by simp) (by simp)) ?_
     refine AW.skip ?_
     refine thenQ_normal ?_
     refine AW.seqR ?_
     refine Chain.runK [] 2 fun K hK => ?_; simp; refine hK _ _ ?_; clear hK K
     refine Chain.sub (S' := mk 170 [] [(0, .d (.sl (a0.map (cL cS61)))), (1, .d (.sl (a1.map (cL cS61)))), (3, .b a3), (6, .ptr 6 0 0), (9, .d (.sl (r13.1.map (cL cS61)))), (10, .i r13.2), (11, .d (.sl (r14.1.map (cL cS61)))), (12, .i r14.2), (13, .d (.sl (r15.1.map (cL cS61)))), (14, .i r15.2), (16, .d (.lit (.slice none 0 0))), (17, .d (.lit (.slice none 0 0)))] [(6, BX a2)]) Sub.tt ?_
     refine Chain.nil ?_
     refine AW.seq ?_
     refine AW.seqR ?_
     refine Chain.runK [] 3 fun K hK => ?_; simp; refine hK _ _ ?_; clear hK K
     refine Chain.sub (S' := mk 170 [] [(1, .d (.sl (a1.map (cL cS61)))), (3, .b a3), (6, .ptr 6 0 0), (9, .d (.sl (r13.1.map (cL cS61)))), (10, .i r13.2), (11, .d (.sl (r14.1.map (cL cS61)))), (12, .i r14.2), (13, .d (.sl (r15.1.map (cL cS61)))), (14, .i r15.2), (16, .d (.lit (.slice none 0 0))), (17, .d (.lit (.slice none 0 0))), (91, .d (.sl (a0.map (cL cS61)))), (92, .i (a0.length : Int)), (93, .i 0)] [(6, BX a2)]) Sub.tt ?_
     refine Chain.nil ?_
     refine AW.lastN (fun ((l220, l221) : ((List (List S61)) × (List (List S61)))) => mk 170 [] [(9, .d (.sl (r13.1.map (cL cS61)))), (10, .i r13.2), (11, .d (.sl (r14.1.map (cL cS61)))), (12, .i r14.2), (13, .d (.sl (r15.1.map (cL cS61)))), (14, .i r15.2), (16, .ref 115 0 l220.length), (17, .ref 126 0 l221.length)] [(115, R57 l220), (126, R57 l221)]) h ?_ ?_ <;> clear h
     ·intro o h
      refine AW.block ?_
      refine AW.iter (fun ((l90, l91, v92) : ((List (List S61)) × (List (List S61)) × Int)) => mk 170 [] [(1, .d (.sl (a1.map (cL cS61)))), (3, .b a3), (6, .ptr 6 0 0), (9, .d (.sl (r13.1.map (cL cS61)))), (10, .i r13.2), (11, .d (.sl (r14.1.map (cL cS61)))), (12, .i r14.2), (13, .d (.sl (r15.1.map (cL cS61)))), (14, .i r15.2), (16, .ref 115 0 l90.length), (17, .ref 126 0 l91.length), (91, .d (.sl (a0.map (cL cS61)))), (92, .i (a0.length : Int)), (93, .i v92)] [(6, BX a2), (115, R57 l90), (126, R57 l91)]) h (Sub.trans (Sub.nilOwn (t := 16) (id := 115) (T := 57) (n := 1) rfl rfl (by decide)) (by simp; exact (Sub.trans (Sub.nilOwn (t := 17) (id := 126) (T := 57) (n := 1) rfl rfl (by decide)) (by simp; exact Sub.table (by simp) (by simp))))) ?_
      clear h
      rintro ⟨l90, l91, v92⟩ x h
      dsimp only at h ⊢
      refine AW.seqR ?_
      refine Chain.runK [] 1 fun K hK => ?_; simp; refine hK _ _ ?_; clear hK K
      refine Chain.sub (S' := mk 170 [] [(1, .d (.sl (a1.map (cL cS61)))), (3, .b a3), (6, .ptr 6 0 0), (9, .d (.sl (r13.1.map (cL cS61)))), (10, .i r13.2), (11, .d (.sl (r14.1.map (cL cS61)))), (12, .i r14.2), (13, .d (.sl (r15.1.map (cL cS61)))), (14, .i r15.2), (16, .ref 115 0 l90.length), (17, .ref 126 0 l91.length), (91, .d (.sl (a0.map (cL cS61)))), (92, .i (a0.length : Int)), (93, .i v92), (94, .b (decide (v92 < (a0.length : Int))))] [(6, BX a2), (115, R57 l90), (126, R57 l91)]) Sub.tt ?_
      refine Chain.nil ?_
      refine AW.seq ?_
      replace h := isome h; rcases h with ⟨c222, h⟩ | ⟨c222, h⟩
      ·have c222_ : decide (v92 < (a0.length : Int)) = true := decide_eq_true c222
       refine AW.condT (b := decide (v92 < (a0.length : Int))) rfl c222_ ?_
       refine AW.sub (Sub.bool 94 (b := decide (v92 < (a0.length : Int))) rfl c222_) ?_
       refine AW.sub (S' := mk 170 [] [(1, .d (.sl (a1.map (cL cS61)))), (3, .b a3), (6, .ptr 6 0 0), (9, .d (.sl (r13.1.map (cL cS61)))), (10, .i r13.2), (11, .d (.sl (r14.1.map (cL cS61)))), (12, .i r14.2), (13, .d (.sl (r15.1.map (cL cS61)))), (14, .i r15.2), (16, .ref 115 0 l90.length), (17, .ref 126 0 l91.length), (91, .d (.sl (a0.map (cL cS61)))), (92, .i (a0.length : Int)), (93, .i v92), (94, .b true)] [(6, BX a2), (115, R57 l90), (126, R57 l91)]) (by simp; exact Sub.table (by simp) (by simp)) ?_
       refine AW.skip ?_
       refine thenQ_normal ?_
       refine AW.seq ?_
       refine AW.block ?_
       refine AW.seqR ?_
       replace h := bsome h; obtain ⟨x223, hx223, h⟩ := h
       obtain ⟨k224, hx223k, hx223, hx223a, hx223b⟩ := idx_some hx223
       refine Chain.runK [] 3 fun K hK => ?_; simp [hx223, hx223k, hx223a]; refine hK _ _ ?_; clear hK K
       refine Chain.sub (S' := mk 170 [] [(1, .d (.sl (a1.map (cL cS61)))), (3, .b a3), (6, .ptr 6 0 0), (9, .d (.sl (r13.1.map (cL cS61)))), (10, .i r13.2), (11, .d (.sl (r14.1.map (cL cS61)))), (12, .i r14.2), (13, .d (.sl (r15.1.map (cL cS61)))), (14, .i r15.2), (16, .ref 115 0 l90.length), (17, .ref 126 0 l91.length), (19, .d (.sl (x223.map cS61))), (91, .d (.sl (a0.map (cL cS61)))), (92, .i (a0.length : Int)), (93, .i v92)] [(6, BX a2), (115, R57 l90), (126, R57 l91)]) Sub.tt ?_
       refine Chain.nil ?_
       refine AW.seqR ?_
       refine Chain.runK [] 3 fun K hK => ?_; simp; refine hK _ _ ?_; clear hK K
       refine Chain.sub (S' := mk 170 [] [(1, .d (.sl (a1.map (cL cS61)))), (3, .b a3), (6, .ptr 6 0 0), (9, .d (.sl (r13.1.map (cL cS61)))), (10, .i r13.2), (11, .d (.sl (r14.1.map (cL cS61)))), (12, .i r14.2), (13, .d (.sl (r15.1.map (cL cS61)))), (14, .i r15.2), (16, .ref 115 0 l90.length), (17, .ref 126 0 l91.length), (19, .d (.sl (x223.map cS61))), (20, .i (l90.length : Int)), (91, .d (.sl (a0.map (cL cS61)))), (92, .i (a0.length : Int)), (93, .i v92)] [(6, BX a2), (115, R57 l90), (126, R57 l91)]) Sub.tt ?_
       refine Chain.nil ?_
       refine AW.seq ?_
       refine AW.seqR ?_
       refine Chain.runK [] 3 fun K hK => ?_; simp; refine hK _ _ ?_; clear hK K
       refine Chain.sub (S' := mk 170 [] [(1, .d (.sl (a1.map (cL cS61)))), (3, .b a3), (6, .ptr 6 0 0), (9, .d (.sl (r13.1.map (cL cS61)))), (10, .i r13.2), (11, .d (.sl (r14.1.map (cL cS61)))), (12, .i r14.2), (13, .d (.sl (r15.1.map (cL cS61)))), (14, .i r15.2), (16, .ref 115 0 l90.length), (17, .ref 126 0 l91.length), (19, .d (.sl (x223.map cS61))), (20, .i (l90.length : Int)), (91, .d (.sl (a0.map (cL cS61)))), (92, .i (a0.length : Int)), (93, .i v92), (99, .d (.sl (a1.map (cL cS61)))), (100, .i (a1.length : Int)), (101, .i 0)] [(6, BX a2), (115, R57 l90), (126, R57 l91)]) Sub.tt ?_
       refine Chain.nil ?_
       refine AW.lastN (fun (l258 : List (List S61)) => mk 170 [] [(1, .d (.sl (a1.map (cL cS61)))), (3, .b a3), (6, .ptr 6 0 0), (9, .d (.sl (r13.1.map (cL cS61)))), (10, .i r13.2), (11, .d (.sl (r14.1.map (cL cS61)))), (12, .i r14.2), (13, .d (.sl (r15.1.map (cL cS61)))), (14, .i r15.2), (16, .ref 115 0 l258.length), (17, .ref 126 0 l91.length), (19, .d (.sl (x223.map cS61))), (20, .i (l90.length : Int)), (91, .d (.sl (a0.map (cL cS61)))), (92, .i (a0.length : Int)), (93, .i v92)] [(6, BX a2), (115, R57 l258), (126, R57 l91)]) h ?_ ?_ <;> clear h
       ·intro o h
        refine AW.block ?_
        refine AW.iter (fun ((l234, v235) : ((List (List S61)) × Int)) => mk 170 [] [(1, .d (.sl (a1.map (cL cS61)))), (3, .b a3), (6, .ptr 6 0 0), (9, .d (.sl (r13.1.map (cL cS61)))), (10, .i r13.2), (11, .d (.sl (r14.1.map (cL cS61)))), (12, .i r14.2), (13, .d (.sl (r15.1.map (cL cS61)))), (14, .i r15.2), (16, .ref 115 0 l234.length), (17, .ref 126 0 l91.length), (19, .d (.sl (x223.map cS61))), (20, .i (l90.length : Int)), (91, .d (.sl (a0.map (cL cS61)))), (92, .i (a0.length : Int)), (93, .i v92), (99, .d (.sl (a1.map (cL cS61)))), (100, .i (a1.length : Int)), (101, .i v235)] [(6, BX a2), (115, R57 l234), (126, R57 l91)]) h Sub.tt ?_
        clear h
        rintro ⟨l234, v235⟩ x h
        dsimp only at h ⊢
        refine AW.seqR ?_
        refine Chain.runK [] 1 fun K hK => ?_; simp; refine hK _ _ ?_; clear hK K
        refine Chain.sub (S' := mk 170 [] [(1, .d (.sl (a1.map (cL cS61)))), (3, .b a3), (6, .ptr 6 0 0), (9, .d (.sl (r13.1.map (cL cS61)))), (10, .i r13.2), (11, .d (.sl (r14.1.map (cL cS61)))), (12, .i r14.2), (13, .d (.sl (r15.1.map (cL cS61)))), (14, .i r15.2), (16, .ref 115 0 l234.length), (17, .ref 126 0 l91.length), (19, .d (.sl (x223.map cS61))), (20, .i (l90.length : Int)), (91, .d (.sl (a0.map (cL cS61)))), (92, .i (a0.length : Int)), (93, .i v92), (99, .d (.sl (a1.map (cL cS61)))), (100, .i (a1.length : Int)), (101, .i v235), (102, .b (decide (v235 < (a1.length : Int))))] [(6, BX a2), (115, R57 l234), (126, R57 l91)]) Sub.tt ?_
        refine Chain.nil ?_
        refine AW.seq ?_
        replace h := isome h; rcases h with ⟨c259, h⟩ | ⟨c259, h⟩
        ·have c259_ : decide (v235 < (a1.length : Int)) = true := decide_eq_true c259
         refine AW.condT (b := decide (v235 < (a1.length : Int))) rfl c259_ ?_
         refine AW.sub (Sub.bool 102 (b := decide (v235 < (a1.length : Int))) rfl c259_) ?_
         refine AW.sub (S' := mk 170 [] [(1, .d (.sl (a1.map (cL cS61)))), (3, .b a3), (6, .ptr 6 0 0), (9, .d (.sl (r13.1.map (cL cS61)))), (10, .i r13.2), (11, .d (.sl (r14.1.map (cL cS61)))), (12, .i r14.2), (13, .d (.sl (r15.1.map (cL cS61)))), (14, .i r15.2), (16, .ref 115 0 l234.length), (17, .ref 126 0 l91.length), (19, .d (.sl (x223.map cS61))), (20, .i (l90.length : Int)), (91, .d (.sl (a0.map (cL cS61)))), (92, .i (a0.length : Int)), (93, .i v92), (99, .d (.sl (a1.map (cL cS61)))), (100, .i (a1.length : Int)), (101, .i v235), (102, .b true)] [(6, BX a2), (115, R57 l234), (126, R57 l91)]) (by simp; exact Sub.table (by simp) (by simp)) ?_
         refine AW.skip ?_
         refine thenQ_normal ?_
         refine AW.seq ?_
         refine AW.block ?_
         refine AW.seqR ?_
         replace h := bsome h; obtain ⟨x260, hx260, h⟩ := h
         obtain ⟨k261, hx260k, hx260, hx260a, hx260b⟩ := idx_some hx260
         refine Chain.runK [] 3 fun K hK => ?_; simp [hx260, hx260k, hx260a]; refine hK _ _ ?_; clear hK K
         refine Chain.sub (S' := mk 170 [] [(1, .d (.sl (a1.map (cL cS61)))), (3, .b a3), (6, .ptr 6 0 0), (9, .d (.sl (r13.1.map (cL cS61)))), (10, .i r13.2), (11, .d (.sl (r14.1.map (cL cS61)))), (12, .i r14.2), (13, .d (.sl (r15.1.map (cL cS61)))), (14, .i r15.2), (16, .ref 115 0 l234.length), (17, .ref 126 0 l91.length), (19, .d (.sl (x223.map cS61))), (20, .i (l90.length : Int)), (22, .d (.sl (x260.map cS61))), (91, .d (.sl (a0.map (cL cS61)))), (92, .i (a0.length : Int)), (93, .i v92), (99, .d (.sl (a1.map (cL cS61)))), (100, .i (a1.length : Int)), (101, .i v235)] [(6, BX a2), (115, R57 l234), (126, R57 l91)]) Sub.tt ?_
         refine Chain.nil ?_
         refine AW.seqR ?_
         refine Chain.runK [] 3 fun K hK => ?_; simp; refine hK _ _ ?_; clear hK K
         refine Chain.sub (S' := mk 170 [] [(1, .d (.sl (a1.map (cL cS61)))), (3, .b a3), (6, .ptr 6 0 0), (9, .d (.sl (r13.1.map (cL cS61)))), (10, .i r13.2), (11, .d (.sl (r14.1.map (cL cS61)))), (12, .i r14.2), (13, .d (.sl (r15.1.map (cL cS61)))), (14, .i r15.2), (16, .ref 115 0 l234.length), (17, .ref 126 0 l91.length), (19, .d (.sl (x223.map cS61))), (20, .i (l90.length : Int)), (22, .d (.sl (x260.map cS61))), (91, .d (.sl (a0.map (cL cS61)))), (92, .i (a0.length : Int)), (93, .i v92), (99, .d (.sl (a1.map (cL cS61)))), (100, .i (a1.length : Int)), (101, .i v235), (105, .d (.sl (x223.map cS61))), (106, .d (.sl (x260.map cS61))), (107, .agg [.d (.sl (a2.Left.map (cI .i64))), .d (.sl (a2.Right.map (cI .i64))), .b a2.Outer, .i a2.RightWidth])] [(6, BX a2), (115, R57 l234), (126, R57 l91)]) Sub.tt ?_
         replace h := bsome h; obtain ⟨r262, hr262, h⟩ := h
         refine Chain.callL (d := 108) (p26 N x223 x260 a2 r262 hr262) (by simp) rfl rfl (by simp <;> rfl) (by simp <;> rfl) ent26 (by simp <;> rfl) ?_
         refine Chain.sub (S' := mk 170 [] [(1, .d (.sl (a1.map (cL cS61)))), (3, .b a3), (6, .ptr 6 0 0), (9, .d (.sl (r13.1.map (cL cS61)))), (10, .i r13.2), (11, .d (.sl (r14.1.map (cL cS61)))), (12, .i r14.2), (13, .d (.sl (r15.1.map (cL cS61)))), (14, .i r15.2), (16, .ref 115 0 l234.length), (17, .ref 126 0 l91.length), (19, .d (.sl (x223.map cS61))), (20, .i (l90.length : Int)), (22, .d (.sl (x260.map cS61))), (91, .d (.sl (a0.map (cL cS61)))), (92, .i (a0.length : Int)), (93, .i v92), (99, .d (.sl (a1.map (cL cS61)))), (100, .i (a1.length : Int)), (101, .i v235), (105, .d (.sl (x223.map cS61))), (106, .d (.sl (x260.map cS61))), (107, .agg [.d (.sl (a2.Left.map (cI .i64))), .d (.sl (a2.Right.map (cI .i64))), .b a2.Outer, .i a2.RightWidth]), (108, .b r262)] [(6, BX a2), (115, R57 l234), (126, R57 l91)]) (by simp; exact Sub.table (by simp) (by simp)) ?_
         refine Chain.nil ?_
         replace h := isome h; rcases h with ⟨c263, h⟩ | ⟨c263, h⟩
         ·have c263_ : r262 = true := c263
          refine AW.condT (b := r262) rfl c263_ ?_
          refine AW.sub (Sub.bool 108 (b := r262) rfl c263_) ?_
          refine AW.sub (S' := mk 170 [] [(1, .d (.sl (a1.map (cL cS61)))), (3, .b a3), (6, .ptr 6 0 0), (9, .d (.sl (r13.1.map (cL cS61)))), (10, .i r13.2), (11, .d (.sl (r14.1.map (cL cS61)))), (12, .i r14.2), (13, .d (.sl (r15.1.map (cL cS61)))), (14, .i r15.2), (16, .ref 115 0 l234.length), (17, .ref 126 0 l91.length), (19, .d (.sl (x223.map cS61))), (20, .i (l90.length : Int)), (22, .d (.sl (x260.map cS61))), (91, .d (.sl (a0.map (cL cS61)))), (92, .i (a0.length : Int)), (93, .i v92), (99, .d (.sl (a1.map (cL cS61)))), (100, .i (a1.length : Int)), (101, .i v235), (105, .d (.sl (x223.map cS61))), (106, .d (.sl (x260.map cS61))), (107, .agg [.d (.sl (a2.Left.map (cI .i64))), .d (.sl (a2.Right.map (cI .i64))), .b a2.Outer, .i a2.RightWidth]), (108, .b true)] [(6, BX a2), (115, R57 l234), (126, R57 l91)]) (by simp; exact Sub.table (by simp) (by simp)) ?_
          refine AW.region ?_
          refine Chain.runK [114] 4 fun K hK => ?_; simp; refine hK _ _ ?_; clear hK K
          refine Chain.sub (Sub.wkRow 112 rfl) ?_
          replace h := lsome h; obtain ⟨l264, hl264, h⟩ := h
          refine Chain.sub (S' := mk 170 [] [(1, .d (.sl (a1.map (cL cS61)))), (3, .b a3), (6, .ptr 6 0 0), (9, .d (.sl (r13.1.map (cL cS61)))), (10, .i r13.2), (11, .d (.sl (r14.1.map (cL cS61)))), (12, .i r14.2), (13, .d (.sl (r15.1.map (cL cS61)))), (14, .i r15.2), (16, .ref 115 0 l234.length), (17, .ref 126 0 l91.length), (19, .d (.sl (x223.map cS61))), (20, .i (l90.length : Int)), (22, .d (.sl (x260.map cS61))), (91, .d (.sl (a0.map (cL cS61)))), (92, .i (a0.length : Int)), (93, .i v92), (99, .d (.sl (a1.map (cL cS61)))), (100, .i (a1.length : Int)), (101, .i v235), (105, .d (.sl (x223.map cS61))), (106, .d (.sl (x260.map cS61))), (107, .agg [.d (.sl (a2.Left.map (cI .i64))), .d (.sl (a2.Right.map (cI .i64))), .b a2.Outer, .i a2.RightWidth]), (108, .b true), (109, .ref 115 0 l234.length), (110, .d (.sl (x223.map cS61))), (111, .d (.sl (x260.map cS61))), (112, .ref 112 0 l264.length)] [(6, BX a2), (112, R57 l264), (115, R57 l234), (126, R57 l91)]) (by simp; subst hl264; exact Sub.table (by simp) (by simp)) ?_
          refine Chain.sub (Sub.freeze 112 rfl) ?_
          refine Chain.sub (S' := mk 170 [] [(1, .d (.sl (a1.map (cL cS61)))), (3, .b a3), (6, .ptr 6 0 0), (9, .d (.sl (r13.1.map (cL cS61)))), (10, .i r13.2), (11, .d (.sl (r14.1.map (cL cS61)))), (12, .i r14.2), (13, .d (.sl (r15.1.map (cL cS61)))), (14, .i r15.2), (16, .ref 115 0 l234.length), (17, .ref 126 0 l91.length), (19, .d (.sl (x223.map cS61))), (20, .i (l90.length : Int)), (22, .d (.sl (x260.map cS61))), (91, .d (.sl (a0.map (cL cS61)))), (92, .i (a0.length : Int)), (93, .i v92), (99, .d (.sl (a1.map (cL cS61)))), (100, .i (a1.length : Int)), (101, .i v235), (105, .d (.sl (x223.map cS61))), (106, .d (.sl (x260.map cS61))), (107, .agg [.d (.sl (a2.Left.map (cI .i64))), .d (.sl (a2.Right.map (cI .i64))), .b a2.Outer, .i a2.RightWidth]), (108, .b true), (109, .ref 115 0 l234.length), (110, .d (.sl (x223.map cS61))), (111, .d (.sl (x260.map cS61))), (112, .d (.sl (l264.map (cL cS61))))] [(6, BX a2), (115, R57 l234), (126, R57 l91)]) (by simp; exact Sub.table (by simp) (by simp)) ?_
          replace h := bsome h; obtain ⟨r265, hr265, h⟩ := h
          refine Chain.callC (d := 113) (p27 N l264 r265 hr265) (by simp) rfl rfl (by simp <;> rfl) (by simp <;> rfl) ent27 (by simp) (.inl ⟨by simp, by simp⟩) ?_
          refine Chain.sub (S' := mk 170 [] [(1, .d (.sl (a1.map (cL cS61)))), (3, .b a3), (6, .ptr 6 0 0), (9, .d (.sl (r13.1.map (cL cS61)))), (10, .i r13.2), (11, .d (.sl (r14.1.map (cL cS61)))), (12, .i r14.2), (13, .d (.sl (r15.1.map (cL cS61)))), (14, .i r15.2), (16, .ref 115 0 l234.length), (17, .ref 126 0 l91.length), (19, .d (.sl (x223.map cS61))), (20, .i (l90.length : Int)), (22, .d (.sl (x260.map cS61))), (91, .d (.sl (a0.map (cL cS61)))), (92, .i (a0.length : Int)), (93, .i v92), (99, .d (.sl (a1.map (cL cS61)))), (100, .i (a1.length : Int)), (101, .i v235), (105, .d (.sl (x223.map cS61))), (106, .d (.sl (x260.map cS61))), (107, .agg [.d (.sl (a2.Left.map (cI .i64))), .d (.sl (a2.Right.map (cI .i64))), .b a2.Outer, .i a2.RightWidth]), (108, .b true), (109, .ref 115 0 l234.length), (110, .d (.sl (x223.map cS61))), (111, .d (.sl (x260.map cS61))), (112, .d (.sl (l264.map (cL cS61)))), (113, .d (.sl (r265.map cS61)))] [(6, BX a2), (115, R57 l234), (126, R57 l91)]) (by simp; exact Sub.table (by simp) (by simp)) ?_
          replace h := bsome h; obtain ⟨l266, hl266, h⟩ := h
          obtain ⟨hl266a, hl266⟩ := appL_some hl266
          subst hl266
          try simp only [List.length_cons, List.length_nil, Nat.zero_add] at hl266a
          refine Chain.runK [114] 3 fun K hK => ?_; simp [hl266a]; refine hK _ _ ?_; clear hK K
          refine Chain.sub (S' := mk 170 [] [(1, .d (.sl (a1.map (cL cS61)))), (3, .b a3), (6, .ptr 6 0 0), (9, .d (.sl (r13.1.map (cL cS61)))), (10, .i r13.2), (11, .d (.sl (r14.1.map (cL cS61)))), (12, .i r14.2), (13, .d (.sl (r15.1.map (cL cS61)))), (14, .i r15.2), (16, .ref 115 0 ((l234 ++ [r265]).length)), (17, .ref 126 0 l91.length), (19, .d (.sl (x223.map cS61))), (20, .i (l90.length : Int)), (91, .d (.sl (a0.map (cL cS61)))), (92, .i (a0.length : Int)), (93, .i v92), (99, .d (.sl (a1.map (cL cS61)))), (100, .i (a1.length : Int)), (101, .i v235)] [(6, BX a2), (115, R57 (l234 ++ [r265])), (126, R57 l91)]) Sub.tt ?_
          refine Chain.nil ?_
          refine blockQ.normal ?_
          refine thenQ_normal ?_
          refine AW.region ?_
          replace h := bsome h; obtain ⟨v267, hv267, h⟩ := h
          have hv267 := chkI_some hv267
          refine Chain.runK [] 2 fun K hK => ?_; simp [hv267]; refine hK _ _ ?_; clear hK K
          refine Chain.sub (S' := mk 170 [] [(1, .d (.sl (a1.map (cL cS61)))), (3, .b a3), (6, .ptr 6 0 0), (9, .d (.sl (r13.1.map (cL cS61)))), (10, .i r13.2), (11, .d (.sl (r14.1.map (cL cS61)))), (12, .i r14.2), (13, .d (.sl (r15.1.map (cL cS61)))), (14, .i r15.2), (16, .ref 115 0 ((l234 ++ [r265]).length)), (17, .ref 126 0 l91.length), (19, .d (.sl (x223.map cS61))), (20, .i (l90.length : Int)), (91, .d (.sl (a0.map (cL cS61)))), (92, .i (a0.length : Int)), (93, .i v92), (99, .d (.sl (a1.map (cL cS61)))), (100, .i (a1.length : Int)), (101, .i v267)] [(6, BX a2), (115, R57 (l234 ++ [r265])), (126, R57 l91)]) Sub.tt ?_
          refine Chain.nil ?_
          cases h
          refine PostI.next ?_
          exact Sub.tt
         ·have c263_ : r262 = false := Bool.eq_false_iff.2 c263
          refine AW.condF (b := r262) rfl c263_ ?_
          refine AW.sub (Sub.bool 108 (b := r262) rfl c263_) ?_
          refine AW.sub (S' := mk 170 [] [(1, .d (.sl (a1.map (cL cS61)))), (3, .b a3), (6, .ptr 6 0 0), (9, .d (.sl (r13.1.map (cL cS61)))), (10, .i r13.2), (11, .d (.sl (r14.1.map (cL cS61)))), (12, .i r14.2), (13, .d (.sl (r15.1.map (cL cS61)))), (14, .i r15.2), (16, .ref 115 0 l234.length), (17, .ref 126 0 l91.length), (19, .d (.sl (x223.map cS61))), (20, .i (l90.length : Int)), (22, .d (.sl (x260.map cS61))), (91, .d (.sl (a0.map (cL cS61)))), (92, .i (a0.length : Int)), (93, .i v92), (99, .d (.sl (a1.map (cL cS61)))), (100, .i (a1.length : Int)), (101, .i v235), (105, .d (.sl (x223.map cS61))), (106, .d (.sl (x260.map cS61))), (107, .agg [.d (.sl (a2.Left.map (cI .i64))), .d (.sl (a2.Right.map (cI .i64))), .b a2.Outer, .i a2.RightWidth]), (108, .b false)] [(6, BX a2), (115, R57 l234), (126, R57 l91)]) (by simp; exact Sub.table (by simp) (by simp)) ?_
          refine AW.skip ?_
          refine blockQ.normal ?_
          refine thenQ_normal ?_
          refine AW.region ?_
          replace h := bsome h; obtain ⟨v268, hv268, h⟩ := h
          have hv268 := chkI_some hv268
          refine Chain.runK [] 2 fun K hK => ?_; simp [hv268]; refine hK _ _ ?_; clear hK K
          refine Chain.sub (S' := mk 170 [] [(1, .d (.sl (a1.map (cL cS61)))), (3, .b a3), (6, .ptr 6 0 0), (9, .d (.sl (r13.1.map (cL cS61)))), (10, .i r13.2), (11, .d (.sl (r14.1.map (cL cS61)))), (12, .i r14.2), (13, .d (.sl (r15.1.map (cL cS61)))), (14, .i r15.2), (16, .ref 115 0 l234.length), (17, .ref 126 0 l91.length), (19, .d (.sl (x223.map cS61))), (20, .i (l90.length : Int)), (91, .d (.sl (a0.map (cL cS61)))), (92, .i (a0.length : Int)), (93, .i v92), (99, .d (.sl (a1.map (cL cS61)))), (100, .i (a1.length : Int)), (101, .i v268)] [(6, BX a2), (115, R57 l234), (126, R57 l91)]) Sub.tt ?_
          refine Chain.nil ?_
          cases h
          refine PostI.next ?_
          exact Sub.tt
        ·have c259_ : decide (v235 < (a1.length : Int)) = false := decide_eq_false c259
         refine AW.condF (b := decide (v235 < (a1.length : Int))) rfl c259_ ?_
         refine AW.sub (Sub.bool 102 (b := decide (v235 < (a1.length : Int))) rfl c259_) ?_
         refine AW.sub (S' := mk 170 [] [(1, .d (.sl (a1.map (cL cS61)))), (3, .b a3), (6, .ptr 6 0 0), (9, .d (.sl (r13.1.map (cL cS61)))), (10, .i r13.2), (11, .d (.sl (r14.1.map (cL cS61)))), (12, .i r14.2), (13, .d (.sl (r15.1.map (cL cS61)))), (14, .i r15.2), (16, .ref 115 0 l234.length), (17, .ref 126 0 l91.length), (19, .d (.sl (x223.map cS61))), (20, .i (l90.length : Int)), (91, .d (.sl (a0.map (cL cS61)))), (92, .i (a0.length : Int)), (93, .i v92), (99, .d (.sl (a1.map (cL cS61)))), (100, .i (a1.length : Int)), (101, .i v235), (102, .b false)] [(6, BX a2), (115, R57 l234), (126, R57 l91)]) (by simp; exact Sub.table (by simp) (by simp)) ?_
         refine AW.exit ?_
         cases h
         refine thenQ_pass (by simp) ?_
         refine PostI.out (by simp) ?_
         rintro rfl
         refine blockQ.hit ?_
         refine PostN.next ?_
         exact Sub.tt
       ·rintro l258 h
        refine thenQ_normal ?_
        refine AW.seq ?_
        refine AW.seqR ?_
        refine Chain.runK [] 6 fun K hK => ?_; simp; refine hK _ _ ?_; clear hK K
        refine Chain.sub (S' := mk 170 [] [(1, .d (.sl (a1.map (cL cS61)))), (3, .b a3), (6, .ptr 6 0 0), (9, .d (.sl (r13.1.map (cL cS61)))), (10, .i r13.2), (11, .d (.sl (r14.1.map (cL cS61)))), (12, .i r14.2), (13, .d (.sl (r15.1.map (cL cS61)))), (14, .i r15.2), (16, .ref 115 0 l258.length), (17, .ref 126 0 l91.length), (19, .d (.sl (x223.map cS61))), (20, .i (l90.length : Int)), (91, .d (.sl (a0.map (cL cS61)))), (92, .i (a0.length : Int)), (93, .i v92), (122, .b (!((decide ((l258.length : Int) > (l90.length : Int))) == a3)))] [(6, BX a2), (115, R57 l258), (126, R57 l91)]) Sub.tt ?_
        refine Chain.nil ?_
        refine AW.lastN (fun (l271 : List (List S61)) => mk 170 [] [(1, .d (.sl (a1.map (cL cS61)))), (3, .b a3), (6, .ptr 6 0 0), (9, .d (.sl (r13.1.map (cL cS61)))), (10, .i r13.2), (11, .d (.sl (r14.1.map (cL cS61)))), (12, .i r14.2), (13, .d (.sl (r15.1.map (cL cS61)))), (14, .i r15.2), (16, .ref 115 0 l258.length), (17, .ref 126 0 l271.length), (19, .d (.sl (x223.map cS61))), (20, .i (l90.length : Int)), (91, .d (.sl (a0.map (cL cS61)))), (92, .i (a0.length : Int)), (93, .i v92)] [(6, BX a2), (115, R57 l258), (126, R57 l271)]) h ?_ ?_ <;> clear h
        ·intro o h
         replace h := isome h; rcases h with ⟨c272, h⟩ | ⟨c272, h⟩
         ·have c272_ : (!((decide ((l258.length : Int) > (l90.length : Int))) == a3)) = true := c272
          refine AW.condT (b := (!((decide ((l258.length : Int) > (l90.length : Int))) == a3))) rfl c272_ ?_
          refine AW.sub (Sub.bool 122 (b := (!((decide ((l258.length : Int) > (l90.length : Int))) == a3))) rfl c272_) ?_
          refine AW.sub (S' := mk 170 [] [(1, .d (.sl (a1.map (cL cS61)))), (3, .b a3), (6, .ptr 6 0 0), (9, .d (.sl (r13.1.map (cL cS61)))), (10, .i r13.2), (11, .d (.sl (r14.1.map (cL cS61)))), (12, .i r14.2), (13, .d (.sl (r15.1.map (cL cS61)))), (14, .i r15.2), (16, .ref 115 0 l258.length), (17, .ref 126 0 l91.length), (19, .d (.sl (x223.map cS61))), (20, .i (l90.length : Int)), (91, .d (.sl (a0.map (cL cS61)))), (92, .i (a0.length : Int)), (93, .i v92), (122, .b true)] [(6, BX a2), (115, R57 l258), (126, R57 l91)]) (by simp; exact Sub.table (by simp) (by simp)) ?_
          refine AW.region ?_
          replace h := bsome h; obtain ⟨l273, hl273, h⟩ := h
          obtain ⟨hl273a, hl273⟩ := appL_some hl273
          subst hl273
          try simp only [List.length_cons, List.length_nil, Nat.zero_add] at hl273a
          refine Chain.runK [125] 5 fun K hK => ?_; simp [hl273a]; refine hK _ _ ?_; clear hK K
          refine Chain.sub (S' := mk 170 [] [(1, .d (.sl (a1.map (cL cS61)))), (3, .b a3), (6, .ptr 6 0 0), (9, .d (.sl (r13.1.map (cL cS61)))), (10, .i r13.2), (11, .d (.sl (r14.1.map (cL cS61)))), (12, .i r14.2), (13, .d (.sl (r15.1.map (cL cS61)))), (14, .i r15.2), (16, .ref 115 0 l258.length), (17, .ref 126 0 ((l91 ++ [x223]).length)), (19, .d (.sl (x223.map cS61))), (20, .i (l90.length : Int)), (91, .d (.sl (a0.map (cL cS61)))), (92, .i (a0.length : Int)), (93, .i v92)] [(6, BX a2), (115, R57 l258), (126, R57 (l91 ++ [x223]))]) Sub.tt ?_
          refine Chain.nil ?_
          cases h
          refine PostN.next ?_
          exact Sub.tt
         ·have c272_ : (!((decide ((l258.length : Int) > (l90.length : Int))) == a3)) = false := Bool.eq_false_iff.2 c272
          refine AW.condF (b := (!((decide ((l258.length : Int) > (l90.length : Int))) == a3))) rfl c272_ ?_
          refine AW.sub (Sub.bool 122 (b := (!((decide ((l258.length : Int) > (l90.length : Int))) == a3))) rfl c272_) ?_
          refine AW.sub (S' := mk 170 [] [(1, .d (.sl (a1.map (cL cS61)))), (3, .b a3), (6, .ptr 6 0 0), (9, .d (.sl (r13.1.map (cL cS61)))), (10, .i r13.2), (11, .d (.sl (r14.1.map (cL cS61)))), (12, .i r14.2), (13, .d (.sl (r15.1.map (cL cS61)))), (14, .i r15.2), (16, .ref 115 0 l258.length), (17, .ref 126 0 l91.length), (19, .d (.sl (x223.map cS61))), (20, .i (l90.length : Int)), (91, .d (.sl (a0.map (cL cS61)))), (92, .i (a0.length : Int)), (93, .i v92), (122, .b false)] [(6, BX a2), (115, R57 l258), (126, R57 l91)]) (by simp; exact Sub.table (by simp) (by simp)) ?_
          refine AW.skip ?_
          cases h
          refine PostN.next ?_
          exact Sub.tt
        ·rintro l271 h
         refine thenQ_normal ?_
         replace h := bsome h; obtain ⟨v275, hj, h⟩ := h
         refine AW.cutR (mk 170 [] [(1, .d (.sl (a1.map (cL cS61)))), (3, .b a3), (6, .ptr 6 0 0), (9, .d (.sl (r13.1.map (cL cS61)))), (10, .i r13.2), (11, .d (.sl (r14.1.map (cL cS61)))), (12, .i r14.2), (13, .d (.sl (r15.1.map (cL cS61)))), (14, .i r15.2), (16, .ref 115 0 l258.length), (17, .ref 126 0 l271.length), (19, .d (.sl (x223.map cS61))), (91, .d (.sl (a0.map (cL cS61)))), (92, .i (a0.length : Int)), (93, .i v92), (134, .b v275)] [(6, BX a2), (115, R57 l258), (126, R57 l271)]) ?_ ?_
         ·clear h; have h := hj; clear hj
          refine Chain.runK [] 5 fun K hK => ?_; simp; refine hK _ _ ?_; clear hK K
          refine Chain.sub (S' := mk 170 [] [(1, .d (.sl (a1.map (cL cS61)))), (3, .b a3), (6, .ptr 6 0 0), (9, .d (.sl (r13.1.map (cL cS61)))), (10, .i r13.2), (11, .d (.sl (r14.1.map (cL cS61)))), (12, .i r14.2), (13, .d (.sl (r15.1.map (cL cS61)))), (14, .i r15.2), (16, .ref 115 0 l258.length), (17, .ref 126 0 l271.length), (19, .d (.sl (x223.map cS61))), (91, .d (.sl (a0.map (cL cS61)))), (92, .i (a0.length : Int)), (93, .i v92), (131, .b ((l258.length : Int) == (l90.length : Int)))] [(6, BX a2), (115, R57 l258), (126, R57 l271)]) Sub.tt ?_
          replace h := isome h; rcases h with ⟨c276, h⟩ | ⟨c276, h⟩
          ·have c276_ : ((l258.length : Int) == (l90.length : Int)) = true := c276
           refine Chain.sub (Sub.bool 131 (b := ((l258.length : Int) == (l90.length : Int))) rfl c276_) ?_
           refine Chain.sub (S' := mk 170 [] [(1, .d (.sl (a1.map (cL cS61)))), (3, .b a3), (6, .ptr 6 0 0), (9, .d (.sl (r13.1.map (cL cS61)))), (10, .i r13.2), (11, .d (.sl (r14.1.map (cL cS61)))), (12, .i r14.2), (13, .d (.sl (r15.1.map (cL cS61)))), (14, .i r15.2), (16, .ref 115 0 l258.length), (17, .ref 126 0 l271.length), (19, .d (.sl (x223.map cS61))), (91, .d (.sl (a0.map (cL cS61)))), (92, .i (a0.length : Int)), (93, .i v92), (131, .b true)] [(6, BX a2), (115, R57 l258), (126, R57 l271)]) (by simp; exact Sub.table (by simp) (by simp)) ?_
           refine Chain.runK [] 3 fun K hK => ?_; simp; refine hK _ _ ?_; clear hK K
           refine Chain.sub (S' := mk 170 [] [(1, .d (.sl (a1.map (cL cS61)))), (3, .b a3), (6, .ptr 6 0 0), (9, .d (.sl (r13.1.map (cL cS61)))), (10, .i r13.2), (11, .d (.sl (r14.1.map (cL cS61)))), (12, .i r14.2), (13, .d (.sl (r15.1.map (cL cS61)))), (14, .i r15.2), (16, .ref 115 0 l258.length), (17, .ref 126 0 l271.length), (19, .d (.sl (x223.map cS61))), (91, .d (.sl (a0.map (cL cS61)))), (92, .i (a0.length : Int)), (93, .i v92), (132, .ptr 6 0 2), (133, .b a2.Outer), (134, .b a2.Outer)] [(6, BX a2), (115, R57 l258), (126, R57 l271)]) Sub.tt ?_
           cases h
           exact Chain.nil Sub.tt
          ·have c276_ : ((l258.length : Int) == (l90.length : Int)) = false := Bool.eq_false_iff.2 c276
           refine Chain.sub (Sub.bool 131 (b := ((l258.length : Int) == (l90.length : Int))) rfl c276_) ?_
           refine Chain.sub (S' := mk 170 [] [(1, .d (.sl (a1.map (cL cS61)))), (3, .b a3), (6, .ptr 6 0 0), (9, .d (.sl (r13.1.map (cL cS61)))), (10, .i r13.2), (11, .d (.sl (r14.1.map (cL cS61)))), (12, .i r14.2), (13, .d (.sl (r15.1.map (cL cS61)))), (14, .i r15.2), (16, .ref 115 0 l258.length), (17, .ref 126 0 l271.length), (19, .d (.sl (x223.map cS61))), (91, .d (.sl (a0.map (cL cS61)))), (92, .i (a0.length : Int)), (93, .i v92), (131, .b false)] [(6, BX a2), (115, R57 l258), (126, R57 l271)]) (by simp; exact Sub.table (by simp) (by simp)) ?_
           refine Chain.runK [] 3 fun K hK => ?_; simp; refine hK _ _ ?_; clear hK K
           refine Chain.sub (S' := mk 170 [] [(1, .d (.sl (a1.map (cL cS61)))), (3, .b a3), (6, .ptr 6 0 0), (9, .d (.sl (r13.1.map (cL cS61)))), (10, .i r13.2), (11, .d (.sl (r14.1.map (cL cS61)))), (12, .i r14.2), (13, .d (.sl (r15.1.map (cL cS61)))), (14, .i r15.2), (16, .ref 115 0 l258.length), (17, .ref 126 0 l271.length), (19, .d (.sl (x223.map cS61))), (91, .d (.sl (a0.map (cL cS61)))), (92, .i (a0.length : Int)), (93, .i v92), (132, .tup []), (133, .tup []), (134, .b false)] [(6, BX a2), (115, R57 l258), (126, R57 l271)]) Sub.tt ?_
           cases h
           exact Chain.nil Sub.tt
         ·clear hj
          replace h := isome h; rcases h with ⟨c277, h⟩ | ⟨c277, h⟩
          ·have c277_ : v275 = true := c277
           refine AW.condT (b := v275) rfl c277_ ?_
           refine AW.sub (Sub.bool 134 (b := v275) rfl c277_) ?_
           refine AW.sub (S' := mk 170 [] [(1, .d (.sl (a1.map (cL cS61)))), (3, .b a3), (6, .ptr 6 0 0), (9, .d (.sl (r13.1.map (cL cS61)))), (10, .i r13.2), (11, .d (.sl (r14.1.map (cL cS61)))), (12, .i r14.2), (13, .d (.sl (r15.1.map (cL cS61)))), (14, .i r15.2), (16, .ref 115 0 l258.length), (17, .ref 126 0 l271.length), (19, .d (.sl (x223.map cS61))), (91, .d (.sl (a0.map (cL cS61)))), (92, .i (a0.length : Int)), (93, .i v92), (134, .b true)] [(6, BX a2), (115, R57 l258), (126, R57 l271)]) (by simp; exact Sub.table (by simp) (by simp)) ?_
           refine AW.region ?_
           replace h := bsome h; obtain ⟨l278, gl278, h⟩ := h
           obtain ⟨hl278a, hl278b, hl278c, hl278d⟩ := mkL_some cS61 gl278
           clear gl278
           replace hl278c : List.replicate l278.length [.lit (.int .i64 0), .lit (.int .i64 0), .lit (.string (ByteArray.mk #[]))] = l278.map cS61 := hl278c
           refine Chain.runK [142] 5 fun K hK => ?_; simp [hl278a, hl278b, hl278c, hl278d]; refine hK _ _ ?_; clear hK K
           refine Chain.sub (S' := mk 170 [] [(1, .d (.sl (a1.map (cL cS61)))), (3, .b a3), (6, .ptr 6 0 0), (9, .d (.sl (r13.1.map (cL cS61)))), (10, .i r13.2), (11, .d (.sl (r14.1.map (cL cS61)))), (12, .i r14.2), (13, .d (.sl (r15.1.map (cL cS61)))), (14, .i r15.2), (17, .ref 126 0 l271.length), (91, .d (.sl (a0.map (cL cS61)))), (92, .i (a0.length : Int)), (93, .i v92), (135, .ref 115 0 l258.length), (136, .d (.sl (x223.map cS61))), (139, .ref 139 0 l278.length)] [(6, BX a2), (115, R57 l258), (126, R57 l271), (139, R61 l278)]) Sub.tt ?_
           refine Chain.sub (Sub.freeze 139 rfl) ?_
           refine Chain.sub (S' := mk 170 [] [(1, .d (.sl (a1.map (cL cS61)))), (3, .b a3), (6, .ptr 6 0 0), (9, .d (.sl (r13.1.map (cL cS61)))), (10, .i r13.2), (11, .d (.sl (r14.1.map (cL cS61)))), (12, .i r14.2), (13, .d (.sl (r15.1.map (cL cS61)))), (14, .i r15.2), (17, .ref 126 0 l271.length), (91, .d (.sl (a0.map (cL cS61)))), (92, .i (a0.length : Int)), (93, .i v92), (135, .ref 115 0 l258.length), (136, .d (.sl (x223.map cS61))), (139, .d (.sl (l278.map cS61)))] [(6, BX a2), (115, R57 l258), (126, R57 l271)]) (by simp; exact Sub.table (by simp) (by simp)) ?_
           refine Chain.runK [142] 1 fun K hK => ?_; simp; refine hK _ _ ?_; clear hK K
           refine Chain.sub (Sub.wkRow 140 rfl) ?_
           replace h := lsome h; obtain ⟨l279, hl279, h⟩ := h
           refine Chain.sub (S' := mk 170 [] [(1, .d (.sl (a1.map (cL cS61)))), (3, .b a3), (6, .ptr 6 0 0), (9, .d (.sl (r13.1.map (cL cS61)))), (10, .i r13.2), (11, .d (.sl (r14.1.map (cL cS61)))), (12, .i r14.2), (13, .d (.sl (r15.1.map (cL cS61)))), (14, .i r15.2), (17, .ref 126 0 l271.length), (91, .d (.sl (a0.map (cL cS61)))), (92, .i (a0.length : Int)), (93, .i v92), (135, .ref 115 0 l258.length), (136, .d (.sl (x223.map cS61))), (139, .d (.sl (l278.map cS61))), (140, .ref 140 0 l279.length)] [(6, BX a2), (115, R57 l258), (126, R57 l271), (140, R57 l279)]) (by simp; subst hl279; exact Sub.table (by simp) (by simp)) ?_
           refine Chain.sub (Sub.freeze 140 rfl) ?_
           refine Chain.sub (S' := mk 170 [] [(1, .d (.sl (a1.map (cL cS61)))), (3, .b a3), (6, .ptr 6 0 0), (9, .d (.sl (r13.1.map (cL cS61)))), (10, .i r13.2), (11, .d (.sl (r14.1.map (cL cS61)))), (12, .i r14.2), (13, .d (.sl (r15.1.map (cL cS61)))), (14, .i r15.2), (17, .ref 126 0 l271.length), (91, .d (.sl (a0.map (cL cS61)))), (92, .i (a0.length : Int)), (93, .i v92), (135, .ref 115 0 l258.length), (136, .d (.sl (x223.map cS61))), (139, .d (.sl (l278.map cS61))), (140, .d (.sl (l279.map (cL cS61))))] [(6, BX a2), (115, R57 l258), (126, R57 l271)]) (by simp; exact Sub.table (by simp) (by simp)) ?_
           replace h := bsome h; obtain ⟨r280, hr280, h⟩ := h
           refine Chain.callC (d := 141) (p27 N l279 r280 hr280) (by simp) rfl rfl (by simp <;> rfl) (by simp <;> rfl) ent27 (by simp) (.inl ⟨by simp, by simp⟩) ?_
           refine Chain.sub (S' := mk 170 [] [(1, .d (.sl (a1.map (cL cS61)))), (3, .b a3), (6, .ptr 6 0 0), (9, .d (.sl (r13.1.map (cL cS61)))), (10, .i r13.2), (11, .d (.sl (r14.1.map (cL cS61)))), (12, .i r14.2), (13, .d (.sl (r15.1.map (cL cS61)))), (14, .i r15.2), (17, .ref 126 0 l271.length), (91, .d (.sl (a0.map (cL cS61)))), (92, .i (a0.length : Int)), (93, .i v92), (135, .ref 115 0 l258.length), (136, .d (.sl (x223.map cS61))), (139, .d (.sl (l278.map cS61))), (140, .d (.sl (l279.map (cL cS61)))), (141, .d (.sl (r280.map cS61)))] [(6, BX a2), (115, R57 l258), (126, R57 l271)]) (by simp; exact Sub.table (by simp) (by simp)) ?_
           replace h := bsome h; obtain ⟨l281, hl281, h⟩ := h
           obtain ⟨hl281a, hl281⟩ := appL_some hl281
           subst hl281
           try simp only [List.length_cons, List.length_nil, Nat.zero_add] at hl281a
           refine Chain.runK [142] 3 fun K hK => ?_; simp [hl281a]; refine hK _ _ ?_; clear hK K
           refine Chain.sub (S' := mk 170 [] [(1, .d (.sl (a1.map (cL cS61)))), (3, .b a3), (6, .ptr 6 0 0), (9, .d (.sl (r13.1.map (cL cS61)))), (10, .i r13.2), (11, .d (.sl (r14.1.map (cL cS61)))), (12, .i r14.2), (13, .d (.sl (r15.1.map (cL cS61)))), (14, .i r15.2), (16, .ref 115 0 ((l258 ++ [r280]).length)), (17, .ref 126 0 l271.length), (91, .d (.sl (a0.map (cL cS61)))), (92, .i (a0.length : Int)), (93, .i v92)] [(6, BX a2), (115, R57 (l258 ++ [r280])), (126, R57 l271)]) Sub.tt ?_
           refine Chain.nil ?_
           refine blockQ.normal ?_
           refine thenQ_normal ?_
           refine AW.region ?_
           replace h := bsome h; obtain ⟨v282, hv282, h⟩ := h
           have hv282 := chkI_some hv282
           refine Chain.runK [] 2 fun K hK => ?_; simp [hv282]; refine hK _ _ ?_; clear hK K
           refine Chain.sub (S' := mk 170 [] [(1, .d (.sl (a1.map (cL cS61)))), (3, .b a3), (6, .ptr 6 0 0), (9, .d (.sl (r13.1.map (cL cS61)))), (10, .i r13.2), (11, .d (.sl (r14.1.map (cL cS61)))), (12, .i r14.2), (13, .d (.sl (r15.1.map (cL cS61)))), (14, .i r15.2), (16, .ref 115 0 ((l258 ++ [r280]).length)), (17, .ref 126 0 l271.length), (91, .d (.sl (a0.map (cL cS61)))), (92, .i (a0.length : Int)), (93, .i v282)] [(6, BX a2), (115, R57 (l258 ++ [r280])), (126, R57 l271)]) Sub.tt ?_
           refine Chain.nil ?_
           cases h
           refine PostI.next ?_
           exact Sub.tt
          ·have c277_ : v275 = false := Bool.eq_false_iff.2 c277
           refine AW.condF (b := v275) rfl c277_ ?_
           refine AW.sub (Sub.bool 134 (b := v275) rfl c277_) ?_
           refine AW.sub (S' := mk 170 [] [(1, .d (.sl (a1.map (cL cS61)))), (3, .b a3), (6, .ptr 6 0 0), (9, .d (.sl (r13.1.map (cL cS61)))), (10, .i r13.2), (11, .d (.sl (r14.1.map (cL cS61)))), (12, .i r14.2), (13, .d (.sl (r15.1.map (cL cS61)))), (14, .i r15.2), (16, .ref 115 0 l258.length), (17, .ref 126 0 l271.length), (19, .d (.sl (x223.map cS61))), (91, .d (.sl (a0.map (cL cS61)))), (92, .i (a0.length : Int)), (93, .i v92), (134, .b false)] [(6, BX a2), (115, R57 l258), (126, R57 l271)]) (by simp; exact Sub.table (by simp) (by simp)) ?_
           refine AW.skip ?_
           refine blockQ.normal ?_
           refine thenQ_normal ?_
           refine AW.region ?_
           replace h := bsome h; obtain ⟨v283, hv283, h⟩ := h
           have hv283 := chkI_some hv283
           refine Chain.runK [] 2 fun K hK => ?_; simp [hv283]; refine hK _ _ ?_; clear hK K
           refine Chain.sub (S' := mk 170 [] [(1, .d (.sl (a1.map (cL cS61)))), (3, .b a3), (6, .ptr 6 0 0), (9, .d (.sl (r13.1.map (cL cS61)))), (10, .i r13.2), (11, .d (.sl (r14.1.map (cL cS61)))), (12, .i r14.2), (13, .d (.sl (r15.1.map (cL cS61)))), (14, .i r15.2), (16, .ref 115 0 l258.length), (17, .ref 126 0 l271.length), (91, .d (.sl (a0.map (cL cS61)))), (92, .i (a0.length : Int)), (93, .i v283)] [(6, BX a2), (115, R57 l258), (126, R57 l271)]) Sub.tt ?_
           refine Chain.nil ?_
           cases h
           refine PostI.next ?_
           exact Sub.tt
      ·have c222_ : decide (v92 < (a0.length : Int)) = false := decide_eq_false c222
       refine AW.condF (b := decide (v92 < (a0.length : Int))) rfl c222_ ?_
       refine AW.sub (Sub.bool 94 (b := decide (v92 < (a0.length : Int))) rfl c222_) ?_
       refine AW.sub (S' := mk 170 [] [(1, .d (.sl (a1.map (cL cS61)))), (3, .b a3), (6, .ptr 6 0 0), (9, .d (.sl (r13.1.map (cL cS61)))), (10, .i r13.2), (11, .d (.sl (r14.1.map (cL cS61)))), (12, .i r14.2), (13, .d (.sl (r15.1.map (cL cS61)))), (14, .i r15.2), (16, .ref 115 0 l90.length), (17, .ref 126 0 l91.length), (91, .d (.sl (a0.map (cL cS61)))), (92, .i (a0.length : Int)), (93, .i v92), (94, .b false)] [(6, BX a2), (115, R57 l90), (126, R57 l91)]) (by simp; exact Sub.table (by simp) (by simp)) ?_
       refine AW.exit ?_
       cases h
       refine thenQ_pass (by simp) ?_
       refine PostI.out (by simp) ?_
       rintro rfl
       refine blockQ.hit ?_
       refine PostN.next ?_
       exact Sub.tt
     ·rintro ⟨l220, l221⟩ h
      dsimp only at h ⊢
      refine thenQ_normal ?_
      replace h := bsome h; obtain ⟨v292, hj, h⟩ := h
      refine AW.cutR (mk 170 [] [(8, .b v292)] []) ?_ ?_
      ·clear h; have h := hj; clear hj
       refine Chain.runK [] 3 fun K hK => ?_; simp; refine hK _ _ ?_; clear hK K
       refine Chain.sub (S' := mk 170 [] [(9, .d (.sl (r13.1.map (cL cS61)))), (11, .d (.sl (r14.1.map (cL cS61)))), (12, .i r14.2), (13, .d (.sl (r15.1.map (cL cS61)))), (14, .i r15.2), (16, .ref 115 0 l220.length), (17, .ref 126 0 l221.length), (147, .b (r13.2 == 0))] [(115, R57 l220), (126, R57 l221)]) Sub.tt ?_
       replace h := isome h; rcases h with ⟨c293, h⟩ | ⟨c293, h⟩
       ·have c293_ : (r13.2 == 0) = true := c293
        refine Chain.sub (Sub.bool 147 (b := (r13.2 == 0)) rfl c293_) ?_
        refine Chain.sub (S' := mk 170 [] [(9, .d (.sl (r13.1.map (cL cS61)))), (11, .d (.sl (r14.1.map (cL cS61)))), (12, .i r14.2), (13, .d (.sl (r15.1.map (cL cS61)))), (14, .i r15.2), (16, .ref 115 0 l220.length), (17, .ref 126 0 l221.length), (147, .b true)] [(115, R57 l220), (126, R57 l221)]) (by simp; exact Sub.table (by simp) (by simp)) ?_
        refine Chain.runK [] 4 fun K hK => ?_; simp; refine hK _ _ ?_; clear hK K
        refine Chain.sub (S' := mk 170 [] [(9, .d (.sl (r13.1.map (cL cS61)))), (11, .d (.sl (r14.1.map (cL cS61)))), (13, .d (.sl (r15.1.map (cL cS61)))), (14, .i r15.2), (16, .ref 115 0 l220.length), (17, .ref 126 0 l221.length), (151, .b (r14.2 == 0))] [(115, R57 l220), (126, R57 l221)]) Sub.tt ?_
        replace h := isome h; rcases h with ⟨c294, h⟩ | ⟨c294, h⟩
        ·have c294_ : (r14.2 == 0) = true := c294
         refine Chain.sub (Sub.bool 151 (b := (r14.2 == 0)) rfl c294_) ?_
         refine Chain.sub (S' := mk 170 [] [(9, .d (.sl (r13.1.map (cL cS61)))), (11, .d (.sl (r14.1.map (cL cS61)))), (13, .d (.sl (r15.1.map (cL cS61)))), (14, .i r15.2), (16, .ref 115 0 l220.length), (17, .ref 126 0 l221.length), (151, .b true)] [(115, R57 l220), (126, R57 l221)]) (by simp; exact Sub.table (by simp) (by simp)) ?_
         refine Chain.runK [] 4 fun K hK => ?_; simp; refine hK _ _ ?_; clear hK K
         refine Chain.sub (S' := mk 170 [] [(9, .d (.sl (r13.1.map (cL cS61)))), (11, .d (.sl (r14.1.map (cL cS61)))), (13, .d (.sl (r15.1.map (cL cS61)))), (16, .ref 115 0 l220.length), (17, .ref 126 0 l221.length), (155, .b (r15.2 == 0))] [(115, R57 l220), (126, R57 l221)]) Sub.tt ?_
         replace h := isome h; rcases h with ⟨c295, h⟩ | ⟨c295, h⟩
         ·have c295_ : (r15.2 == 0) = true := c295
          refine Chain.sub (Sub.bool 155 (b := (r15.2 == 0)) rfl c295_) ?_
          refine Chain.sub (S' := mk 170 [] [(9, .d (.sl (r13.1.map (cL cS61)))), (11, .d (.sl (r14.1.map (cL cS61)))), (13, .d (.sl (r15.1.map (cL cS61)))), (16, .ref 115 0 l220.length), (17, .ref 126 0 l221.length), (155, .b true)] [(115, R57 l220), (126, R57 l221)]) (by simp; exact Sub.table (by simp) (by simp)) ?_
          refine Chain.runK [] 2 fun K hK => ?_; simp; refine hK _ _ ?_; clear hK K
          refine Chain.sub (S' := mk 170 [] [(11, .d (.sl (r14.1.map (cL cS61)))), (13, .d (.sl (r15.1.map (cL cS61)))), (16, .ref 115 0 l220.length), (17, .ref 126 0 l221.length), (155, .b true), (156, .d (.sl (r13.1.map (cL cS61)))), (157, .ref 115 0 l220.length)] [(115, R57 l220), (126, R57 l221)]) Sub.tt ?_
          replace h := bsome h; obtain ⟨r296, hr296, h⟩ := h
          refine Chain.callL (d := 158) (p28 N r13.1 l220 r296 hr296) (by simp) rfl rfl (by simp <;> rfl) (by simp <;> rfl) ent28 (by simp <;> rfl) ?_
          refine Chain.sub (S' := mk 170 [] [(11, .d (.sl (r14.1.map (cL cS61)))), (13, .d (.sl (r15.1.map (cL cS61)))), (16, .ref 115 0 l220.length), (17, .ref 126 0 l221.length), (155, .b true), (156, .d (.sl (r13.1.map (cL cS61)))), (157, .ref 115 0 l220.length), (158, .b r296)] [(115, R57 l220), (126, R57 l221)]) (by simp; exact Sub.table (by simp) (by simp)) ?_
          refine Chain.runK [] 2 fun K hK => ?_; simp; refine hK _ _ ?_; clear hK K
          refine Chain.sub (S' := mk 170 [] [(11, .d (.sl (r14.1.map (cL cS61)))), (13, .d (.sl (r15.1.map (cL cS61)))), (16, .ref 115 0 l220.length), (17, .ref 126 0 l221.length), (160, .b r296)] [(115, R57 l220), (126, R57 l221)]) Sub.tt ?_
          replace h := isome h; rcases h with ⟨c297, h⟩ | ⟨c297, h⟩
          ·have c297_ : r296 = true := c297
           refine Chain.sub (Sub.bool 160 (b := r296) rfl c297_) ?_
           refine Chain.sub (S' := mk 170 [] [(11, .d (.sl (r14.1.map (cL cS61)))), (13, .d (.sl (r15.1.map (cL cS61)))), (16, .ref 115 0 l220.length), (17, .ref 126 0 l221.length), (160, .b true)] [(115, R57 l220), (126, R57 l221)]) (by simp; exact Sub.table (by simp) (by simp)) ?_
           refine Chain.runK [] 2 fun K hK => ?_; simp; refine hK _ _ ?_; clear hK K
           refine Chain.sub (S' := mk 170 [] [(13, .d (.sl (r15.1.map (cL cS61)))), (17, .ref 126 0 l221.length), (160, .b true), (161, .d (.sl (r14.1.map (cL cS61)))), (162, .ref 115 0 l220.length)] [(115, R57 l220), (126, R57 l221)]) Sub.tt ?_
           replace h := bsome h; obtain ⟨r298, hr298, h⟩ := h
           refine Chain.callL (d := 163) (p28 N r14.1 l220 r298 hr298) (by simp) rfl rfl (by simp <;> rfl) (by simp <;> rfl) ent28 (by simp <;> rfl) ?_
           refine Chain.sub (S' := mk 170 [] [(13, .d (.sl (r15.1.map (cL cS61)))), (17, .ref 126 0 l221.length), (160, .b true), (161, .d (.sl (r14.1.map (cL cS61)))), (162, .ref 115 0 l220.length), (163, .b r298)] [(115, R57 l220), (126, R57 l221)]) (by simp; exact Sub.table (by simp) (by simp)) ?_
           refine Chain.runK [] 2 fun K hK => ?_; simp; refine hK _ _ ?_; clear hK K
           refine Chain.sub (S' := mk 170 [] [(13, .d (.sl (r15.1.map (cL cS61)))), (17, .ref 126 0 l221.length), (165, .b r298)] [(126, R57 l221)]) Sub.tt ?_
           replace h := isome h; rcases h with ⟨c299, h⟩ | ⟨c299, h⟩
           ·have c299_ : r298 = true := c299
            refine Chain.sub (Sub.bool 165 (b := r298) rfl c299_) ?_
            refine Chain.sub (S' := mk 170 [] [(13, .d (.sl (r15.1.map (cL cS61)))), (17, .ref 126 0 l221.length), (165, .b true)] [(126, R57 l221)]) (by simp; exact Sub.table (by simp) (by simp)) ?_
            refine Chain.runK [] 2 fun K hK => ?_; simp; refine hK _ _ ?_; clear hK K
            refine Chain.sub (S' := mk 170 [] [(165, .b true), (166, .d (.sl (r15.1.map (cL cS61)))), (167, .ref 126 0 l221.length)] [(126, R57 l221)]) Sub.tt ?_
            replace h := bsome h; obtain ⟨r300, hr300, h⟩ := h
            refine Chain.callL (d := 168) (p28 N r15.1 l221 r300 hr300) (by simp) rfl rfl (by simp <;> rfl) (by simp <;> rfl) ent28 (by simp <;> rfl) ?_
            refine Chain.sub (S' := mk 170 [] [(165, .b true), (166, .d (.sl (r15.1.map (cL cS61)))), (167, .ref 126 0 l221.length), (168, .b r300)] [(126, R57 l221)]) (by simp; exact Sub.table (by simp) (by simp)) ?_
            refine Chain.runK [] 2 fun K hK => ?_; simp; refine hK _ _ ?_; clear hK K
            refine Chain.sub (S' := mk 170 [] [(8, .b r300)] []) Sub.tt ?_
            cases h
            exact Chain.nil Sub.tt
           ·have c299_ : r298 = false := Bool.eq_false_iff.2 c299
            refine Chain.sub (Sub.bool 165 (b := r298) rfl c299_) ?_
            refine Chain.sub (S' := mk 170 [] [(13, .d (.sl (r15.1.map (cL cS61)))), (17, .ref 126 0 l221.length), (165, .b false)] [(126, R57 l221)]) (by simp; exact Sub.table (by simp) (by simp)) ?_
            refine Chain.runK [] 5 fun K hK => ?_; simp; refine hK _ _ ?_; clear hK K
            refine Chain.sub (S' := mk 170 [] [(8, .b false)] []) Sub.tt ?_
            cases h
            exact Chain.nil Sub.tt
          ·have c297_ : r296 = false := Bool.eq_false_iff.2 c297
           refine Chain.sub (Sub.bool 160 (b := r296) rfl c297_) ?_
           refine Chain.sub (S' := mk 170 [] [(11, .d (.sl (r14.1.map (cL cS61)))), (13, .d (.sl (r15.1.map (cL cS61)))), (16, .ref 115 0 l220.length), (17, .ref 126 0 l221.length), (160, .b false)] [(115, R57 l220), (126, R57 l221)]) (by simp; exact Sub.table (by simp) (by simp)) ?_
           refine Chain.runK [] 10 fun K hK => ?_; simp; refine hK _ _ ?_; clear hK K
           refine Chain.sub (S' := mk 170 [] [(8, .b false)] []) Sub.tt ?_
           cases h
           exact Chain.nil Sub.tt
         ·have c295_ : (r15.2 == 0) = false := Bool.eq_false_iff.2 c295
          refine Chain.sub (Sub.bool 155 (b := (r15.2 == 0)) rfl c295_) ?_
          refine Chain.sub (S' := mk 170 [] [(9, .d (.sl (r13.1.map (cL cS61)))), (11, .d (.sl (r14.1.map (cL cS61)))), (13, .d (.sl (r15.1.map (cL cS61)))), (16, .ref 115 0 l220.length), (17, .ref 126 0 l221.length), (155, .b false)] [(115, R57 l220), (126, R57 l221)]) (by simp; exact Sub.table (by simp) (by simp)) ?_
          refine Chain.runK [] 15 fun K hK => ?_; simp; refine hK _ _ ?_; clear hK K
          refine Chain.sub (S' := mk 170 [] [(8, .b false)] []) Sub.tt ?_
          cases h
          exact Chain.nil Sub.tt
        ·have c294_ : (r14.2 == 0) = false := Bool.eq_false_iff.2 c294
         refine Chain.sub (Sub.bool 151 (b := (r14.2 == 0)) rfl c294_) ?_
         refine Chain.sub (S' := mk 170 [] [(9, .d (.sl (r13.1.map (cL cS61)))), (11, .d (.sl (r14.1.map (cL cS61)))), (13, .d (.sl (r15.1.map (cL cS61)))), (14, .i r15.2), (16, .ref 115 0 l220.length), (17, .ref 126 0 l221.length), (151, .b false)] [(115, R57 l220), (126, R57 l221)]) (by simp; exact Sub.table (by simp) (by simp)) ?_
         refine Chain.runK [] 19 fun K hK => ?_; simp; refine hK _ _ ?_; clear hK K
         refine Chain.sub (S' := mk 170 [] [(8, .b false)] []) Sub.tt ?_
         cases h
         exact Chain.nil Sub.tt
       ·have c293_ : (r13.2 == 0) = false := Bool.eq_false_iff.2 c293
        refine Chain.sub (Sub.bool 147 (b := (r13.2 == 0)) rfl c293_) ?_
        refine Chain.sub (S' := mk 170 [] [(9, .d (.sl (r13.1.map (cL cS61)))), (11, .d (.sl (r14.1.map (cL cS61)))), (12, .i r14.2), (13, .d (.sl (r15.1.map (cL cS61)))), (14, .i r15.2), (16, .ref 115 0 l220.length), (17, .ref 126 0 l221.length), (147, .b false)] [(115, R57 l220), (126, R57 l221)]) (by simp; exact Sub.table (by simp) (by simp)) ?_
        refine Chain.runK [] 23 fun K hK => ?_; simp; refine hK _ _ ?_; clear hK K
        refine Chain.sub (S' := mk 170 [] [(8, .b false)] []) Sub.tt ?_
        cases h
        exact Chain.nil Sub.tt
      ·clear hj
       refine AW.ret ?_
       cases h
       exact FinC.ret (by simp) (by simp)

end Go.Proofs.YtimkkjiplioohaaGreatDoor
