/- Functions of the program as functional programs; the code computes them. -/
import Derived.Test.YtimkkjiplioohaaGreatDoorJa1
namespace Go.Proofs.YtimkkjiplioohaaGreatDoor
open Go.Ab Go.Rp
attribute [-simp] List.all_eq_true Array.all_toList Array.all_eq_true

/-- stemma/joinalgo.Validate -/
def d25 (N : Nat) (a0 : (List (List S61))) (a1 : (List (List S61))) (a2 : S50) : Option Int :=
 Option.bind (α := Bool) (
  if (a0.length : Int) > 400 then (
   some true
  ) else
  if (a1.length : Int) > 400 then (
   some true
  ) else
  some (decide (a2.RightWidth > 20))
 ) fun (v3 : Bool) =>
 if v3 = true then (
  some 2
 ) else
 Option.bind (α := Bool) (
  if ((a2.Left.length : Int) != (a2.Right.length : Int)) then (
   some true
  ) else
  some (decide (a2.RightWidth < 0))
 ) fun (v8 : Bool) =>
 if v8 = true then (
  some 3
 ) else
 bindO (β := Unit) (ρ := Int) (
  iterN (σ := Int) (ρ := (Out Unit Int)) (fun (v55 : Int) =>
   if v55 < (([(S136.mk a0 a2.Left), (S136.mk a1 a2.Right)] : List S136).length : Int) then (
    (idx ([(S136.mk a0 a2.Left), (S136.mk a1 a2.Right)] : List S136) v55).bind fun x148 =>
    bindO (β := Unit) (ρ := (Int ⊕ (Out Unit Int))) (
     iterN (σ := Int) (ρ := (Out Unit (Int ⊕ (Out Unit Int)))) (fun (v159 : Int) =>
      if v159 < (x148.at_.length : Int) then (
       (idx x148.at_ v159).bind fun x182 =>
       Option.bind (α := Bool) (
        if x182 < 0 then (
         some true
        ) else
        (d56 N x148.rows (fun b0 => d62 N b0 x182)).bind fun r188 =>
        some r188
       ) fun (v186 : Bool) =>
       if v186 = true then (
        some (.inr (.ret (.inr (.ret 3))))
       ) else
       (chkI (v159 + 1)).bind fun v190 =>
       some (.inl v190)
      ) else
      some (.inr (.go ()))
     ) N 0
    ) fun (_ : Unit) =>
    (chkI (v55 + 1)).bind fun v191 =>
    some (.inl v191)
   ) else
   some (.inr (.go ()))
  ) N 0
 ) fun (_ : Unit) =>
 (d56 N a1 (fun b0 => d63 N b0 a2)).bind fun r192 =>
 if r192 = true then (
  some 3
 ) else
 some 0
set_option maxRecDepth 100000 in
set_option maxHeartbeats 4000000 in
theorem p25 (N : Nat) (a0 : (List (List S61))) (a1 : (List (List S61))) (a2 : S50) (r : Int) (h : d25 N a0 a1 a2 = some r) : FunC Tryz.prog 25 [.d (.sl (a0.map (cL cS61))), .d (.sl (a1.map (cL cS61))), .agg [.d (.sl (a2.Left.map (cI .i64))), .d (.sl (a2.Right.map (cI .i64))), .b a2.Outer, .i a2.RightWidth]] (.i r) := by
 unfold d25 at h
 refine FunC.enter 70 [(0, .d (.sl (a0.map (cL cS61)))), (1, .d (.sl (a1.map (cL cS61)))), (2, .agg [.d (.sl (a2.Left.map (cI .i64))), .d (.sl (a2.Right.map (cI .i64))), .b a2.Outer, .i a2.RightWidth])] (by simp) Tryz.func25 rfl (of_decide_eq_true rfl) rfl rfl ?_
 refine AW.seqR ?_
 refine Chain.runK [] 2 fun K hK => ?_; simp; refine hK _ _ ?_; clear hK K
 refine Chain.sub (S' := mk 70 [] [(0, .d (.sl (a0.map (cL cS61)))), (1, .d (.sl (a1.map (cL cS61)))), (5, .ptr 5 0 0)] [(5, BX a2)]) Sub.tt ?_
 refine Chain.nil ?_
 refine AW.seq ?_
 replace h := bsome h; obtain ⟨v3, hj, h⟩ := h
 refine AW.cutR (mk 70 [] [(0, .d (.sl (a0.map (cL cS61)))), (1, .d (.sl (a1.map (cL cS61)))), (5, .ptr 5 0 0), (23, .b v3)] [(5, BX a2)]) ?_ ?_
 ·clear h; have h := hj; clear hj
  refine Chain.runK [] 4 fun K hK => ?_; simp; refine hK _ _ ?_; clear hK K
  refine Chain.sub (S' := mk 70 [] [(0, .d (.sl (a0.map (cL cS61)))), (1, .d (.sl (a1.map (cL cS61)))), (5, .ptr 5 0 0), (14, .b (decide ((a0.length : Int) > 400)))] [(5, BX a2)]) Sub.tt ?_
  replace h := isome h; rcases h with ⟨c4, h⟩ | ⟨c4, h⟩
  ·have c4_ : decide ((a0.length : Int) > 400) = true := decide_eq_true c4
   refine Chain.sub (Sub.bool 14 (b := decide ((a0.length : Int) > 400)) rfl c4_) ?_
   refine Chain.sub (S' := mk 70 [] [(0, .d (.sl (a0.map (cL cS61)))), (1, .d (.sl (a1.map (cL cS61)))), (5, .ptr 5 0 0), (14, .b true)] [(5, BX a2)]) (by simp; exact Sub.table (by simp) (by simp)) ?_
   refine Chain.runK [] 9 fun K hK => ?_; simp; refine hK _ _ ?_; clear hK K
   refine Chain.sub (S' := mk 70 [] [(0, .d (.sl (a0.map (cL cS61)))), (1, .d (.sl (a1.map (cL cS61)))), (5, .ptr 5 0 0), (23, .b true)] [(5, BX a2)]) Sub.tt ?_
   cases h
   exact Chain.nil Sub.tt
  ·have c4_ : decide ((a0.length : Int) > 400) = false := decide_eq_false c4
   refine Chain.sub (Sub.bool 14 (b := decide ((a0.length : Int) > 400)) rfl c4_) ?_
   refine Chain.sub (S' := mk 70 [] [(0, .d (.sl (a0.map (cL cS61)))), (1, .d (.sl (a1.map (cL cS61)))), (5, .ptr 5 0 0), (14, .b false)] [(5, BX a2)]) (by simp; exact Sub.table (by simp) (by simp)) ?_
   refine Chain.runK [] 5 fun K hK => ?_; simp; refine hK _ _ ?_; clear hK K
   refine Chain.sub (S' := mk 70 [] [(0, .d (.sl (a0.map (cL cS61)))), (1, .d (.sl (a1.map (cL cS61)))), (5, .ptr 5 0 0), (19, .b (decide ((a1.length : Int) > 400)))] [(5, BX a2)]) Sub.tt ?_
   replace h := isome h; rcases h with ⟨c5, h⟩ | ⟨c5, h⟩
   ·have c5_ : decide ((a1.length : Int) > 400) = true := decide_eq_true c5
    refine Chain.sub (Sub.bool 19 (b := decide ((a1.length : Int) > 400)) rfl c5_) ?_
    refine Chain.sub (S' := mk 70 [] [(0, .d (.sl (a0.map (cL cS61)))), (1, .d (.sl (a1.map (cL cS61)))), (5, .ptr 5 0 0), (19, .b true)] [(5, BX a2)]) (by simp; exact Sub.table (by simp) (by simp)) ?_
    refine Chain.runK [] 4 fun K hK => ?_; simp; refine hK _ _ ?_; clear hK K
    refine Chain.sub (S' := mk 70 [] [(0, .d (.sl (a0.map (cL cS61)))), (1, .d (.sl (a1.map (cL cS61)))), (5, .ptr 5 0 0), (23, .b true)] [(5, BX a2)]) Sub.tt ?_
    cases h
    exact Chain.nil Sub.tt
   ·have c5_ : decide ((a1.length : Int) > 400) = false := decide_eq_false c5
    refine Chain.sub (Sub.bool 19 (b := decide ((a1.length : Int) > 400)) rfl c5_) ?_
    refine Chain.sub (S' := mk 70 [] [(0, .d (.sl (a0.map (cL cS61)))), (1, .d (.sl (a1.map (cL cS61)))), (5, .ptr 5 0 0), (19, .b false)] [(5, BX a2)]) (by simp; exact Sub.table (by simp) (by simp)) ?_
    refine Chain.runK [] 4 fun K hK => ?_; simp; refine hK _ _ ?_; clear hK K
    refine Chain.sub (S' := mk 70 [] [(0, .d (.sl (a0.map (cL cS61)))), (1, .d (.sl (a1.map (cL cS61)))), (5, .ptr 5 0 0), (23, .b (decide (a2.RightWidth > 20)))] [(5, BX a2)]) Sub.tt ?_
    cases h
    exact Chain.nil Sub.tt
 ·clear hj
  replace h := isome h; rcases h with ⟨c6, h⟩ | ⟨c6, h⟩
  ·have c6_ : v3 = true := c6
   refine AW.condT (b := v3) rfl c6_ ?_
   refine AW.sub (Sub.bool 23 (b := v3) rfl c6_) ?_
   refine AW.sub (S' := mk 70 [] [(0, .d (.sl (a0.map (cL cS61)))), (1, .d (.sl (a1.map (cL cS61)))), (5, .ptr 5 0 0), (23, .b true)] [(5, BX a2)]) (by simp; exact Sub.table (by simp) (by simp)) ?_
   refine AW.seqR ?_
   refine Chain.runK [] 1 fun K hK => ?_; simp; refine hK _ _ ?_; clear hK K
   refine Chain.sub (S' := mk 70 [] [(6, .i 2)] []) Sub.tt ?_
   refine Chain.nil ?_
   refine AW.ret ?_
   cases h
   refine thenQ_pass (by simp) ?_
   exact FinC.ret (by simp) (by simp)
  ·have c6_ : v3 = false := Bool.eq_false_iff.2 c6
   refine AW.condF (b := v3) rfl c6_ ?_
   refine AW.sub (Sub.bool 23 (b := v3) rfl c6_) ?_
   refine AW.sub (S' := mk 70 [] [(0, .d (.sl (a0.map (cL cS61)))), (1, .d (.sl (a1.map (cL cS61)))), (5, .ptr 5 0 0), (23, .b false)] [(5, BX a2)]) (by simp; exact Sub.table (by simp) (by simp)) ?_
   refine AW.skip ?_
   refine thenQ_normal ?_
   refine AW.seq ?_
   replace h := bsome h; obtain ⟨v8, hj, h⟩ := h
   refine AW.cutR (mk 70 [] [(0, .d (.sl (a0.map (cL cS61)))), (1, .d (.sl (a1.map (cL cS61)))), (5, .ptr 5 0 0), (35, .b v8)] [(5, BX a2)]) ?_ ?_
   ·clear h; have h := hj; clear hj
    refine Chain.runK [] 8 fun K hK => ?_; simp; refine hK _ _ ?_; clear hK K
    refine Chain.sub (S' := mk 70 [] [(0, .d (.sl (a0.map (cL cS61)))), (1, .d (.sl (a1.map (cL cS61)))), (5, .ptr 5 0 0), (31, .b ((a2.Left.length : Int) != (a2.Right.length : Int)))] [(5, BX a2)]) Sub.tt ?_
    replace h := isome h; rcases h with ⟨c9, h⟩ | ⟨c9, h⟩
    ·have c9_ : ((a2.Left.length : Int) != (a2.Right.length : Int)) = true := c9
     refine Chain.sub (Sub.bool 31 (b := ((a2.Left.length : Int) != (a2.Right.length : Int))) rfl c9_) ?_
     refine Chain.sub (S' := mk 70 [] [(0, .d (.sl (a0.map (cL cS61)))), (1, .d (.sl (a1.map (cL cS61)))), (5, .ptr 5 0 0), (31, .b true)] [(5, BX a2)]) (by simp; exact Sub.table (by simp) (by simp)) ?_
     refine Chain.runK [] 4 fun K hK => ?_; simp; refine hK _ _ ?_; clear hK K
     refine Chain.sub (S' := mk 70 [] [(0, .d (.sl (a0.map (cL cS61)))), (1, .d (.sl (a1.map (cL cS61)))), (5, .ptr 5 0 0), (35, .b true)] [(5, BX a2)]) Sub.tt ?_
     cases h
     exact Chain.nil Sub.tt
    ·have c9_ : ((a2.Left.length : Int) != (a2.Right.length : Int)) = false := Bool.eq_false_iff.2 c9
     refine Chain.sub (Sub.bool 31 (b := ((a2.Left.length : Int) != (a2.Right.length : Int))) rfl c9_) ?_
     refine Chain.sub (S' := mk 70 [] [(0, .d (.sl (a0.map (cL cS61)))), (1, .d (.sl (a1.map (cL cS61)))), (5, .ptr 5 0 0), (31, .b false)] [(5, BX a2)]) (by simp; exact Sub.table (by simp) (by simp)) ?_
     refine Chain.runK [] 4 fun K hK => ?_; simp; refine hK _ _ ?_; clear hK K
     refine Chain.sub (S' := mk 70 [] [(0, .d (.sl (a0.map (cL cS61)))), (1, .d (.sl (a1.map (cL cS61)))), (5, .ptr 5 0 0), (35, .b (decide (a2.RightWidth < 0)))] [(5, BX a2)]) Sub.tt ?_
     cases h
     exact Chain.nil Sub.tt
   ·clear hj
    replace h := isome h; rcases h with ⟨c10, h⟩ | ⟨c10, h⟩
    ·have c10_ : v8 = true := c10
     refine AW.condT (b := v8) rfl c10_ ?_
     refine AW.sub (Sub.bool 35 (b := v8) rfl c10_) ?_
     refine AW.sub (S' := mk 70 [] [(0, .d (.sl (a0.map (cL cS61)))), (1, .d (.sl (a1.map (cL cS61)))), (5, .ptr 5 0 0), (35, .b true)] [(5, BX a2)]) (by simp; exact Sub.table (by simp) (by simp)) ?_
     refine AW.seqR ?_
     refine Chain.runK [] 1 fun K hK => ?_; simp; refine hK _ _ ?_; clear hK K
     refine Chain.sub (S' := mk 70 [] [(6, .i 3)] []) Sub.tt ?_
     refine Chain.nil ?_
     refine AW.ret ?_
     cases h
     refine thenQ_pass (by simp) ?_
     exact FinC.ret (by simp) (by simp)
    ·have c10_ : v8 = false := Bool.eq_false_iff.2 c10
     refine AW.condF (b := v8) rfl c10_ ?_
     refine AW.sub (Sub.bool 35 (b := v8) rfl c10_) ?_
     refine AW.sub (S' := mk 70 [] [(0, .d (.sl (a0.map (cL cS61)))), (1, .d (.sl (a1.map (cL cS61)))), (5, .ptr 5 0 0), (35, .b false)] [(5, BX a2)]) (by simp; exact Sub.table (by simp) (by simp)) ?_
     refine AW.skip ?_
     refine thenQ_normal ?_
     refine AW.seq ?_
     refine AW.seqR ?_
     refine Chain.runK [] 11 fun K hK => ?_; simp; refine hK _ _ ?_; clear hK K
     obtain ⟨l44, hl44⟩ : ∃ l, ([(S136.mk a0 a2.Left), (S136.mk a1 a2.Right)] : List S136) = l := ⟨_, rfl⟩
     rw [hl44] at h
     refine Chain.sub (S' := mk 70 [] [(1, .d (.sl (a1.map (cL cS61)))), (5, .ptr 5 0 0), (44, .ref 44 0 (l44.length)), (45, .i (l44.length : Int)), (46, .i 0)] [(5, BX a2), (44, R136 l44)]) (by subst hl44; exact Sub.table (by simp) (by simp)) ?_
     refine Chain.nil ?_
     refine AW.lastJ (fun (_ : Unit) => mk 70 [] [(1, .d (.sl (a1.map (cL cS61)))), (5, .ptr 5 0 0)] [(5, BX a2)]) h ?_ ?_ <;> clear h
     ·intro o h
      refine AW.block ?_
      refine AW.iter (fun (v55 : Int) => mk 70 [] [(1, .d (.sl (a1.map (cL cS61)))), (5, .ptr 5 0 0), (44, .ref 44 0 (l44.length)), (45, .i (l44.length : Int)), (46, .i v55)] [(5, BX a2), (44, R136 l44)]) h Sub.tt ?_
      clear h
      rintro v55 x h
      refine AW.seqR ?_
      refine Chain.runK [] 1 fun K hK => ?_; simp; refine hK _ _ ?_; clear hK K
      refine Chain.sub (S' := mk 70 [] [(1, .d (.sl (a1.map (cL cS61)))), (5, .ptr 5 0 0), (44, .ref 44 0 (l44.length)), (45, .i (l44.length : Int)), (46, .i v55), (47, .b (decide (v55 < (l44.length : Int))))] [(5, BX a2), (44, R136 l44)]) Sub.tt ?_
      refine Chain.nil ?_
      refine AW.seq ?_
      replace h := isome h; rcases h with ⟨c147, h⟩ | ⟨c147, h⟩
      ·have c147_ : decide (v55 < (l44.length : Int)) = true := decide_eq_true c147
       refine AW.condT (b := decide (v55 < (l44.length : Int))) rfl c147_ ?_
       refine AW.sub (Sub.bool 47 (b := decide (v55 < (l44.length : Int))) rfl c147_) ?_
       refine AW.sub (S' := mk 70 [] [(1, .d (.sl (a1.map (cL cS61)))), (5, .ptr 5 0 0), (44, .ref 44 0 (l44.length)), (45, .i (l44.length : Int)), (46, .i v55), (47, .b true)] [(5, BX a2), (44, R136 l44)]) (by simp; exact Sub.table (by simp) (by simp)) ?_
       refine AW.skip ?_
       refine thenQ_normal ?_
       refine AW.seq ?_
       refine AW.block ?_
       refine AW.seqR ?_
       replace h := bsome h; obtain ⟨x148, hx148, h⟩ := h
       obtain ⟨k149, hx148k, hx148, hx148a, hx148b⟩ := idx_some hx148
       refine Chain.runK [] 4 fun K hK => ?_; simp [hx148, hx148k, hx148a, hx148b]; refine hK _ _ ?_; clear hK K
       refine Chain.sub (S' := mk 70 [] [(1, .d (.sl (a1.map (cL cS61)))), (5, .ptr 5 0 0), (8, .ptr 8 0 0), (44, .ref 44 0 (l44.length)), (45, .i (l44.length : Int)), (46, .i v55)] [(5, BX a2), (8, some (.box [.d (.sl (x148.rows.map (cL cS61))), .d (.sl (x148.at_.map (cI .i64)))])), (44, R136 l44)]) Sub.tt ?_
       refine Chain.nil ?_
       refine AW.seqR ?_
       refine Chain.runK [] 4 fun K hK => ?_; simp; refine hK _ _ ?_; clear hK K
       refine Chain.sub (S' := mk 70 [] [(1, .d (.sl (a1.map (cL cS61)))), (5, .ptr 5 0 0), (8, .ptr 8 0 0), (44, .ref 44 0 (l44.length)), (45, .i (l44.length : Int)), (46, .i v55), (51, .d (.sl (x148.at_.map (cI .i64)))), (52, .i (x148.at_.length : Int)), (53, .i 0)] [(5, BX a2), (8, some (.box [.d (.sl (x148.rows.map (cL cS61))), .d (.sl (x148.at_.map (cI .i64)))])), (44, R136 l44)]) Sub.tt ?_
       refine Chain.nil ?_
       refine AW.lastJ (fun (_ : Unit) => mk 70 [] [(1, .d (.sl (a1.map (cL cS61)))), (5, .ptr 5 0 0), (44, .ref 44 0 (l44.length)), (45, .i (l44.length : Int)), (46, .i v55)] [(5, BX a2), (44, R136 l44)]) h ?_ ?_ <;> clear h
       ·intro o h
        refine AW.block ?_
        refine AW.iter (fun (v159 : Int) => mk 70 [] [(1, .d (.sl (a1.map (cL cS61)))), (5, .ptr 5 0 0), (8, .ptr 8 0 0), (44, .ref 44 0 (l44.length)), (45, .i (l44.length : Int)), (46, .i v55), (51, .d (.sl (x148.at_.map (cI .i64)))), (52, .i (x148.at_.length : Int)), (53, .i v159)] [(5, BX a2), (8, some (.box [.d (.sl (x148.rows.map (cL cS61))), .d (.sl (x148.at_.map (cI .i64)))])), (44, R136 l44)]) h Sub.tt ?_
        clear h
        rintro v159 x h
        refine AW.seqR ?_
        refine Chain.runK [] 1 fun K hK => ?_; simp; refine hK _ _ ?_; clear hK K
        refine Chain.sub (S' := mk 70 [] [(1, .d (.sl (a1.map (cL cS61)))), (5, .ptr 5 0 0), (8, .ptr 8 0 0), (44, .ref 44 0 (l44.length)), (45, .i (l44.length : Int)), (46, .i v55), (51, .d (.sl (x148.at_.map (cI .i64)))), (52, .i (x148.at_.length : Int)), (53, .i v159), (54, .b (decide (v159 < (x148.at_.length : Int))))] [(5, BX a2), (8, some (.box [.d (.sl (x148.rows.map (cL cS61))), .d (.sl (x148.at_.map (cI .i64)))])), (44, R136 l44)]) Sub.tt ?_
        refine Chain.nil ?_
        refine AW.seq ?_
        replace h := isome h; rcases h with ⟨c181, h⟩ | ⟨c181, h⟩
        ·have c181_ : decide (v159 < (x148.at_.length : Int)) = true := decide_eq_true c181
         refine AW.condT (b := decide (v159 < (x148.at_.length : Int))) rfl c181_ ?_
         refine AW.sub (Sub.bool 54 (b := decide (v159 < (x148.at_.length : Int))) rfl c181_) ?_
         refine AW.sub (S' := mk 70 [] [(1, .d (.sl (a1.map (cL cS61)))), (5, .ptr 5 0 0), (8, .ptr 8 0 0), (44, .ref 44 0 (l44.length)), (45, .i (l44.length : Int)), (46, .i v55), (51, .d (.sl (x148.at_.map (cI .i64)))), (52, .i (x148.at_.length : Int)), (53, .i v159), (54, .b true)] [(5, BX a2), (8, some (.box [.d (.sl (x148.rows.map (cL cS61))), .d (.sl (x148.at_.map (cI .i64)))])), (44, R136 l44)]) (by simp; exact Sub.table (by simp) (by simp)) ?_
         refine AW.skip ?_
         refine thenQ_normal ?_
         refine AW.seq ?_
         refine AW.block ?_
         refine AW.seqR ?_
         replace h := bsome h; obtain ⟨x182, hx182, h⟩ := h
         obtain ⟨k183, hx182k, hx182, hx182a, hx182b⟩ := idx_some hx182
         refine Chain.runK [] 4 fun K hK => ?_; simp [hx182, hx182k, hx182a]; refine hK _ _ ?_; clear hK K
         refine Chain.sub (S' := mk 70 [] [(1, .d (.sl (a1.map (cL cS61)))), (5, .ptr 5 0 0), (8, .ptr 8 0 0), (10, .ptr 10 0 0), (44, .ref 44 0 (l44.length)), (45, .i (l44.length : Int)), (46, .i v55), (51, .d (.sl (x148.at_.map (cI .i64)))), (52, .i (x148.at_.length : Int)), (53, .i v159)] [(5, BX a2), (8, some (.box [.d (.sl (x148.rows.map (cL cS61))), .d (.sl (x148.at_.map (cI .i64)))])), (10, some (.box [.i x182])), (44, R136 l44)]) Sub.tt ?_
         refine Chain.nil ?_
         replace h := bsome h; obtain ⟨v186, hj, h⟩ := h
         refine AW.cutR (mk 70 [] [(1, .d (.sl (a1.map (cL cS61)))), (5, .ptr 5 0 0), (8, .ptr 8 0 0), (44, .ref 44 0 (l44.length)), (45, .i (l44.length : Int)), (46, .i v55), (51, .d (.sl (x148.at_.map (cI .i64)))), (52, .i (x148.at_.length : Int)), (53, .i v159), (64, .b v186)] [(5, BX a2), (8, some (.box [.d (.sl (x148.rows.map (cL cS61))), .d (.sl (x148.at_.map (cI .i64)))])), (44, R136 l44)]) ?_ ?_
         ·clear h; have h := hj; clear hj
          refine Chain.runK [] 3 fun K hK => ?_; simp; refine hK _ _ ?_; clear hK K
          refine Chain.sub (S' := mk 70 [] [(1, .d (.sl (a1.map (cL cS61)))), (5, .ptr 5 0 0), (8, .ptr 8 0 0), (10, .ptr 10 0 0), (44, .ref 44 0 (l44.length)), (45, .i (l44.length : Int)), (46, .i v55), (51, .d (.sl (x148.at_.map (cI .i64)))), (52, .i (x148.at_.length : Int)), (53, .i v159), (59, .b (decide (x182 < 0)))] [(5, BX a2), (8, some (.box [.d (.sl (x148.rows.map (cL cS61))), .d (.sl (x148.at_.map (cI .i64)))])), (10, some (.box [.i x182])), (44, R136 l44)]) Sub.tt ?_
          replace h := isome h; rcases h with ⟨c187, h⟩ | ⟨c187, h⟩
          ·have c187_ : decide (x182 < 0) = true := decide_eq_true c187
           refine Chain.sub (Sub.bool 59 (b := decide (x182 < 0)) rfl c187_) ?_
           refine Chain.sub (S' := mk 70 [] [(1, .d (.sl (a1.map (cL cS61)))), (5, .ptr 5 0 0), (8, .ptr 8 0 0), (10, .ptr 10 0 0), (44, .ref 44 0 (l44.length)), (45, .i (l44.length : Int)), (46, .i v55), (51, .d (.sl (x148.at_.map (cI .i64)))), (52, .i (x148.at_.length : Int)), (53, .i v159), (59, .b true)] [(5, BX a2), (8, some (.box [.d (.sl (x148.rows.map (cL cS61))), .d (.sl (x148.at_.map (cI .i64)))])), (10, some (.box [.i x182])), (44, R136 l44)]) (by simp; exact Sub.table (by simp) (by simp)) ?_
           refine Chain.runK [] 5 fun K hK => ?_; simp; refine hK _ _ ?_; clear hK K
           refine Chain.sub (S' := mk 70 [] [(1, .d (.sl (a1.map (cL cS61)))), (5, .ptr 5 0 0), (8, .ptr 8 0 0), (44, .ref 44 0 (l44.length)), (45, .i (l44.length : Int)), (46, .i v55), (51, .d (.sl (x148.at_.map (cI .i64)))), (52, .i (x148.at_.length : Int)), (53, .i v159), (60, .tup []), (61, .tup []), (62, .tup []), (63, .tup []), (64, .b true)] [(5, BX a2), (8, some (.box [.d (.sl (x148.rows.map (cL cS61))), .d (.sl (x148.at_.map (cI .i64)))])), (44, R136 l44)]) Sub.tt ?_
           cases h
           exact Chain.nil Sub.tt
          ·have c187_ : decide (x182 < 0) = false := decide_eq_false c187
           refine Chain.sub (Sub.bool 59 (b := decide (x182 < 0)) rfl c187_) ?_
           refine Chain.sub (S' := mk 70 [] [(1, .d (.sl (a1.map (cL cS61)))), (5, .ptr 5 0 0), (8, .ptr 8 0 0), (10, .ptr 10 0 0), (44, .ref 44 0 (l44.length)), (45, .i (l44.length : Int)), (46, .i v55), (51, .d (.sl (x148.at_.map (cI .i64)))), (52, .i (x148.at_.length : Int)), (53, .i v159), (59, .b false)] [(5, BX a2), (8, some (.box [.d (.sl (x148.rows.map (cL cS61))), .d (.sl (x148.at_.map (cI .i64)))])), (10, some (.box [.i x182])), (44, R136 l44)]) (by simp; exact Sub.table (by simp) (by simp)) ?_
           refine Chain.runK [] 3 fun K hK => ?_; simp; refine hK _ _ ?_; clear hK K
           refine Chain.sub (S' := mk 70 [] [(1, .d (.sl (a1.map (cL cS61)))), (5, .ptr 5 0 0), (8, .ptr 8 0 0), (44, .ref 44 0 (l44.length)), (45, .i (l44.length : Int)), (46, .i v55), (51, .d (.sl (x148.at_.map (cI .i64)))), (52, .i (x148.at_.length : Int)), (53, .i v159), (59, .b false), (60, .ptr 8 0 0), (61, .d (.sl (x148.rows.map (cL cS61)))), (62, .fn (.func 62) [.ptr 10 0 0])] [(5, BX a2), (8, some (.box [.d (.sl (x148.rows.map (cL cS61))), .d (.sl (x148.at_.map (cI .i64)))])), (10, some (.box [.i x182])), (44, R136 l44)]) Sub.tt ?_
           replace h := bsome h; obtain ⟨r188, hr188, h⟩ := h
           refine Chain.callL (d := 63) (p56 N x148.rows 62 [.pim [.lit (.int .i64 x182)]] (fun b0 => d62 N b0 x182) ent62 (fun b0 r h => p62 N b0 x182 r h) r188 hr188) (by simp) rfl rfl (by simp <;> rfl) (by simp <;> rfl) ent56 (by simp <;> rfl) ?_
           refine Chain.sub (S' := mk 70 [] [(1, .d (.sl (a1.map (cL cS61)))), (5, .ptr 5 0 0), (8, .ptr 8 0 0), (44, .ref 44 0 (l44.length)), (45, .i (l44.length : Int)), (46, .i v55), (51, .d (.sl (x148.at_.map (cI .i64)))), (52, .i (x148.at_.length : Int)), (53, .i v159), (59, .b false), (60, .ptr 8 0 0), (61, .d (.sl (x148.rows.map (cL cS61)))), (62, .fn (.func 62) [.ptr 10 0 0]), (63, .b r188)] [(5, BX a2), (8, some (.box [.d (.sl (x148.rows.map (cL cS61))), .d (.sl (x148.at_.map (cI .i64)))])), (10, some (.box [.i x182])), (44, R136 l44)]) (by simp; exact Sub.table (by simp) (by simp)) ?_
           refine Chain.runK [] 1 fun K hK => ?_; simp; refine hK _ _ ?_; clear hK K
           refine Chain.sub (S' := mk 70 [] [(1, .d (.sl (a1.map (cL cS61)))), (5, .ptr 5 0 0), (8, .ptr 8 0 0), (44, .ref 44 0 (l44.length)), (45, .i (l44.length : Int)), (46, .i v55), (51, .d (.sl (x148.at_.map (cI .i64)))), (52, .i (x148.at_.length : Int)), (53, .i v159), (60, .ptr 8 0 0), (61, .d (.sl (x148.rows.map (cL cS61)))), (62, .fn (.func 62) [.ptr 10 0 0]), (63, .b r188), (64, .b r188)] [(5, BX a2), (8, some (.box [.d (.sl (x148.rows.map (cL cS61))), .d (.sl (x148.at_.map (cI .i64)))])), (10, some (.box [.i x182])), (44, R136 l44)]) Sub.tt ?_
           cases h
           exact Chain.nil Sub.tt
         ·clear hj
          replace h := isome h; rcases h with ⟨c189, h⟩ | ⟨c189, h⟩
          ·have c189_ : v186 = true := c189
           refine AW.condT (b := v186) rfl c189_ ?_
           refine AW.sub (Sub.bool 64 (b := v186) rfl c189_) ?_
           refine AW.sub (S' := mk 70 [] [(1, .d (.sl (a1.map (cL cS61)))), (5, .ptr 5 0 0), (8, .ptr 8 0 0), (44, .ref 44 0 (l44.length)), (45, .i (l44.length : Int)), (46, .i v55), (51, .d (.sl (x148.at_.map (cI .i64)))), (52, .i (x148.at_.length : Int)), (53, .i v159), (64, .b true)] [(5, BX a2), (8, some (.box [.d (.sl (x148.rows.map (cL cS61))), .d (.sl (x148.at_.map (cI .i64)))])), (44, R136 l44)]) (by simp; exact Sub.table (by simp) (by simp)) ?_
           refine AW.seqR ?_
           refine Chain.runK [] 1 fun K hK => ?_; simp; refine hK _ _ ?_; clear hK K
           refine Chain.sub (S' := mk 70 [] [(6, .i 3)] []) Sub.tt ?_
           refine Chain.nil ?_
           refine AW.ret ?_
           cases h
           refine blockQ.ret ?_
           refine thenQ_pass (by simp) ?_
           refine PostI.out (by simp) ?_
           rintro rfl
           refine blockQ.ret ?_
           refine PostJ.out (by simp) ?_
           rintro rfl
           refine blockQ.ret ?_
           refine thenQ_pass (by simp) ?_
           refine PostI.out (by simp) ?_
           rintro rfl
           refine blockQ.ret ?_
           refine PostJ.out (by simp) ?_
           rintro rfl
           refine thenQ_pass (by simp) ?_
           exact FinC.ret (by simp) (by simp)
          ·have c189_ : v186 = false := Bool.eq_false_iff.2 c189
           refine AW.condF (b := v186) rfl c189_ ?_
           refine AW.sub (Sub.bool 64 (b := v186) rfl c189_) ?_
           refine AW.sub (S' := mk 70 [] [(1, .d (.sl (a1.map (cL cS61)))), (5, .ptr 5 0 0), (8, .ptr 8 0 0), (44, .ref 44 0 (l44.length)), (45, .i (l44.length : Int)), (46, .i v55), (51, .d (.sl (x148.at_.map (cI .i64)))), (52, .i (x148.at_.length : Int)), (53, .i v159), (64, .b false)] [(5, BX a2), (8, some (.box [.d (.sl (x148.rows.map (cL cS61))), .d (.sl (x148.at_.map (cI .i64)))])), (44, R136 l44)]) (by simp; exact Sub.table (by simp) (by simp)) ?_
           refine AW.skip ?_
           refine blockQ.normal ?_
           refine thenQ_normal ?_
           refine AW.region ?_
           replace h := bsome h; obtain ⟨v190, hv190, h⟩ := h
           have hv190 := chkI_some hv190
           refine Chain.runK [] 2 fun K hK => ?_; simp [hv190]; refine hK _ _ ?_; clear hK K
           refine Chain.sub (S' := mk 70 [] [(1, .d (.sl (a1.map (cL cS61)))), (5, .ptr 5 0 0), (8, .ptr 8 0 0), (44, .ref 44 0 (l44.length)), (45, .i (l44.length : Int)), (46, .i v55), (51, .d (.sl (x148.at_.map (cI .i64)))), (52, .i (x148.at_.length : Int)), (53, .i v190)] [(5, BX a2), (8, some (.box [.d (.sl (x148.rows.map (cL cS61))), .d (.sl (x148.at_.map (cI .i64)))])), (44, R136 l44)]) Sub.tt ?_
           refine Chain.nil ?_
           cases h
           refine PostI.next ?_
           exact Sub.tt
        ·have c181_ : decide (v159 < (x148.at_.length : Int)) = false := decide_eq_false c181
         refine AW.condF (b := decide (v159 < (x148.at_.length : Int))) rfl c181_ ?_
         refine AW.sub (Sub.bool 54 (b := decide (v159 < (x148.at_.length : Int))) rfl c181_) ?_
         refine AW.sub (S' := mk 70 [] [(1, .d (.sl (a1.map (cL cS61)))), (5, .ptr 5 0 0), (8, .ptr 8 0 0), (44, .ref 44 0 (l44.length)), (45, .i (l44.length : Int)), (46, .i v55), (51, .d (.sl (x148.at_.map (cI .i64)))), (52, .i (x148.at_.length : Int)), (53, .i v159), (54, .b false)] [(5, BX a2), (8, some (.box [.d (.sl (x148.rows.map (cL cS61))), .d (.sl (x148.at_.map (cI .i64)))])), (44, R136 l44)]) (by simp; exact Sub.table (by simp) (by simp)) ?_
         refine AW.exit ?_
         cases h
         refine thenQ_pass (by simp) ?_
         refine PostI.out (by simp) ?_
         rintro rfl
         refine blockQ.hit ?_
         refine PostJ.next ?_
         exact Sub.tt
       ·rintro ⟨⟩ h
        refine blockQ.normal ?_
        refine thenQ_normal ?_
        refine AW.region ?_
        replace h := bsome h; obtain ⟨v191, hv191, h⟩ := h
        have hv191 := chkI_some hv191
        refine Chain.runK [] 2 fun K hK => ?_; simp [hv191]; refine hK _ _ ?_; clear hK K
        refine Chain.sub (S' := mk 70 [] [(1, .d (.sl (a1.map (cL cS61)))), (5, .ptr 5 0 0), (44, .ref 44 0 (l44.length)), (45, .i (l44.length : Int)), (46, .i v191)] [(5, BX a2), (44, R136 l44)]) Sub.tt ?_
        refine Chain.nil ?_
        cases h
        refine PostI.next ?_
        exact Sub.tt
      ·have c147_ : decide (v55 < (l44.length : Int)) = false := decide_eq_false c147
       refine AW.condF (b := decide (v55 < (l44.length : Int))) rfl c147_ ?_
       refine AW.sub (Sub.bool 47 (b := decide (v55 < (l44.length : Int))) rfl c147_) ?_
       refine AW.sub (S' := mk 70 [] [(1, .d (.sl (a1.map (cL cS61)))), (5, .ptr 5 0 0), (44, .ref 44 0 (l44.length)), (45, .i (l44.length : Int)), (46, .i v55), (47, .b false)] [(5, BX a2), (44, R136 l44)]) (by simp; exact Sub.table (by simp) (by simp)) ?_
       refine AW.exit ?_
       cases h
       refine thenQ_pass (by simp) ?_
       refine PostI.out (by simp) ?_
       rintro rfl
       refine blockQ.hit ?_
       refine PostJ.next ?_
       exact Sub.tt
     ·rintro ⟨⟩ h
      refine thenQ_normal ?_
      refine AW.seq ?_
      refine AW.seqR ?_
      refine Chain.runK [] 2 fun K hK => ?_; simp; refine hK _ _ ?_; clear hK K
      refine Chain.sub (S' := mk 70 [] [(67, .d (.sl (a1.map (cL cS61)))), (68, .fn (.func 63) [.ptr 5 0 0])] [(5, BX a2)]) Sub.tt ?_
      replace h := bsome h; obtain ⟨r192, hr192, h⟩ := h
      refine Chain.callL (d := 69) (p56 N a1 63 [.pim [.sl (a2.Left.map (cI .i64)), .sl (a2.Right.map (cI .i64)), .lit (.bool a2.Outer), .lit (.int .i64 a2.RightWidth)]] (fun b0 => d63 N b0 a2) ent63 (fun b0 r h => p63 N b0 a2 r h) r192 hr192) (by simp) rfl rfl (by simp <;> rfl) (by simp <;> rfl) ent56 (by simp <;> rfl) ?_
      refine Chain.sub (S' := mk 70 [] [(67, .d (.sl (a1.map (cL cS61)))), (68, .fn (.func 63) [.ptr 5 0 0]), (69, .b r192)] [(5, BX a2)]) (by simp; exact Sub.table (by simp) (by simp)) ?_
      refine Chain.nil ?_
      replace h := isome h; rcases h with ⟨c193, h⟩ | ⟨c193, h⟩
      ·have c193_ : r192 = true := c193
       refine AW.condT (b := r192) rfl c193_ ?_
       refine AW.sub (Sub.bool 69 (b := r192) rfl c193_) ?_
       refine AW.sub (S' := mk 70 [] [(67, .d (.sl (a1.map (cL cS61)))), (68, .fn (.func 63) [.ptr 5 0 0]), (69, .b true)] [(5, BX a2)]) (by simp; exact Sub.table (by simp) (by simp)) ?_
       refine AW.seqR ?_
       refine Chain.runK [] 1 fun K hK => ?_; simp; refine hK _ _ ?_; clear hK K
       refine Chain.sub (S' := mk 70 [] [(6, .i 3)] []) Sub.tt ?_
       refine Chain.nil ?_
       refine AW.ret ?_
       cases h
       refine thenQ_pass (by simp) ?_
       exact FinC.ret (by simp) (by simp)
      ·have c193_ : r192 = false := Bool.eq_false_iff.2 c193
       refine AW.condF (b := r192) rfl c193_ ?_
       refine AW.sub (Sub.bool 69 (b := r192) rfl c193_) ?_
       refine AW.sub (S' := mk 70 [] [(67, .d (.sl (a1.map (cL cS61)))), (68, .fn (.func 63) [.ptr 5 0 0]), (69, .b false)] [(5, BX a2)]) (by simp; exact Sub.table (by simp) (by simp)) ?_
       refine AW.skip ?_
       refine thenQ_normal ?_
       refine AW.seqR ?_
       refine Chain.runK [] 1 fun K hK => ?_; simp; refine hK _ _ ?_; clear hK K
       refine Chain.sub (S' := mk 70 [] [(6, .i 0)] []) Sub.tt ?_
       refine Chain.nil ?_
       refine AW.ret ?_
       cases h
       exact FinC.ret (by simp) (by simp)

/-- stemma/joinalgo.key -/
def d58 (N : Nat) (a0 : (List S61)) (a1 : (List Int)) : Option ((List S61) × Bool) :=
 bindO (β := List S61) (ρ := ((List S61) × Bool)) (
  iterN (σ := ((List S61) × Int)) (ρ := (Out (List S61) ((List S61) × Bool))) (fun ((l8, v9) : ((List S61) × Int)) =>
   if v9 < (a1.length : Int) then (
    (idx a1 v9).bind fun x30 =>
    (idx a0 x30).bind fun x32 =>
    if (x32.Kind == 0) then (
     some (.inr (.ret (([] : List S61), false)))
    ) else
    (appL 32 l8 [x32]).bind fun _l35 =>
    (chkI (v9 + 1)).bind fun v36 =>
    some (.inl ((l8 ++ [x32]), v36))
   ) else
   some (.inr (.go l8))
  ) N (([] : List S61), 0)
 ) fun (l28 : List S61) =>
 some (l28, true)
set_option maxRecDepth 100000 in
set_option maxHeartbeats 4000000 in
theorem p58 (N : Nat) (a0 : (List S61)) (a1 : (List Int)) (r : ((List S61) × Bool)) (h : d58 N a0 a1 = some r) : FunC Tryz.prog 58 [.d (.sl (a0.map cS61)), .d (.sl (a1.map (cI .i64)))] (.tup [.d (.sl (r.1.map cS61)), .b r.2]) := by
 unfold d58 at h
 refine FunC.enter 30 [(0, .d (.sl (a0.map cS61))), (1, .d (.sl (a1.map (cI .i64))))] (by simp) Tryz.func58 rfl (of_decide_eq_true rfl) rfl rfl ?_
 refine AW.seqR ?_
 refine Chain.runK [] 2 fun K hK => ?_; simp; refine hK _ _ ?_; clear hK K
 refine Chain.sub (S' := mk 30 [] [(0, .d (.sl (a0.map cS61))), (1, .d (.sl (a1.map (cI .i64))))] []) Sub.tt ?_
 refine Chain.nil ?_
 refine AW.seqR ?_
 refine Chain.runK [] 1 fun K hK => ?_; simp; refine hK _ _ ?_; clear hK K
 refine Chain.sub (S' := mk 30 [] [(0, .d (.sl (a0.map cS61))), (1, .d (.sl (a1.map (cI .i64)))), (6, .d (.lit (.slice none 0 0)))] []) Sub.tt ?_
 refine Chain.nil ?_
 refine AW.seq ?_
 refine AW.seqR ?_
 refine Chain.runK [] 3 fun K hK => ?_; simp; refine hK _ _ ?_; clear hK K
 refine Chain.sub (S' := mk 30 [] [(0, .d (.sl (a0.map cS61))), (6, .d (.lit (.slice none 0 0))), (9, .d (.sl (a1.map (cI .i64)))), (10, .i (a1.length : Int)), (11, .i 0)] []) Sub.tt ?_
 refine Chain.nil ?_
 refine AW.lastJ (fun (l28 : List S61) => mk 30 [] [(6, .ref 27 0 l28.length)] [(27, R61 l28)]) h ?_ ?_ <;> clear h
 ·intro o h
  refine AW.block ?_
  refine AW.iter (fun ((l8, v9) : ((List S61) × Int)) => mk 30 [] [(0, .d (.sl (a0.map cS61))), (6, .ref 27 0 l8.length), (9, .d (.sl (a1.map (cI .i64)))), (10, .i (a1.length : Int)), (11, .i v9)] [(27, R61 l8)]) h (Sub.trans (Sub.nilOwn (t := 6) (id := 27) (T := 61) (n := 3) rfl rfl (by decide)) (by simp; exact Sub.table (by simp) (by simp))) ?_
  clear h
  rintro ⟨l8, v9⟩ x h
  dsimp only at h ⊢
  refine AW.seqR ?_
  refine Chain.runK [] 1 fun K hK => ?_; simp; refine hK _ _ ?_; clear hK K
  refine Chain.sub (S' := mk 30 [] [(0, .d (.sl (a0.map cS61))), (6, .ref 27 0 l8.length), (9, .d (.sl (a1.map (cI .i64)))), (10, .i (a1.length : Int)), (11, .i v9), (12, .b (decide (v9 < (a1.length : Int))))] [(27, R61 l8)]) Sub.tt ?_
  refine Chain.nil ?_
  refine AW.seq ?_
  replace h := isome h; rcases h with ⟨c29, h⟩ | ⟨c29, h⟩
  ·have c29_ : decide (v9 < (a1.length : Int)) = true := decide_eq_true c29
   refine AW.condT (b := decide (v9 < (a1.length : Int))) rfl c29_ ?_
   refine AW.sub (Sub.bool 12 (b := decide (v9 < (a1.length : Int))) rfl c29_) ?_
   refine AW.sub (S' := mk 30 [] [(0, .d (.sl (a0.map cS61))), (6, .ref 27 0 l8.length), (9, .d (.sl (a1.map (cI .i64)))), (10, .i (a1.length : Int)), (11, .i v9), (12, .b true)] [(27, R61 l8)]) (by simp; exact Sub.table (by simp) (by simp)) ?_
   refine AW.skip ?_
   refine thenQ_normal ?_
   refine AW.seq ?_
   refine AW.block ?_
   refine AW.seqR ?_
   replace h := bsome h; obtain ⟨x30, hx30, h⟩ := h
   obtain ⟨k31, hx30k, hx30, hx30a, hx30b⟩ := idx_some hx30
   refine Chain.runK [] 3 fun K hK => ?_; simp [hx30, hx30k, hx30a]; refine hK _ _ ?_; clear hK K
   refine Chain.sub (S' := mk 30 [] [(0, .d (.sl (a0.map cS61))), (6, .ref 27 0 l8.length), (8, .i x30), (9, .d (.sl (a1.map (cI .i64)))), (10, .i (a1.length : Int)), (11, .i v9)] [(27, R61 l8)]) Sub.tt ?_
   refine Chain.nil ?_
   refine AW.seq ?_
   refine AW.seqR ?_
   replace h := bsome h; obtain ⟨x32, hx32, h⟩ := h
   obtain ⟨k33, hx32k, hx32, hx32a, hx32b⟩ := idx_some hx32
   refine Chain.runK [] 6 fun K hK => ?_; simp [hx32, hx32k, hx32a]; refine hK _ _ ?_; clear hK K
   refine Chain.sub (S' := mk 30 [] [(0, .d (.sl (a0.map cS61))), (6, .ref 27 0 l8.length), (8, .i x30), (9, .d (.sl (a1.map (cI .i64)))), (10, .i (a1.length : Int)), (11, .i v9), (20, .b (x32.Kind == 0))] [(27, R61 l8)]) Sub.tt ?_
   refine Chain.nil ?_
   replace h := isome h; rcases h with ⟨c34, h⟩ | ⟨c34, h⟩
   ·have c34_ : (x32.Kind == 0) = true := c34
    refine AW.condT (b := (x32.Kind == 0)) rfl c34_ ?_
    refine AW.sub (Sub.bool 20 (b := (x32.Kind == 0)) rfl c34_) ?_
    refine AW.sub (S' := mk 30 [] [(0, .d (.sl (a0.map cS61))), (6, .ref 27 0 l8.length), (8, .i x30), (9, .d (.sl (a1.map (cI .i64)))), (10, .i (a1.length : Int)), (11, .i v9), (20, .b true)] [(27, R61 l8)]) (by simp; exact Sub.table (by simp) (by simp)) ?_
    refine AW.seqR ?_
    refine Chain.runK [] 2 fun K hK => ?_; simp; refine hK _ _ ?_; clear hK K
    refine Chain.sub (S' := mk 30 [] [(4, .d (.lit (.slice none 0 0))), (5, .b false)] []) Sub.tt ?_
    refine Chain.nil ?_
    refine AW.sub (Sub.wk 4 rfl) ?_
    refine AW.sub (S' := mk 30 [] [(4, .d (.sl (([] : List S61).map cS61))), (5, .b false)] []) (by simp; exact Sub.table (by simp) (by simp)) ?_
    refine AW.ret ?_
    cases h
    refine thenQ_pass (by simp) ?_
    refine blockQ.ret ?_
    refine thenQ_pass (by simp) ?_
    refine PostI.out (by simp) ?_
    rintro rfl
    refine blockQ.ret ?_
    refine PostJ.out (by simp) ?_
    rintro rfl
    refine thenQ_pass (by simp) ?_
    exact FinC.ret (by simp) (by simp)
   ·have c34_ : (x32.Kind == 0) = false := Bool.eq_false_iff.2 c34
    refine AW.condF (b := (x32.Kind == 0)) rfl c34_ ?_
    refine AW.sub (Sub.bool 20 (b := (x32.Kind == 0)) rfl c34_) ?_
    refine AW.sub (S' := mk 30 [] [(0, .d (.sl (a0.map cS61))), (6, .ref 27 0 l8.length), (8, .i x30), (9, .d (.sl (a1.map (cI .i64)))), (10, .i (a1.length : Int)), (11, .i v9), (20, .b false)] [(27, R61 l8)]) (by simp; exact Sub.table (by simp) (by simp)) ?_
    refine AW.skip ?_
    refine thenQ_normal ?_
    refine AW.region ?_
    replace h := bsome h; obtain ⟨l35, hl35, h⟩ := h
    obtain ⟨hl35a, hl35⟩ := appL_some hl35
    subst hl35
    try simp only [List.length_cons, List.length_nil, Nat.zero_add] at hl35a
    refine Chain.runK [26] 8 fun K hK => ?_; simp [hx32, hx32k, hx32a, hl35a]; refine hK _ _ ?_; clear hK K
    refine Chain.sub (S' := mk 30 [] [(0, .d (.sl (a0.map cS61))), (6, .ref 27 0 ((l8 ++ [x32]).length)), (9, .d (.sl (a1.map (cI .i64)))), (10, .i (a1.length : Int)), (11, .i v9)] [(27, R61 (l8 ++ [x32]))]) Sub.tt ?_
    refine Chain.nil ?_
    refine blockQ.normal ?_
    refine thenQ_normal ?_
    refine AW.region ?_
    replace h := bsome h; obtain ⟨v36, hv36, h⟩ := h
    have hv36 := chkI_some hv36
    refine Chain.runK [] 2 fun K hK => ?_; simp [hv36]; refine hK _ _ ?_; clear hK K
    refine Chain.sub (S' := mk 30 [] [(0, .d (.sl (a0.map cS61))), (6, .ref 27 0 ((l8 ++ [x32]).length)), (9, .d (.sl (a1.map (cI .i64)))), (10, .i (a1.length : Int)), (11, .i v36)] [(27, R61 (l8 ++ [x32]))]) Sub.tt ?_
    refine Chain.nil ?_
    cases h
    refine PostI.next ?_
    exact Sub.tt
  ·have c29_ : decide (v9 < (a1.length : Int)) = false := decide_eq_false c29
   refine AW.condF (b := decide (v9 < (a1.length : Int))) rfl c29_ ?_
   refine AW.sub (Sub.bool 12 (b := decide (v9 < (a1.length : Int))) rfl c29_) ?_
   refine AW.sub (S' := mk 30 [] [(0, .d (.sl (a0.map cS61))), (6, .ref 27 0 l8.length), (9, .d (.sl (a1.map (cI .i64)))), (10, .i (a1.length : Int)), (11, .i v9), (12, .b false)] [(27, R61 l8)]) (by simp; exact Sub.table (by simp) (by simp)) ?_
   refine AW.exit ?_
   cases h
   refine thenQ_pass (by simp) ?_
   refine PostI.out (by simp) ?_
   rintro rfl
   refine blockQ.hit ?_
   refine PostJ.next ?_
   exact Sub.tt
 ·rintro l28 h
  refine thenQ_normal ?_
  refine AW.seqR ?_
  refine Chain.runK [] 3 fun K hK => ?_; simp; refine hK _ _ ?_; clear hK K
  refine Chain.sub (S' := mk 30 [] [(4, .ref 27 0 l28.length), (5, .b true)] [(27, R61 l28)]) Sub.tt ?_
  refine Chain.nil ?_
  refine AW.sub (Sub.freeze 27 rfl) ?_
  refine AW.sub (S' := mk 30 [] [(4, .d (.sl (l28.map cS61))), (5, .b true)] []) (by simp; exact Sub.table (by simp) (by simp)) ?_
  refine AW.ret ?_
  cases h
  exact FinC.ret (by simp) (by simp)

/-- slices.Equal[stemma/api.Row,stemma/api.Value] -/
def d47 (N : Nat) (a0 : (List S61)) (a1 : (List S61)) : Option Bool :=
 if ((a0.length : Int) != (a1.length : Int)) then (
  some false
 ) else
 bindO (β := Unit) (ρ := Bool) (
  iterN (σ := Int) (ρ := (Out Unit Bool)) (fun (v7 : Int) =>
   if v7 < (a0.length : Int) then (
    (idx a0 v7).bind fun x22 =>
    (idx a1 v7).bind fun x24 =>
    if (!beqS61 x22 x24) = true then (
     some (.inr (.ret false))
    ) else
    (chkI (v7 + 1)).bind fun v26 =>
    some (.inl v26)
   ) else
   some (.inr (.go ()))
  ) N 0
 ) fun (_ : Unit) =>
 some true
set_option maxRecDepth 100000 in
set_option maxHeartbeats 4000000 in
theorem p47 (N : Nat) (a0 : (List S61)) (a1 : (List S61)) (r : Bool) (h : d47 N a0 a1 = some r) : FunC Tryz.prog 47 [.d (.sl (a0.map cS61)), .d (.sl (a1.map cS61))] (.b r) := by
 unfold d47 at h
 refine FunC.enter 26 [(0, .d (.sl (a0.map cS61))), (1, .d (.sl (a1.map cS61)))] (by simp) Tryz.func47 rfl (of_decide_eq_true rfl) rfl rfl ?_
 refine AW.seqR ?_
 refine Chain.runK [] 1 fun K hK => ?_; simp; refine hK _ _ ?_; clear hK K
 refine Chain.sub (S' := mk 26 [] [(0, .d (.sl (a0.map cS61))), (1, .d (.sl (a1.map cS61)))] []) Sub.tt ?_
 refine Chain.nil ?_
 refine AW.seq ?_
 refine AW.seqR ?_
 refine Chain.runK [] 5 fun K hK => ?_; simp; refine hK _ _ ?_; clear hK K
 refine Chain.sub (S' := mk 26 [] [(0, .d (.sl (a0.map cS61))), (1, .d (.sl (a1.map cS61))), (10, .b ((a0.length : Int) != (a1.length : Int)))] []) Sub.tt ?_
 refine Chain.nil ?_
 replace h := isome h; rcases h with ⟨c1, h⟩ | ⟨c1, h⟩
 ·have c1_ : ((a0.length : Int) != (a1.length : Int)) = true := c1
  refine AW.condT (b := ((a0.length : Int) != (a1.length : Int))) rfl c1_ ?_
  refine AW.sub (Sub.bool 10 (b := ((a0.length : Int) != (a1.length : Int))) rfl c1_) ?_
  refine AW.sub (S' := mk 26 [] [(0, .d (.sl (a0.map cS61))), (1, .d (.sl (a1.map cS61))), (10, .b true)] []) (by simp; exact Sub.table (by simp) (by simp)) ?_
  refine AW.seqR ?_
  refine Chain.runK [] 1 fun K hK => ?_; simp; refine hK _ _ ?_; clear hK K
  refine Chain.sub (S' := mk 26 [] [(4, .b false)] []) Sub.tt ?_
  refine Chain.nil ?_
  refine AW.ret ?_
  cases h
  refine thenQ_pass (by simp) ?_
  exact FinC.ret (by simp) (by simp)
 ·have c1_ : ((a0.length : Int) != (a1.length : Int)) = false := Bool.eq_false_iff.2 c1
  refine AW.condF (b := ((a0.length : Int) != (a1.length : Int))) rfl c1_ ?_
  refine AW.sub (Sub.bool 10 (b := ((a0.length : Int) != (a1.length : Int))) rfl c1_) ?_
  refine AW.sub (S' := mk 26 [] [(0, .d (.sl (a0.map cS61))), (1, .d (.sl (a1.map cS61))), (10, .b false)] []) (by simp; exact Sub.table (by simp) (by simp)) ?_
  refine AW.skip ?_
  refine thenQ_normal ?_
  refine AW.seq ?_
  refine AW.seqR ?_
  refine Chain.runK [] 3 fun K hK => ?_; simp; refine hK _ _ ?_; clear hK K
  refine Chain.sub (S' := mk 26 [] [(0, .d (.sl (a0.map cS61))), (1, .d (.sl (a1.map cS61))), (12, .i (a0.length : Int)), (13, .i 0)] []) Sub.tt ?_
  refine Chain.nil ?_
  refine AW.lastJ (fun (_ : Unit) => mk 26 [] [] []) h ?_ ?_ <;> clear h
  ·intro o h
   refine AW.block ?_
   refine AW.iter (fun (v7 : Int) => mk 26 [] [(0, .d (.sl (a0.map cS61))), (1, .d (.sl (a1.map cS61))), (12, .i (a0.length : Int)), (13, .i v7)] []) h Sub.tt ?_
   clear h
   rintro v7 x h
   refine AW.seqR ?_
   refine Chain.runK [] 1 fun K hK => ?_; simp; refine hK _ _ ?_; clear hK K
   refine Chain.sub (S' := mk 26 [] [(0, .d (.sl (a0.map cS61))), (1, .d (.sl (a1.map cS61))), (12, .i (a0.length : Int)), (13, .i v7), (14, .b (decide (v7 < (a0.length : Int))))] []) Sub.tt ?_
   refine Chain.nil ?_
   refine AW.seq ?_
   replace h := isome h; rcases h with ⟨c21, h⟩ | ⟨c21, h⟩
   ·have c21_ : decide (v7 < (a0.length : Int)) = true := decide_eq_true c21
    refine AW.condT (b := decide (v7 < (a0.length : Int))) rfl c21_ ?_
    refine AW.sub (Sub.bool 14 (b := decide (v7 < (a0.length : Int))) rfl c21_) ?_
    refine AW.sub (S' := mk 26 [] [(0, .d (.sl (a0.map cS61))), (1, .d (.sl (a1.map cS61))), (12, .i (a0.length : Int)), (13, .i v7), (14, .b true)] []) (by simp; exact Sub.table (by simp) (by simp)) ?_
    refine AW.skip ?_
    refine thenQ_normal ?_
    refine AW.seq ?_
    refine AW.block ?_
    refine AW.seqR ?_
    refine Chain.runK [] 2 fun K hK => ?_; simp; refine hK _ _ ?_; clear hK K
    refine Chain.sub (S' := mk 26 [] [(0, .d (.sl (a0.map cS61))), (1, .d (.sl (a1.map cS61))), (5, .i v7), (12, .i (a0.length : Int)), (13, .i v7)] []) Sub.tt ?_
    refine Chain.nil ?_
    refine AW.seqQ (by kernel_rfl) (by kernel_rfl) ?_
    replace h := bsome h; obtain ⟨x22, hx22, h⟩ := h
    obtain ⟨k23, hx22k, hx22, hx22a, hx22b⟩ := idx_some hx22
    replace h := bsome h; obtain ⟨x24, hx24, h⟩ := h
    obtain ⟨hx24, hx24a, hx24b⟩ := idx_some2 hx24 hx22k
    refine Chain.runQ 8 fun K hK => ?_; simp [hx22, hx22a, hx24, hx22k]; refine hK _ _ ?_; clear hK K
    refine Chain.sub (S' := mk 26 [] [(0, .d (.sl (a0.map cS61))), (1, .d (.sl (a1.map cS61))), (12, .i (a0.length : Int)), (13, .i v7), (19, .agg [.i x22.Kind, .i x22.Int, .d (.lit (.string x22.Text))]), (23, .agg [.i x24.Kind, .i x24.Int, .d (.lit (.string x24.Text))])] []) Sub.tt ?_
    refine Chain.pureP (by simp) (pure_eqA true rfl rfl rfl rfl (by kernel_rfl) (eqv61 x22 x24)) ?_
    refine Chain.sub (S' := mk 26 [] [(0, .d (.sl (a0.map cS61))), (1, .d (.sl (a1.map cS61))), (12, .i (a0.length : Int)), (13, .i v7), (19, .agg [.i x22.Kind, .i x22.Int, .d (.lit (.string x22.Text))]), (23, .agg [.i x24.Kind, .i x24.Int, .d (.lit (.string x24.Text))]), (24, .b (!beqS61 x22 x24))] []) (by simp; exact Sub.table (by simp) (by simp)) ?_
    refine Chain.nil ?_
    replace h := isome h; rcases h with ⟨c25, h⟩ | ⟨c25, h⟩
    ·have c25_ : (!beqS61 x22 x24) = true := c25
     refine AW.condT (b := (!beqS61 x22 x24)) rfl c25_ ?_
     refine AW.sub (Sub.bool 24 (b := (!beqS61 x22 x24)) rfl c25_) ?_
     refine AW.sub (S' := mk 26 [] [(0, .d (.sl (a0.map cS61))), (1, .d (.sl (a1.map cS61))), (12, .i (a0.length : Int)), (13, .i v7), (19, .agg [.i x22.Kind, .i x22.Int, .d (.lit (.string x22.Text))]), (23, .agg [.i x24.Kind, .i x24.Int, .d (.lit (.string x24.Text))]), (24, .b true)] []) (by simp; exact Sub.table (by simp) (by simp)) ?_
     refine AW.seqR ?_
     refine Chain.runK [] 1 fun K hK => ?_; simp; refine hK _ _ ?_; clear hK K
     refine Chain.sub (S' := mk 26 [] [(4, .b false)] []) Sub.tt ?_
     refine Chain.nil ?_
     refine AW.ret ?_
     cases h
     refine blockQ.ret ?_
     refine thenQ_pass (by simp) ?_
     refine PostI.out (by simp) ?_
     rintro rfl
     refine blockQ.ret ?_
     refine PostJ.out (by simp) ?_
     rintro rfl
     refine thenQ_pass (by simp) ?_
     exact FinC.ret (by simp) (by simp)
    ·have c25_ : (!beqS61 x22 x24) = false := Bool.eq_false_iff.2 c25
     refine AW.condF (b := (!beqS61 x22 x24)) rfl c25_ ?_
     refine AW.sub (Sub.bool 24 (b := (!beqS61 x22 x24)) rfl c25_) ?_
     refine AW.sub (S' := mk 26 [] [(0, .d (.sl (a0.map cS61))), (1, .d (.sl (a1.map cS61))), (12, .i (a0.length : Int)), (13, .i v7), (19, .agg [.i x22.Kind, .i x22.Int, .d (.lit (.string x22.Text))]), (23, .agg [.i x24.Kind, .i x24.Int, .d (.lit (.string x24.Text))]), (24, .b false)] []) (by simp; exact Sub.table (by simp) (by simp)) ?_
     refine AW.skip ?_
     refine blockQ.normal ?_
     refine thenQ_normal ?_
     refine AW.region ?_
     replace h := bsome h; obtain ⟨v26, hv26, h⟩ := h
     have hv26 := chkI_some hv26
     refine Chain.runK [] 2 fun K hK => ?_; simp [hv26]; refine hK _ _ ?_; clear hK K
     refine Chain.sub (S' := mk 26 [] [(0, .d (.sl (a0.map cS61))), (1, .d (.sl (a1.map cS61))), (12, .i (a0.length : Int)), (13, .i v26)] []) Sub.tt ?_
     refine Chain.nil ?_
     cases h
     refine PostI.next ?_
     exact Sub.tt
   ·have c21_ : decide (v7 < (a0.length : Int)) = false := decide_eq_false c21
    refine AW.condF (b := decide (v7 < (a0.length : Int))) rfl c21_ ?_
    refine AW.sub (Sub.bool 14 (b := decide (v7 < (a0.length : Int))) rfl c21_) ?_
    refine AW.sub (S' := mk 26 [] [(0, .d (.sl (a0.map cS61))), (1, .d (.sl (a1.map cS61))), (12, .i (a0.length : Int)), (13, .i v7), (14, .b false)] []) (by simp; exact Sub.table (by simp) (by simp)) ?_
    refine AW.exit ?_
    cases h
    refine thenQ_pass (by simp) ?_
    refine PostI.out (by simp) ?_
    rintro rfl
    refine blockQ.hit ?_
    refine PostJ.next ?_
    exact Sub.tt
  ·rintro ⟨⟩ h
   refine thenQ_normal ?_
   refine AW.seqR ?_
   refine Chain.runK [] 1 fun K hK => ?_; simp; refine hK _ _ ?_; clear hK K
   refine Chain.sub (S' := mk 26 [] [(4, .b true)] []) Sub.tt ?_
   refine Chain.nil ?_
   refine AW.ret ?_
   cases h
   exact FinC.ret (by simp) (by simp)

end Go.Proofs.YtimkkjiplioohaaGreatDoor
