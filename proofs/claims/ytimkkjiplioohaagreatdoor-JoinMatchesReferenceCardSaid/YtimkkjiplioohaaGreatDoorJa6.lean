/- Functions of the program as functional programs; the code computes them. -/
import Derived.Test.YtimkkjiplioohaaGreatDoorJa5
namespace Go.Proofs.YtimkkjiplioohaaGreatDoor
open Go.Ab Go.Rp
attribute [-simp] List.all_eq_true Array.all_toList Array.all_eq_true

/-- stemma/joinalgo.SemiJoin -/
def d24 (N : Nat) (a0 : (List (List S61))) (a1 : (List (List S61))) (a2 : S50) (a3 : Bool) : Option ((List (List S61)) × Int) :=
 (d25 N a0 a1 a2).bind fun r1 =>
 if (r1 != 0) then (
  some (([] : List (List S61)), r1)
 ) else
 Option.bind (α := List (ByteArray × Bool)) (
  iterN (σ := ((List (ByteArray × Bool)) × Int)) (ρ := List (ByteArray × Bool)) (fun ((m10, v11) : ((List (ByteArray × Bool)) × Int)) =>
   if v11 < (a1.length : Int) then (
    (idx a1 v11).bind fun x32 =>
    (d58 N x32 a2.Right).bind fun r34 =>
    if r34.2 = true then (
     (d61 N r34.1).bind fun r36 =>
     (chkI (v11 + 1)).bind fun v37 =>
     some (.inl ((mput m10 r36 true), v37))
    ) else
    (chkI (v11 + 1)).bind fun v38 =>
    some (.inl (m10, v38))
   ) else
   some (.inr m10)
  ) N (([] : List (ByteArray × Bool)), 0)
 ) fun (m30 : List (ByteArray × Bool)) =>
 Option.bind (α := List (List S61)) (
  iterN (σ := ((List (List S61)) × Int)) (ρ := List (List S61)) (fun ((l54, v55) : ((List (List S61)) × Int)) =>
   if v55 < (a0.length : Int) then (
    (idx a0 v55).bind fun x92 =>
    (d58 N x92 a2.Left).bind fun r94 =>
    Option.bind (α := Bool) (
     if r94.2 = true then (
      (d61 N r94.1).bind fun r100 =>
      letv ((mget m30 r100).getD false) fun v101 =>
      some (!(v101 == a3))
     ) else
     some (!(false == a3))
    ) fun (v98 : Bool) =>
    if v98 = true then (
     (d39 N x92).bind fun r103 =>
     (appL 24 l54 [r103]).bind fun _l104 =>
     (chkI (v55 + 1)).bind fun v105 =>
     some (.inl ((l54 ++ [r103]), v105))
    ) else
    (chkI (v55 + 1)).bind fun v106 =>
    some (.inl (l54, v106))
   ) else
   some (.inr l54)
  ) N (([] : List (List S61)), 0)
 ) fun (l90 : List (List S61)) =>
 some (l90, 0)
set_option maxRecDepth 100000 in
set_option maxHeartbeats 4000000 in
theorem p24 (N : Nat) (a0 : (List (List S61))) (a1 : (List (List S61))) (a2 : S50) (a3 : Bool) (r : ((List (List S61)) × Int)) (h : d24 N a0 a1 a2 a3 = some r) : FunC Tryz.prog 24 [.d (.sl (a0.map (cL cS61))), .d (.sl (a1.map (cL cS61))), .agg [.d (.sl (a2.Left.map (cI .i64))), .d (.sl (a2.Right.map (cI .i64))), .b a2.Outer, .i a2.RightWidth], .b a3] (.tup [.d (.sl (r.1.map (cL cS61))), .i r.2]) := by
 unfold d24 at h
 refine FunC.enter 76 [(0, .d (.sl (a0.map (cL cS61)))), (1, .d (.sl (a1.map (cL cS61)))), (2, .agg [.d (.sl (a2.Left.map (cI .i64))), .d (.sl (a2.Right.map (cI .i64))), .b a2.Outer, .i a2.RightWidth]), (3, .b a3)] (by simp) Tryz.func24 rfl (of_decide_eq_true rfl) rfl rfl ?_
 refine AW.seqR ?_
 refine Chain.runK [] 3 fun K hK => ?_; simp; refine hK _ _ ?_; clear hK K
 refine Chain.sub (S' := mk 76 [] [(0, .d (.sl (a0.map (cL cS61)))), (1, .d (.sl (a1.map (cL cS61)))), (3, .b a3), (6, .ptr 6 0 0)] [(6, BX a2)]) Sub.tt ?_
 refine Chain.nil ?_
 refine AW.seq ?_
 refine AW.seqR ?_
 refine Chain.runK [] 3 fun K hK => ?_; simp; refine hK _ _ ?_; clear hK K
 refine Chain.sub (S' := mk 76 [] [(0, .d (.sl (a0.map (cL cS61)))), (1, .d (.sl (a1.map (cL cS61)))), (3, .b a3), (6, .ptr 6 0 0), (21, .d (.sl (a0.map (cL cS61)))), (22, .d (.sl (a1.map (cL cS61)))), (23, .agg [.d (.sl (a2.Left.map (cI .i64))), .d (.sl (a2.Right.map (cI .i64))), .b a2.Outer, .i a2.RightWidth])] [(6, BX a2)]) Sub.tt ?_
 replace h := bsome h; obtain ⟨r1, hr1, h⟩ := h
 refine Chain.callL (d := 24) (p25 N a0 a1 a2 r1 hr1) (by simp) rfl rfl (by simp <;> rfl) (by simp <;> rfl) ent25 (by simp <;> rfl) ?_
 refine Chain.sub (S' := mk 76 [] [(0, .d (.sl (a0.map (cL cS61)))), (1, .d (.sl (a1.map (cL cS61)))), (3, .b a3), (6, .ptr 6 0 0), (21, .d (.sl (a0.map (cL cS61)))), (22, .d (.sl (a1.map (cL cS61)))), (23, .agg [.d (.sl (a2.Left.map (cI .i64))), .d (.sl (a2.Right.map (cI .i64))), .b a2.Outer, .i a2.RightWidth]), (24, .i r1)] [(6, BX a2)]) (by simp; exact Sub.table (by simp) (by simp)) ?_
 refine Chain.runK [] 1 fun K hK => ?_; simp; refine hK _ _ ?_; clear hK K
 refine Chain.sub (S' := mk 76 [] [(0, .d (.sl (a0.map (cL cS61)))), (1, .d (.sl (a1.map (cL cS61)))), (3, .b a3), (6, .ptr 6 0 0), (10, .i r1)] [(6, BX a2)]) Sub.tt ?_
 refine Chain.nil ?_
 refine AW.seqR ?_
 refine Chain.runK [] 2 fun K hK => ?_; simp; refine hK _ _ ?_; clear hK K
 refine Chain.sub (S' := mk 76 [] [(0, .d (.sl (a0.map (cL cS61)))), (1, .d (.sl (a1.map (cL cS61)))), (3, .b a3), (6, .ptr 6 0 0), (10, .i r1), (26, .b (r1 != 0))] [(6, BX a2)]) Sub.tt ?_
 refine Chain.nil ?_
 replace h := isome h; rcases h with ⟨c2, h⟩ | ⟨c2, h⟩
 ·have c2_ : (r1 != 0) = true := c2
  refine AW.condT (b := (r1 != 0)) rfl c2_ ?_
  refine AW.sub (Sub.bool 26 (b := (r1 != 0)) rfl c2_) ?_
  refine AW.sub (S' := mk 76 [] [(0, .d (.sl (a0.map (cL cS61)))), (1, .d (.sl (a1.map (cL cS61)))), (3, .b a3), (6, .ptr 6 0 0), (10, .i r1), (26, .b true)] [(6, BX a2)]) (by simp; exact Sub.table (by simp) (by simp)) ?_
  refine AW.seqR ?_
  refine Chain.runK [] 3 fun K hK => ?_; simp; refine hK _ _ ?_; clear hK K
  refine Chain.sub (S' := mk 76 [] [(8, .d (.lit (.slice none 0 0))), (9, .i r1)] []) Sub.tt ?_
  refine Chain.nil ?_
  refine AW.sub (Sub.wk 8 rfl) ?_
  refine AW.sub (S' := mk 76 [] [(8, .d (.sl (([] : List (List S61)).map (cL cS61)))), (9, .i r1)] []) (by simp; exact Sub.table (by simp) (by simp)) ?_
  refine AW.ret ?_
  cases h
  refine thenQ_pass (by simp) ?_
  exact FinC.ret (by simp) (by simp)
 ·have c2_ : (r1 != 0) = false := Bool.eq_false_iff.2 c2
  refine AW.condF (b := (r1 != 0)) rfl c2_ ?_
  refine AW.sub (Sub.bool 26 (b := (r1 != 0)) rfl c2_) ?_
  refine AW.sub (S' := mk 76 [] [(0, .d (.sl (a0.map (cL cS61)))), (1, .d (.sl (a1.map (cL cS61)))), (3, .b a3), (6, .ptr 6 0 0), (10, .i r1), (26, .b false)] [(6, BX a2)]) (by simp; exact Sub.table (by simp) (by simp)) ?_
  refine AW.skip ?_
  refine thenQ_normal ?_
  refine AW.seqR ?_
  refine Chain.mmake .string (by simp) rfl rfl (by simp) ?_
  refine Chain.sub (S' := mk 76 [] [(0, .d (.sl (a0.map (cL cS61)))), (1, .d (.sl (a1.map (cL cS61)))), (3, .b a3), (6, .ptr 6 0 0), (10, .i r1), (26, .b false), (28, .mref 28)] [(6, BX a2), (28, some (.mp .string (encM MKey.sk vB ([] : List (ByteArray × Bool)))))]) (by simp; exact Sub.table (by simp) (by simp [encM_nil])) ?_
  refine Chain.runK [] 1 fun K hK => ?_; simp; refine hK _ _ ?_; clear hK K
  refine Chain.sub (S' := mk 76 [] [(0, .d (.sl (a0.map (cL cS61)))), (1, .d (.sl (a1.map (cL cS61)))), (3, .b a3), (6, .ptr 6 0 0), (11, .mref 28)] [(6, BX a2), (28, some (.mp .string (encM MKey.sk vB ([] : List (ByteArray × Bool)))))]) Sub.tt ?_
  refine Chain.nil ?_
  refine AW.seq ?_
  refine AW.seqR ?_
  refine Chain.runK [] 3 fun K hK => ?_; simp; refine hK _ _ ?_; clear hK K
  refine Chain.sub (S' := mk 76 [] [(0, .d (.sl (a0.map (cL cS61)))), (3, .b a3), (6, .ptr 6 0 0), (11, .mref 28), (29, .d (.sl (a1.map (cL cS61)))), (30, .i (a1.length : Int)), (31, .i 0)] [(6, BX a2), (28, some (.mp .string (encM MKey.sk vB ([] : List (ByteArray × Bool)))))]) Sub.tt ?_
  refine Chain.nil ?_
  refine AW.lastN (fun (m30 : List (ByteArray × Bool)) => mk 76 [] [(0, .d (.sl (a0.map (cL cS61)))), (3, .b a3), (6, .ptr 6 0 0), (11, .mref 28)] [(6, BX a2), (28, some (.mp .string (encM MKey.sk vB m30)))]) h ?_ ?_ <;> clear h
  ·intro o h
   refine AW.block ?_
   refine AW.iter (fun ((m10, v11) : ((List (ByteArray × Bool)) × Int)) => mk 76 [] [(0, .d (.sl (a0.map (cL cS61)))), (3, .b a3), (6, .ptr 6 0 0), (11, .mref 28), (29, .d (.sl (a1.map (cL cS61)))), (30, .i (a1.length : Int)), (31, .i v11)] [(6, BX a2), (28, some (.mp .string (encM MKey.sk vB m10)))]) h Sub.tt ?_
   clear h
   rintro ⟨m10, v11⟩ x h
   dsimp only at h ⊢
   refine AW.seqR ?_
   refine Chain.runK [] 1 fun K hK => ?_; simp; refine hK _ _ ?_; clear hK K
   refine Chain.sub (S' := mk 76 [] [(0, .d (.sl (a0.map (cL cS61)))), (3, .b a3), (6, .ptr 6 0 0), (11, .mref 28), (29, .d (.sl (a1.map (cL cS61)))), (30, .i (a1.length : Int)), (31, .i v11), (32, .b (decide (v11 < (a1.length : Int))))] [(6, BX a2), (28, some (.mp .string (encM MKey.sk vB m10)))]) Sub.tt ?_
   refine Chain.nil ?_
   refine AW.seq ?_
   replace h := isome h; rcases h with ⟨c31, h⟩ | ⟨c31, h⟩
   ·have c31_ : decide (v11 < (a1.length : Int)) = true := decide_eq_true c31
    refine AW.condT (b := decide (v11 < (a1.length : Int))) rfl c31_ ?_
    refine AW.sub (Sub.bool 32 (b := decide (v11 < (a1.length : Int))) rfl c31_) ?_
    refine AW.sub (S' := mk 76 [] [(0, .d (.sl (a0.map (cL cS61)))), (3, .b a3), (6, .ptr 6 0 0), (11, .mref 28), (29, .d (.sl (a1.map (cL cS61)))), (30, .i (a1.length : Int)), (31, .i v11), (32, .b true)] [(6, BX a2), (28, some (.mp .string (encM MKey.sk vB m10)))]) (by simp; exact Sub.table (by simp) (by simp)) ?_
    refine AW.skip ?_
    refine thenQ_normal ?_
    refine AW.seq ?_
    refine AW.block ?_
    refine AW.seqR ?_
    replace h := bsome h; obtain ⟨x32, hx32, h⟩ := h
    obtain ⟨k33, hx32k, hx32, hx32a, hx32b⟩ := idx_some hx32
    refine Chain.runK [] 3 fun K hK => ?_; simp [hx32, hx32k, hx32a]; refine hK _ _ ?_; clear hK K
    refine Chain.sub (S' := mk 76 [] [(0, .d (.sl (a0.map (cL cS61)))), (3, .b a3), (6, .ptr 6 0 0), (11, .mref 28), (13, .d (.sl (x32.map cS61))), (29, .d (.sl (a1.map (cL cS61)))), (30, .i (a1.length : Int)), (31, .i v11)] [(6, BX a2), (28, some (.mp .string (encM MKey.sk vB m10)))]) Sub.tt ?_
    refine Chain.nil ?_
    refine AW.seqR ?_
    refine Chain.runK [] 3 fun K hK => ?_; simp; refine hK _ _ ?_; clear hK K
    refine Chain.sub (S' := mk 76 [] [(0, .d (.sl (a0.map (cL cS61)))), (3, .b a3), (6, .ptr 6 0 0), (11, .mref 28), (29, .d (.sl (a1.map (cL cS61)))), (30, .i (a1.length : Int)), (31, .i v11), (36, .d (.sl (x32.map cS61))), (38, .d (.sl (a2.Right.map (cI .i64))))] [(6, BX a2), (28, some (.mp .string (encM MKey.sk vB m10)))]) Sub.tt ?_
    replace h := bsome h; obtain ⟨r34, hr34, h⟩ := h
    refine Chain.callC (d := 39) (p58 N x32 a2.Right r34 hr34) (by simp) rfl rfl (by simp <;> rfl) (by simp <;> rfl) ent58 (by simp) (.inl ⟨by simp, by simp⟩) ?_
    refine Chain.sub (S' := mk 76 [] [(0, .d (.sl (a0.map (cL cS61)))), (3, .b a3), (6, .ptr 6 0 0), (11, .mref 28), (29, .d (.sl (a1.map (cL cS61)))), (30, .i (a1.length : Int)), (31, .i v11), (36, .d (.sl (x32.map cS61))), (38, .d (.sl (a2.Right.map (cI .i64)))), (39, .tup [.d (.sl (r34.1.map cS61)), .b r34.2])] [(6, BX a2), (28, some (.mp .string (encM MKey.sk vB m10)))]) (by simp; exact Sub.table (by simp) (by simp)) ?_
    refine Chain.runK [] 5 fun K hK => ?_; simp; refine hK _ _ ?_; clear hK K
    refine Chain.sub (S' := mk 76 [] [(0, .d (.sl (a0.map (cL cS61)))), (3, .b a3), (6, .ptr 6 0 0), (11, .mref 28), (14, .d (.sl (r34.1.map cS61))), (15, .b r34.2), (29, .d (.sl (a1.map (cL cS61)))), (30, .i (a1.length : Int)), (31, .i v11)] [(6, BX a2), (28, some (.mp .string (encM MKey.sk vB m10)))]) Sub.tt ?_
    refine Chain.nil ?_
    refine AW.seqR ?_
    refine Chain.runK [] 1 fun K hK => ?_; simp; refine hK _ _ ?_; clear hK K
    refine Chain.sub (S' := mk 76 [] [(0, .d (.sl (a0.map (cL cS61)))), (3, .b a3), (6, .ptr 6 0 0), (11, .mref 28), (14, .d (.sl (r34.1.map cS61))), (29, .d (.sl (a1.map (cL cS61)))), (30, .i (a1.length : Int)), (31, .i v11), (42, .b r34.2)] [(6, BX a2), (28, some (.mp .string (encM MKey.sk vB m10)))]) Sub.tt ?_
    refine Chain.nil ?_
    replace h := isome h; rcases h with ⟨c35, h⟩ | ⟨c35, h⟩
    ·have c35_ : r34.2 = true := c35
     refine AW.condT (b := r34.2) rfl c35_ ?_
     refine AW.sub (Sub.bool 42 (b := r34.2) rfl c35_) ?_
     refine AW.sub (S' := mk 76 [] [(0, .d (.sl (a0.map (cL cS61)))), (3, .b a3), (6, .ptr 6 0 0), (11, .mref 28), (14, .d (.sl (r34.1.map cS61))), (29, .d (.sl (a1.map (cL cS61)))), (30, .i (a1.length : Int)), (31, .i v11), (42, .b true)] [(6, BX a2), (28, some (.mp .string (encM MKey.sk vB m10)))]) (by simp; exact Sub.table (by simp) (by simp)) ?_
     refine AW.region ?_
     refine Chain.runK [] 2 fun K hK => ?_; simp; refine hK _ _ ?_; clear hK K
     refine Chain.sub (S' := mk 76 [] [(0, .d (.sl (a0.map (cL cS61)))), (3, .b a3), (6, .ptr 6 0 0), (11, .mref 28), (29, .d (.sl (a1.map (cL cS61)))), (30, .i (a1.length : Int)), (31, .i v11), (43, .mref 28), (44, .d (.sl (r34.1.map cS61)))] [(6, BX a2), (28, some (.mp .string (encM MKey.sk vB m10)))]) Sub.tt ?_
     replace h := bsome h; obtain ⟨r36, hr36, h⟩ := h
     refine Chain.callL (d := 45) (p61 N r34.1 r36 hr36) (by simp) rfl rfl (by simp <;> rfl) (by simp <;> rfl) ent61 (by simp <;> rfl) ?_
     refine Chain.sub (S' := mk 76 [] [(0, .d (.sl (a0.map (cL cS61)))), (3, .b a3), (6, .ptr 6 0 0), (11, .mref 28), (29, .d (.sl (a1.map (cL cS61)))), (30, .i (a1.length : Int)), (31, .i v11), (43, .mref 28), (44, .d (.sl (r34.1.map cS61))), (45, .d (.lit (.string r36)))] [(6, BX a2), (28, some (.mp .string (encM MKey.sk vB m10)))]) (by simp; exact Sub.table (by simp) (by simp)) ?_
     refine Chain.msetE (vf := vB) sk_inj m10 r36 true (by simp) (.inl rfl) ty135 rfl ty9 rfl rfl rfl rfl rfl rfl rfl ?_
     refine Chain.sub (S' := mk 76 [] [(0, .d (.sl (a0.map (cL cS61)))), (3, .b a3), (6, .ptr 6 0 0), (11, .mref 28), (29, .d (.sl (a1.map (cL cS61)))), (30, .i (a1.length : Int)), (31, .i v11), (43, .mref 28), (44, .d (.sl (r34.1.map cS61))), (45, .d (.lit (.string r36)))] [(6, BX a2), (28, some (.mp .string (encM MKey.sk vB (mput m10 r36 true))))]) (by simp; exact Sub.table (by simp) (by simp)) ?_
     refine Chain.nil ?_
     refine blockQ.normal ?_
     refine thenQ_normal ?_
     refine AW.region ?_
     replace h := bsome h; obtain ⟨v37, hv37, h⟩ := h
     have hv37 := chkI_some hv37
     refine Chain.runK [] 2 fun K hK => ?_; simp [hv37]; refine hK _ _ ?_; clear hK K
     refine Chain.sub (S' := mk 76 [] [(0, .d (.sl (a0.map (cL cS61)))), (3, .b a3), (6, .ptr 6 0 0), (11, .mref 28), (29, .d (.sl (a1.map (cL cS61)))), (30, .i (a1.length : Int)), (31, .i v37)] [(6, BX a2), (28, some (.mp .string (encM MKey.sk vB (mput m10 r36 true))))]) Sub.tt ?_
     refine Chain.nil ?_
     cases h
     refine PostI.next ?_
     exact Sub.tt
    ·have c35_ : r34.2 = false := Bool.eq_false_iff.2 c35
     refine AW.condF (b := r34.2) rfl c35_ ?_
     refine AW.sub (Sub.bool 42 (b := r34.2) rfl c35_) ?_
     refine AW.sub (S' := mk 76 [] [(0, .d (.sl (a0.map (cL cS61)))), (3, .b a3), (6, .ptr 6 0 0), (11, .mref 28), (14, .d (.sl (r34.1.map cS61))), (29, .d (.sl (a1.map (cL cS61)))), (30, .i (a1.length : Int)), (31, .i v11), (42, .b false)] [(6, BX a2), (28, some (.mp .string (encM MKey.sk vB m10)))]) (by simp; exact Sub.table (by simp) (by simp)) ?_
     refine AW.skip ?_
     refine blockQ.normal ?_
     refine thenQ_normal ?_
     refine AW.region ?_
     replace h := bsome h; obtain ⟨v38, hv38, h⟩ := h
     have hv38 := chkI_some hv38
     refine Chain.runK [] 2 fun K hK => ?_; simp [hv38]; refine hK _ _ ?_; clear hK K
     refine Chain.sub (S' := mk 76 [] [(0, .d (.sl (a0.map (cL cS61)))), (3, .b a3), (6, .ptr 6 0 0), (11, .mref 28), (29, .d (.sl (a1.map (cL cS61)))), (30, .i (a1.length : Int)), (31, .i v38)] [(6, BX a2), (28, some (.mp .string (encM MKey.sk vB m10)))]) Sub.tt ?_
     refine Chain.nil ?_
     cases h
     refine PostI.next ?_
     exact Sub.tt
   ·have c31_ : decide (v11 < (a1.length : Int)) = false := decide_eq_false c31
    refine AW.condF (b := decide (v11 < (a1.length : Int))) rfl c31_ ?_
    refine AW.sub (Sub.bool 32 (b := decide (v11 < (a1.length : Int))) rfl c31_) ?_
    refine AW.sub (S' := mk 76 [] [(0, .d (.sl (a0.map (cL cS61)))), (3, .b a3), (6, .ptr 6 0 0), (11, .mref 28), (29, .d (.sl (a1.map (cL cS61)))), (30, .i (a1.length : Int)), (31, .i v11), (32, .b false)] [(6, BX a2), (28, some (.mp .string (encM MKey.sk vB m10)))]) (by simp; exact Sub.table (by simp) (by simp)) ?_
    refine AW.exit ?_
    cases h
    refine thenQ_pass (by simp) ?_
    refine PostI.out (by simp) ?_
    rintro rfl
    refine blockQ.hit ?_
    refine PostN.next ?_
    exact Sub.tt
  ·rintro m30 h
   refine thenQ_normal ?_
   refine AW.seqR ?_
   refine Chain.runK [] 1 fun K hK => ?_; simp; refine hK _ _ ?_; clear hK K
   refine Chain.sub (S' := mk 76 [] [(0, .d (.sl (a0.map (cL cS61)))), (3, .b a3), (6, .ptr 6 0 0), (11, .mref 28), (16, .d (.lit (.slice none 0 0)))] [(6, BX a2), (28, some (.mp .string (encM MKey.sk vB m30)))]) Sub.tt ?_
   refine Chain.nil ?_
   refine AW.seq ?_
   refine AW.seqR ?_
   refine Chain.runK [] 3 fun K hK => ?_; simp; refine hK _ _ ?_; clear hK K
   refine Chain.sub (S' := mk 76 [] [(3, .b a3), (6, .ptr 6 0 0), (11, .mref 28), (16, .d (.lit (.slice none 0 0))), (47, .d (.sl (a0.map (cL cS61)))), (48, .i (a0.length : Int)), (49, .i 0)] [(6, BX a2), (28, some (.mp .string (encM MKey.sk vB m30)))]) Sub.tt ?_
   refine Chain.nil ?_
   refine AW.lastN (fun (l90 : List (List S61)) => mk 76 [] [(16, .ref 73 0 l90.length)] [(73, R57 l90)]) h ?_ ?_ <;> clear h
   ·intro o h
    refine AW.block ?_
    refine AW.iter (fun ((l54, v55) : ((List (List S61)) × Int)) => mk 76 [] [(3, .b a3), (6, .ptr 6 0 0), (11, .mref 28), (16, .ref 73 0 l54.length), (47, .d (.sl (a0.map (cL cS61)))), (48, .i (a0.length : Int)), (49, .i v55)] [(6, BX a2), (28, some (.mp .string (encM MKey.sk vB m30))), (73, R57 l54)]) h (Sub.trans (Sub.nilOwn (t := 16) (id := 73) (T := 57) (n := 1) rfl rfl (by decide)) (by simp; exact Sub.table (by simp) (by simp))) ?_
    clear h
    rintro ⟨l54, v55⟩ x h
    dsimp only at h ⊢
    refine AW.seqR ?_
    refine Chain.runK [] 1 fun K hK => ?_; simp; refine hK _ _ ?_; clear hK K
    refine Chain.sub (S' := mk 76 [] [(3, .b a3), (6, .ptr 6 0 0), (11, .mref 28), (16, .ref 73 0 l54.length), (47, .d (.sl (a0.map (cL cS61)))), (48, .i (a0.length : Int)), (49, .i v55), (50, .b (decide (v55 < (a0.length : Int))))] [(6, BX a2), (28, some (.mp .string (encM MKey.sk vB m30))), (73, R57 l54)]) Sub.tt ?_
    refine Chain.nil ?_
    refine AW.seq ?_
    replace h := isome h; rcases h with ⟨c91, h⟩ | ⟨c91, h⟩
    ·have c91_ : decide (v55 < (a0.length : Int)) = true := decide_eq_true c91
     refine AW.condT (b := decide (v55 < (a0.length : Int))) rfl c91_ ?_
     refine AW.sub (Sub.bool 50 (b := decide (v55 < (a0.length : Int))) rfl c91_) ?_
     refine AW.sub (S' := mk 76 [] [(3, .b a3), (6, .ptr 6 0 0), (11, .mref 28), (16, .ref 73 0 l54.length), (47, .d (.sl (a0.map (cL cS61)))), (48, .i (a0.length : Int)), (49, .i v55), (50, .b true)] [(6, BX a2), (28, some (.mp .string (encM MKey.sk vB m30))), (73, R57 l54)]) (by simp; exact Sub.table (by simp) (by simp)) ?_
     refine AW.skip ?_
     refine thenQ_normal ?_
     refine AW.seq ?_
     refine AW.block ?_
     refine AW.seqR ?_
     replace h := bsome h; obtain ⟨x92, hx92, h⟩ := h
     obtain ⟨k93, hx92k, hx92, hx92a, hx92b⟩ := idx_some hx92
     refine Chain.runK [] 3 fun K hK => ?_; simp [hx92, hx92k, hx92a]; refine hK _ _ ?_; clear hK K
     refine Chain.sub (S' := mk 76 [] [(3, .b a3), (6, .ptr 6 0 0), (11, .mref 28), (16, .ref 73 0 l54.length), (18, .d (.sl (x92.map cS61))), (47, .d (.sl (a0.map (cL cS61)))), (48, .i (a0.length : Int)), (49, .i v55)] [(6, BX a2), (28, some (.mp .string (encM MKey.sk vB m30))), (73, R57 l54)]) Sub.tt ?_
     refine Chain.nil ?_
     refine AW.seqR ?_
     refine Chain.runK [] 3 fun K hK => ?_; simp; refine hK _ _ ?_; clear hK K
     refine Chain.sub (S' := mk 76 [] [(3, .b a3), (6, .ptr 6 0 0), (11, .mref 28), (16, .ref 73 0 l54.length), (18, .d (.sl (x92.map cS61))), (47, .d (.sl (a0.map (cL cS61)))), (48, .i (a0.length : Int)), (49, .i v55), (54, .d (.sl (x92.map cS61))), (56, .d (.sl (a2.Left.map (cI .i64))))] [(6, BX a2), (28, some (.mp .string (encM MKey.sk vB m30))), (73, R57 l54)]) Sub.tt ?_
     replace h := bsome h; obtain ⟨r94, hr94, h⟩ := h
     refine Chain.callC (d := 57) (p58 N x92 a2.Left r94 hr94) (by simp) rfl rfl (by simp <;> rfl) (by simp <;> rfl) ent58 (by simp) (.inl ⟨by simp, by simp⟩) ?_
     refine Chain.sub (S' := mk 76 [] [(3, .b a3), (6, .ptr 6 0 0), (11, .mref 28), (16, .ref 73 0 l54.length), (18, .d (.sl (x92.map cS61))), (47, .d (.sl (a0.map (cL cS61)))), (48, .i (a0.length : Int)), (49, .i v55), (54, .d (.sl (x92.map cS61))), (56, .d (.sl (a2.Left.map (cI .i64)))), (57, .tup [.d (.sl (r94.1.map cS61)), .b r94.2])] [(6, BX a2), (28, some (.mp .string (encM MKey.sk vB m30))), (73, R57 l54)]) (by simp; exact Sub.table (by simp) (by simp)) ?_
     refine Chain.runK [] 5 fun K hK => ?_; simp; refine hK _ _ ?_; clear hK K
     refine Chain.sub (S' := mk 76 [] [(3, .b a3), (6, .ptr 6 0 0), (11, .mref 28), (16, .ref 73 0 l54.length), (18, .d (.sl (x92.map cS61))), (19, .d (.sl (r94.1.map cS61))), (20, .b r94.2), (47, .d (.sl (a0.map (cL cS61)))), (48, .i (a0.length : Int)), (49, .i v55)] [(6, BX a2), (28, some (.mp .string (encM MKey.sk vB m30))), (73, R57 l54)]) Sub.tt ?_
     refine Chain.nil ?_
     replace h := bsome h; obtain ⟨v98, hj, h⟩ := h
     refine AW.cutR (mk 76 [] [(3, .b a3), (6, .ptr 6 0 0), (11, .mref 28), (16, .ref 73 0 l54.length), (18, .d (.sl (x92.map cS61))), (47, .d (.sl (a0.map (cL cS61)))), (48, .i (a0.length : Int)), (49, .i v55), (68, .b v98)] [(6, BX a2), (28, some (.mp .string (encM MKey.sk vB m30))), (73, R57 l54)]) ?_ ?_
     ·clear h; have h := hj; clear hj
      refine Chain.runK [] 2 fun K hK => ?_; simp; refine hK _ _ ?_; clear hK K
      refine Chain.sub (S' := mk 76 [] [(3, .b a3), (6, .ptr 6 0 0), (11, .mref 28), (16, .ref 73 0 l54.length), (18, .d (.sl (x92.map cS61))), (19, .d (.sl (r94.1.map cS61))), (47, .d (.sl (a0.map (cL cS61)))), (48, .i (a0.length : Int)), (49, .i v55), (61, .b r94.2)] [(6, BX a2), (28, some (.mp .string (encM MKey.sk vB m30))), (73, R57 l54)]) Sub.tt ?_
      replace h := isome h; rcases h with ⟨c99, h⟩ | ⟨c99, h⟩
      ·have c99_ : r94.2 = true := c99
       refine Chain.sub (Sub.bool 61 (b := r94.2) rfl c99_) ?_
       refine Chain.sub (S' := mk 76 [] [(3, .b a3), (6, .ptr 6 0 0), (11, .mref 28), (16, .ref 73 0 l54.length), (18, .d (.sl (x92.map cS61))), (19, .d (.sl (r94.1.map cS61))), (47, .d (.sl (a0.map (cL cS61)))), (48, .i (a0.length : Int)), (49, .i v55), (61, .b true)] [(6, BX a2), (28, some (.mp .string (encM MKey.sk vB m30))), (73, R57 l54)]) (by simp; exact Sub.table (by simp) (by simp)) ?_
       refine Chain.runK [] 2 fun K hK => ?_; simp; refine hK _ _ ?_; clear hK K
       refine Chain.sub (S' := mk 76 [] [(3, .b a3), (6, .ptr 6 0 0), (11, .mref 28), (16, .ref 73 0 l54.length), (18, .d (.sl (x92.map cS61))), (47, .d (.sl (a0.map (cL cS61)))), (48, .i (a0.length : Int)), (49, .i v55), (61, .b true), (62, .mref 28), (63, .d (.sl (r94.1.map cS61)))] [(6, BX a2), (28, some (.mp .string (encM MKey.sk vB m30))), (73, R57 l54)]) Sub.tt ?_
       replace h := bsome h; obtain ⟨r100, hr100, h⟩ := h
       refine Chain.callL (d := 64) (p61 N r94.1 r100 hr100) (by simp) rfl rfl (by simp <;> rfl) (by simp <;> rfl) ent61 (by simp <;> rfl) ?_
       refine Chain.sub (S' := mk 76 [] [(3, .b a3), (6, .ptr 6 0 0), (11, .mref 28), (16, .ref 73 0 l54.length), (18, .d (.sl (x92.map cS61))), (47, .d (.sl (a0.map (cL cS61)))), (48, .i (a0.length : Int)), (49, .i v55), (61, .b true), (62, .mref 28), (63, .d (.sl (r94.1.map cS61))), (64, .d (.lit (.string r100)))] [(6, BX a2), (28, some (.mp .string (encM MKey.sk vB m30))), (73, R57 l54)]) (by simp; exact Sub.table (by simp) (by simp)) ?_
       replace h := lsome h; obtain ⟨v101, hv101, h⟩ := h
       refine Chain.lookE (vf := vB) sk_inj m30 r100 false (by simp) rfl ty135 rfl ty9 ty4 rfl rfl rfl rfl rfl rfl rfl ?_
       refine Chain.sub (S' := mk 76 [] [(3, .b a3), (6, .ptr 6 0 0), (11, .mref 28), (16, .ref 73 0 l54.length), (18, .d (.sl (x92.map cS61))), (47, .d (.sl (a0.map (cL cS61)))), (48, .i (a0.length : Int)), (49, .i v55), (61, .b true), (62, .mref 28), (63, .d (.sl (r94.1.map cS61))), (64, .d (.lit (.string r100))), (65, .b v101)] [(6, BX a2), (28, some (.mp .string (encM MKey.sk vB m30))), (73, R57 l54)]) (by simp [vB, hv101]; exact Sub.table (by simp) (by simp)) ?_
       refine Chain.runK [] 3 fun K hK => ?_; simp; refine hK _ _ ?_; clear hK K
       refine Chain.sub (S' := mk 76 [] [(3, .b a3), (6, .ptr 6 0 0), (11, .mref 28), (16, .ref 73 0 l54.length), (18, .d (.sl (x92.map cS61))), (47, .d (.sl (a0.map (cL cS61)))), (48, .i (a0.length : Int)), (49, .i v55), (62, .mref 28), (63, .d (.sl (r94.1.map cS61))), (64, .d (.lit (.string r100))), (65, .b v101), (68, .b (!(v101 == a3)))] [(6, BX a2), (28, some (.mp .string (encM MKey.sk vB m30))), (73, R57 l54)]) Sub.tt ?_
       cases h
       exact Chain.nil Sub.tt
      ·have c99_ : r94.2 = false := Bool.eq_false_iff.2 c99
       refine Chain.sub (Sub.bool 61 (b := r94.2) rfl c99_) ?_
       refine Chain.sub (S' := mk 76 [] [(3, .b a3), (6, .ptr 6 0 0), (11, .mref 28), (16, .ref 73 0 l54.length), (18, .d (.sl (x92.map cS61))), (19, .d (.sl (r94.1.map cS61))), (47, .d (.sl (a0.map (cL cS61)))), (48, .i (a0.length : Int)), (49, .i v55), (61, .b false)] [(6, BX a2), (28, some (.mp .string (encM MKey.sk vB m30))), (73, R57 l54)]) (by simp; exact Sub.table (by simp) (by simp)) ?_
       refine Chain.runK [] 7 fun K hK => ?_; simp; refine hK _ _ ?_; clear hK K
       refine Chain.sub (S' := mk 76 [] [(3, .b a3), (6, .ptr 6 0 0), (11, .mref 28), (16, .ref 73 0 l54.length), (18, .d (.sl (x92.map cS61))), (47, .d (.sl (a0.map (cL cS61)))), (48, .i (a0.length : Int)), (49, .i v55), (62, .tup []), (63, .tup []), (64, .tup []), (65, .tup []), (68, .b (!(false == a3)))] [(6, BX a2), (28, some (.mp .string (encM MKey.sk vB m30))), (73, R57 l54)]) Sub.tt ?_
       cases h
       exact Chain.nil Sub.tt
     ·clear hj
      replace h := isome h; rcases h with ⟨c102, h⟩ | ⟨c102, h⟩
      ·have c102_ : v98 = true := c102
       refine AW.condT (b := v98) rfl c102_ ?_
       refine AW.sub (Sub.bool 68 (b := v98) rfl c102_) ?_
       refine AW.sub (S' := mk 76 [] [(3, .b a3), (6, .ptr 6 0 0), (11, .mref 28), (16, .ref 73 0 l54.length), (18, .d (.sl (x92.map cS61))), (47, .d (.sl (a0.map (cL cS61)))), (48, .i (a0.length : Int)), (49, .i v55), (68, .b true)] [(6, BX a2), (28, some (.mp .string (encM MKey.sk vB m30))), (73, R57 l54)]) (by simp; exact Sub.table (by simp) (by simp)) ?_
       refine AW.region ?_
       refine Chain.runK [72] 2 fun K hK => ?_; simp; refine hK _ _ ?_; clear hK K
       refine Chain.sub (S' := mk 76 [] [(3, .b a3), (6, .ptr 6 0 0), (11, .mref 28), (47, .d (.sl (a0.map (cL cS61)))), (48, .i (a0.length : Int)), (49, .i v55), (69, .ref 73 0 l54.length), (70, .d (.sl (x92.map cS61)))] [(6, BX a2), (28, some (.mp .string (encM MKey.sk vB m30))), (73, R57 l54)]) Sub.tt ?_
       replace h := bsome h; obtain ⟨r103, hr103, h⟩ := h
       refine Chain.callC (d := 71) (p39 N x92 r103 hr103) (by simp) rfl rfl (by simp <;> rfl) (by simp <;> rfl) ent39 (by simp) (.inl ⟨by simp, by simp⟩) ?_
       refine Chain.sub (S' := mk 76 [] [(3, .b a3), (6, .ptr 6 0 0), (11, .mref 28), (47, .d (.sl (a0.map (cL cS61)))), (48, .i (a0.length : Int)), (49, .i v55), (69, .ref 73 0 l54.length), (70, .d (.sl (x92.map cS61))), (71, .d (.sl (r103.map cS61)))] [(6, BX a2), (28, some (.mp .string (encM MKey.sk vB m30))), (73, R57 l54)]) (by simp; exact Sub.table (by simp) (by simp)) ?_
       replace h := bsome h; obtain ⟨l104, hl104, h⟩ := h
       obtain ⟨hl104a, hl104⟩ := appL_some hl104
       subst hl104
       try simp only [List.length_cons, List.length_nil, Nat.zero_add] at hl104a
       refine Chain.runK [72] 3 fun K hK => ?_; simp [hl104a]; refine hK _ _ ?_; clear hK K
       refine Chain.sub (S' := mk 76 [] [(3, .b a3), (6, .ptr 6 0 0), (11, .mref 28), (16, .ref 73 0 ((l54 ++ [r103]).length)), (47, .d (.sl (a0.map (cL cS61)))), (48, .i (a0.length : Int)), (49, .i v55)] [(6, BX a2), (28, some (.mp .string (encM MKey.sk vB m30))), (73, R57 (l54 ++ [r103]))]) Sub.tt ?_
       refine Chain.nil ?_
       refine blockQ.normal ?_
       refine thenQ_normal ?_
       refine AW.region ?_
       replace h := bsome h; obtain ⟨v105, hv105, h⟩ := h
       have hv105 := chkI_some hv105
       refine Chain.runK [] 2 fun K hK => ?_; simp [hv105]; refine hK _ _ ?_; clear hK K
       refine Chain.sub (S' := mk 76 [] [(3, .b a3), (6, .ptr 6 0 0), (11, .mref 28), (16, .ref 73 0 ((l54 ++ [r103]).length)), (47, .d (.sl (a0.map (cL cS61)))), (48, .i (a0.length : Int)), (49, .i v105)] [(6, BX a2), (28, some (.mp .string (encM MKey.sk vB m30))), (73, R57 (l54 ++ [r103]))]) Sub.tt ?_
       refine Chain.nil ?_
       cases h
       refine PostI.next ?_
       exact Sub.tt
      ·have c102_ : v98 = false := Bool.eq_false_iff.2 c102
       refine AW.condF (b := v98) rfl c102_ ?_
       refine AW.sub (Sub.bool 68 (b := v98) rfl c102_) ?_
       refine AW.sub (S' := mk 76 [] [(3, .b a3), (6, .ptr 6 0 0), (11, .mref 28), (16, .ref 73 0 l54.length), (18, .d (.sl (x92.map cS61))), (47, .d (.sl (a0.map (cL cS61)))), (48, .i (a0.length : Int)), (49, .i v55), (68, .b false)] [(6, BX a2), (28, some (.mp .string (encM MKey.sk vB m30))), (73, R57 l54)]) (by simp; exact Sub.table (by simp) (by simp)) ?_
       refine AW.skip ?_
       refine blockQ.normal ?_
       refine thenQ_normal ?_
       refine AW.region ?_
       replace h := bsome h; obtain ⟨v106, hv106, h⟩ := h
       have hv106 := chkI_some hv106
       refine Chain.runK [] 2 fun K hK => ?_; simp [hv106]; refine hK _ _ ?_; clear hK K
       refine Chain.sub (S' := mk 76 [] [(3, .b a3), (6, .ptr 6 0 0), (11, .mref 28), (16, .ref 73 0 l54.length), (47, .d (.sl (a0.map (cL cS61)))), (48, .i (a0.length : Int)), (49, .i v106)] [(6, BX a2), (28, some (.mp .string (encM MKey.sk vB m30))), (73, R57 l54)]) Sub.tt ?_
       refine Chain.nil ?_
       cases h
       refine PostI.next ?_
       exact Sub.tt
    ·have c91_ : decide (v55 < (a0.length : Int)) = false := decide_eq_false c91
     refine AW.condF (b := decide (v55 < (a0.length : Int))) rfl c91_ ?_
     refine AW.sub (Sub.bool 50 (b := decide (v55 < (a0.length : Int))) rfl c91_) ?_
     refine AW.sub (S' := mk 76 [] [(3, .b a3), (6, .ptr 6 0 0), (11, .mref 28), (16, .ref 73 0 l54.length), (47, .d (.sl (a0.map (cL cS61)))), (48, .i (a0.length : Int)), (49, .i v55), (50, .b false)] [(6, BX a2), (28, some (.mp .string (encM MKey.sk vB m30))), (73, R57 l54)]) (by simp; exact Sub.table (by simp) (by simp)) ?_
     refine AW.exit ?_
     cases h
     refine thenQ_pass (by simp) ?_
     refine PostI.out (by simp) ?_
     rintro rfl
     refine blockQ.hit ?_
     refine PostN.next ?_
     exact Sub.tt
   ·rintro l90 h
    refine thenQ_normal ?_
    refine AW.seqR ?_
    refine Chain.runK [] 3 fun K hK => ?_; simp; refine hK _ _ ?_; clear hK K
    refine Chain.sub (S' := mk 76 [] [(8, .ref 73 0 l90.length), (9, .i 0)] [(73, R57 l90)]) Sub.tt ?_
    refine Chain.nil ?_
    refine AW.sub (Sub.freeze 73 rfl) ?_
    refine AW.sub (S' := mk 76 [] [(8, .d (.sl (l90.map (cL cS61)))), (9, .i 0)] []) (by simp; exact Sub.table (by simp) (by simp)) ?_
    refine AW.ret ?_
    cases h
    exact FinC.ret (by simp) (by simp)

/-- stemma/stemlaw3.matches -/
def d26 (N : Nat) (a0 : (List S61)) (a1 : (List S61)) (a2 : S50) : Option Bool :=
 bindO (β := Unit) (ρ := Bool) (
  iterN (σ := Int) (ρ := (Out Unit Bool)) (fun (v16 : Int) =>
   if v16 < (a2.Left.length : Int) then (
    (idx a2.Left v16).bind fun x51 =>
    (idx a0 x51).bind fun x53 =>
    Option.bind (α := Bool) (
     if (x53.Kind == 0) then (
      some true
     ) else
     (idx a2.Right v16).bind fun x61 =>
     (idx a1 x61).bind fun x62 =>
     some (!beqS61 x53 x62)
    ) fun (v59 : Bool) =>
    if v59 = true then (
     some (.inr (.ret false))
    ) else
    (chkI (v16 + 1)).bind fun v65 =>
    some (.inl v65)
   ) else
   some (.inr (.go ()))
  ) N 0
 ) fun (_ : Unit) =>
 some true
set_option maxRecDepth 100000 in
set_option maxHeartbeats 4000000 in
theorem p26 (N : Nat) (a0 : (List S61)) (a1 : (List S61)) (a2 : S50) (r : Bool) (h : d26 N a0 a1 a2 = some r) : FunC Tryz.prog 26 [.d (.sl (a0.map cS61)), .d (.sl (a1.map cS61)), .agg [.d (.sl (a2.Left.map (cI .i64))), .d (.sl (a2.Right.map (cI .i64))), .b a2.Outer, .i a2.RightWidth]] (.b r) := by
 unfold d26 at h
 refine FunC.enter 39 [(0, .d (.sl (a0.map cS61))), (1, .d (.sl (a1.map cS61))), (2, .agg [.d (.sl (a2.Left.map (cI .i64))), .d (.sl (a2.Right.map (cI .i64))), .b a2.Outer, .i a2.RightWidth])] (by simp) Tryz.func26 rfl (of_decide_eq_true rfl) rfl rfl ?_
 refine AW.seqR ?_
 refine Chain.runK [] 2 fun K hK => ?_; simp; refine hK _ _ ?_; clear hK K
 refine Chain.sub (S' := mk 39 [] [(0, .d (.sl (a0.map cS61))), (1, .d (.sl (a1.map cS61))), (5, .ptr 5 0 0)] [(5, BX a2)]) Sub.tt ?_
 refine Chain.nil ?_
 refine AW.seq ?_
 refine AW.seqR ?_
 refine Chain.runK [] 4 fun K hK => ?_; simp; refine hK _ _ ?_; clear hK K
 refine Chain.sub (S' := mk 39 [] [(0, .d (.sl (a0.map cS61))), (1, .d (.sl (a1.map cS61))), (5, .ptr 5 0 0), (11, .i (a2.Left.length : Int)), (12, .i 0)] [(5, BX a2)]) Sub.tt ?_
 refine Chain.nil ?_
 refine AW.lastJ (fun (_ : Unit) => mk 39 [] [] []) h ?_ ?_ <;> clear h
 ·intro o h
  refine AW.block ?_
  refine AW.iter (fun (v16 : Int) => mk 39 [] [(0, .d (.sl (a0.map cS61))), (1, .d (.sl (a1.map cS61))), (5, .ptr 5 0 0), (11, .i (a2.Left.length : Int)), (12, .i v16)] [(5, BX a2)]) h Sub.tt ?_
  clear h
  rintro v16 x h
  refine AW.seqR ?_
  refine Chain.runK [] 1 fun K hK => ?_; simp; refine hK _ _ ?_; clear hK K
  refine Chain.sub (S' := mk 39 [] [(0, .d (.sl (a0.map cS61))), (1, .d (.sl (a1.map cS61))), (5, .ptr 5 0 0), (11, .i (a2.Left.length : Int)), (12, .i v16), (13, .b (decide (v16 < (a2.Left.length : Int))))] [(5, BX a2)]) Sub.tt ?_
  refine Chain.nil ?_
  refine AW.seq ?_
  replace h := isome h; rcases h with ⟨c50, h⟩ | ⟨c50, h⟩
  ·have c50_ : decide (v16 < (a2.Left.length : Int)) = true := decide_eq_true c50
   refine AW.condT (b := decide (v16 < (a2.Left.length : Int))) rfl c50_ ?_
   refine AW.sub (Sub.bool 13 (b := decide (v16 < (a2.Left.length : Int))) rfl c50_) ?_
   refine AW.sub (S' := mk 39 [] [(0, .d (.sl (a0.map cS61))), (1, .d (.sl (a1.map cS61))), (5, .ptr 5 0 0), (11, .i (a2.Left.length : Int)), (12, .i v16), (13, .b true)] [(5, BX a2)]) (by simp; exact Sub.table (by simp) (by simp)) ?_
   refine AW.skip ?_
   refine thenQ_normal ?_
   refine AW.seq ?_
   refine AW.block ?_
   refine AW.seqR ?_
   refine Chain.runK [] 2 fun K hK => ?_; simp; refine hK _ _ ?_; clear hK K
   refine Chain.sub (S' := mk 39 [] [(0, .d (.sl (a0.map cS61))), (1, .d (.sl (a1.map cS61))), (5, .ptr 5 0 0), (7, .i v16), (11, .i (a2.Left.length : Int)), (12, .i v16)] [(5, BX a2)]) Sub.tt ?_
   refine Chain.nil ?_
   refine AW.seqR ?_
   replace h := bsome h; obtain ⟨x51, hx51, h⟩ := h
   obtain ⟨k52, hx51k, hx51, hx51a, hx51b⟩ := idx_some hx51
   replace h := bsome h; obtain ⟨x53, hx53, h⟩ := h
   obtain ⟨k54, hx53k, hx53, hx53a, hx53b⟩ := idx_some hx53
   refine Chain.runK [] 10 fun K hK => ?_; simp [hx51, hx51k, hx51a, hx53, hx53k, hx53a]; refine hK _ _ ?_; clear hK K
   refine Chain.sub (S' := mk 39 [] [(0, .d (.sl (a0.map cS61))), (1, .d (.sl (a1.map cS61))), (5, .ptr 5 0 0), (7, .i v16), (8, .ptr 8 0 0), (11, .i (a2.Left.length : Int)), (12, .i v16)] [(5, BX a2), (8, some (.box [.i x53.Kind, .i x53.Int, .d (.lit (.string x53.Text))]))]) Sub.tt ?_
   refine Chain.nil ?_
   replace h := bsome h; obtain ⟨v59, hj, h⟩ := h
   refine AW.cutQ (by kernel_rfl) (by kernel_rfl) (mk 39 [] [(0, .d (.sl (a0.map cS61))), (1, .d (.sl (a1.map cS61))), (5, .ptr 5 0 0), (11, .i (a2.Left.length : Int)), (12, .i v16), (37, .b v59)] [(5, BX a2)]) ?_ ?_
   ·clear h; have h := hj; clear hj
    refine Chain.runQ 4 fun K hK => ?_; simp; refine hK _ _ ?_; clear hK K
    refine Chain.sub (S' := mk 39 [] [(0, .d (.sl (a0.map cS61))), (1, .d (.sl (a1.map cS61))), (5, .ptr 5 0 0), (7, .i v16), (8, .ptr 8 0 0), (11, .i (a2.Left.length : Int)), (12, .i v16), (26, .b (x53.Kind == 0))] [(5, BX a2), (8, some (.box [.i x53.Kind, .i x53.Int, .d (.lit (.string x53.Text))]))]) Sub.tt ?_
    replace h := isome h; rcases h with ⟨c60, h⟩ | ⟨c60, h⟩
    ·have c60_ : (x53.Kind == 0) = true := c60
     refine Chain.sub (Sub.bool 26 (b := (x53.Kind == 0)) rfl c60_) ?_
     refine Chain.sub (S' := mk 39 [] [(0, .d (.sl (a0.map cS61))), (1, .d (.sl (a1.map cS61))), (5, .ptr 5 0 0), (7, .i v16), (8, .ptr 8 0 0), (11, .i (a2.Left.length : Int)), (12, .i v16), (26, .b true)] [(5, BX a2), (8, some (.box [.i x53.Kind, .i x53.Int, .d (.lit (.string x53.Text))]))]) (by simp; exact Sub.table (by simp) (by simp)) ?_
     refine Chain.runQ 11 fun K hK => ?_; simp; refine hK _ _ ?_; clear hK K
     refine Chain.sub (S' := mk 39 [] [(0, .d (.sl (a0.map cS61))), (1, .d (.sl (a1.map cS61))), (5, .ptr 5 0 0), (11, .i (a2.Left.length : Int)), (12, .i v16), (27, .tup []), (28, .tup []), (29, .tup []), (30, .tup []), (31, .tup []), (32, .tup []), (33, .tup []), (34, .tup []), (35, .tup []), (36, .tup []), (37, .b true)] [(5, BX a2)]) Sub.tt ?_
     cases h
     exact Chain.nil Sub.tt
    ·have c60_ : (x53.Kind == 0) = false := Bool.eq_false_iff.2 c60
     refine Chain.sub (Sub.bool 26 (b := (x53.Kind == 0)) rfl c60_) ?_
     refine Chain.sub (S' := mk 39 [] [(0, .d (.sl (a0.map cS61))), (1, .d (.sl (a1.map cS61))), (5, .ptr 5 0 0), (7, .i v16), (8, .ptr 8 0 0), (11, .i (a2.Left.length : Int)), (12, .i v16), (26, .b false)] [(5, BX a2), (8, some (.box [.i x53.Kind, .i x53.Int, .d (.lit (.string x53.Text))]))]) (by simp; exact Sub.table (by simp) (by simp)) ?_
     replace h := bsome h; obtain ⟨x61, hx61, h⟩ := h
     obtain ⟨hx61, hx61a, hx61b⟩ := idx_some2 hx61 hx51k
     replace h := bsome h; obtain ⟨x62, hx62, h⟩ := h
     obtain ⟨k63, hx62k, hx62, hx62a, hx62b⟩ := idx_some hx62
     refine Chain.runQ 9 fun K hK => ?_; simp [hx61, hx51k, hx61a, hx62, hx62k, hx62a]; refine hK _ _ ?_; clear hK K
     refine Chain.sub (S' := mk 39 [] [(0, .d (.sl (a0.map cS61))), (1, .d (.sl (a1.map cS61))), (5, .ptr 5 0 0), (11, .i (a2.Left.length : Int)), (12, .i v16), (26, .b false), (27, .agg [.i x53.Kind, .i x53.Int, .d (.lit (.string x53.Text))]), (28, .d (.sl (a1.map cS61))), (29, .ptr 5 0 1), (30, .d (.sl (a2.Right.map (cI .i64)))), (31, .i v16), (32, .d (.pim [.lit (.int .i64 x61)])), (33, .i x61), (34, .d (.pim [.lit (.int .i64 x62.Kind), .lit (.int .i64 x62.Int), .lit (.string x62.Text)])), (35, .agg [.i x62.Kind, .i x62.Int, .d (.lit (.string x62.Text))])] [(5, BX a2)]) Sub.tt ?_
     refine Chain.pureP (by simp) (pure_eqA true rfl rfl rfl rfl (by kernel_rfl) (eqv61 x53 x62)) ?_
     refine Chain.sub (S' := mk 39 [] [(0, .d (.sl (a0.map cS61))), (1, .d (.sl (a1.map cS61))), (5, .ptr 5 0 0), (11, .i (a2.Left.length : Int)), (12, .i v16), (26, .b false), (27, .agg [.i x53.Kind, .i x53.Int, .d (.lit (.string x53.Text))]), (28, .d (.sl (a1.map cS61))), (29, .ptr 5 0 1), (30, .d (.sl (a2.Right.map (cI .i64)))), (31, .i v16), (32, .d (.pim [.lit (.int .i64 x61)])), (33, .i x61), (34, .d (.pim [.lit (.int .i64 x62.Kind), .lit (.int .i64 x62.Int), .lit (.string x62.Text)])), (35, .agg [.i x62.Kind, .i x62.Int, .d (.lit (.string x62.Text))]), (36, .b (!beqS61 x53 x62))] [(5, BX a2)]) (by simp; exact Sub.table (by simp) (by simp)) ?_
     refine Chain.runQ 1 fun K hK => ?_; simp; refine hK _ _ ?_; clear hK K
     refine Chain.sub (S' := mk 39 [] [(0, .d (.sl (a0.map cS61))), (1, .d (.sl (a1.map cS61))), (5, .ptr 5 0 0), (11, .i (a2.Left.length : Int)), (12, .i v16), (27, .agg [.i x53.Kind, .i x53.Int, .d (.lit (.string x53.Text))]), (28, .d (.sl (a1.map cS61))), (29, .ptr 5 0 1), (30, .d (.sl (a2.Right.map (cI .i64)))), (31, .i v16), (32, .d (.pim [.lit (.int .i64 x61)])), (33, .i x61), (34, .d (.pim [.lit (.int .i64 x62.Kind), .lit (.int .i64 x62.Int), .lit (.string x62.Text)])), (35, .agg [.i x62.Kind, .i x62.Int, .d (.lit (.string x62.Text))]), (36, .b (!beqS61 x53 x62)), (37, .b (!beqS61 x53 x62))] [(5, BX a2)]) Sub.tt ?_
     cases h
     exact Chain.nil Sub.tt
   ·clear hj
    replace h := isome h; rcases h with ⟨c64, h⟩ | ⟨c64, h⟩
    ·have c64_ : v59 = true := c64
     refine AW.condT (b := v59) rfl c64_ ?_
     refine AW.sub (Sub.bool 37 (b := v59) rfl c64_) ?_
     refine AW.sub (S' := mk 39 [] [(0, .d (.sl (a0.map cS61))), (1, .d (.sl (a1.map cS61))), (5, .ptr 5 0 0), (11, .i (a2.Left.length : Int)), (12, .i v16), (37, .b true)] [(5, BX a2)]) (by simp; exact Sub.table (by simp) (by simp)) ?_
     refine AW.seqR ?_
     refine Chain.runK [] 1 fun K hK => ?_; simp; refine hK _ _ ?_; clear hK K
     refine Chain.sub (S' := mk 39 [] [(6, .b false)] []) Sub.tt ?_
     refine Chain.nil ?_
     refine AW.ret ?_
     cases h
     refine blockQ.ret ?_
     refine thenQ_pass (by simp) ?_
     refine PostI.out (by simp) ?_
     rintro rfl
     refine blockQ.ret ?_
     refine PostJ.out (by simp) ?_
     rintro rfl
     refine thenQ_pass (by simp) ?_
     exact FinC.ret (by simp) (by simp)
    ·have c64_ : v59 = false := Bool.eq_false_iff.2 c64
     refine AW.condF (b := v59) rfl c64_ ?_
     refine AW.sub (Sub.bool 37 (b := v59) rfl c64_) ?_
     refine AW.sub (S' := mk 39 [] [(0, .d (.sl (a0.map cS61))), (1, .d (.sl (a1.map cS61))), (5, .ptr 5 0 0), (11, .i (a2.Left.length : Int)), (12, .i v16), (37, .b false)] [(5, BX a2)]) (by simp; exact Sub.table (by simp) (by simp)) ?_
     refine AW.skip ?_
     refine blockQ.normal ?_
     refine thenQ_normal ?_
     refine AW.region ?_
     replace h := bsome h; obtain ⟨v65, hv65, h⟩ := h
     have hv65 := chkI_some hv65
     refine Chain.runK [] 2 fun K hK => ?_; simp [hv65]; refine hK _ _ ?_; clear hK K
     refine Chain.sub (S' := mk 39 [] [(0, .d (.sl (a0.map cS61))), (1, .d (.sl (a1.map cS61))), (5, .ptr 5 0 0), (11, .i (a2.Left.length : Int)), (12, .i v65)] [(5, BX a2)]) Sub.tt ?_
     refine Chain.nil ?_
     cases h
     refine PostI.next ?_
     exact Sub.tt
  ·have c50_ : decide (v16 < (a2.Left.length : Int)) = false := decide_eq_false c50
   refine AW.condF (b := decide (v16 < (a2.Left.length : Int))) rfl c50_ ?_
   refine AW.sub (Sub.bool 13 (b := decide (v16 < (a2.Left.length : Int))) rfl c50_) ?_
   refine AW.sub (S' := mk 39 [] [(0, .d (.sl (a0.map cS61))), (1, .d (.sl (a1.map cS61))), (5, .ptr 5 0 0), (11, .i (a2.Left.length : Int)), (12, .i v16), (13, .b false)] [(5, BX a2)]) (by simp; exact Sub.table (by simp) (by simp)) ?_
   refine AW.exit ?_
   cases h
   refine thenQ_pass (by simp) ?_
   refine PostI.out (by simp) ?_
   rintro rfl
   refine blockQ.hit ?_
   refine PostJ.next ?_
   exact Sub.tt
 ·rintro ⟨⟩ h
  refine thenQ_normal ?_
  refine AW.seqR ?_
  refine Chain.runK [] 1 fun K hK => ?_; simp; refine hK _ _ ?_; clear hK K
  refine Chain.sub (S' := mk 39 [] [(6, .b true)] []) Sub.tt ?_
  refine Chain.nil ?_
  refine AW.ret ?_
  cases h
  exact FinC.ret (by simp) (by simp)

end Go.Proofs.YtimkkjiplioohaaGreatDoor
