/- Functions of the program as functional programs; the code computes them. -/
import Derived.Test.YtimkkjiplioohaaGreatDoorJa4
import Derived.Test.YtimkkjiplioohaaGreatDoorJaM
namespace Go.Proofs.YtimkkjiplioohaaGreatDoor
open Go.Ab Go.Rp
attribute [-simp] List.all_eq_true Array.all_toList Array.all_eq_true

/-- stemma/joinalgo.HashJoin -/
def d23 (N : Nat) (a0 : (List (List S61))) (a1 : (List (List S61))) (a2 : S50) : Option ((List (List S61)) × Int) :=
 (d25 N a0 a1 a2).bind fun r1 =>
 if (r1 != 0) then (
  some (([] : List (List S61)), r1)
 ) else
 Option.bind (α := List (ByteArray × (List (List S61)))) (
  iterN (σ := ((List (ByteArray × (List (List S61)))) × Int)) (ρ := List (ByteArray × (List (List S61)))) (fun ((m13, v14) : ((List (ByteArray × (List (List S61)))) × Int)) =>
   if v14 < (a1.length : Int) then (
    (idx a1 v14).bind fun x41 =>
    (d58 N x41 a2.Right).bind fun r43 =>
    if r43.2 = true then (
     (d61 N r43.1).bind fun r45 =>
     (d61 N r43.1).bind fun r46 =>
     letv ((mget m13 r46).getD []) fun v47 =>
     (appL 24 v47 [x41]).bind fun _l48 =>
     (chkI (v14 + 1)).bind fun v49 =>
     some (.inl ((mput m13 r45 (v47 ++ [x41])), v49))
    ) else
    (chkI (v14 + 1)).bind fun v50 =>
    some (.inl (m13, v50))
   ) else
   some (.inr m13)
  ) N (([] : List (ByteArray × (List (List S61)))), 0)
 ) fun (m39 : List (ByteArray × (List (List S61)))) =>
 Option.bind (α := List (List S61)) (
  iterN (σ := ((List (List S61)) × Int)) (ρ := List (List S61)) (fun ((l97, v98) : ((List (List S61)) × Int)) =>
   if v98 < (a0.length : Int) then (
    (idx a0 v98).bind fun x197 =>
    (d58 N x197 a2.Left).bind fun r199 =>
    Option.bind (α := List (List S61)) (
     if r199.2 = true then (
      (d61 N r199.1).bind fun r205 =>
      letv ((mget m39 r205).getD []) fun v206 =>
      some v206
     ) else
     some ([] : List (List S61))
    ) fun (l203 : List (List S61)) =>
    Option.bind (α := List (List S61)) (
     iterN (σ := ((List (List S61)) × Int)) (ρ := List (List S61)) (fun ((l212, v213) : ((List (List S61)) × Int)) =>
      if v213 < (l203.length : Int) then (
       (idx l203 v213).bind fun x230 =>
       (d59 N x197 x230).bind fun r232 =>
       (appL 24 l212 [r232]).bind fun _l233 =>
       (chkI (v213 + 1)).bind fun v234 =>
       some (.inl ((l212 ++ [r232]), v234))
      ) else
      some (.inr l212)
     ) N (l97, 0)
    ) fun (l228 : List (List S61)) =>
    Option.bind (α := Bool) (
     if ((l203.length : Int) == 0) then (
      some a2.Outer
     ) else
     some false
    ) fun (v236 : Bool) =>
    if v236 = true then (
     (d60 N x197 a2).bind fun r239 =>
     (appL 24 l228 [r239]).bind fun _l240 =>
     (chkI (v98 + 1)).bind fun v241 =>
     some (.inl ((l228 ++ [r239]), v241))
    ) else
    (chkI (v98 + 1)).bind fun v242 =>
    some (.inl (l228, v242))
   ) else
   some (.inr l97)
  ) N (([] : List (List S61)), 0)
 ) fun (l195 : List (List S61)) =>
 some (l195, 0)
set_option maxRecDepth 100000 in
set_option maxHeartbeats 4000000 in
theorem p23 (N : Nat) (a0 : (List (List S61))) (a1 : (List (List S61))) (a2 : S50) (r : ((List (List S61)) × Int)) (h : d23 N a0 a1 a2 = some r) : FunC Tryz.prog 23 [.d (.sl (a0.map (cL cS61))), .d (.sl (a1.map (cL cS61))), .agg [.d (.sl (a2.Left.map (cI .i64))), .d (.sl (a2.Right.map (cI .i64))), .b a2.Outer, .i a2.RightWidth]] (.tup [.d (.sl (r.1.map (cL cS61))), .i r.2]) := by
 unfold d23 at h
 refine FunC.enter 101 [(0, .d (.sl (a0.map (cL cS61)))), (1, .d (.sl (a1.map (cL cS61)))), (2, .agg [.d (.sl (a2.Left.map (cI .i64))), .d (.sl (a2.Right.map (cI .i64))), .b a2.Outer, .i a2.RightWidth])] (by simp) Tryz.func23 rfl (of_decide_eq_true rfl) rfl rfl ?_
 refine AW.seqR ?_
 refine Chain.runK [] 3 fun K hK => ?_; simp; refine hK _ _ ?_; clear hK K
 refine Chain.sub (S' := mk 101 [] [(0, .d (.sl (a0.map (cL cS61)))), (1, .d (.sl (a1.map (cL cS61)))), (5, .ptr 5 0 0)] [(5, BX a2)]) Sub.tt ?_
 refine Chain.nil ?_
 refine AW.seq ?_
 refine AW.seqR ?_
 refine Chain.runK [] 3 fun K hK => ?_; simp; refine hK _ _ ?_; clear hK K
 refine Chain.sub (S' := mk 101 [] [(0, .d (.sl (a0.map (cL cS61)))), (1, .d (.sl (a1.map (cL cS61)))), (5, .ptr 5 0 0), (22, .d (.sl (a0.map (cL cS61)))), (23, .d (.sl (a1.map (cL cS61)))), (24, .agg [.d (.sl (a2.Left.map (cI .i64))), .d (.sl (a2.Right.map (cI .i64))), .b a2.Outer, .i a2.RightWidth])] [(5, BX a2)]) Sub.tt ?_
 replace h := bsome h; obtain ⟨r1, hr1, h⟩ := h
 refine Chain.callL (d := 25) (p25 N a0 a1 a2 r1 hr1) (by simp) rfl rfl (by simp <;> rfl) (by simp <;> rfl) ent25 (by simp <;> rfl) ?_
 refine Chain.sub (S' := mk 101 [] [(0, .d (.sl (a0.map (cL cS61)))), (1, .d (.sl (a1.map (cL cS61)))), (5, .ptr 5 0 0), (22, .d (.sl (a0.map (cL cS61)))), (23, .d (.sl (a1.map (cL cS61)))), (24, .agg [.d (.sl (a2.Left.map (cI .i64))), .d (.sl (a2.Right.map (cI .i64))), .b a2.Outer, .i a2.RightWidth]), (25, .i r1)] [(5, BX a2)]) (by simp; exact Sub.table (by simp) (by simp)) ?_
 refine Chain.runK [] 1 fun K hK => ?_; simp; refine hK _ _ ?_; clear hK K
 refine Chain.sub (S' := mk 101 [] [(0, .d (.sl (a0.map (cL cS61)))), (1, .d (.sl (a1.map (cL cS61)))), (5, .ptr 5 0 0), (8, .i r1)] [(5, BX a2)]) Sub.tt ?_
 refine Chain.nil ?_
 refine AW.seqR ?_
 refine Chain.runK [] 2 fun K hK => ?_; simp; refine hK _ _ ?_; clear hK K
 refine Chain.sub (S' := mk 101 [] [(0, .d (.sl (a0.map (cL cS61)))), (1, .d (.sl (a1.map (cL cS61)))), (5, .ptr 5 0 0), (8, .i r1), (27, .b (r1 != 0))] [(5, BX a2)]) Sub.tt ?_
 refine Chain.nil ?_
 replace h := isome h; rcases h with ⟨c2, h⟩ | ⟨c2, h⟩
 ·have c2_ : (r1 != 0) = true := c2
  refine AW.condT (b := (r1 != 0)) rfl c2_ ?_
  refine AW.sub (Sub.bool 27 (b := (r1 != 0)) rfl c2_) ?_
  refine AW.sub (S' := mk 101 [] [(0, .d (.sl (a0.map (cL cS61)))), (1, .d (.sl (a1.map (cL cS61)))), (5, .ptr 5 0 0), (8, .i r1), (27, .b true)] [(5, BX a2)]) (by simp; exact Sub.table (by simp) (by simp)) ?_
  refine AW.seqR ?_
  refine Chain.runK [] 3 fun K hK => ?_; simp; refine hK _ _ ?_; clear hK K
  refine Chain.sub (S' := mk 101 [] [(6, .d (.lit (.slice none 0 0))), (7, .i r1)] []) Sub.tt ?_
  refine Chain.nil ?_
  refine AW.sub (Sub.wk 6 rfl) ?_
  refine AW.sub (S' := mk 101 [] [(6, .d (.sl (([] : List (List S61)).map (cL cS61)))), (7, .i r1)] []) (by simp; exact Sub.table (by simp) (by simp)) ?_
  refine AW.ret ?_
  cases h
  refine thenQ_pass (by simp) ?_
  exact FinC.ret (by simp) (by simp)
 ·have c2_ : (r1 != 0) = false := Bool.eq_false_iff.2 c2
  refine AW.condF (b := (r1 != 0)) rfl c2_ ?_
  refine AW.sub (Sub.bool 27 (b := (r1 != 0)) rfl c2_) ?_
  refine AW.sub (S' := mk 101 [] [(0, .d (.sl (a0.map (cL cS61)))), (1, .d (.sl (a1.map (cL cS61)))), (5, .ptr 5 0 0), (8, .i r1), (27, .b false)] [(5, BX a2)]) (by simp; exact Sub.table (by simp) (by simp)) ?_
  refine AW.skip ?_
  refine thenQ_normal ?_
  refine AW.seqR ?_
  refine Chain.mmake .string (by simp) rfl rfl (by simp) ?_
  refine Chain.sub (S' := mk 101 [] [(0, .d (.sl (a0.map (cL cS61)))), (1, .d (.sl (a1.map (cL cS61)))), (5, .ptr 5 0 0), (8, .i r1), (27, .b false), (29, .mref 29)] [(5, BX a2), (29, some (.mp .string (encM MKey.sk (vO (cL cS61)) ([] : List (ByteArray × (List (List S61)))))))]) (by simp; exact Sub.table (by simp) (by simp [encM_nil])) ?_
  refine Chain.runK [] 1 fun K hK => ?_; simp; refine hK _ _ ?_; clear hK K
  refine Chain.sub (S' := mk 101 [] [(0, .d (.sl (a0.map (cL cS61)))), (1, .d (.sl (a1.map (cL cS61)))), (5, .ptr 5 0 0), (9, .mref 29)] [(5, BX a2), (29, some (.mp .string (encM MKey.sk (vO (cL cS61)) ([] : List (ByteArray × (List (List S61)))))))]) Sub.tt ?_
  refine Chain.nil ?_
  refine AW.seq ?_
  refine AW.seqR ?_
  refine Chain.runK [] 3 fun K hK => ?_; simp; refine hK _ _ ?_; clear hK K
  refine Chain.sub (S' := mk 101 [] [(0, .d (.sl (a0.map (cL cS61)))), (5, .ptr 5 0 0), (9, .mref 29), (30, .d (.sl (a1.map (cL cS61)))), (31, .i (a1.length : Int)), (32, .i 0)] [(5, BX a2), (29, some (.mp .string (encM MKey.sk (vO (cL cS61)) ([] : List (ByteArray × (List (List S61)))))))]) Sub.tt ?_
  refine Chain.sub (Sub.mapRows 29 rfl) ?_
  refine Chain.sub (S' := mk 101 [] [(0, .d (.sl (a0.map (cL cS61)))), (5, .ptr 5 0 0), (9, .mref 29), (30, .d (.sl (a1.map (cL cS61)))), (31, .i (a1.length : Int)), (32, .i 0)] [(5, BX a2), (29, some (.hid (MRm ([] : List (ByteArray × (List (List S61)))))))]) (by simp; exact Sub.table (by simp) (by simp)) ?_
  refine Chain.nil ?_
  refine AW.lastN (fun (m39 : List (ByteArray × (List (List S61)))) => mk 101 [] [(0, .d (.sl (a0.map (cL cS61)))), (5, .ptr 5 0 0), (9, .mref 29)] [(5, BX a2), (29, some (.hid (MRm m39)))]) h ?_ ?_ <;> clear h
  ·intro o h
   refine AW.block ?_
   refine AW.iter (fun ((m13, v14) : ((List (ByteArray × (List (List S61)))) × Int)) => mk 101 [] [(0, .d (.sl (a0.map (cL cS61)))), (5, .ptr 5 0 0), (9, .mref 29), (30, .d (.sl (a1.map (cL cS61)))), (31, .i (a1.length : Int)), (32, .i v14)] [(5, BX a2), (29, some (.hid (MRm m13)))]) h Sub.tt ?_
   clear h
   rintro ⟨m13, v14⟩ x h
   dsimp only at h ⊢
   refine AW.seqR ?_
   refine Chain.runK [] 1 fun K hK => ?_; simp; refine hK _ _ ?_; clear hK K
   refine Chain.sub (S' := mk 101 [] [(0, .d (.sl (a0.map (cL cS61)))), (5, .ptr 5 0 0), (9, .mref 29), (30, .d (.sl (a1.map (cL cS61)))), (31, .i (a1.length : Int)), (32, .i v14), (33, .b (decide (v14 < (a1.length : Int))))] [(5, BX a2), (29, some (.hid (MRm m13)))]) Sub.tt ?_
   refine Chain.nil ?_
   refine AW.seq ?_
   replace h := isome h; rcases h with ⟨c40, h⟩ | ⟨c40, h⟩
   ·have c40_ : decide (v14 < (a1.length : Int)) = true := decide_eq_true c40
    refine AW.condT (b := decide (v14 < (a1.length : Int))) rfl c40_ ?_
    refine AW.sub (Sub.bool 33 (b := decide (v14 < (a1.length : Int))) rfl c40_) ?_
    refine AW.sub (S' := mk 101 [] [(0, .d (.sl (a0.map (cL cS61)))), (5, .ptr 5 0 0), (9, .mref 29), (30, .d (.sl (a1.map (cL cS61)))), (31, .i (a1.length : Int)), (32, .i v14), (33, .b true)] [(5, BX a2), (29, some (.hid (MRm m13)))]) (by simp; exact Sub.table (by simp) (by simp)) ?_
    refine AW.skip ?_
    refine thenQ_normal ?_
    refine AW.seq ?_
    refine AW.block ?_
    refine AW.seqR ?_
    replace h := bsome h; obtain ⟨x41, hx41, h⟩ := h
    obtain ⟨k42, hx41k, hx41, hx41a, hx41b⟩ := idx_some hx41
    refine Chain.runK [] 3 fun K hK => ?_; simp [hx41, hx41k, hx41a]; refine hK _ _ ?_; clear hK K
    refine Chain.sub (S' := mk 101 [] [(0, .d (.sl (a0.map (cL cS61)))), (5, .ptr 5 0 0), (9, .mref 29), (11, .d (.sl (x41.map cS61))), (30, .d (.sl (a1.map (cL cS61)))), (31, .i (a1.length : Int)), (32, .i v14)] [(5, BX a2), (29, some (.hid (MRm m13)))]) Sub.tt ?_
    refine Chain.nil ?_
    refine AW.seqR ?_
    refine Chain.runK [] 3 fun K hK => ?_; simp; refine hK _ _ ?_; clear hK K
    refine Chain.sub (S' := mk 101 [] [(0, .d (.sl (a0.map (cL cS61)))), (5, .ptr 5 0 0), (9, .mref 29), (11, .d (.sl (x41.map cS61))), (30, .d (.sl (a1.map (cL cS61)))), (31, .i (a1.length : Int)), (32, .i v14), (37, .d (.sl (x41.map cS61))), (39, .d (.sl (a2.Right.map (cI .i64))))] [(5, BX a2), (29, some (.hid (MRm m13)))]) Sub.tt ?_
    replace h := bsome h; obtain ⟨r43, hr43, h⟩ := h
    refine Chain.callC (d := 40) (p58 N x41 a2.Right r43 hr43) (by simp) rfl rfl (by simp <;> rfl) (by simp <;> rfl) ent58 (by simp) (.inl ⟨by simp, by simp⟩) ?_
    refine Chain.sub (S' := mk 101 [] [(0, .d (.sl (a0.map (cL cS61)))), (5, .ptr 5 0 0), (9, .mref 29), (11, .d (.sl (x41.map cS61))), (30, .d (.sl (a1.map (cL cS61)))), (31, .i (a1.length : Int)), (32, .i v14), (37, .d (.sl (x41.map cS61))), (39, .d (.sl (a2.Right.map (cI .i64)))), (40, .tup [.d (.sl (r43.1.map cS61)), .b r43.2])] [(5, BX a2), (29, some (.hid (MRm m13)))]) (by simp; exact Sub.table (by simp) (by simp)) ?_
    refine Chain.runK [] 5 fun K hK => ?_; simp; refine hK _ _ ?_; clear hK K
    refine Chain.sub (S' := mk 101 [] [(0, .d (.sl (a0.map (cL cS61)))), (5, .ptr 5 0 0), (9, .mref 29), (11, .d (.sl (x41.map cS61))), (12, .d (.sl (r43.1.map cS61))), (13, .b r43.2), (30, .d (.sl (a1.map (cL cS61)))), (31, .i (a1.length : Int)), (32, .i v14)] [(5, BX a2), (29, some (.hid (MRm m13)))]) Sub.tt ?_
    refine Chain.nil ?_
    refine AW.seqR ?_
    refine Chain.runK [] 1 fun K hK => ?_; simp; refine hK _ _ ?_; clear hK K
    refine Chain.sub (S' := mk 101 [] [(0, .d (.sl (a0.map (cL cS61)))), (5, .ptr 5 0 0), (9, .mref 29), (11, .d (.sl (x41.map cS61))), (12, .d (.sl (r43.1.map cS61))), (30, .d (.sl (a1.map (cL cS61)))), (31, .i (a1.length : Int)), (32, .i v14), (43, .b r43.2)] [(5, BX a2), (29, some (.hid (MRm m13)))]) Sub.tt ?_
    refine Chain.nil ?_
    replace h := isome h; rcases h with ⟨c44, h⟩ | ⟨c44, h⟩
    ·have c44_ : r43.2 = true := c44
     refine AW.condT (b := r43.2) rfl c44_ ?_
     refine AW.sub (Sub.bool 43 (b := r43.2) rfl c44_) ?_
     refine AW.sub (S' := mk 101 [] [(0, .d (.sl (a0.map (cL cS61)))), (5, .ptr 5 0 0), (9, .mref 29), (11, .d (.sl (x41.map cS61))), (12, .d (.sl (r43.1.map cS61))), (30, .d (.sl (a1.map (cL cS61)))), (31, .i (a1.length : Int)), (32, .i v14), (43, .b true)] [(5, BX a2), (29, some (.hid (MRm m13)))]) (by simp; exact Sub.table (by simp) (by simp)) ?_
     refine AW.region ?_
     refine Chain.runK [] 2 fun K hK => ?_; simp; refine hK _ _ ?_; clear hK K
     refine Chain.sub (S' := mk 101 [] [(0, .d (.sl (a0.map (cL cS61)))), (5, .ptr 5 0 0), (9, .mref 29), (11, .d (.sl (x41.map cS61))), (12, .d (.sl (r43.1.map cS61))), (30, .d (.sl (a1.map (cL cS61)))), (31, .i (a1.length : Int)), (32, .i v14), (44, .mref 29), (45, .d (.sl (r43.1.map cS61)))] [(5, BX a2), (29, some (.hid (MRm m13)))]) Sub.tt ?_
     replace h := bsome h; obtain ⟨r45, hr45, h⟩ := h
     refine Chain.callL (d := 46) (p61 N r43.1 r45 hr45) (by simp) rfl rfl (by simp <;> rfl) (by simp <;> rfl) ent61 (by simp <;> rfl) ?_
     refine Chain.sub (S' := mk 101 [] [(0, .d (.sl (a0.map (cL cS61)))), (5, .ptr 5 0 0), (9, .mref 29), (11, .d (.sl (x41.map cS61))), (12, .d (.sl (r43.1.map cS61))), (30, .d (.sl (a1.map (cL cS61)))), (31, .i (a1.length : Int)), (32, .i v14), (44, .mref 29), (45, .d (.sl (r43.1.map cS61))), (46, .d (.lit (.string r45)))] [(5, BX a2), (29, some (.hid (MRm m13)))]) (by simp; exact Sub.table (by simp) (by simp)) ?_
     refine Chain.runK [] 2 fun K hK => ?_; simp; refine hK _ _ ?_; clear hK K
     refine Chain.sub (S' := mk 101 [] [(0, .d (.sl (a0.map (cL cS61)))), (5, .ptr 5 0 0), (9, .mref 29), (11, .d (.sl (x41.map cS61))), (30, .d (.sl (a1.map (cL cS61)))), (31, .i (a1.length : Int)), (32, .i v14), (44, .mref 29), (46, .d (.lit (.string r45))), (47, .mref 29), (48, .d (.sl (r43.1.map cS61)))] [(5, BX a2), (29, some (.hid (MRm m13)))]) Sub.tt ?_
     replace h := bsome h; obtain ⟨r46, hr46, h⟩ := h
     refine Chain.callL (d := 49) (p61 N r43.1 r46 hr46) (by simp) rfl rfl (by simp <;> rfl) (by simp <;> rfl) ent61 (by simp <;> rfl) ?_
     refine Chain.sub (S' := mk 101 [] [(0, .d (.sl (a0.map (cL cS61)))), (5, .ptr 5 0 0), (9, .mref 29), (11, .d (.sl (x41.map cS61))), (30, .d (.sl (a1.map (cL cS61)))), (31, .i (a1.length : Int)), (32, .i v14), (44, .mref 29), (46, .d (.lit (.string r45))), (47, .mref 29), (48, .d (.sl (r43.1.map cS61))), (49, .d (.lit (.string r46)))] [(5, BX a2), (29, some (.hid (MRm m13)))]) (by simp; exact Sub.table (by simp) (by simp)) ?_
     obtain rfl : r45 = r46 := Option.some.inj (hr45.symm.trans hr46)
     replace h := lsome h; obtain ⟨v47, hv47, h⟩ := h
     refine Chain.lookRow m13 r45 hv47 (by simp) rfl rfl rfl rfl rfl rfl rfl (by decide) ?_
     refine Chain.sub (S' := mk 101 [] [(0, .d (.sl (a0.map (cL cS61)))), (5, .ptr 5 0 0), (9, .mref 29), (11, .d (.sl (x41.map cS61))), (30, .d (.sl (a1.map (cL cS61)))), (31, .i (a1.length : Int)), (32, .i v14), (44, .mref 29), (46, .d (.lit (.string r45))), (50, .ref 50 0 v47.length)] [(5, BX a2), (29, some (.hid (MRo m13 r45))), (50, R57 v47)]) (by simp; exact Sub.table (by simp) (by simp)) ?_
     replace h := bsome h; obtain ⟨l48, hl48, h⟩ := h
     obtain ⟨hl48a, hl48⟩ := appL_some hl48
     subst hl48
     try simp only [List.length_cons, List.length_nil, Nat.zero_add] at hl48a
     refine Chain.runK [52] 3 fun K hK => ?_; simp [hl48a]; refine hK _ _ ?_; clear hK K
     refine Chain.sub (S' := mk 101 [] [(0, .d (.sl (a0.map (cL cS61)))), (5, .ptr 5 0 0), (9, .mref 29), (30, .d (.sl (a1.map (cL cS61)))), (31, .i (a1.length : Int)), (32, .i v14), (44, .mref 29), (46, .d (.lit (.string r45))), (53, .ref 50 0 ((v47 ++ [x41]).length))] [(5, BX a2), (29, some (.hid (MRo m13 r45))), (50, R57 (v47 ++ [x41]))]) Sub.tt ?_
     refine Chain.updRow m13 r45 (v47 ++ [x41]) (by simp) rfl rfl rfl rfl rfl rfl rfl rfl (by decide) ?_
     refine Chain.sub (S' := mk 101 [] [(0, .d (.sl (a0.map (cL cS61)))), (5, .ptr 5 0 0), (9, .mref 29), (30, .d (.sl (a1.map (cL cS61)))), (31, .i (a1.length : Int)), (32, .i v14)] [(5, BX a2), (29, some (.hid (MRm (mput m13 r45 (v47 ++ [x41])))))]) (by simp; exact Sub.table (by simp) (by simp)) ?_
     refine Chain.nil ?_
     refine blockQ.normal ?_
     refine thenQ_normal ?_
     refine AW.region ?_
     replace h := bsome h; obtain ⟨v49, hv49, h⟩ := h
     have hv49 := chkI_some hv49
     refine Chain.runK [] 2 fun K hK => ?_; simp [hv49]; refine hK _ _ ?_; clear hK K
     refine Chain.sub (S' := mk 101 [] [(0, .d (.sl (a0.map (cL cS61)))), (5, .ptr 5 0 0), (9, .mref 29), (30, .d (.sl (a1.map (cL cS61)))), (31, .i (a1.length : Int)), (32, .i v49)] [(5, BX a2), (29, some (.hid (MRm (mput m13 r45 (v47 ++ [x41])))))]) Sub.tt ?_
     refine Chain.nil ?_
     cases h
     refine PostI.next ?_
     exact Sub.tt
    ·have c44_ : r43.2 = false := Bool.eq_false_iff.2 c44
     refine AW.condF (b := r43.2) rfl c44_ ?_
     refine AW.sub (Sub.bool 43 (b := r43.2) rfl c44_) ?_
     refine AW.sub (S' := mk 101 [] [(0, .d (.sl (a0.map (cL cS61)))), (5, .ptr 5 0 0), (9, .mref 29), (11, .d (.sl (x41.map cS61))), (12, .d (.sl (r43.1.map cS61))), (30, .d (.sl (a1.map (cL cS61)))), (31, .i (a1.length : Int)), (32, .i v14), (43, .b false)] [(5, BX a2), (29, some (.hid (MRm m13)))]) (by simp; exact Sub.table (by simp) (by simp)) ?_
     refine AW.skip ?_
     refine blockQ.normal ?_
     refine thenQ_normal ?_
     refine AW.region ?_
     replace h := bsome h; obtain ⟨v50, hv50, h⟩ := h
     have hv50 := chkI_some hv50
     refine Chain.runK [] 2 fun K hK => ?_; simp [hv50]; refine hK _ _ ?_; clear hK K
     refine Chain.sub (S' := mk 101 [] [(0, .d (.sl (a0.map (cL cS61)))), (5, .ptr 5 0 0), (9, .mref 29), (30, .d (.sl (a1.map (cL cS61)))), (31, .i (a1.length : Int)), (32, .i v50)] [(5, BX a2), (29, some (.hid (MRm m13)))]) Sub.tt ?_
     refine Chain.nil ?_
     cases h
     refine PostI.next ?_
     exact Sub.tt
   ·have c40_ : decide (v14 < (a1.length : Int)) = false := decide_eq_false c40
    refine AW.condF (b := decide (v14 < (a1.length : Int))) rfl c40_ ?_
    refine AW.sub (Sub.bool 33 (b := decide (v14 < (a1.length : Int))) rfl c40_) ?_
    refine AW.sub (S' := mk 101 [] [(0, .d (.sl (a0.map (cL cS61)))), (5, .ptr 5 0 0), (9, .mref 29), (30, .d (.sl (a1.map (cL cS61)))), (31, .i (a1.length : Int)), (32, .i v14), (33, .b false)] [(5, BX a2), (29, some (.hid (MRm m13)))]) (by simp; exact Sub.table (by simp) (by simp)) ?_
    refine AW.exit ?_
    cases h
    refine thenQ_pass (by simp) ?_
    refine PostI.out (by simp) ?_
    rintro rfl
    refine blockQ.hit ?_
    refine PostN.next ?_
    exact Sub.tt
  ·rintro m39 h
   refine thenQ_normal ?_
   refine AW.sub (Sub.rowsMap 29 m39 rfl rfl) ?_
   refine AW.sub (S' := mk 101 [] [(0, .d (.sl (a0.map (cL cS61)))), (5, .ptr 5 0 0), (9, .mref 29)] [(5, BX a2), (29, some (.mp .string (encM MKey.sk (vO (cL cS61)) m39)))]) (by simp; exact Sub.table (by simp) (by simp)) ?_
   refine AW.seqR ?_
   refine Chain.runK [] 1 fun K hK => ?_; simp; refine hK _ _ ?_; clear hK K
   refine Chain.sub (S' := mk 101 [] [(0, .d (.sl (a0.map (cL cS61)))), (5, .ptr 5 0 0), (9, .mref 29), (14, .d (.lit (.slice none 0 0)))] [(5, BX a2), (29, some (.mp .string (encM MKey.sk (vO (cL cS61)) m39)))]) Sub.tt ?_
   refine Chain.nil ?_
   refine AW.seq ?_
   refine AW.seqR ?_
   refine Chain.runK [] 3 fun K hK => ?_; simp; refine hK _ _ ?_; clear hK K
   refine Chain.sub (S' := mk 101 [] [(5, .ptr 5 0 0), (9, .mref 29), (14, .d (.lit (.slice none 0 0))), (55, .d (.sl (a0.map (cL cS61)))), (56, .i (a0.length : Int)), (57, .i 0)] [(5, BX a2), (29, some (.mp .string (encM MKey.sk (vO (cL cS61)) m39)))]) Sub.tt ?_
   refine Chain.nil ?_
   refine AW.lastN (fun (l195 : List (List S61)) => mk 101 [] [(14, .ref 84 0 l195.length)] [(84, R57 l195)]) h ?_ ?_ <;> clear h
   ·intro o h
    refine AW.block ?_
    refine AW.iter (fun ((l97, v98) : ((List (List S61)) × Int)) => mk 101 [] [(5, .ptr 5 0 0), (9, .mref 29), (14, .ref 84 0 l97.length), (55, .d (.sl (a0.map (cL cS61)))), (56, .i (a0.length : Int)), (57, .i v98)] [(5, BX a2), (29, some (.mp .string (encM MKey.sk (vO (cL cS61)) m39))), (84, R57 l97)]) h (Sub.trans (Sub.nilOwn (t := 14) (id := 84) (T := 57) (n := 1) rfl rfl (by decide)) (by simp; exact Sub.table (by simp) (by simp))) ?_
    clear h
    rintro ⟨l97, v98⟩ x h
    dsimp only at h ⊢
    refine AW.seqR ?_
    refine Chain.runK [] 1 fun K hK => ?_; simp; refine hK _ _ ?_; clear hK K
    refine Chain.sub (S' := mk 101 [] [(5, .ptr 5 0 0), (9, .mref 29), (14, .ref 84 0 l97.length), (55, .d (.sl (a0.map (cL cS61)))), (56, .i (a0.length : Int)), (57, .i v98), (58, .b (decide (v98 < (a0.length : Int))))] [(5, BX a2), (29, some (.mp .string (encM MKey.sk (vO (cL cS61)) m39))), (84, R57 l97)]) Sub.tt ?_
    refine Chain.nil ?_
    refine AW.seq ?_
    replace h := isome h; rcases h with ⟨c196, h⟩ | ⟨c196, h⟩
    ·have c196_ : decide (v98 < (a0.length : Int)) = true := decide_eq_true c196
     refine AW.condT (b := decide (v98 < (a0.length : Int))) rfl c196_ ?_
     refine AW.sub (Sub.bool 58 (b := decide (v98 < (a0.length : Int))) rfl c196_) ?_
     refine AW.sub (S' := mk 101 [] [(5, .ptr 5 0 0), (9, .mref 29), (14, .ref 84 0 l97.length), (55, .d (.sl (a0.map (cL cS61)))), (56, .i (a0.length : Int)), (57, .i v98), (58, .b true)] [(5, BX a2), (29, some (.mp .string (encM MKey.sk (vO (cL cS61)) m39))), (84, R57 l97)]) (by simp; exact Sub.table (by simp) (by simp)) ?_
     refine AW.skip ?_
     refine thenQ_normal ?_
     refine AW.seq ?_
     refine AW.block ?_
     refine AW.seqR ?_
     replace h := bsome h; obtain ⟨x197, hx197, h⟩ := h
     obtain ⟨k198, hx197k, hx197, hx197a, hx197b⟩ := idx_some hx197
     refine Chain.runK [] 3 fun K hK => ?_; simp [hx197, hx197k, hx197a]; refine hK _ _ ?_; clear hK K
     refine Chain.sub (S' := mk 101 [] [(5, .ptr 5 0 0), (9, .mref 29), (14, .ref 84 0 l97.length), (16, .d (.sl (x197.map cS61))), (55, .d (.sl (a0.map (cL cS61)))), (56, .i (a0.length : Int)), (57, .i v98)] [(5, BX a2), (29, some (.mp .string (encM MKey.sk (vO (cL cS61)) m39))), (84, R57 l97)]) Sub.tt ?_
     refine Chain.nil ?_
     refine AW.seqR ?_
     refine Chain.runK [] 1 fun K hK => ?_; simp; refine hK _ _ ?_; clear hK K
     refine Chain.sub (S' := mk 101 [] [(5, .ptr 5 0 0), (9, .mref 29), (14, .ref 84 0 l97.length), (16, .d (.sl (x197.map cS61))), (17, .d (.lit (.slice none 0 0))), (55, .d (.sl (a0.map (cL cS61)))), (56, .i (a0.length : Int)), (57, .i v98)] [(5, BX a2), (29, some (.mp .string (encM MKey.sk (vO (cL cS61)) m39))), (84, R57 l97)]) Sub.tt ?_
     refine Chain.nil ?_
     refine AW.seq ?_
     refine AW.seqR ?_
     refine Chain.runK [] 3 fun K hK => ?_; simp; refine hK _ _ ?_; clear hK K
     refine Chain.sub (S' := mk 101 [] [(5, .ptr 5 0 0), (9, .mref 29), (14, .ref 84 0 l97.length), (16, .d (.sl (x197.map cS61))), (17, .d (.lit (.slice none 0 0))), (55, .d (.sl (a0.map (cL cS61)))), (56, .i (a0.length : Int)), (57, .i v98), (62, .d (.sl (x197.map cS61))), (64, .d (.sl (a2.Left.map (cI .i64))))] [(5, BX a2), (29, some (.mp .string (encM MKey.sk (vO (cL cS61)) m39))), (84, R57 l97)]) Sub.tt ?_
     replace h := bsome h; obtain ⟨r199, hr199, h⟩ := h
     refine Chain.callC (d := 65) (p58 N x197 a2.Left r199 hr199) (by simp) rfl rfl (by simp <;> rfl) (by simp <;> rfl) ent58 (by simp) (.inl ⟨by simp, by simp⟩) ?_
     refine Chain.sub (S' := mk 101 [] [(5, .ptr 5 0 0), (9, .mref 29), (14, .ref 84 0 l97.length), (16, .d (.sl (x197.map cS61))), (17, .d (.lit (.slice none 0 0))), (55, .d (.sl (a0.map (cL cS61)))), (56, .i (a0.length : Int)), (57, .i v98), (62, .d (.sl (x197.map cS61))), (64, .d (.sl (a2.Left.map (cI .i64)))), (65, .tup [.d (.sl (r199.1.map cS61)), .b r199.2])] [(5, BX a2), (29, some (.mp .string (encM MKey.sk (vO (cL cS61)) m39))), (84, R57 l97)]) (by simp; exact Sub.table (by simp) (by simp)) ?_
     refine Chain.runK [] 5 fun K hK => ?_; simp; refine hK _ _ ?_; clear hK K
     refine Chain.sub (S' := mk 101 [] [(5, .ptr 5 0 0), (9, .mref 29), (14, .ref 84 0 l97.length), (16, .d (.sl (x197.map cS61))), (17, .d (.lit (.slice none 0 0))), (18, .d (.sl (r199.1.map cS61))), (19, .b r199.2), (55, .d (.sl (a0.map (cL cS61)))), (56, .i (a0.length : Int)), (57, .i v98)] [(5, BX a2), (29, some (.mp .string (encM MKey.sk (vO (cL cS61)) m39))), (84, R57 l97)]) Sub.tt ?_
     refine Chain.nil ?_
     refine AW.seqR ?_
     refine Chain.runK [] 1 fun K hK => ?_; simp; refine hK _ _ ?_; clear hK K
     refine Chain.sub (S' := mk 101 [] [(5, .ptr 5 0 0), (9, .mref 29), (14, .ref 84 0 l97.length), (16, .d (.sl (x197.map cS61))), (17, .d (.lit (.slice none 0 0))), (18, .d (.sl (r199.1.map cS61))), (55, .d (.sl (a0.map (cL cS61)))), (56, .i (a0.length : Int)), (57, .i v98), (68, .b r199.2)] [(5, BX a2), (29, some (.mp .string (encM MKey.sk (vO (cL cS61)) m39))), (84, R57 l97)]) Sub.tt ?_
     refine Chain.nil ?_
     refine AW.lastN (fun (l203 : List (List S61)) => mk 101 [] [(5, .ptr 5 0 0), (9, .mref 29), (14, .ref 84 0 l97.length), (16, .d (.sl (x197.map cS61))), (17, .d (.sl (l203.map (cL cS61)))), (55, .d (.sl (a0.map (cL cS61)))), (56, .i (a0.length : Int)), (57, .i v98)] [(5, BX a2), (29, some (.mp .string (encM MKey.sk (vO (cL cS61)) m39))), (84, R57 l97)]) h ?_ ?_ <;> clear h
     ·intro o h
      replace h := isome h; rcases h with ⟨c204, h⟩ | ⟨c204, h⟩
      ·have c204_ : r199.2 = true := c204
       refine AW.condT (b := r199.2) rfl c204_ ?_
       refine AW.sub (Sub.bool 68 (b := r199.2) rfl c204_) ?_
       refine AW.sub (S' := mk 101 [] [(5, .ptr 5 0 0), (9, .mref 29), (14, .ref 84 0 l97.length), (16, .d (.sl (x197.map cS61))), (17, .d (.lit (.slice none 0 0))), (18, .d (.sl (r199.1.map cS61))), (55, .d (.sl (a0.map (cL cS61)))), (56, .i (a0.length : Int)), (57, .i v98), (68, .b true)] [(5, BX a2), (29, some (.mp .string (encM MKey.sk (vO (cL cS61)) m39))), (84, R57 l97)]) (by simp; exact Sub.table (by simp) (by simp)) ?_
       refine AW.region ?_
       refine Chain.runK [] 2 fun K hK => ?_; simp; refine hK _ _ ?_; clear hK K
       refine Chain.sub (S' := mk 101 [] [(5, .ptr 5 0 0), (9, .mref 29), (14, .ref 84 0 l97.length), (16, .d (.sl (x197.map cS61))), (55, .d (.sl (a0.map (cL cS61)))), (56, .i (a0.length : Int)), (57, .i v98), (69, .mref 29), (70, .d (.sl (r199.1.map cS61)))] [(5, BX a2), (29, some (.mp .string (encM MKey.sk (vO (cL cS61)) m39))), (84, R57 l97)]) Sub.tt ?_
       replace h := bsome h; obtain ⟨r205, hr205, h⟩ := h
       refine Chain.callL (d := 71) (p61 N r199.1 r205 hr205) (by simp) rfl rfl (by simp <;> rfl) (by simp <;> rfl) ent61 (by simp <;> rfl) ?_
       refine Chain.sub (S' := mk 101 [] [(5, .ptr 5 0 0), (9, .mref 29), (14, .ref 84 0 l97.length), (16, .d (.sl (x197.map cS61))), (55, .d (.sl (a0.map (cL cS61)))), (56, .i (a0.length : Int)), (57, .i v98), (69, .mref 29), (70, .d (.sl (r199.1.map cS61))), (71, .d (.lit (.string r205)))] [(5, BX a2), (29, some (.mp .string (encM MKey.sk (vO (cL cS61)) m39))), (84, R57 l97)]) (by simp; exact Sub.table (by simp) (by simp)) ?_
       replace h := lsome h; obtain ⟨v206, hv206, h⟩ := h
       refine Chain.lookS (c := (cL cS61)) sk_inj m39 r205 (by simp) rfl rfl ty133 rfl ty9 ty48 rfl rfl rfl rfl rfl rfl ?_
       refine Chain.sub (S' := mk 101 [] [(5, .ptr 5 0 0), (9, .mref 29), (14, .ref 84 0 l97.length), (16, .d (.sl (x197.map cS61))), (55, .d (.sl (a0.map (cL cS61)))), (56, .i (a0.length : Int)), (57, .i v98), (69, .mref 29), (70, .d (.sl (r199.1.map cS61))), (71, .d (.lit (.string r205))), (72, .d (.sl (v206.map (cL cS61))))] [(5, BX a2), (29, some (.mp .string (encM MKey.sk (vO (cL cS61)) m39))), (84, R57 l97)]) (by simp [vO, hv206]; exact Sub.table (by simp) (by simp)) ?_
       refine Chain.runK [] 1 fun K hK => ?_; simp; refine hK _ _ ?_; clear hK K
       refine Chain.sub (S' := mk 101 [] [(5, .ptr 5 0 0), (9, .mref 29), (14, .ref 84 0 l97.length), (16, .d (.sl (x197.map cS61))), (17, .d (.sl (v206.map (cL cS61)))), (55, .d (.sl (a0.map (cL cS61)))), (56, .i (a0.length : Int)), (57, .i v98)] [(5, BX a2), (29, some (.mp .string (encM MKey.sk (vO (cL cS61)) m39))), (84, R57 l97)]) Sub.tt ?_
       refine Chain.nil ?_
       cases h
       refine PostN.next ?_
       exact Sub.tt
      ·have c204_ : r199.2 = false := Bool.eq_false_iff.2 c204
       refine AW.condF (b := r199.2) rfl c204_ ?_
       refine AW.sub (Sub.bool 68 (b := r199.2) rfl c204_) ?_
       refine AW.sub (S' := mk 101 [] [(5, .ptr 5 0 0), (9, .mref 29), (14, .ref 84 0 l97.length), (16, .d (.sl (x197.map cS61))), (17, .d (.lit (.slice none 0 0))), (18, .d (.sl (r199.1.map cS61))), (55, .d (.sl (a0.map (cL cS61)))), (56, .i (a0.length : Int)), (57, .i v98), (68, .b false)] [(5, BX a2), (29, some (.mp .string (encM MKey.sk (vO (cL cS61)) m39))), (84, R57 l97)]) (by simp; exact Sub.table (by simp) (by simp)) ?_
       refine AW.skip ?_
       cases h
       refine PostN.next ?_
       exact (Sub.trans (Sub.wk 17 rfl) (by simp; exact Sub.table (by simp) (by simp)))
     ·rintro l203 h
      refine thenQ_normal ?_
      refine AW.seq ?_
      refine AW.seqR ?_
      refine Chain.runK [] 3 fun K hK => ?_; simp; refine hK _ _ ?_; clear hK K
      refine Chain.sub (S' := mk 101 [] [(5, .ptr 5 0 0), (9, .mref 29), (14, .ref 84 0 l97.length), (16, .d (.sl (x197.map cS61))), (17, .d (.sl (l203.map (cL cS61)))), (55, .d (.sl (a0.map (cL cS61)))), (56, .i (a0.length : Int)), (57, .i v98), (73, .d (.sl (l203.map (cL cS61)))), (74, .i (l203.length : Int)), (75, .i 0)] [(5, BX a2), (29, some (.mp .string (encM MKey.sk (vO (cL cS61)) m39))), (84, R57 l97)]) Sub.tt ?_
      refine Chain.nil ?_
      refine AW.lastN (fun (l228 : List (List S61)) => mk 101 [] [(5, .ptr 5 0 0), (9, .mref 29), (14, .ref 84 0 l228.length), (16, .d (.sl (x197.map cS61))), (17, .d (.sl (l203.map (cL cS61)))), (55, .d (.sl (a0.map (cL cS61)))), (56, .i (a0.length : Int)), (57, .i v98)] [(5, BX a2), (29, some (.mp .string (encM MKey.sk (vO (cL cS61)) m39))), (84, R57 l228)]) h ?_ ?_ <;> clear h
      ·intro o h
       refine AW.block ?_
       refine AW.iter (fun ((l212, v213) : ((List (List S61)) × Int)) => mk 101 [] [(5, .ptr 5 0 0), (9, .mref 29), (14, .ref 84 0 l212.length), (16, .d (.sl (x197.map cS61))), (17, .d (.sl (l203.map (cL cS61)))), (55, .d (.sl (a0.map (cL cS61)))), (56, .i (a0.length : Int)), (57, .i v98), (73, .d (.sl (l203.map (cL cS61)))), (74, .i (l203.length : Int)), (75, .i v213)] [(5, BX a2), (29, some (.mp .string (encM MKey.sk (vO (cL cS61)) m39))), (84, R57 l212)]) h Sub.tt ?_
       clear h
       rintro ⟨l212, v213⟩ x h
       dsimp only at h ⊢
       refine AW.seqR ?_
       refine Chain.runK [] 1 fun K hK => ?_; simp; refine hK _ _ ?_; clear hK K
       refine Chain.sub (S' := mk 101 [] [(5, .ptr 5 0 0), (9, .mref 29), (14, .ref 84 0 l212.length), (16, .d (.sl (x197.map cS61))), (17, .d (.sl (l203.map (cL cS61)))), (55, .d (.sl (a0.map (cL cS61)))), (56, .i (a0.length : Int)), (57, .i v98), (73, .d (.sl (l203.map (cL cS61)))), (74, .i (l203.length : Int)), (75, .i v213), (76, .b (decide (v213 < (l203.length : Int))))] [(5, BX a2), (29, some (.mp .string (encM MKey.sk (vO (cL cS61)) m39))), (84, R57 l212)]) Sub.tt ?_
       refine Chain.nil ?_
       refine AW.seq ?_
       replace h := isome h; rcases h with ⟨c229, h⟩ | ⟨c229, h⟩
       ·have c229_ : decide (v213 < (l203.length : Int)) = true := decide_eq_true c229
        refine AW.condT (b := decide (v213 < (l203.length : Int))) rfl c229_ ?_
        refine AW.sub (Sub.bool 76 (b := decide (v213 < (l203.length : Int))) rfl c229_) ?_
        refine AW.sub (S' := mk 101 [] [(5, .ptr 5 0 0), (9, .mref 29), (14, .ref 84 0 l212.length), (16, .d (.sl (x197.map cS61))), (17, .d (.sl (l203.map (cL cS61)))), (55, .d (.sl (a0.map (cL cS61)))), (56, .i (a0.length : Int)), (57, .i v98), (73, .d (.sl (l203.map (cL cS61)))), (74, .i (l203.length : Int)), (75, .i v213), (76, .b true)] [(5, BX a2), (29, some (.mp .string (encM MKey.sk (vO (cL cS61)) m39))), (84, R57 l212)]) (by simp; exact Sub.table (by simp) (by simp)) ?_
        refine AW.skip ?_
        refine thenQ_normal ?_
        refine AW.seq ?_
        refine AW.block ?_
        refine AW.seqR ?_
        replace h := bsome h; obtain ⟨x230, hx230, h⟩ := h
        obtain ⟨k231, hx230k, hx230, hx230a, hx230b⟩ := idx_some hx230
        refine Chain.runK [] 3 fun K hK => ?_; simp [hx230, hx230k, hx230a]; refine hK _ _ ?_; clear hK K
        refine Chain.sub (S' := mk 101 [] [(5, .ptr 5 0 0), (9, .mref 29), (14, .ref 84 0 l212.length), (16, .d (.sl (x197.map cS61))), (17, .d (.sl (l203.map (cL cS61)))), (21, .d (.sl (x230.map cS61))), (55, .d (.sl (a0.map (cL cS61)))), (56, .i (a0.length : Int)), (57, .i v98), (73, .d (.sl (l203.map (cL cS61)))), (74, .i (l203.length : Int)), (75, .i v213)] [(5, BX a2), (29, some (.mp .string (encM MKey.sk (vO (cL cS61)) m39))), (84, R57 l212)]) Sub.tt ?_
        refine Chain.nil ?_
        refine AW.region ?_
        refine Chain.runK [83] 3 fun K hK => ?_; simp; refine hK _ _ ?_; clear hK K
        refine Chain.sub (S' := mk 101 [] [(5, .ptr 5 0 0), (9, .mref 29), (16, .d (.sl (x197.map cS61))), (17, .d (.sl (l203.map (cL cS61)))), (55, .d (.sl (a0.map (cL cS61)))), (56, .i (a0.length : Int)), (57, .i v98), (73, .d (.sl (l203.map (cL cS61)))), (74, .i (l203.length : Int)), (75, .i v213), (79, .ref 84 0 l212.length), (80, .d (.sl (x197.map cS61))), (81, .d (.sl (x230.map cS61)))] [(5, BX a2), (29, some (.mp .string (encM MKey.sk (vO (cL cS61)) m39))), (84, R57 l212)]) Sub.tt ?_
        replace h := bsome h; obtain ⟨r232, hr232, h⟩ := h
        refine Chain.callC (d := 82) (p59 N x197 x230 r232 hr232) (by simp) rfl rfl (by simp <;> rfl) (by simp <;> rfl) ent59 (by simp) (.inl ⟨by simp, by simp⟩) ?_
        refine Chain.sub (S' := mk 101 [] [(5, .ptr 5 0 0), (9, .mref 29), (16, .d (.sl (x197.map cS61))), (17, .d (.sl (l203.map (cL cS61)))), (55, .d (.sl (a0.map (cL cS61)))), (56, .i (a0.length : Int)), (57, .i v98), (73, .d (.sl (l203.map (cL cS61)))), (74, .i (l203.length : Int)), (75, .i v213), (79, .ref 84 0 l212.length), (80, .d (.sl (x197.map cS61))), (81, .d (.sl (x230.map cS61))), (82, .d (.sl (r232.map cS61)))] [(5, BX a2), (29, some (.mp .string (encM MKey.sk (vO (cL cS61)) m39))), (84, R57 l212)]) (by simp; exact Sub.table (by simp) (by simp)) ?_
        replace h := bsome h; obtain ⟨l233, hl233, h⟩ := h
        obtain ⟨hl233a, hl233⟩ := appL_some hl233
        subst hl233
        try simp only [List.length_cons, List.length_nil, Nat.zero_add] at hl233a
        refine Chain.runK [83] 3 fun K hK => ?_; simp [hl233a]; refine hK _ _ ?_; clear hK K
        refine Chain.sub (S' := mk 101 [] [(5, .ptr 5 0 0), (9, .mref 29), (14, .ref 84 0 ((l212 ++ [r232]).length)), (16, .d (.sl (x197.map cS61))), (17, .d (.sl (l203.map (cL cS61)))), (55, .d (.sl (a0.map (cL cS61)))), (56, .i (a0.length : Int)), (57, .i v98), (73, .d (.sl (l203.map (cL cS61)))), (74, .i (l203.length : Int)), (75, .i v213)] [(5, BX a2), (29, some (.mp .string (encM MKey.sk (vO (cL cS61)) m39))), (84, R57 (l212 ++ [r232]))]) Sub.tt ?_
        refine Chain.nil ?_
        refine blockQ.normal ?_
        refine thenQ_normal ?_
        refine AW.region ?_
        replace h := bsome h; obtain ⟨v234, hv234, h⟩ := h
        have hv234 := chkI_some hv234
        refine Chain.runK [] 2 fun K hK => ?_; simp [hv234]; refine hK _ _ ?_; clear hK K
        refine Chain.sub (S' := mk 101 [] [(5, .ptr 5 0 0), (9, .mref 29), (14, .ref 84 0 ((l212 ++ [r232]).length)), (16, .d (.sl (x197.map cS61))), (17, .d (.sl (l203.map (cL cS61)))), (55, .d (.sl (a0.map (cL cS61)))), (56, .i (a0.length : Int)), (57, .i v98), (73, .d (.sl (l203.map (cL cS61)))), (74, .i (l203.length : Int)), (75, .i v234)] [(5, BX a2), (29, some (.mp .string (encM MKey.sk (vO (cL cS61)) m39))), (84, R57 (l212 ++ [r232]))]) Sub.tt ?_
        refine Chain.nil ?_
        cases h
        refine PostI.next ?_
        exact Sub.tt
       ·have c229_ : decide (v213 < (l203.length : Int)) = false := decide_eq_false c229
        refine AW.condF (b := decide (v213 < (l203.length : Int))) rfl c229_ ?_
        refine AW.sub (Sub.bool 76 (b := decide (v213 < (l203.length : Int))) rfl c229_) ?_
        refine AW.sub (S' := mk 101 [] [(5, .ptr 5 0 0), (9, .mref 29), (14, .ref 84 0 l212.length), (16, .d (.sl (x197.map cS61))), (17, .d (.sl (l203.map (cL cS61)))), (55, .d (.sl (a0.map (cL cS61)))), (56, .i (a0.length : Int)), (57, .i v98), (73, .d (.sl (l203.map (cL cS61)))), (74, .i (l203.length : Int)), (75, .i v213), (76, .b false)] [(5, BX a2), (29, some (.mp .string (encM MKey.sk (vO (cL cS61)) m39))), (84, R57 l212)]) (by simp; exact Sub.table (by simp) (by simp)) ?_
        refine AW.exit ?_
        cases h
        refine thenQ_pass (by simp) ?_
        refine PostI.out (by simp) ?_
        rintro rfl
        refine blockQ.hit ?_
        refine PostN.next ?_
        exact Sub.tt
      ·rintro l228 h
       refine thenQ_normal ?_
       replace h := bsome h; obtain ⟨v236, hj, h⟩ := h
       refine AW.cutR (mk 101 [] [(5, .ptr 5 0 0), (9, .mref 29), (14, .ref 84 0 l228.length), (16, .d (.sl (x197.map cS61))), (55, .d (.sl (a0.map (cL cS61)))), (56, .i (a0.length : Int)), (57, .i v98), (92, .b v236)] [(5, BX a2), (29, some (.mp .string (encM MKey.sk (vO (cL cS61)) m39))), (84, R57 l228)]) ?_ ?_
       ·clear h; have h := hj; clear hj
        refine Chain.runK [] 4 fun K hK => ?_; simp; refine hK _ _ ?_; clear hK K
        refine Chain.sub (S' := mk 101 [] [(5, .ptr 5 0 0), (9, .mref 29), (14, .ref 84 0 l228.length), (16, .d (.sl (x197.map cS61))), (55, .d (.sl (a0.map (cL cS61)))), (56, .i (a0.length : Int)), (57, .i v98), (89, .b ((l203.length : Int) == 0))] [(5, BX a2), (29, some (.mp .string (encM MKey.sk (vO (cL cS61)) m39))), (84, R57 l228)]) Sub.tt ?_
        replace h := isome h; rcases h with ⟨c237, h⟩ | ⟨c237, h⟩
        ·have c237_ : ((l203.length : Int) == 0) = true := c237
         refine Chain.sub (Sub.bool 89 (b := ((l203.length : Int) == 0)) rfl c237_) ?_
         refine Chain.sub (S' := mk 101 [] [(5, .ptr 5 0 0), (9, .mref 29), (14, .ref 84 0 l228.length), (16, .d (.sl (x197.map cS61))), (55, .d (.sl (a0.map (cL cS61)))), (56, .i (a0.length : Int)), (57, .i v98), (89, .b true)] [(5, BX a2), (29, some (.mp .string (encM MKey.sk (vO (cL cS61)) m39))), (84, R57 l228)]) (by simp; exact Sub.table (by simp) (by simp)) ?_
         refine Chain.runK [] 3 fun K hK => ?_; simp; refine hK _ _ ?_; clear hK K
         refine Chain.sub (S' := mk 101 [] [(5, .ptr 5 0 0), (9, .mref 29), (14, .ref 84 0 l228.length), (16, .d (.sl (x197.map cS61))), (55, .d (.sl (a0.map (cL cS61)))), (56, .i (a0.length : Int)), (57, .i v98), (90, .ptr 5 0 2), (91, .b a2.Outer), (92, .b a2.Outer)] [(5, BX a2), (29, some (.mp .string (encM MKey.sk (vO (cL cS61)) m39))), (84, R57 l228)]) Sub.tt ?_
         cases h
         exact Chain.nil Sub.tt
        ·have c237_ : ((l203.length : Int) == 0) = false := Bool.eq_false_iff.2 c237
         refine Chain.sub (Sub.bool 89 (b := ((l203.length : Int) == 0)) rfl c237_) ?_
         refine Chain.sub (S' := mk 101 [] [(5, .ptr 5 0 0), (9, .mref 29), (14, .ref 84 0 l228.length), (16, .d (.sl (x197.map cS61))), (55, .d (.sl (a0.map (cL cS61)))), (56, .i (a0.length : Int)), (57, .i v98), (89, .b false)] [(5, BX a2), (29, some (.mp .string (encM MKey.sk (vO (cL cS61)) m39))), (84, R57 l228)]) (by simp; exact Sub.table (by simp) (by simp)) ?_
         refine Chain.runK [] 3 fun K hK => ?_; simp; refine hK _ _ ?_; clear hK K
         refine Chain.sub (S' := mk 101 [] [(5, .ptr 5 0 0), (9, .mref 29), (14, .ref 84 0 l228.length), (16, .d (.sl (x197.map cS61))), (55, .d (.sl (a0.map (cL cS61)))), (56, .i (a0.length : Int)), (57, .i v98), (90, .tup []), (91, .tup []), (92, .b false)] [(5, BX a2), (29, some (.mp .string (encM MKey.sk (vO (cL cS61)) m39))), (84, R57 l228)]) Sub.tt ?_
         cases h
         exact Chain.nil Sub.tt
       ·clear hj
        replace h := isome h; rcases h with ⟨c238, h⟩ | ⟨c238, h⟩
        ·have c238_ : v236 = true := c238
         refine AW.condT (b := v236) rfl c238_ ?_
         refine AW.sub (Sub.bool 92 (b := v236) rfl c238_) ?_
         refine AW.sub (S' := mk 101 [] [(5, .ptr 5 0 0), (9, .mref 29), (14, .ref 84 0 l228.length), (16, .d (.sl (x197.map cS61))), (55, .d (.sl (a0.map (cL cS61)))), (56, .i (a0.length : Int)), (57, .i v98), (92, .b true)] [(5, BX a2), (29, some (.mp .string (encM MKey.sk (vO (cL cS61)) m39))), (84, R57 l228)]) (by simp; exact Sub.table (by simp) (by simp)) ?_
         refine AW.region ?_
         refine Chain.runK [97] 3 fun K hK => ?_; simp; refine hK _ _ ?_; clear hK K
         refine Chain.sub (S' := mk 101 [] [(5, .ptr 5 0 0), (9, .mref 29), (55, .d (.sl (a0.map (cL cS61)))), (56, .i (a0.length : Int)), (57, .i v98), (93, .ref 84 0 l228.length), (94, .d (.sl (x197.map cS61))), (95, .agg [.d (.sl (a2.Left.map (cI .i64))), .d (.sl (a2.Right.map (cI .i64))), .b a2.Outer, .i a2.RightWidth])] [(5, BX a2), (29, some (.mp .string (encM MKey.sk (vO (cL cS61)) m39))), (84, R57 l228)]) Sub.tt ?_
         replace h := bsome h; obtain ⟨r239, hr239, h⟩ := h
         refine Chain.callC (d := 96) (p60 N x197 a2 r239 hr239) (by simp) rfl rfl (by simp <;> rfl) (by simp <;> rfl) ent60 (by simp) (.inl ⟨by simp, by simp⟩) ?_
         refine Chain.sub (S' := mk 101 [] [(5, .ptr 5 0 0), (9, .mref 29), (55, .d (.sl (a0.map (cL cS61)))), (56, .i (a0.length : Int)), (57, .i v98), (93, .ref 84 0 l228.length), (94, .d (.sl (x197.map cS61))), (95, .agg [.d (.sl (a2.Left.map (cI .i64))), .d (.sl (a2.Right.map (cI .i64))), .b a2.Outer, .i a2.RightWidth]), (96, .d (.sl (r239.map cS61)))] [(5, BX a2), (29, some (.mp .string (encM MKey.sk (vO (cL cS61)) m39))), (84, R57 l228)]) (by simp; exact Sub.table (by simp) (by simp)) ?_
         replace h := bsome h; obtain ⟨l240, hl240, h⟩ := h
         obtain ⟨hl240a, hl240⟩ := appL_some hl240
         subst hl240
         try simp only [List.length_cons, List.length_nil, Nat.zero_add] at hl240a
         refine Chain.runK [97] 3 fun K hK => ?_; simp [hl240a]; refine hK _ _ ?_; clear hK K
         refine Chain.sub (S' := mk 101 [] [(5, .ptr 5 0 0), (9, .mref 29), (14, .ref 84 0 ((l228 ++ [r239]).length)), (55, .d (.sl (a0.map (cL cS61)))), (56, .i (a0.length : Int)), (57, .i v98)] [(5, BX a2), (29, some (.mp .string (encM MKey.sk (vO (cL cS61)) m39))), (84, R57 (l228 ++ [r239]))]) Sub.tt ?_
         refine Chain.nil ?_
         refine blockQ.normal ?_
         refine thenQ_normal ?_
         refine AW.region ?_
         replace h := bsome h; obtain ⟨v241, hv241, h⟩ := h
         have hv241 := chkI_some hv241
         refine Chain.runK [] 2 fun K hK => ?_; simp [hv241]; refine hK _ _ ?_; clear hK K
         refine Chain.sub (S' := mk 101 [] [(5, .ptr 5 0 0), (9, .mref 29), (14, .ref 84 0 ((l228 ++ [r239]).length)), (55, .d (.sl (a0.map (cL cS61)))), (56, .i (a0.length : Int)), (57, .i v241)] [(5, BX a2), (29, some (.mp .string (encM MKey.sk (vO (cL cS61)) m39))), (84, R57 (l228 ++ [r239]))]) Sub.tt ?_
         refine Chain.nil ?_
         cases h
         refine PostI.next ?_
         exact Sub.tt
        ·have c238_ : v236 = false := Bool.eq_false_iff.2 c238
         refine AW.condF (b := v236) rfl c238_ ?_
         refine AW.sub (Sub.bool 92 (b := v236) rfl c238_) ?_
         refine AW.sub (S' := mk 101 [] [(5, .ptr 5 0 0), (9, .mref 29), (14, .ref 84 0 l228.length), (16, .d (.sl (x197.map cS61))), (55, .d (.sl (a0.map (cL cS61)))), (56, .i (a0.length : Int)), (57, .i v98), (92, .b false)] [(5, BX a2), (29, some (.mp .string (encM MKey.sk (vO (cL cS61)) m39))), (84, R57 l228)]) (by simp; exact Sub.table (by simp) (by simp)) ?_
         refine AW.skip ?_
         refine blockQ.normal ?_
         refine thenQ_normal ?_
         refine AW.region ?_
         replace h := bsome h; obtain ⟨v242, hv242, h⟩ := h
         have hv242 := chkI_some hv242
         refine Chain.runK [] 2 fun K hK => ?_; simp [hv242]; refine hK _ _ ?_; clear hK K
         refine Chain.sub (S' := mk 101 [] [(5, .ptr 5 0 0), (9, .mref 29), (14, .ref 84 0 l228.length), (55, .d (.sl (a0.map (cL cS61)))), (56, .i (a0.length : Int)), (57, .i v242)] [(5, BX a2), (29, some (.mp .string (encM MKey.sk (vO (cL cS61)) m39))), (84, R57 l228)]) Sub.tt ?_
         refine Chain.nil ?_
         cases h
         refine PostI.next ?_
         exact Sub.tt
    ·have c196_ : decide (v98 < (a0.length : Int)) = false := decide_eq_false c196
     refine AW.condF (b := decide (v98 < (a0.length : Int))) rfl c196_ ?_
     refine AW.sub (Sub.bool 58 (b := decide (v98 < (a0.length : Int))) rfl c196_) ?_
     refine AW.sub (S' := mk 101 [] [(5, .ptr 5 0 0), (9, .mref 29), (14, .ref 84 0 l97.length), (55, .d (.sl (a0.map (cL cS61)))), (56, .i (a0.length : Int)), (57, .i v98), (58, .b false)] [(5, BX a2), (29, some (.mp .string (encM MKey.sk (vO (cL cS61)) m39))), (84, R57 l97)]) (by simp; exact Sub.table (by simp) (by simp)) ?_
     refine AW.exit ?_
     cases h
     refine thenQ_pass (by simp) ?_
     refine PostI.out (by simp) ?_
     rintro rfl
     refine blockQ.hit ?_
     refine PostN.next ?_
     exact Sub.tt
   ·rintro l195 h
    refine thenQ_normal ?_
    refine AW.seqR ?_
    refine Chain.runK [] 3 fun K hK => ?_; simp; refine hK _ _ ?_; clear hK K
    refine Chain.sub (S' := mk 101 [] [(6, .ref 84 0 l195.length), (7, .i 0)] [(84, R57 l195)]) Sub.tt ?_
    refine Chain.nil ?_
    refine AW.sub (Sub.freeze 84 rfl) ?_
    refine AW.sub (S' := mk 101 [] [(6, .d (.sl (l195.map (cL cS61)))), (7, .i 0)] []) (by simp; exact Sub.table (by simp) (by simp)) ?_
    refine AW.ret ?_
    cases h
    exact FinC.ret (by simp) (by simp)

/-- slices.Clone[stemma/api.Row,stemma/api.Value] -/
def d39 (_ : Nat) (a0 : (List S61)) : Option (List S61) := if a0.length * 32 ≤ Rp.reach then some a0 else none
theorem p39 (N : Nat) (a0 : (List S61)) (r : (List S61)) (h : d39 N a0 = some r) : FunC Tryz.prog 39 [.d (.sl (a0.map cS61))] (.d (.sl (r.map cS61))) := by
 obtain ⟨hz, h⟩ := gsome h
 cases h
 refine FunC.enter 8 [(0, .d (.sl (a0.map cS61)))] (by simp) Tryz.func39 rfl (of_decide_eq_true rfl) rfl rfl ?_
 refine AW.goR [] 1 fun K hK => ?_; simp; refine hK _ ?_; clear hK K
 refine AW.seq ?_
 refine AW.seqR ?_
 refine Chain.runK [] 1 fun K hK => ?_; simp; refine hK _ _ ?_; clear hK K
 refine Chain.eqNilE (es := a0.map cS61) (by simp) rfl ty57 rfl (by simp) (by simp) fun b hb => ?_
 refine Chain.nil ?_
 cases b with
 | true =>
  have he : a0 = [] := by
   cases a0 with
   | nil => rfl
   | cons x xs => exact absurd (hb (by simp)) (by simp)
  subst he
  refine AW.condK fun K1 K2 k1 k2 => ?_; simp; refine k1 ?_; clear k1 k2 K1 K2
  refine AW.goR [] 1 fun K hK => ?_; simp; refine hK _ ?_; clear hK K
  refine AW.sub (Sub.wk 2 rfl) ?_
  refine AW.sub (S' := mk 8 [] [(2, .d (.sl []))] []) (by simp; exact Sub.table (by simp) (by simp)) ?_
  refine AW.ret ?_
  exact thenQ_pass (by simp) (FinC.ret (by simp) (by simp))
 | false =>
  refine AW.condK fun K1 K2 k1 k2 => ?_; simp; refine k2 ?_; clear k1 k2 K1 K2
  refine AW.skip ?_
  refine thenQ_normal ?_
  refine AW.goR [] 4 fun K hK => ?_; simp [hz]; refine hK _ ?_; clear hK K
  refine AW.sub (S' := mk 8 [] [(2, .ref 5 0 a0.length)] [(5, R61 a0)]) Sub.tt ?_
  refine AW.sub (Sub.freeze 5 rfl) ?_
  refine AW.sub (S' := mk 8 [] [(2, .d (.sl (a0.map cS61)))] []) (by simp; exact Sub.table (by simp) (by simp)) ?_
  refine AW.ret ?_
  exact FinC.ret (by simp) (by simp)

end Go.Proofs.YtimkkjiplioohaaGreatDoor
