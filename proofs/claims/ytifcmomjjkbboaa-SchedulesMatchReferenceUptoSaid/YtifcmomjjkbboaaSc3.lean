/- Functions of the program as functional programs; the code computes them. -/
import Derived.Test.YtifcmomjjkbboaaSc2
namespace Go.Proofs.Ytifcmomjjkbboaa
open Go.Ab Go.Rp
attribute [-simp] List.all_eq_true Array.all_toList Array.all_eq_true

/-- (*stemma/interleaving.explorer).explore -/
def d16 : (N : Nat) → (a0 : S49) → (a1 : (List Int)) → (a2 : (List Bool)) → (a3 : (List S27)) → Option S49
 | 0, _, _, _, _ => none
 | N + 1, a0, a1, a2, a3 =>
  (d35 N a2).bind fun r1 =>
  Option.bind (α := ((List (List S27)) × (List (List S27)) × Bool)) (
   iterN (σ := ((List (List S27)) × (List (List S27)) × (List Bool) × Bool × Int)) (ρ := ((List (List S27)) × (List (List S27)) × Bool)) (fun ((l188, l189, l190, v191, v192) : ((List (List S27)) × (List (List S27)) × (List Bool) × Bool × Int)) =>
    if v192 < (a0.txs.length : Int) then (
     Option.bind (α := ((List (List S27)) × (List (List S27)) × (List Bool) × Bool)) (
      (idx a0.txs v192).bind fun x728 =>
      (idx a1 v192).bind fun x730 =>
      if (x730 == (x728.length : Int)) then (
       some (l188, l189, l190, v191)
      ) else
      (idx l190 v192).bind fun x732 =>
      if x732 = true then (
       some (l188, l189, l190, false)
      ) else
      (idx x728 x730).bind fun x734 =>
      (mkL 1 (l188.length : Int) (false : Bool)).bind fun l736 =>
      Option.bind (α := List Bool) (
       iterN (σ := ((List Bool) × Int)) (ρ := List Bool) (fun ((l756, v757) : ((List Bool) × Int)) =>
        if v757 < (l736.length : Int) then (
         (idx l756 v757).bind fun _x802 =>
         Option.bind (α := Bool) (
          (idx l190 v757).bind fun x812 =>
          if x812 = true then (
           (idx l188 v757).bind fun x814 =>
           (idx a1 v757).bind fun x815 =>
           (idx x814 x815).bind fun x816 =>
           (d36 N x816 x734).bind fun r818 =>
           some (!r818)
          ) else
          some false
         ) fun (v811 : Bool) =>
         letv (setI l756 v757 v811) fun l819 =>
         (chkI (v757 + 1)).bind fun v820 =>
         some (.inl (l819, v820))
        ) else
        some (.inr l756)
       ) N (l736, 0)
      ) fun (l800 : List Bool) =>
      (d37 N a1).bind fun r821 =>
      (idx r821 v192).bind fun x822 =>
      (chkI (x822 + 1)).bind fun v824 =>
      letv (setI r821 v192 v824) fun l825 =>
      (appL 32 a3 [x734]).bind fun _l826 =>
      (d16 N (S49.mk l188 l189) l825 l800 (a3 ++ [x734])).bind fun r827 =>
      (idx l190 v192).bind fun _x828 =>
      letv (setI l190 v192 true) fun l829 =>
      some (r827.txs, r827.schedules, l829, false)
     ) fun ((l724, l725, l726, v727) : ((List (List S27)) × (List (List S27)) × (List Bool) × Bool)) =>
     (chkI (v192 + 1)).bind fun v830 =>
     some (.inl (l724, l725, l726, v727, v830))
    ) else
    some (.inr (l188, l189, v191))
   ) N (a0.txs, a0.schedules, r1, true, 0)
  ) fun ((l618, l619, v620) : ((List (List S27)) × (List (List S27)) × Bool)) =>
  if v620 = true then (
   (d38 N a3).bind fun r832 =>
   (appL 24 l619 [r832]).bind fun _l833 =>
   some (S49.mk l618 (l619 ++ [r832]))
  ) else
  some (S49.mk l618 l619)
set_option maxRecDepth 100000 in
set_option maxHeartbeats 4000000 in
theorem p16 (N : Nat) : ∀ (a0 : S49) (a1 : (List Int)) (a2 : (List Bool)) (a3 : (List S27)) (r : S49) (_ : d16 N a0 a1 a2 a3 = some r), FunM Try.prog 16 [.ptr 1000 0 0, .d (.sl (a1.map (cI .i64))), .d (.sl (a2.map cB)), .d (.sl (a3.map cS27))] [(1000, some (.box [.d (.sl (a0.txs.map (cL cS27))), .ref 25001 0 a0.schedules.length])), (25001, R28 a0.schedules)] [1000] (.tup []) ([(1000, (.box [.d (.sl (r.txs.map (cL cS27))), .ref 25001 0 r.schedules.length])), (25001, (.arr 28 1 (r.schedules.map (cL cS27))))]) := by
 induction N with
 | zero => intro a0 a1 a2 a3 r h; cases h
 | succ N ih =>
 intro a0 a1 a2 a3 r h
 unfold d16 at h
 refine FunM.enter 119 [(0, .ptr 1000 0 0), (1, .d (.sl (a1.map (cI .i64)))), (2, .d (.sl (a2.map cB))), (3, .d (.sl (a3.map cS27)))] Try.func16 rfl (of_decide_eq_true rfl) rfl rfl ?_
 refine AW.seqR ?_
 refine Chain.runK [] 1 fun K hK => ?_; simp; refine hK _ _ ?_; clear hK K
 refine Chain.sub (S' := mk 119 [1000] [(0, .ptr 1000 0 0), (1, .d (.sl (a1.map (cI .i64)))), (2, .d (.sl (a2.map cB))), (3, .d (.sl (a3.map cS27))), (8, .b true)] [(1000, some (.box [.d (.sl (a0.txs.map (cL cS27))), .ref 25001 0 a0.schedules.length])), (25001, R28 a0.schedules)]) Sub.tt ?_
 refine Chain.nil ?_
 refine AW.seqR ?_
 refine Chain.runK [] 1 fun K hK => ?_; simp; refine hK _ _ ?_; clear hK K
 refine Chain.sub (S' := mk 119 [1000] [(0, .ptr 1000 0 0), (1, .d (.sl (a1.map (cI .i64)))), (3, .d (.sl (a3.map cS27))), (8, .b true), (15, .d (.sl (a2.map cB)))] [(1000, some (.box [.d (.sl (a0.txs.map (cL cS27))), .ref 25001 0 a0.schedules.length])), (25001, R28 a0.schedules)]) Sub.tt ?_
 replace h := bsome h; obtain ⟨r1, hr1, h⟩ := h
 refine Chain.callO (d := 16) (p35 N a2 r1 hr1) (by simp) rfl rfl (by simp <;> rfl) (by simp <;> rfl) ent35 (by simp) ⟨by simp, by simp⟩ ?_
 refine Chain.sub (S' := mk 119 [1000] [(0, .ptr 1000 0 0), (1, .d (.sl (a1.map (cI .i64)))), (3, .d (.sl (a3.map cS27))), (8, .b true), (15, .d (.sl (a2.map cB))), (16, .ref 16 0 r1.length)] [(16, R4 r1), (1000, some (.box [.d (.sl (a0.txs.map (cL cS27))), .ref 25001 0 a0.schedules.length])), (25001, R28 a0.schedules)]) (by simp; exact Sub.table (by simp) (by simp)) ?_
 refine Chain.runK [] 1 fun K hK => ?_; simp; refine hK _ _ ?_; clear hK K
 refine Chain.sub (S' := mk 119 [1000] [(0, .ptr 1000 0 0), (1, .d (.sl (a1.map (cI .i64)))), (2, .ref 16 0 r1.length), (3, .d (.sl (a3.map cS27))), (8, .b true)] [(16, R4 r1), (1000, some (.box [.d (.sl (a0.txs.map (cL cS27))), .ref 25001 0 a0.schedules.length])), (25001, R28 a0.schedules)]) Sub.tt ?_
 refine Chain.nil ?_
 refine AW.seq ?_
 refine AW.seqR ?_
 refine Chain.runK [] 6 fun K hK => ?_; simp; refine hK _ _ ?_; clear hK K
 refine Chain.sub (S' := mk 119 [1000] [(0, .ptr 1000 0 0), (1, .d (.sl (a1.map (cI .i64)))), (2, .ref 16 0 r1.length), (3, .d (.sl (a3.map cS27))), (8, .b true), (20, .d (.sl (a0.txs.map (cL cS27)))), (21, .i (a0.txs.length : Int)), (22, .i 0)] [(16, R4 r1), (1000, some (.box [.d (.sl (a0.txs.map (cL cS27))), .ref 25001 0 a0.schedules.length])), (25001, R28 a0.schedules)]) Sub.tt ?_
 refine Chain.nil ?_
 refine AW.lastN (fun ((l618, l619, v620) : ((List (List S27)) × (List (List S27)) × Bool)) => mk 119 [1000] [(0, .ptr 1000 0 0), (3, .d (.sl (a3.map cS27))), (8, .b v620)] [(1000, some (.box [.d (.sl (l618.map (cL cS27))), .ref 25001 0 l619.length])), (25001, R28 l619)]) h ?_ ?_ <;> clear h
 ·intro o h
  refine AW.block ?_
  refine AW.iter (fun ((l188, l189, l190, v191, v192) : ((List (List S27)) × (List (List S27)) × (List Bool) × Bool × Int)) => mk 119 [1000] [(0, .ptr 1000 0 0), (1, .d (.sl (a1.map (cI .i64)))), (2, .ref 16 0 l190.length), (3, .d (.sl (a3.map cS27))), (8, .b v191), (20, .d (.sl (a0.txs.map (cL cS27)))), (21, .i (a0.txs.length : Int)), (22, .i v192)] [(16, R4 l190), (1000, some (.box [.d (.sl (l188.map (cL cS27))), .ref 25001 0 l189.length])), (25001, R28 l189)]) h Sub.tt ?_
  clear h
  rintro ⟨l188, l189, l190, v191, v192⟩ x h
  dsimp only at h ⊢
  refine AW.seqR ?_
  refine Chain.runK [] 1 fun K hK => ?_; simp; refine hK _ _ ?_; clear hK K
  refine Chain.sub (S' := mk 119 [1000] [(0, .ptr 1000 0 0), (1, .d (.sl (a1.map (cI .i64)))), (2, .ref 16 0 l190.length), (3, .d (.sl (a3.map cS27))), (8, .b v191), (20, .d (.sl (a0.txs.map (cL cS27)))), (21, .i (a0.txs.length : Int)), (22, .i v192), (23, .b (decide (v192 < (a0.txs.length : Int))))] [(16, R4 l190), (1000, some (.box [.d (.sl (l188.map (cL cS27))), .ref 25001 0 l189.length])), (25001, R28 l189)]) Sub.tt ?_
  refine Chain.nil ?_
  refine AW.seq ?_
  replace h := isome h; rcases h with ⟨c621, h⟩ | ⟨c621, h⟩
  ·have c621_ : decide (v192 < (a0.txs.length : Int)) = true := decide_eq_true c621
   refine AW.condT (b := decide (v192 < (a0.txs.length : Int))) rfl c621_ ?_
   refine AW.sub (Sub.bool 23 (b := decide (v192 < (a0.txs.length : Int))) rfl c621_) ?_
   refine AW.sub (S' := mk 119 [1000] [(0, .ptr 1000 0 0), (1, .d (.sl (a1.map (cI .i64)))), (2, .ref 16 0 l190.length), (3, .d (.sl (a3.map cS27))), (8, .b v191), (20, .d (.sl (a0.txs.map (cL cS27)))), (21, .i (a0.txs.length : Int)), (22, .i v192), (23, .b true)] [(16, R4 l190), (1000, some (.box [.d (.sl (l188.map (cL cS27))), .ref 25001 0 l189.length])), (25001, R28 l189)]) (by simp; exact Sub.table (by simp) (by simp)) ?_
   refine AW.skip ?_
   refine thenQ_normal ?_
   refine AW.seqN (fun ((l724, l725, l726, v727) : ((List (List S27)) × (List (List S27)) × (List Bool) × Bool)) => mk 119 [1000] [(0, .ptr 1000 0 0), (1, .d (.sl (a1.map (cI .i64)))), (2, .ref 16 0 l726.length), (3, .d (.sl (a3.map cS27))), (8, .b v727), (20, .d (.sl (a0.txs.map (cL cS27)))), (21, .i (a0.txs.length : Int)), (22, .i v192)] [(16, R4 l726), (1000, some (.box [.d (.sl (l724.map (cL cS27))), .ref 25001 0 l725.length])), (25001, R28 l725)]) h ?_ ?_ <;> clear h
   ·intro o h
    refine AW.block ?_
    refine AW.seqR ?_
    replace h := bsome h; obtain ⟨x728, hx728, h⟩ := h
    obtain ⟨k729, hx728k, hx728, hx728a, hx728b⟩ := idx_some hx728
    refine Chain.runK [] 5 fun K hK => ?_; simp [hx728, hx728k, hx728a]; refine hK _ _ ?_; clear hK K
    refine Chain.sub (S' := mk 119 [1000] [(0, .ptr 1000 0 0), (1, .d (.sl (a1.map (cI .i64)))), (2, .ref 16 0 l190.length), (3, .d (.sl (a3.map cS27))), (8, .b v191), (9, .i v192), (10, .d (.sl (x728.map cS27))), (20, .d (.sl (a0.txs.map (cL cS27)))), (21, .i (a0.txs.length : Int)), (22, .i v192)] [(16, R4 l190), (1000, some (.box [.d (.sl (l188.map (cL cS27))), .ref 25001 0 l189.length])), (25001, R28 l189)]) Sub.tt ?_
    refine Chain.nil ?_
    refine AW.seq ?_
    refine AW.seqR ?_
    replace h := bsome h; obtain ⟨x730, hx730, h⟩ := h
    obtain ⟨hx730, hx730a, hx730b⟩ := idx_some2 hx730 hx728k
    refine Chain.runK [] 7 fun K hK => ?_; simp [hx730, hx728k, hx730a]; refine hK _ _ ?_; clear hK K
    refine Chain.sub (S' := mk 119 [1000] [(0, .ptr 1000 0 0), (1, .d (.sl (a1.map (cI .i64)))), (2, .ref 16 0 l190.length), (3, .d (.sl (a3.map cS27))), (8, .b v191), (9, .i v192), (10, .d (.sl (x728.map cS27))), (20, .d (.sl (a0.txs.map (cL cS27)))), (21, .i (a0.txs.length : Int)), (22, .i v192), (33, .b (x730 == (x728.length : Int)))] [(16, R4 l190), (1000, some (.box [.d (.sl (l188.map (cL cS27))), .ref 25001 0 l189.length])), (25001, R28 l189)]) Sub.tt ?_
    refine Chain.nil ?_
    replace h := isome h; rcases h with ⟨c731, h⟩ | ⟨c731, h⟩
    ·have c731_ : (x730 == (x728.length : Int)) = true := c731
     refine AW.condT (b := (x730 == (x728.length : Int))) rfl c731_ ?_
     refine AW.sub (Sub.bool 33 (b := (x730 == (x728.length : Int))) rfl c731_) ?_
     refine AW.sub (S' := mk 119 [1000] [(0, .ptr 1000 0 0), (1, .d (.sl (a1.map (cI .i64)))), (2, .ref 16 0 l190.length), (3, .d (.sl (a3.map cS27))), (8, .b v191), (9, .i v192), (10, .d (.sl (x728.map cS27))), (20, .d (.sl (a0.txs.map (cL cS27)))), (21, .i (a0.txs.length : Int)), (22, .i v192), (33, .b true)] [(16, R4 l190), (1000, some (.box [.d (.sl (l188.map (cL cS27))), .ref 25001 0 l189.length])), (25001, R28 l189)]) (by simp; exact Sub.table (by simp) (by simp)) ?_
     refine AW.exit ?_
     cases h
     refine thenQ_pass (by simp) ?_
     refine blockQ.hit ?_
     refine PostN.next ?_
     exact Sub.tt
    ·have c731_ : (x730 == (x728.length : Int)) = false := Bool.eq_false_iff.2 c731
     refine AW.condF (b := (x730 == (x728.length : Int))) rfl c731_ ?_
     refine AW.sub (Sub.bool 33 (b := (x730 == (x728.length : Int))) rfl c731_) ?_
     refine AW.sub (S' := mk 119 [1000] [(0, .ptr 1000 0 0), (1, .d (.sl (a1.map (cI .i64)))), (2, .ref 16 0 l190.length), (3, .d (.sl (a3.map cS27))), (8, .b v191), (9, .i v192), (10, .d (.sl (x728.map cS27))), (20, .d (.sl (a0.txs.map (cL cS27)))), (21, .i (a0.txs.length : Int)), (22, .i v192), (33, .b false)] [(16, R4 l190), (1000, some (.box [.d (.sl (l188.map (cL cS27))), .ref 25001 0 l189.length])), (25001, R28 l189)]) (by simp; exact Sub.table (by simp) (by simp)) ?_
     refine AW.skip ?_
     refine thenQ_normal ?_
     refine AW.seqR ?_
     refine Chain.runK [] 1 fun K hK => ?_; simp; refine hK _ _ ?_; clear hK K
     refine Chain.sub (S' := mk 119 [1000] [(0, .ptr 1000 0 0), (1, .d (.sl (a1.map (cI .i64)))), (2, .ref 16 0 l190.length), (3, .d (.sl (a3.map cS27))), (8, .b false), (9, .i v192), (10, .d (.sl (x728.map cS27))), (20, .d (.sl (a0.txs.map (cL cS27)))), (21, .i (a0.txs.length : Int)), (22, .i v192)] [(16, R4 l190), (1000, some (.box [.d (.sl (l188.map (cL cS27))), .ref 25001 0 l189.length])), (25001, R28 l189)]) Sub.tt ?_
     refine Chain.nil ?_
     refine AW.seq ?_
     refine AW.seqR ?_
     replace h := bsome h; obtain ⟨x732, hx732, h⟩ := h
     obtain ⟨hx732, hx732a, hx732b⟩ := idx_some2 hx732 hx728k
     refine Chain.runK [] 4 fun K hK => ?_; simp [hx732, hx728k, hx732a, hx732b]; refine hK _ _ ?_; clear hK K
     refine Chain.sub (S' := mk 119 [1000] [(0, .ptr 1000 0 0), (1, .d (.sl (a1.map (cI .i64)))), (2, .ref 16 0 l190.length), (3, .d (.sl (a3.map cS27))), (8, .b false), (9, .i v192), (10, .d (.sl (x728.map cS27))), (20, .d (.sl (a0.txs.map (cL cS27)))), (21, .i (a0.txs.length : Int)), (22, .i v192), (37, .b x732)] [(16, R4 l190), (1000, some (.box [.d (.sl (l188.map (cL cS27))), .ref 25001 0 l189.length])), (25001, R28 l189)]) Sub.tt ?_
     refine Chain.nil ?_
     replace h := isome h; rcases h with ⟨c733, h⟩ | ⟨c733, h⟩
     ·have c733_ : x732 = true := c733
      refine AW.condT (b := x732) rfl c733_ ?_
      refine AW.sub (Sub.bool 37 (b := x732) rfl c733_) ?_
      refine AW.sub (S' := mk 119 [1000] [(0, .ptr 1000 0 0), (1, .d (.sl (a1.map (cI .i64)))), (2, .ref 16 0 l190.length), (3, .d (.sl (a3.map cS27))), (8, .b false), (9, .i v192), (10, .d (.sl (x728.map cS27))), (20, .d (.sl (a0.txs.map (cL cS27)))), (21, .i (a0.txs.length : Int)), (22, .i v192), (37, .b true)] [(16, R4 l190), (1000, some (.box [.d (.sl (l188.map (cL cS27))), .ref 25001 0 l189.length])), (25001, R28 l189)]) (by simp; exact Sub.table (by simp) (by simp)) ?_
      refine AW.exit ?_
      cases h
      refine thenQ_pass (by simp) ?_
      refine blockQ.hit ?_
      refine PostN.next ?_
      exact Sub.tt
     ·have c733_ : x732 = false := Bool.eq_false_iff.2 c733
      refine AW.condF (b := x732) rfl c733_ ?_
      refine AW.sub (Sub.bool 37 (b := x732) rfl c733_) ?_
      refine AW.sub (S' := mk 119 [1000] [(0, .ptr 1000 0 0), (1, .d (.sl (a1.map (cI .i64)))), (2, .ref 16 0 l190.length), (3, .d (.sl (a3.map cS27))), (8, .b false), (9, .i v192), (10, .d (.sl (x728.map cS27))), (20, .d (.sl (a0.txs.map (cL cS27)))), (21, .i (a0.txs.length : Int)), (22, .i v192), (37, .b false)] [(16, R4 l190), (1000, some (.box [.d (.sl (l188.map (cL cS27))), .ref 25001 0 l189.length])), (25001, R28 l189)]) (by simp; exact Sub.table (by simp) (by simp)) ?_
      refine AW.skip ?_
      refine thenQ_normal ?_
      refine AW.seqR ?_
      replace h := bsome h; obtain ⟨x734, hx734, h⟩ := h
      obtain ⟨k735, hx734k, hx734, hx734a, hx734b⟩ := idx_some hx734
      refine Chain.runK [] 9 fun K hK => ?_; simp [hx730, hx728k, hx730a, hx734, hx734k, hx734a]; refine hK _ _ ?_; clear hK K
      refine Chain.sub (S' := mk 119 [1000] [(0, .ptr 1000 0 0), (1, .d (.sl (a1.map (cI .i64)))), (2, .ref 16 0 l190.length), (3, .d (.sl (a3.map cS27))), (8, .b false), (9, .i v192), (11, .ptr 11 0 0), (20, .d (.sl (a0.txs.map (cL cS27)))), (21, .i (a0.txs.length : Int)), (22, .i v192)] [(11, some (.box [.i x734.Tx, .i x734.Kind, .d (.lit (.string x734.Key))])), (16, R4 l190), (1000, some (.box [.d (.sl (l188.map (cL cS27))), .ref 25001 0 l189.length])), (25001, R28 l189)]) Sub.tt ?_
      refine Chain.nil ?_
      refine AW.seqR ?_
      replace h := bsome h; obtain ⟨l736, gl736, h⟩ := h
      obtain ⟨hl736a, hl736b, hl736c, hl736d⟩ := mkL_some cB gl736
      clear gl736
      replace hl736c : List.replicate l736.length [.lit (.bool false)] = l736.map cB := hl736c
      simp only [Nat.mul_one] at hl736b
      refine Chain.runK [] 7 fun K hK => ?_; simp [hl736a, hl736b, hl736c, hl736d]; refine hK _ _ ?_; clear hK K
      refine Chain.sub (S' := mk 119 [1000] [(0, .ptr 1000 0 0), (1, .d (.sl (a1.map (cI .i64)))), (2, .ref 16 0 l190.length), (3, .d (.sl (a3.map cS27))), (8, .b false), (9, .i v192), (11, .ptr 11 0 0), (12, .ref 50 0 l736.length), (20, .d (.sl (a0.txs.map (cL cS27)))), (21, .i (a0.txs.length : Int)), (22, .i v192)] [(11, some (.box [.i x734.Tx, .i x734.Kind, .d (.lit (.string x734.Key))])), (16, R4 l190), (50, R4 l736), (1000, some (.box [.d (.sl (l188.map (cL cS27))), .ref 25001 0 l189.length])), (25001, R28 l189)]) Sub.tt ?_
      refine Chain.nil ?_
      refine AW.seq ?_
      refine AW.seqR ?_
      refine Chain.runK [] 3 fun K hK => ?_; simp; refine hK _ _ ?_; clear hK K
      refine Chain.sub (S' := mk 119 [1000] [(0, .ptr 1000 0 0), (1, .d (.sl (a1.map (cI .i64)))), (2, .ref 16 0 l190.length), (3, .d (.sl (a3.map cS27))), (8, .b false), (9, .i v192), (11, .ptr 11 0 0), (12, .ref 50 0 l736.length), (20, .d (.sl (a0.txs.map (cL cS27)))), (21, .i (a0.txs.length : Int)), (22, .i v192), (52, .i (l736.length : Int)), (53, .i 0)] [(11, some (.box [.i x734.Tx, .i x734.Kind, .d (.lit (.string x734.Key))])), (16, R4 l190), (50, R4 l736), (1000, some (.box [.d (.sl (l188.map (cL cS27))), .ref 25001 0 l189.length])), (25001, R28 l189)]) Sub.tt ?_
      refine Chain.nil ?_
      refine AW.lastN (fun (l800 : List Bool) => mk 119 [1000] [(0, .ptr 1000 0 0), (1, .d (.sl (a1.map (cI .i64)))), (2, .ref 16 0 l190.length), (3, .d (.sl (a3.map cS27))), (8, .b false), (9, .i v192), (11, .ptr 11 0 0), (12, .ref 50 0 l800.length), (20, .d (.sl (a0.txs.map (cL cS27)))), (21, .i (a0.txs.length : Int)), (22, .i v192)] [(11, some (.box [.i x734.Tx, .i x734.Kind, .d (.lit (.string x734.Key))])), (16, R4 l190), (50, R4 l800), (1000, some (.box [.d (.sl (l188.map (cL cS27))), .ref 25001 0 l189.length])), (25001, R28 l189)]) h ?_ ?_ <;> clear h
      ·intro o h
       refine AW.block ?_
       refine AW.iter (fun ((l756, v757) : ((List Bool) × Int)) => mk 119 [1000] [(0, .ptr 1000 0 0), (1, .d (.sl (a1.map (cI .i64)))), (2, .ref 16 0 l190.length), (3, .d (.sl (a3.map cS27))), (8, .b false), (9, .i v192), (11, .ptr 11 0 0), (12, .ref 50 0 l756.length), (20, .d (.sl (a0.txs.map (cL cS27)))), (21, .i (a0.txs.length : Int)), (22, .i v192), (52, .i (l736.length : Int)), (53, .i v757)] [(11, some (.box [.i x734.Tx, .i x734.Kind, .d (.lit (.string x734.Key))])), (16, R4 l190), (50, R4 l756), (1000, some (.box [.d (.sl (l188.map (cL cS27))), .ref 25001 0 l189.length])), (25001, R28 l189)]) h Sub.tt ?_
       clear h
       rintro ⟨l756, v757⟩ x h
       dsimp only at h ⊢
       refine AW.seqR ?_
       refine Chain.runK [] 1 fun K hK => ?_; simp; refine hK _ _ ?_; clear hK K
       refine Chain.sub (S' := mk 119 [1000] [(0, .ptr 1000 0 0), (1, .d (.sl (a1.map (cI .i64)))), (2, .ref 16 0 l190.length), (3, .d (.sl (a3.map cS27))), (8, .b false), (9, .i v192), (11, .ptr 11 0 0), (12, .ref 50 0 l756.length), (20, .d (.sl (a0.txs.map (cL cS27)))), (21, .i (a0.txs.length : Int)), (22, .i v192), (52, .i (l736.length : Int)), (53, .i v757), (54, .b (decide (v757 < (l736.length : Int))))] [(11, some (.box [.i x734.Tx, .i x734.Kind, .d (.lit (.string x734.Key))])), (16, R4 l190), (50, R4 l756), (1000, some (.box [.d (.sl (l188.map (cL cS27))), .ref 25001 0 l189.length])), (25001, R28 l189)]) Sub.tt ?_
       refine Chain.nil ?_
       refine AW.seq ?_
       replace h := isome h; rcases h with ⟨c801, h⟩ | ⟨c801, h⟩
       ·have c801_ : decide (v757 < (l736.length : Int)) = true := decide_eq_true c801
        refine AW.condT (b := decide (v757 < (l736.length : Int))) rfl c801_ ?_
        refine AW.sub (Sub.bool 54 (b := decide (v757 < (l736.length : Int))) rfl c801_) ?_
        refine AW.sub (S' := mk 119 [1000] [(0, .ptr 1000 0 0), (1, .d (.sl (a1.map (cI .i64)))), (2, .ref 16 0 l190.length), (3, .d (.sl (a3.map cS27))), (8, .b false), (9, .i v192), (11, .ptr 11 0 0), (12, .ref 50 0 l756.length), (20, .d (.sl (a0.txs.map (cL cS27)))), (21, .i (a0.txs.length : Int)), (22, .i v192), (52, .i (l736.length : Int)), (53, .i v757), (54, .b true)] [(11, some (.box [.i x734.Tx, .i x734.Kind, .d (.lit (.string x734.Key))])), (16, R4 l190), (50, R4 l756), (1000, some (.box [.d (.sl (l188.map (cL cS27))), .ref 25001 0 l189.length])), (25001, R28 l189)]) (by simp; exact Sub.table (by simp) (by simp)) ?_
        refine AW.skip ?_
        refine thenQ_normal ?_
        refine AW.seq ?_
        refine AW.block ?_
        refine AW.seqR ?_
        refine Chain.runK [] 2 fun K hK => ?_; simp; refine hK _ _ ?_; clear hK K
        refine Chain.sub (S' := mk 119 [1000] [(0, .ptr 1000 0 0), (1, .d (.sl (a1.map (cI .i64)))), (2, .ref 16 0 l190.length), (3, .d (.sl (a3.map cS27))), (8, .b false), (9, .i v192), (11, .ptr 11 0 0), (12, .ref 50 0 l756.length), (13, .i v757), (20, .d (.sl (a0.txs.map (cL cS27)))), (21, .i (a0.txs.length : Int)), (22, .i v192), (52, .i (l736.length : Int)), (53, .i v757)] [(11, some (.box [.i x734.Tx, .i x734.Kind, .d (.lit (.string x734.Key))])), (16, R4 l190), (50, R4 l756), (1000, some (.box [.d (.sl (l188.map (cL cS27))), .ref 25001 0 l189.length])), (25001, R28 l189)]) Sub.tt ?_
        refine Chain.nil ?_
        replace h := bsome h; obtain ⟨x802, hx802, h⟩ := h
        obtain ⟨k803, hx802k, hx802, hx802a, hx802b⟩ := idx_some hx802
        replace h := bsome h; obtain ⟨v811, hj, h⟩ := h
        refine AW.regionQT 25 (by kernel_rfl) (by kernel_rfl) (Chain.cut (mk 119 [1000] [(0, .ptr 1000 0 0), (1, .d (.sl (a1.map (cI .i64)))), (2, .ref 16 0 l190.length), (3, .d (.sl (a3.map cS27))), (8, .b false), (9, .i v192), (11, .ptr 11 0 0), (12, .ref 50 0 l756.length), (20, .d (.sl (a0.txs.map (cL cS27)))), (21, .i (a0.txs.length : Int)), (22, .i v192), (52, .i (l736.length : Int)), (53, .i v757), (79, .b v811), (80, .ptr 50 k803 0)] [(11, some (.box [.i x734.Tx, .i x734.Kind, .d (.lit (.string x734.Key))])), (16, R4 l190), (50, R4 l756), (1000, some (.box [.d (.sl (l188.map (cL cS27))), .ref 25001 0 l189.length])), (25001, R28 l189)]) ?_ fun S' hS => ?_)
        ·simp only [List.take_succ_cons, List.take_zero]
         clear h; have h := hj; clear hj
         replace h := bsome h; obtain ⟨x812, hx812, h⟩ := h
         obtain ⟨hx812, hx812a, hx812b⟩ := idx_some2 hx812 hx802k
         refine Chain.runQ 7 fun K hK => ?_; simp [hx812, hx802k, hx812a, hx812b]; refine hK _ _ ?_; clear hK K
         refine Chain.sub (S' := mk 119 [1000] [(0, .ptr 1000 0 0), (1, .d (.sl (a1.map (cI .i64)))), (2, .ref 16 0 l190.length), (3, .d (.sl (a3.map cS27))), (8, .b false), (9, .i v192), (11, .ptr 11 0 0), (12, .ref 50 0 l756.length), (13, .i v757), (20, .d (.sl (a0.txs.map (cL cS27)))), (21, .i (a0.txs.length : Int)), (22, .i v192), (52, .i (l736.length : Int)), (53, .i v757), (56, .ref 50 0 l756.length), (57, .i v757), (62, .b x812)] [(11, some (.box [.i x734.Tx, .i x734.Kind, .d (.lit (.string x734.Key))])), (16, R4 l190), (50, R4 l756), (1000, some (.box [.d (.sl (l188.map (cL cS27))), .ref 25001 0 l189.length])), (25001, R28 l189)]) Sub.tt ?_
         replace h := isome h; rcases h with ⟨c813, h⟩ | ⟨c813, h⟩
         ·have c813_ : x812 = true := c813
          refine Chain.sub (Sub.bool 62 (b := x812) rfl c813_) ?_
          refine Chain.sub (S' := mk 119 [1000] [(0, .ptr 1000 0 0), (1, .d (.sl (a1.map (cI .i64)))), (2, .ref 16 0 l190.length), (3, .d (.sl (a3.map cS27))), (8, .b false), (9, .i v192), (11, .ptr 11 0 0), (12, .ref 50 0 l756.length), (13, .i v757), (20, .d (.sl (a0.txs.map (cL cS27)))), (21, .i (a0.txs.length : Int)), (22, .i v192), (52, .i (l736.length : Int)), (53, .i v757), (56, .ref 50 0 l756.length), (57, .i v757), (62, .b true)] [(11, some (.box [.i x734.Tx, .i x734.Kind, .d (.lit (.string x734.Key))])), (16, R4 l190), (50, R4 l756), (1000, some (.box [.d (.sl (l188.map (cL cS27))), .ref 25001 0 l189.length])), (25001, R28 l189)]) (by simp; exact Sub.table (by simp) (by simp)) ?_
          replace h := bsome h; obtain ⟨x814, hx814, h⟩ := h
          obtain ⟨hx814, hx814a, hx814b⟩ := idx_some2 hx814 hx802k
          replace h := bsome h; obtain ⟨x815, hx815, h⟩ := h
          obtain ⟨hx815, hx815a, hx815b⟩ := idx_some2 hx815 hx802k
          replace h := bsome h; obtain ⟨x816, hx816, h⟩ := h
          obtain ⟨k817, hx816k, hx816, hx816a, hx816b⟩ := idx_some hx816
          refine Chain.runQ 14 fun K hK => ?_; simp [hx814, hx814a, hx815, hx802k, hx816, hx816k, hx816a]; refine hK _ _ ?_; clear hK K
          refine Chain.sub (S' := mk 119 [1000] [(0, .ptr 1000 0 0), (1, .d (.sl (a1.map (cI .i64)))), (2, .ref 16 0 l190.length), (3, .d (.sl (a3.map cS27))), (8, .b false), (9, .i v192), (11, .ptr 11 0 0), (12, .ref 50 0 l756.length), (20, .d (.sl (a0.txs.map (cL cS27)))), (21, .i (a0.txs.length : Int)), (22, .i v192), (52, .i (l736.length : Int)), (53, .i v757), (56, .ref 50 0 l756.length), (57, .i v757), (62, .b true), (63, .ptr 1000 0 0), (64, .ptr 1000 0 0), (65, .ptr 1000 0 0), (66, .d (.sl (l188.map (cL cS27)))), (67, .i v757), (68, .d (.pim [.sl (x814.map cS27)])), (69, .d (.sl (x814.map cS27))), (70, .d (.sl (a1.map (cI .i64)))), (71, .i v757), (72, .d (.pim [.lit (.int .i64 x815)])), (73, .i x815), (74, .d (.pim [.lit (.int .i64 x816.Tx), .lit (.int .i64 x816.Kind), .lit (.string x816.Key)])), (75, .agg [.i x816.Tx, .i x816.Kind, .d (.lit (.string x816.Key))]), (76, .agg [.i x734.Tx, .i x734.Kind, .d (.lit (.string x734.Key))])] [(11, some (.box [.i x734.Tx, .i x734.Kind, .d (.lit (.string x734.Key))])), (16, R4 l190), (50, R4 l756), (1000, some (.box [.d (.sl (l188.map (cL cS27))), .ref 25001 0 l189.length])), (25001, R28 l189)]) Sub.tt ?_
          replace h := bsome h; obtain ⟨r818, hr818, h⟩ := h
          refine Chain.callL (d := 77) (p36 N x816 x734 r818 hr818) (by simp) rfl rfl (by simp <;> rfl) (by simp <;> rfl) ent36 (by simp <;> rfl) ?_
          refine Chain.sub (S' := mk 119 [1000] [(0, .ptr 1000 0 0), (1, .d (.sl (a1.map (cI .i64)))), (2, .ref 16 0 l190.length), (3, .d (.sl (a3.map cS27))), (8, .b false), (9, .i v192), (11, .ptr 11 0 0), (12, .ref 50 0 l756.length), (20, .d (.sl (a0.txs.map (cL cS27)))), (21, .i (a0.txs.length : Int)), (22, .i v192), (52, .i (l736.length : Int)), (53, .i v757), (56, .ref 50 0 l756.length), (57, .i v757), (62, .b true), (63, .ptr 1000 0 0), (64, .ptr 1000 0 0), (65, .ptr 1000 0 0), (66, .d (.sl (l188.map (cL cS27)))), (67, .i v757), (68, .d (.pim [.sl (x814.map cS27)])), (69, .d (.sl (x814.map cS27))), (70, .d (.sl (a1.map (cI .i64)))), (71, .i v757), (72, .d (.pim [.lit (.int .i64 x815)])), (73, .i x815), (74, .d (.pim [.lit (.int .i64 x816.Tx), .lit (.int .i64 x816.Kind), .lit (.string x816.Key)])), (75, .agg [.i x816.Tx, .i x816.Kind, .d (.lit (.string x816.Key))]), (76, .agg [.i x734.Tx, .i x734.Kind, .d (.lit (.string x734.Key))]), (77, .b r818)] [(11, some (.box [.i x734.Tx, .i x734.Kind, .d (.lit (.string x734.Key))])), (16, R4 l190), (50, R4 l756), (1000, some (.box [.d (.sl (l188.map (cL cS27))), .ref 25001 0 l189.length])), (25001, R28 l189)]) (by simp; exact Sub.table (by simp) (by simp)) ?_
          refine Chain.runQ 3 fun K hK => ?_; simp [hx802k, hx802a, hx802b]; refine hK _ _ ?_; clear hK K
          refine Chain.sub (S' := mk 119 [1000] [(0, .ptr 1000 0 0), (1, .d (.sl (a1.map (cI .i64)))), (2, .ref 16 0 l190.length), (3, .d (.sl (a3.map cS27))), (8, .b false), (9, .i v192), (11, .ptr 11 0 0), (12, .ref 50 0 l756.length), (20, .d (.sl (a0.txs.map (cL cS27)))), (21, .i (a0.txs.length : Int)), (22, .i v192), (52, .i (l736.length : Int)), (53, .i v757), (63, .ptr 1000 0 0), (64, .ptr 1000 0 0), (65, .ptr 1000 0 0), (66, .d (.sl (l188.map (cL cS27)))), (67, .i v757), (68, .d (.pim [.sl (x814.map cS27)])), (69, .d (.sl (x814.map cS27))), (70, .d (.sl (a1.map (cI .i64)))), (71, .i v757), (72, .d (.pim [.lit (.int .i64 x815)])), (73, .i x815), (74, .d (.pim [.lit (.int .i64 x816.Tx), .lit (.int .i64 x816.Kind), .lit (.string x816.Key)])), (75, .agg [.i x816.Tx, .i x816.Kind, .d (.lit (.string x816.Key))]), (76, .agg [.i x734.Tx, .i x734.Kind, .d (.lit (.string x734.Key))]), (77, .b r818), (78, .b (!r818)), (79, .b (!r818)), (80, .ptr 50 k803 0)] [(11, some (.box [.i x734.Tx, .i x734.Kind, .d (.lit (.string x734.Key))])), (16, R4 l190), (50, R4 l756), (1000, some (.box [.d (.sl (l188.map (cL cS27))), .ref 25001 0 l189.length])), (25001, R28 l189)]) Sub.tt ?_
          cases h
          exact Chain.nil Sub.tt
         ·have c813_ : x812 = false := Bool.eq_false_iff.2 c813
          refine Chain.sub (Sub.bool 62 (b := x812) rfl c813_) ?_
          refine Chain.sub (S' := mk 119 [1000] [(0, .ptr 1000 0 0), (1, .d (.sl (a1.map (cI .i64)))), (2, .ref 16 0 l190.length), (3, .d (.sl (a3.map cS27))), (8, .b false), (9, .i v192), (11, .ptr 11 0 0), (12, .ref 50 0 l756.length), (13, .i v757), (20, .d (.sl (a0.txs.map (cL cS27)))), (21, .i (a0.txs.length : Int)), (22, .i v192), (52, .i (l736.length : Int)), (53, .i v757), (56, .ref 50 0 l756.length), (57, .i v757), (62, .b false)] [(11, some (.box [.i x734.Tx, .i x734.Kind, .d (.lit (.string x734.Key))])), (16, R4 l190), (50, R4 l756), (1000, some (.box [.d (.sl (l188.map (cL cS27))), .ref 25001 0 l189.length])), (25001, R28 l189)]) (by simp; exact Sub.table (by simp) (by simp)) ?_
          refine Chain.runQ 18 fun K hK => ?_; simp [hx802k, hx802a, hx802b]; refine hK _ _ ?_; clear hK K
          refine Chain.sub (S' := mk 119 [1000] [(0, .ptr 1000 0 0), (1, .d (.sl (a1.map (cI .i64)))), (2, .ref 16 0 l190.length), (3, .d (.sl (a3.map cS27))), (8, .b false), (9, .i v192), (11, .ptr 11 0 0), (12, .ref 50 0 l756.length), (20, .d (.sl (a0.txs.map (cL cS27)))), (21, .i (a0.txs.length : Int)), (22, .i v192), (52, .i (l736.length : Int)), (53, .i v757), (63, .tup []), (64, .tup []), (65, .tup []), (66, .tup []), (67, .tup []), (68, .tup []), (69, .tup []), (70, .tup []), (71, .tup []), (72, .tup []), (73, .tup []), (74, .tup []), (75, .tup []), (76, .tup []), (77, .tup []), (78, .tup []), (79, .b false), (80, .ptr 50 k803 0)] [(11, some (.box [.i x734.Tx, .i x734.Kind, .d (.lit (.string x734.Key))])), (16, R4 l190), (50, R4 l756), (1000, some (.box [.d (.sl (l188.map (cL cS27))), .ref 25001 0 l189.length])), (25001, R28 l189)]) Sub.tt ?_
          cases h
          exact Chain.nil Sub.tt
        ·simp only [List.drop_succ_cons, List.drop_zero]
         clear hj
         refine Chain.sub hS ?_
         replace h := lsome h; obtain ⟨l819, gl819, h⟩ := h
         obtain ⟨hl819, hl819n⟩ := setI_some cB gl819 hx802k
         replace hl819 : (l756.map cB).set k803 [.lit (.bool v811)] = l819.map cB := hl819
         clear gl819
         refine Chain.runK [] 1 fun K hK => ?_; simp [hx802, hl819]; refine hK _ _ ?_; clear hK K
         refine Chain.sub (S' := mk 119 [1000] [(0, .ptr 1000 0 0), (1, .d (.sl (a1.map (cI .i64)))), (2, .ref 16 0 l190.length), (3, .d (.sl (a3.map cS27))), (8, .b false), (9, .i v192), (11, .ptr 11 0 0), (12, .ref 50 0 l819.length), (20, .d (.sl (a0.txs.map (cL cS27)))), (21, .i (a0.txs.length : Int)), (22, .i v192), (52, .i (l736.length : Int)), (53, .i v757)] [(11, some (.box [.i x734.Tx, .i x734.Kind, .d (.lit (.string x734.Key))])), (16, R4 l190), (50, R4 l819), (1000, some (.box [.d (.sl (l188.map (cL cS27))), .ref 25001 0 l189.length])), (25001, R28 l189)]) (Sub.table (by simp [hl819n]) (by simp)) ?_
         refine Chain.nil ?_
         refine blockQ.normal ?_
         refine thenQ_normal ?_
         refine AW.region ?_
         replace h := bsome h; obtain ⟨v820, hv820, h⟩ := h
         have hv820 := chkI_some hv820
         refine Chain.runK [] 2 fun K hK => ?_; simp [hv820]; refine hK _ _ ?_; clear hK K
         refine Chain.sub (S' := mk 119 [1000] [(0, .ptr 1000 0 0), (1, .d (.sl (a1.map (cI .i64)))), (2, .ref 16 0 l190.length), (3, .d (.sl (a3.map cS27))), (8, .b false), (9, .i v192), (11, .ptr 11 0 0), (12, .ref 50 0 l819.length), (20, .d (.sl (a0.txs.map (cL cS27)))), (21, .i (a0.txs.length : Int)), (22, .i v192), (52, .i (l736.length : Int)), (53, .i v820)] [(11, some (.box [.i x734.Tx, .i x734.Kind, .d (.lit (.string x734.Key))])), (16, R4 l190), (50, R4 l819), (1000, some (.box [.d (.sl (l188.map (cL cS27))), .ref 25001 0 l189.length])), (25001, R28 l189)]) Sub.tt ?_
         refine Chain.nil ?_
         cases h
         refine PostI.next ?_
         exact Sub.tt
       ·have c801_ : decide (v757 < (l736.length : Int)) = false := decide_eq_false c801
        refine AW.condF (b := decide (v757 < (l736.length : Int))) rfl c801_ ?_
        refine AW.sub (Sub.bool 54 (b := decide (v757 < (l736.length : Int))) rfl c801_) ?_
        refine AW.sub (S' := mk 119 [1000] [(0, .ptr 1000 0 0), (1, .d (.sl (a1.map (cI .i64)))), (2, .ref 16 0 l190.length), (3, .d (.sl (a3.map cS27))), (8, .b false), (9, .i v192), (11, .ptr 11 0 0), (12, .ref 50 0 l756.length), (20, .d (.sl (a0.txs.map (cL cS27)))), (21, .i (a0.txs.length : Int)), (22, .i v192), (52, .i (l736.length : Int)), (53, .i v757), (54, .b false)] [(11, some (.box [.i x734.Tx, .i x734.Kind, .d (.lit (.string x734.Key))])), (16, R4 l190), (50, R4 l756), (1000, some (.box [.d (.sl (l188.map (cL cS27))), .ref 25001 0 l189.length])), (25001, R28 l189)]) (by simp; exact Sub.table (by simp) (by simp)) ?_
        refine AW.exit ?_
        cases h
        refine thenQ_pass (by simp) ?_
        refine PostI.out (by simp) ?_
        rintro rfl
        refine blockQ.hit ?_
        refine PostN.next ?_
        exact Sub.tt
      ·rintro l800 h
       refine thenQ_normal ?_
       refine AW.seqR ?_
       refine Chain.runK [] 1 fun K hK => ?_; simp; refine hK _ _ ?_; clear hK K
       refine Chain.sub (S' := mk 119 [1000] [(0, .ptr 1000 0 0), (1, .d (.sl (a1.map (cI .i64)))), (2, .ref 16 0 l190.length), (3, .d (.sl (a3.map cS27))), (8, .b false), (9, .i v192), (11, .ptr 11 0 0), (12, .ref 50 0 l800.length), (20, .d (.sl (a0.txs.map (cL cS27)))), (21, .i (a0.txs.length : Int)), (22, .i v192), (82, .d (.sl (a1.map (cI .i64))))] [(11, some (.box [.i x734.Tx, .i x734.Kind, .d (.lit (.string x734.Key))])), (16, R4 l190), (50, R4 l800), (1000, some (.box [.d (.sl (l188.map (cL cS27))), .ref 25001 0 l189.length])), (25001, R28 l189)]) Sub.tt ?_
       replace h := bsome h; obtain ⟨r821, hr821, h⟩ := h
       refine Chain.callO (d := 83) (p37 N a1 r821 hr821) (by simp) rfl rfl (by simp <;> rfl) (by simp <;> rfl) ent37 (by simp) ⟨by simp, by simp⟩ ?_
       refine Chain.sub (S' := mk 119 [1000] [(0, .ptr 1000 0 0), (1, .d (.sl (a1.map (cI .i64)))), (2, .ref 16 0 l190.length), (3, .d (.sl (a3.map cS27))), (8, .b false), (9, .i v192), (11, .ptr 11 0 0), (12, .ref 50 0 l800.length), (20, .d (.sl (a0.txs.map (cL cS27)))), (21, .i (a0.txs.length : Int)), (22, .i v192), (82, .d (.sl (a1.map (cI .i64)))), (83, .ref 83 0 r821.length)] [(11, some (.box [.i x734.Tx, .i x734.Kind, .d (.lit (.string x734.Key))])), (16, R4 l190), (50, R4 l800), (83, R3 r821), (1000, some (.box [.d (.sl (l188.map (cL cS27))), .ref 25001 0 l189.length])), (25001, R28 l189)]) (by simp; exact Sub.table (by simp) (by simp)) ?_
       refine Chain.runK [] 1 fun K hK => ?_; simp; refine hK _ _ ?_; clear hK K
       refine Chain.sub (S' := mk 119 [1000] [(0, .ptr 1000 0 0), (1, .d (.sl (a1.map (cI .i64)))), (2, .ref 16 0 l190.length), (3, .d (.sl (a3.map cS27))), (8, .b false), (9, .i v192), (11, .ptr 11 0 0), (12, .ref 50 0 l800.length), (14, .ref 83 0 r821.length), (20, .d (.sl (a0.txs.map (cL cS27)))), (21, .i (a0.txs.length : Int)), (22, .i v192)] [(11, some (.box [.i x734.Tx, .i x734.Kind, .d (.lit (.string x734.Key))])), (16, R4 l190), (50, R4 l800), (83, R3 r821), (1000, some (.box [.d (.sl (l188.map (cL cS27))), .ref 25001 0 l189.length])), (25001, R28 l189)]) Sub.tt ?_
       refine Chain.nil ?_
       refine AW.seqR ?_
       replace h := bsome h; obtain ⟨x822, hx822, h⟩ := h
       obtain ⟨k823, hx822k, hx822, hx822a, hx822b⟩ := idx_some hx822
       replace h := bsome h; obtain ⟨v824, hv824, h⟩ := h
       have hv824 := chkI_some hv824
       replace h := lsome h; obtain ⟨l825, gl825, h⟩ := h
       obtain ⟨hl825, hl825n⟩ := setI_some (cI .i64) gl825 hx822k
       replace hl825 : (r821.map (cI .i64)).set k823 [.lit (.int .i64 v824)] = l825.map (cI .i64) := hl825
       clear gl825
       refine Chain.runK [] 7 fun K hK => ?_; simp [hx822, hx822k, hx822a, hx822b, hv824, hl825]; refine hK _ _ ?_; clear hK K
       refine Chain.sub (S' := mk 119 [1000] [(0, .ptr 1000 0 0), (1, .d (.sl (a1.map (cI .i64)))), (2, .ref 16 0 l190.length), (3, .d (.sl (a3.map cS27))), (8, .b false), (9, .i v192), (11, .ptr 11 0 0), (12, .ref 50 0 l800.length), (14, .ref 83 0 l825.length), (20, .d (.sl (a0.txs.map (cL cS27)))), (21, .i (a0.txs.length : Int)), (22, .i v192)] [(11, some (.box [.i x734.Tx, .i x734.Kind, .d (.lit (.string x734.Key))])), (16, R4 l190), (50, R4 l800), (83, R3 l825), (1000, some (.box [.d (.sl (l188.map (cL cS27))), .ref 25001 0 l189.length])), (25001, R28 l189)]) (Sub.table (by simp [hl825n]) (by simp)) ?_
       refine Chain.nil ?_
       replace h := bsome h; obtain ⟨l826, hl826, h⟩ := h
       obtain ⟨hl826a, hl826⟩ := appL_some hl826
       subst hl826
       try simp only [List.length_cons, List.length_nil, Nat.zero_add] at hl826a
       replace h := bsome h; obtain ⟨r827, hr827, h⟩ := h
       refine AW.seqAnyS [[], [], [], [], [], [4], [], [6], [3, 4, 5, 6, 7], [], [9], [3, 4, 5, 6, 7, 8, 9, 10], [0, 1, 2, 3, 4, 5, 6, 7, 8, 9, 10, 11]] (fun (b : Nat → Bool) => mk 119 [1000] [(0, .ptr 1000 0 0), (1, .d (.sl (a1.map (cI .i64)))), (2, .ref 16 0 l190.length), (3, .d (.sl (a3.map cS27))), (8, .b false), (9, .i v192), (11, .ptr 11 0 0), (12, (if b 12 then .d (.sl (l800.map cB)) else .ref 50 0 l800.length)), (14, (if b 12 then .d (.sl (l825.map (cI .i64))) else .ref 83 0 l825.length)), (20, .d (.sl (a0.txs.map (cL cS27)))), (21, .i (a0.txs.length : Int)), (22, .i v192), (90, (if b 0 then .ptr 1000 0 0 else .junk)), (91, (if b 12 then .d (.sl (l825.map (cI .i64))) else (if b 1 then .ref 83 0 l825.length else .junk))), (92, (if b 12 then .d (.sl (l800.map cB)) else (if b 2 then .ref 50 0 l800.length else .junk))), (93, (if b 3 then .d (.sl (a3.map cS27)) else .junk)), (94, (if b 4 then .d (.sl (a3.map cS27)) else .junk)), (95, (if b 5 then .i (a3.length : Int) else .junk)), (96, (if b 6 then .d (.sl (a3.map cS27)) else .junk)), (97, (if b 7 then .i (a3.length : Int) else .junk)), (98, (if b 8 then .dx (a3.map cS27) else .junk)), (99, (if b 9 then .agg [.i x734.Tx, .i x734.Kind, .d (.lit (.string x734.Key))] else .junk)), (100, (if b 10 then .d (.sl ([x734].map cS27)) else .junk)), (101, (if b 12 then .d (.sl ((a3 ++ [x734]).map cS27)) else (if b 11 then .ref 101 0 ((a3 ++ [x734]).length) else .junk))), (102, (if b 12 then .tup [] else .junk))] [(11, some (.box [.i x734.Tx, .i x734.Kind, .d (.lit (.string x734.Key))])), (16, R4 l190), (50, (if b 12 then none else R4 l800)), (83, (if b 12 then none else R3 l825)), (101, (if b 12 then none else (if b 11 then R27 (a3 ++ [x734]) else none))), (1000, (if b 12 then some (.box [.d (.sl (r827.txs.map (cL cS27))), .ref 25001 0 r827.schedules.length]) else some (.box [.d (.sl (l188.map (cL cS27))), .ref 25001 0 l189.length]))), (25001, (if b 12 then R28 r827.schedules else R28 l189))]) (mk 119 [1000] [(0, .ptr 1000 0 0), (1, .d (.sl (a1.map (cI .i64)))), (2, .ref 16 0 l190.length), (3, .d (.sl (a3.map cS27))), (8, .b false), (9, .i v192), (20, .d (.sl (a0.txs.map (cL cS27)))), (21, .i (a0.txs.length : Int)), (22, .i v192)] [(16, R4 l190), (1000, some (.box [.d (.sl (r827.txs.map (cL cS27))), .ref 25001 0 r827.schedules.length])), (25001, R28 r827.schedules)]) (by kernel_rfl) (by kernel_rfl) Sub.tt (Steps.cons ?_ (Steps.cons ?_ (Steps.cons ?_ (Steps.cons ?_ (Steps.cons ?_ (Steps.cons ?_ (Steps.cons ?_ (Steps.cons ?_ (Steps.cons ?_ (Steps.cons ?_ (Steps.cons ?_ (Steps.cons ?_ (Steps.cons ?_ (Steps.nil)))))))))))))) ?_ ?_
       ·intro b h0 ha hd
        have f12 : b 12 = false := hd 12 (by decide)
        refine Chain.runK [100] 1 fun K hK => ?_; simp [h0, f12]; refine hK _ _ ?_; clear hK K
        exact Chain.nil (Sub.table (by simp [f12]) (by simp [f12]))
       ·intro b h0 ha hd
        have f12 : b 12 = false := hd 12 (by decide)
        refine Chain.runK [100] 1 fun K hK => ?_; simp [h0, f12]; refine hK _ _ ?_; clear hK K
        exact Chain.nil (Sub.table (by simp [f12]) (by simp [f12]))
       ·intro b h0 ha hd
        have f12 : b 12 = false := hd 12 (by decide)
        refine Chain.runK [100] 1 fun K hK => ?_; simp [h0, f12]; refine hK _ _ ?_; clear hK K
        exact Chain.nil (Sub.table (by simp [f12]) (by simp [f12]))
       ·intro b h0 ha hd
        have f8 : b 8 = false := hd 8 (by decide)
        have f11 : b 11 = false := hd 11 (by decide)
        have f12 : b 12 = false := hd 12 (by decide)
        refine Chain.runK [100] 1 fun K hK => ?_; simp [h0, f8, f11, f12]; refine hK _ _ ?_; clear hK K
        exact Chain.nil (Sub.table (by simp [f8, f11, f12]) (by simp [f11, f12]))
       ·intro b h0 ha hd
        have f5 : b 5 = false := hd 5 (by decide)
        have f8 : b 8 = false := hd 8 (by decide)
        have f11 : b 11 = false := hd 11 (by decide)
        have f12 : b 12 = false := hd 12 (by decide)
        refine Chain.runK [100] 1 fun K hK => ?_; simp [h0, f5, f8, f11, f12]; refine hK _ _ ?_; clear hK K
        exact Chain.nil (Sub.table (by simp [f5, f8, f11, f12]) (by simp [f11, f12]))
       ·intro b h0 ha hd
        have t4 : b 4 = true := ha 4 (by decide)
        have f8 : b 8 = false := hd 8 (by decide)
        have f11 : b 11 = false := hd 11 (by decide)
        have f12 : b 12 = false := hd 12 (by decide)
        refine Chain.runK [100] 1 fun K hK => ?_; simp [h0, t4, f8, f11, f12]; refine hK _ _ ?_; clear hK K
        exact Chain.nil (Sub.table (by simp [t4, f8, f11, f12]) (by simp [f11, f12]))
       ·intro b h0 ha hd
        have f7 : b 7 = false := hd 7 (by decide)
        have f8 : b 8 = false := hd 8 (by decide)
        have f11 : b 11 = false := hd 11 (by decide)
        have f12 : b 12 = false := hd 12 (by decide)
        refine Chain.runK [100] 1 fun K hK => ?_; simp [h0, f7, f8, f11, f12]; refine hK _ _ ?_; clear hK K
        exact Chain.nil (Sub.table (by simp [f7, f8, f11, f12]) (by simp [f11, f12]))
       ·intro b h0 ha hd
        have t6 : b 6 = true := ha 6 (by decide)
        have f8 : b 8 = false := hd 8 (by decide)
        have f11 : b 11 = false := hd 11 (by decide)
        have f12 : b 12 = false := hd 12 (by decide)
        refine Chain.runK [100] 1 fun K hK => ?_; simp [h0, t6, f8, f11, f12]; refine hK _ _ ?_; clear hK K
        exact Chain.nil (Sub.table (by simp [t6, f8, f11, f12]) (by simp [f11, f12]))
       ·intro b h0 ha hd
        have t3 : b 3 = true := ha 3 (by decide)
        have t4 : b 4 = true := ha 4 (by decide)
        have t5 : b 5 = true := ha 5 (by decide)
        have t6 : b 6 = true := ha 6 (by decide)
        have t7 : b 7 = true := ha 7 (by decide)
        have f11 : b 11 = false := hd 11 (by decide)
        have f12 : b 12 = false := hd 12 (by decide)
        refine Chain.runK [100] 1 fun K hK => ?_; simp [h0, t3, t4, t5, t6, t7, f11, f12]; refine hK _ _ ?_; clear hK K
        exact Chain.nil (Sub.table (by simp [t3, t4, t5, t6, t7, f11, f12]) (by simp [f11, f12]))
       ·intro b h0 ha hd
        have f10 : b 10 = false := hd 10 (by decide)
        have f11 : b 11 = false := hd 11 (by decide)
        have f12 : b 12 = false := hd 12 (by decide)
        refine Chain.runK [100] 1 fun K hK => ?_; simp [h0, f10, f11, f12]; refine hK _ _ ?_; clear hK K
        exact Chain.nil (Sub.table (by simp [f10, f11, f12]) (by simp [f11, f12]))
       ·intro b h0 ha hd
        have t9 : b 9 = true := ha 9 (by decide)
        have f11 : b 11 = false := hd 11 (by decide)
        have f12 : b 12 = false := hd 12 (by decide)
        refine Chain.runK [100] 1 fun K hK => ?_; simp [h0, t9, f11, f12]; refine hK _ _ ?_; clear hK K
        exact Chain.nil (Sub.table (by simp [t9, f11, f12]) (by simp [f11, f12]))
       ·intro b h0 ha hd
        have t3 : b 3 = true := ha 3 (by decide)
        have t4 : b 4 = true := ha 4 (by decide)
        have t5 : b 5 = true := ha 5 (by decide)
        have t6 : b 6 = true := ha 6 (by decide)
        have t7 : b 7 = true := ha 7 (by decide)
        have t8 : b 8 = true := ha 8 (by decide)
        have t9 : b 9 = true := ha 9 (by decide)
        have t10 : b 10 = true := ha 10 (by decide)
        have f12 : b 12 = false := hd 12 (by decide)
        simp only [h0, t3, t4, t5, t6, t7, t8, t9, t10, f12, if_true, if_false, Bool.false_eq_true]
        refine Chain.appDx (d := 101) (es := a3.map cS27) (ys := ([x734] : List S27).map cS27) (te := ⟨_, 3, 32, _⟩) (by simp) rfl rfl rfl rfl ty28 rfl ty27 rfl rfl rfl (by simp) (by simp [srcV]) (by simp) (by simp) (by decide) (by decide) rfl (by simp [hl826a]) ?_
        exact Chain.nil (by simp [t3, t4, t5, t6, t7, t8, t9, t10, f12]; exact Sub.table (by simp) (by simp))
       ·intro b h0 ha hd
        have t0 : b 0 = true := ha 0 (by decide)
        have t1 : b 1 = true := ha 1 (by decide)
        have t2 : b 2 = true := ha 2 (by decide)
        have t3 : b 3 = true := ha 3 (by decide)
        have t4 : b 4 = true := ha 4 (by decide)
        have t5 : b 5 = true := ha 5 (by decide)
        have t6 : b 6 = true := ha 6 (by decide)
        have t7 : b 7 = true := ha 7 (by decide)
        have t8 : b 8 = true := ha 8 (by decide)
        have t9 : b 9 = true := ha 9 (by decide)
        have t10 : b 10 = true := ha 10 (by decide)
        have t11 : b 11 = true := ha 11 (by decide)
        simp only [h0, t0, t1, t2, t3, t4, t5, t6, t7, t8, t9, t10, t11, if_true, if_false, Bool.false_eq_true]
        refine Chain.sub (Sub.freeze 83 rfl) ?_
        refine Chain.sub (S' := mk 119 [1000] [(0, .ptr 1000 0 0), (1, .d (.sl (a1.map (cI .i64)))), (2, .ref 16 0 l190.length), (3, .d (.sl (a3.map cS27))), (8, .b false), (9, .i v192), (11, .ptr 11 0 0), (12, .ref 50 0 l800.length), (14, .d (.sl (l825.map (cI .i64)))), (20, .d (.sl (a0.txs.map (cL cS27)))), (21, .i (a0.txs.length : Int)), (22, .i v192), (90, .ptr 1000 0 0), (91, .d (.sl (l825.map (cI .i64)))), (92, .ref 50 0 l800.length), (93, .d (.sl (a3.map cS27))), (94, .d (.sl (a3.map cS27))), (95, .i (a3.length : Int)), (96, .d (.sl (a3.map cS27))), (97, .i (a3.length : Int)), (98, .dx (a3.map cS27)), (99, .agg [.i x734.Tx, .i x734.Kind, .d (.lit (.string x734.Key))]), (100, .d (.sl ([x734].map cS27))), (101, .ref 101 0 ((a3 ++ [x734]).length))] [(11, some (.box [.i x734.Tx, .i x734.Kind, .d (.lit (.string x734.Key))])), (16, R4 l190), (50, R4 l800), (101, R27 (a3 ++ [x734])), (1000, some (.box [.d (.sl (l188.map (cL cS27))), .ref 25001 0 l189.length])), (25001, R28 l189)]) (by simp; exact Sub.table (by simp) (by simp)) ?_
        refine Chain.sub (Sub.freeze 50 rfl) ?_
        refine Chain.sub (S' := mk 119 [1000] [(0, .ptr 1000 0 0), (1, .d (.sl (a1.map (cI .i64)))), (2, .ref 16 0 l190.length), (3, .d (.sl (a3.map cS27))), (8, .b false), (9, .i v192), (11, .ptr 11 0 0), (12, .d (.sl (l800.map cB))), (14, .d (.sl (l825.map (cI .i64)))), (20, .d (.sl (a0.txs.map (cL cS27)))), (21, .i (a0.txs.length : Int)), (22, .i v192), (90, .ptr 1000 0 0), (91, .d (.sl (l825.map (cI .i64)))), (92, .d (.sl (l800.map cB))), (93, .d (.sl (a3.map cS27))), (94, .d (.sl (a3.map cS27))), (95, .i (a3.length : Int)), (96, .d (.sl (a3.map cS27))), (97, .i (a3.length : Int)), (98, .dx (a3.map cS27)), (99, .agg [.i x734.Tx, .i x734.Kind, .d (.lit (.string x734.Key))]), (100, .d (.sl ([x734].map cS27))), (101, .ref 101 0 ((a3 ++ [x734]).length))] [(11, some (.box [.i x734.Tx, .i x734.Kind, .d (.lit (.string x734.Key))])), (16, R4 l190), (101, R27 (a3 ++ [x734])), (1000, some (.box [.d (.sl (l188.map (cL cS27))), .ref 25001 0 l189.length])), (25001, R28 l189)]) (by simp; exact Sub.table (by simp) (by simp)) ?_
        refine Chain.sub (Sub.freeze 101 rfl) ?_
        refine Chain.sub (S' := mk 119 [1000] [(0, .ptr 1000 0 0), (1, .d (.sl (a1.map (cI .i64)))), (2, .ref 16 0 l190.length), (3, .d (.sl (a3.map cS27))), (8, .b false), (9, .i v192), (11, .ptr 11 0 0), (12, .d (.sl (l800.map cB))), (14, .d (.sl (l825.map (cI .i64)))), (20, .d (.sl (a0.txs.map (cL cS27)))), (21, .i (a0.txs.length : Int)), (22, .i v192), (90, .ptr 1000 0 0), (91, .d (.sl (l825.map (cI .i64)))), (92, .d (.sl (l800.map cB))), (93, .d (.sl (a3.map cS27))), (94, .d (.sl (a3.map cS27))), (95, .i (a3.length : Int)), (96, .d (.sl (a3.map cS27))), (97, .i (a3.length : Int)), (98, .dx (a3.map cS27)), (99, .agg [.i x734.Tx, .i x734.Kind, .d (.lit (.string x734.Key))]), (100, .d (.sl ([x734].map cS27))), (101, .d (.sl ((a3 ++ [x734]).map cS27)))] [(11, some (.box [.i x734.Tx, .i x734.Kind, .d (.lit (.string x734.Key))])), (16, R4 l190), (1000, some (.box [.d (.sl (l188.map (cL cS27))), .ref 25001 0 l189.length])), (25001, R28 l189)]) (by simp; exact Sub.table (by simp) (by simp)) ?_
        refine Chain.callF (ih (S49.mk l188 l189) l825 l800 (a3 ++ [x734]) r827 hr827) [(1000, 1000), (25001, 25001)] [1000] [(1000, 1000), (25001, 25001)] [(1000, (.box [.d (.sl (r827.txs.map (cL cS27))), .ref 25001 0 r827.schedules.length])), (25001, (.arr 28 1 (r827.schedules.map (cL cS27))))] (.tup []) (by simp) rfl (by simp <;> rfl) (by simp) (by simp) (by simp) (by simp) (by simp) ent16 (by simp) (by simp) (by simp) (by simp) (by simp) (by simp) ?_
        exact Chain.nil (by simp [t0, t3, t4, t5, t6, t7, t8, t9, t10]; exact Sub.table (by simp) (by simp))
       ·intro b hb
        have t0 := hb 0 (by decide)
        have t1 := hb 1 (by decide)
        have t2 := hb 2 (by decide)
        have t3 := hb 3 (by decide)
        have t4 := hb 4 (by decide)
        have t5 := hb 5 (by decide)
        have t6 := hb 6 (by decide)
        have t7 := hb 7 (by decide)
        have t8 := hb 8 (by decide)
        have t9 := hb 9 (by decide)
        have t10 := hb 10 (by decide)
        have t11 := hb 11 (by decide)
        have t12 := hb 12 (by decide)
        exact Sub.table (by simp [t0, t3, t4, t5, t6, t7, t8, t9, t10, t12]) (by simp [t12])
       ·skip
        refine AW.region ?_
        replace h := bsome h; obtain ⟨x828, hx828, h⟩ := h
        obtain ⟨hx828, hx828a, hx828b⟩ := idx_some2 hx828 hx822k
        replace h := lsome h; obtain ⟨l829, gl829, h⟩ := h
        obtain ⟨hl829, hl829n⟩ := setI_some cB gl829 hx822k
        replace hl829 : (l190.map cB).set k823 [.lit (.bool true)] = l829.map cB := hl829
        clear gl829
        refine Chain.runK [] 4 fun K hK => ?_; simp [hx828, hx822k, hx828a, hx828b, hl829]; refine hK _ _ ?_; clear hK K
        refine Chain.sub (S' := mk 119 [1000] [(0, .ptr 1000 0 0), (1, .d (.sl (a1.map (cI .i64)))), (2, .ref 16 0 l829.length), (3, .d (.sl (a3.map cS27))), (8, .b false), (20, .d (.sl (a0.txs.map (cL cS27)))), (21, .i (a0.txs.length : Int)), (22, .i v192)] [(16, R4 l829), (1000, some (.box [.d (.sl (r827.txs.map (cL cS27))), .ref 25001 0 r827.schedules.length])), (25001, R28 r827.schedules)]) (Sub.table (by simp [hl829n]) (by simp)) ?_
        refine Chain.nil ?_
        cases h
        refine blockQ.normal ?_
        refine PostN.next ?_
        exact Sub.tt
   ·rintro ⟨l724, l725, l726, v727⟩ h
    dsimp only at h ⊢
    refine AW.region ?_
    replace h := bsome h; obtain ⟨v830, hv830, h⟩ := h
    have hv830 := chkI_some hv830
    refine Chain.runK [] 2 fun K hK => ?_; simp [hv830]; refine hK _ _ ?_; clear hK K
    refine Chain.sub (S' := mk 119 [1000] [(0, .ptr 1000 0 0), (1, .d (.sl (a1.map (cI .i64)))), (2, .ref 16 0 l726.length), (3, .d (.sl (a3.map cS27))), (8, .b v727), (20, .d (.sl (a0.txs.map (cL cS27)))), (21, .i (a0.txs.length : Int)), (22, .i v830)] [(16, R4 l726), (1000, some (.box [.d (.sl (l724.map (cL cS27))), .ref 25001 0 l725.length])), (25001, R28 l725)]) Sub.tt ?_
    refine Chain.nil ?_
    cases h
    refine PostI.next ?_
    exact Sub.tt
  ·have c621_ : decide (v192 < (a0.txs.length : Int)) = false := decide_eq_false c621
   refine AW.condF (b := decide (v192 < (a0.txs.length : Int))) rfl c621_ ?_
   refine AW.sub (Sub.bool 23 (b := decide (v192 < (a0.txs.length : Int))) rfl c621_) ?_
   refine AW.sub (S' := mk 119 [1000] [(0, .ptr 1000 0 0), (1, .d (.sl (a1.map (cI .i64)))), (2, .ref 16 0 l190.length), (3, .d (.sl (a3.map cS27))), (8, .b v191), (20, .d (.sl (a0.txs.map (cL cS27)))), (21, .i (a0.txs.length : Int)), (22, .i v192), (23, .b false)] [(16, R4 l190), (1000, some (.box [.d (.sl (l188.map (cL cS27))), .ref 25001 0 l189.length])), (25001, R28 l189)]) (by simp; exact Sub.table (by simp) (by simp)) ?_
   refine AW.exit ?_
   cases h
   refine thenQ_pass (by simp) ?_
   refine PostI.out (by simp) ?_
   rintro rfl
   refine blockQ.hit ?_
   refine PostN.next ?_
   exact Sub.tt
 ·rintro ⟨l618, l619, v620⟩ h
  dsimp only at h ⊢
  refine thenQ_normal ?_
  refine AW.seqR ?_
  refine Chain.runK [] 1 fun K hK => ?_; simp; refine hK _ _ ?_; clear hK K
  refine Chain.sub (S' := mk 119 [1000] [(0, .ptr 1000 0 0), (3, .d (.sl (a3.map cS27))), (107, .b v620)] [(1000, some (.box [.d (.sl (l618.map (cL cS27))), .ref 25001 0 l619.length])), (25001, R28 l619)]) Sub.tt ?_
  refine Chain.nil ?_
  replace h := isome h; rcases h with ⟨c831, h⟩ | ⟨c831, h⟩
  ·have c831_ : v620 = true := c831
   refine AW.condT (b := v620) rfl c831_ ?_
   refine AW.sub (Sub.bool 107 (b := v620) rfl c831_) ?_
   refine AW.sub (S' := mk 119 [1000] [(0, .ptr 1000 0 0), (3, .d (.sl (a3.map cS27))), (107, .b true)] [(1000, some (.box [.d (.sl (l618.map (cL cS27))), .ref 25001 0 l619.length])), (25001, R28 l619)]) (by simp; exact Sub.table (by simp) (by simp)) ?_
   replace h := bsome h; obtain ⟨r832, hr832, h⟩ := h
   replace h := bsome h; obtain ⟨l833, hl833, h⟩ := h
   obtain ⟨hl833a, hl833⟩ := appL_some hl833
   subst hl833
   try simp only [List.length_cons, List.length_nil, Nat.zero_add] at hl833a
   refine AW.lastAnyS [[], [], [1], [1, 2], [1, 2, 3], [], [5], [5, 6], [1, 2, 3, 4, 5, 6, 7], [0, 1, 2, 3, 4, 5, 6, 7, 8], [0, 1, 2, 3, 4, 5, 6, 7, 8, 9], [0, 1, 2, 3, 4, 5, 6, 7, 8, 9, 10]] (fun (b : Nat → Bool) => mk 119 [1000] [(0, .ptr 1000 0 0), (3, .d (.sl (a3.map cS27))), (108, (if b 0 then .ptr 1000 0 0 else .junk)), (109, (if b 1 then .ptr 1000 0 0 else .junk)), (110, (if b 2 then .ptr 1000 0 0 else .junk)), (111, (if b 3 then .ptr 1000 0 1 else .junk)), (112, (if b 8 then .junk else (if b 4 then .ref 25001 0 l619.length else .junk))), (113, (if b 5 then .d (.sl (a3.map cS27)) else .junk)), (114, (if b 6 then .d (.sl (r832.map cS27)) else .junk)), (115, (if b 7 then .d (.sl ([r832].map (cL cS27))) else .junk)), (116, (if b 8 then .ref 25001 0 ((l619 ++ [r832]).length) else .junk)), (117, (if b 9 then .ptr 1000 0 0 else .junk)), (118, (if b 10 then .ptr 1000 0 1 else .junk))] [(1000, (if b 11 then some (.box [.d (.sl (l618.map (cL cS27))), .ref 25001 0 ((l619 ++ [r832]).length)]) else (if b 8 then some (.box [.d (.sl (l618.map (cL cS27))), .hole]) else some (.box [.d (.sl (l618.map (cL cS27))), .ref 25001 0 l619.length])))), (25001, (if b 8 then R28 (l619 ++ [r832]) else R28 l619))]) (mk 119 [1000] [] [(1000, some (.box [.d (.sl (l618.map (cL cS27))), .ref 25001 0 ((l619 ++ [r832]).length)])), (25001, R28 (l619 ++ [r832]))]) (by kernel_rfl) (by kernel_rfl) Sub.tt (Steps.cons ?_ (Steps.cons ?_ (Steps.cons ?_ (Steps.cons ?_ (Steps.cons ?_ (Steps.cons ?_ (Steps.cons ?_ (Steps.cons ?_ (Steps.cons ?_ (Steps.cons ?_ (Steps.cons ?_ (Steps.cons ?_ (Steps.nil))))))))))))) ?_ ?_
   ·intro b h0 ha hd
    have f9 : b 9 = false := hd 9 (by decide)
    have f10 : b 10 = false := hd 10 (by decide)
    have f11 : b 11 = false := hd 11 (by decide)
    refine Chain.runK [115] 1 fun K hK => ?_; simp [h0, f9, f10, f11]; refine hK _ _ ?_; clear hK K
    exact Chain.nil (Sub.table (by simp [f9, f10]) (by simp [f11]))
   ·intro b h0 ha hd
    have f2 : b 2 = false := hd 2 (by decide)
    have f3 : b 3 = false := hd 3 (by decide)
    have f4 : b 4 = false := hd 4 (by decide)
    have f8 : b 8 = false := hd 8 (by decide)
    have f9 : b 9 = false := hd 9 (by decide)
    have f10 : b 10 = false := hd 10 (by decide)
    have f11 : b 11 = false := hd 11 (by decide)
    refine Chain.runK [115] 1 fun K hK => ?_; simp [h0, f2, f3, f4, f8, f9, f10, f11]; refine hK _ _ ?_; clear hK K
    exact Chain.nil (Sub.table (by simp [f2, f3, f4, f8, f9, f10]) (by simp [f8, f11]))
   ·intro b h0 ha hd
    have t1 : b 1 = true := ha 1 (by decide)
    have f3 : b 3 = false := hd 3 (by decide)
    have f4 : b 4 = false := hd 4 (by decide)
    have f8 : b 8 = false := hd 8 (by decide)
    have f9 : b 9 = false := hd 9 (by decide)
    have f10 : b 10 = false := hd 10 (by decide)
    have f11 : b 11 = false := hd 11 (by decide)
    refine Chain.runK [115] 1 fun K hK => ?_; simp [h0, t1, f3, f4, f8, f9, f10, f11]; refine hK _ _ ?_; clear hK K
    exact Chain.nil (Sub.table (by simp [t1, f3, f4, f8, f9, f10]) (by simp [f8, f11]))
   ·intro b h0 ha hd
    have t1 : b 1 = true := ha 1 (by decide)
    have t2 : b 2 = true := ha 2 (by decide)
    have f4 : b 4 = false := hd 4 (by decide)
    have f8 : b 8 = false := hd 8 (by decide)
    have f9 : b 9 = false := hd 9 (by decide)
    have f10 : b 10 = false := hd 10 (by decide)
    have f11 : b 11 = false := hd 11 (by decide)
    refine Chain.runK [115] 1 fun K hK => ?_; simp [h0, t1, t2, f4, f8, f9, f10, f11]; refine hK _ _ ?_; clear hK K
    exact Chain.nil (Sub.table (by simp [t1, t2, f4, f8, f9, f10]) (by simp [f8, f11]))
   ·intro b h0 ha hd
    have t1 : b 1 = true := ha 1 (by decide)
    have t2 : b 2 = true := ha 2 (by decide)
    have t3 : b 3 = true := ha 3 (by decide)
    have f8 : b 8 = false := hd 8 (by decide)
    have f9 : b 9 = false := hd 9 (by decide)
    have f10 : b 10 = false := hd 10 (by decide)
    have f11 : b 11 = false := hd 11 (by decide)
    refine Chain.runK [115] 1 fun K hK => ?_; simp [h0, t1, t2, t3, f8, f9, f10, f11]; refine hK _ _ ?_; clear hK K
    exact Chain.nil (Sub.table (by simp [t1, t2, t3, f8, f9, f10]) (by simp [f8, f11]))
   ·intro b h0 ha hd
    have f6 : b 6 = false := hd 6 (by decide)
    have f7 : b 7 = false := hd 7 (by decide)
    have f8 : b 8 = false := hd 8 (by decide)
    have f9 : b 9 = false := hd 9 (by decide)
    have f10 : b 10 = false := hd 10 (by decide)
    have f11 : b 11 = false := hd 11 (by decide)
    refine Chain.runK [115] 1 fun K hK => ?_; simp [h0, f6, f7, f8, f9, f10, f11]; refine hK _ _ ?_; clear hK K
    exact Chain.nil (Sub.table (by simp [f6, f7, f8, f9, f10]) (by simp [f8, f11]))
   ·intro b h0 ha hd
    have t5 : b 5 = true := ha 5 (by decide)
    have f7 : b 7 = false := hd 7 (by decide)
    have f8 : b 8 = false := hd 8 (by decide)
    have f9 : b 9 = false := hd 9 (by decide)
    have f10 : b 10 = false := hd 10 (by decide)
    have f11 : b 11 = false := hd 11 (by decide)
    simp only [h0, t5, f7, f8, f9, f10, f11, if_true, if_false, Bool.false_eq_true]
    refine Chain.callC (d := 114) (p38 N a3 r832 hr832) (by simp) rfl rfl (by simp <;> rfl) (by simp <;> rfl) ent38 (by simp) (.inl ⟨by simp, by simp⟩) ?_
    exact Chain.nil (by simp [t5, f7, f8, f9, f10, f11]; exact Sub.table (by simp) (by simp))
   ·intro b h0 ha hd
    have t5 : b 5 = true := ha 5 (by decide)
    have t6 : b 6 = true := ha 6 (by decide)
    have f8 : b 8 = false := hd 8 (by decide)
    have f9 : b 9 = false := hd 9 (by decide)
    have f10 : b 10 = false := hd 10 (by decide)
    have f11 : b 11 = false := hd 11 (by decide)
    refine Chain.runK [115] 1 fun K hK => ?_; simp [h0, t5, t6, f8, f9, f10, f11]; refine hK _ _ ?_; clear hK K
    exact Chain.nil (Sub.table (by simp [t5, t6, f8, f9, f10]) (by simp [f8, f11]))
   ·intro b h0 ha hd
    have t1 : b 1 = true := ha 1 (by decide)
    have t2 : b 2 = true := ha 2 (by decide)
    have t3 : b 3 = true := ha 3 (by decide)
    have t4 : b 4 = true := ha 4 (by decide)
    have t5 : b 5 = true := ha 5 (by decide)
    have t6 : b 6 = true := ha 6 (by decide)
    have t7 : b 7 = true := ha 7 (by decide)
    have f9 : b 9 = false := hd 9 (by decide)
    have f10 : b 10 = false := hd 10 (by decide)
    have f11 : b 11 = false := hd 11 (by decide)
    refine Chain.runK [115] 1 fun K hK => ?_; simp [h0, t1, t2, t3, t4, t5, t6, t7, f9, f10, f11, hl833a]; refine hK _ _ ?_; clear hK K
    exact Chain.nil (Sub.table (by simp [t1, t2, t3, t5, t6, t7, f9, f10]) (by simp [f11]))
   ·intro b h0 ha hd
    have t0 : b 0 = true := ha 0 (by decide)
    have t1 : b 1 = true := ha 1 (by decide)
    have t2 : b 2 = true := ha 2 (by decide)
    have t3 : b 3 = true := ha 3 (by decide)
    have t4 : b 4 = true := ha 4 (by decide)
    have t5 : b 5 = true := ha 5 (by decide)
    have t6 : b 6 = true := ha 6 (by decide)
    have t7 : b 7 = true := ha 7 (by decide)
    have t8 : b 8 = true := ha 8 (by decide)
    have f10 : b 10 = false := hd 10 (by decide)
    have f11 : b 11 = false := hd 11 (by decide)
    refine Chain.runK [115] 1 fun K hK => ?_; simp [h0, t0, t1, t2, t3, t5, t6, t7, t8, f10, f11]; refine hK _ _ ?_; clear hK K
    exact Chain.nil (Sub.table (by simp [t0, t1, t2, t3, t5, t6, t7, t8, f10]) (by simp [t8, f11]))
   ·intro b h0 ha hd
    have t0 : b 0 = true := ha 0 (by decide)
    have t1 : b 1 = true := ha 1 (by decide)
    have t2 : b 2 = true := ha 2 (by decide)
    have t3 : b 3 = true := ha 3 (by decide)
    have t4 : b 4 = true := ha 4 (by decide)
    have t5 : b 5 = true := ha 5 (by decide)
    have t6 : b 6 = true := ha 6 (by decide)
    have t7 : b 7 = true := ha 7 (by decide)
    have t8 : b 8 = true := ha 8 (by decide)
    have t9 : b 9 = true := ha 9 (by decide)
    have f11 : b 11 = false := hd 11 (by decide)
    refine Chain.runK [115] 1 fun K hK => ?_; simp [h0, t0, t1, t2, t3, t5, t6, t7, t8, t9, f11]; refine hK _ _ ?_; clear hK K
    exact Chain.nil (Sub.table (by simp [t0, t1, t2, t3, t5, t6, t7, t8, t9]) (by simp [t8, f11]))
   ·intro b h0 ha hd
    have t0 : b 0 = true := ha 0 (by decide)
    have t1 : b 1 = true := ha 1 (by decide)
    have t2 : b 2 = true := ha 2 (by decide)
    have t3 : b 3 = true := ha 3 (by decide)
    have t4 : b 4 = true := ha 4 (by decide)
    have t5 : b 5 = true := ha 5 (by decide)
    have t6 : b 6 = true := ha 6 (by decide)
    have t7 : b 7 = true := ha 7 (by decide)
    have t8 : b 8 = true := ha 8 (by decide)
    have t9 : b 9 = true := ha 9 (by decide)
    have t10 : b 10 = true := ha 10 (by decide)
    refine Chain.runK [115] 1 fun K hK => ?_; simp [h0, t0, t1, t2, t3, t5, t6, t7, t8, t9, t10]; refine hK _ _ ?_; clear hK K
    exact Chain.nil (Sub.table (by simp [t0, t1, t2, t3, t5, t6, t7, t8, t9, t10]) (by simp [t8]))
   ·intro b hb
    have t0 := hb 0 (by decide)
    have t1 := hb 1 (by decide)
    have t2 := hb 2 (by decide)
    have t3 := hb 3 (by decide)
    have t4 := hb 4 (by decide)
    have t5 := hb 5 (by decide)
    have t6 := hb 6 (by decide)
    have t7 := hb 7 (by decide)
    have t8 := hb 8 (by decide)
    have t9 := hb 9 (by decide)
    have t10 := hb 10 (by decide)
    have t11 := hb 11 (by decide)
    exact Sub.table (by simp [t0, t1, t2, t3, t5, t6, t7, t8, t9, t10]) (by simp [t8, t11])
   ·skip
    cases h
    exact FinF.normal (by simp) (by simp)
  ·have c831_ : v620 = false := Bool.eq_false_iff.2 c831
   refine AW.condF (b := v620) rfl c831_ ?_
   refine AW.sub (Sub.bool 107 (b := v620) rfl c831_) ?_
   refine AW.sub (S' := mk 119 [1000] [(0, .ptr 1000 0 0), (3, .d (.sl (a3.map cS27))), (107, .b false)] [(1000, some (.box [.d (.sl (l618.map (cL cS27))), .ref 25001 0 l619.length])), (25001, R28 l619)]) (by simp; exact Sub.table (by simp) (by simp)) ?_
   refine AW.skip ?_
   cases h
   exact FinF.normal (by simp) (by simp)

end Go.Proofs.Ytifcmomjjkbboaa
