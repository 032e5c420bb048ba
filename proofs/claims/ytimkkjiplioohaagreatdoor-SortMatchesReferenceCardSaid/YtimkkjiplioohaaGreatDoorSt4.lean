/- Functions of the program as functional programs; the code computes them. -/
import Derived.Test.YtimkkjiplioohaaGreatDoorSt3
namespace Go.Proofs.YtimkkjiplioohaaGreatDoor
open Go.Ab Go.Rp
attribute [-simp] List.all_eq_true Array.all_toList Array.all_eq_true

/-- slices.swapRangeCmpFunc[stemma/api.Row] -/
def d229 (N : Nat) (a0 : (List (List S61))) (a1 : Int) (a2 : Int) (a3 : Int) (_p4 : (List S61) → (List S61) → Option Int) : Option (List (List S61)) :=
 Option.bind (α := List (List S61)) (
  iterN (σ := ((List (List S61)) × Int)) (ρ := List (List S61)) (fun ((l17, v18) : ((List (List S61)) × Int)) =>
   if v18 < a3 then (
    (chkI (a1 + v18)).bind fun v55 =>
    (chkI (a2 + v18)).bind fun v56 =>
    (chkI (a2 + v18)).bind fun v57 =>
    (idx l17 v57).bind fun x58 =>
    (chkI (a1 + v18)).bind fun v60 =>
    (idx l17 v60).bind fun x61 =>
    (idx l17 v55).bind fun _x63 =>
    letv (setI l17 v55 x58) fun l65 =>
    (idx l65 v56).bind fun _x66 =>
    letv (setI l65 v56 x61) fun l68 =>
    (chkI (v18 + 1)).bind fun v69 =>
    some (.inl (l68, v69))
   ) else
   some (.inr l17)
  ) N (a0, 0)
 ) fun (l53 : List (List S61)) =>
 some l53
set_option maxRecDepth 100000 in
set_option maxHeartbeats 4000000 in
theorem p229 (N : Nat) (a0 : (List (List S61))) (a1 : Int) (a2 : Int) (a3 : Int) (g4 : Nat) (cs4 : List D) (p4 : (List S61) → (List S61) → Option Int) (_ent_4 : Rp.Enters Tryz.prog g4) (_hp4 : ∀ a0 a1 r, p4 a0 a1 = some r → FunC Tryz.prog g4 ([.d (.sl (a0.map cS61)), .d (.sl (a1.map cS61))] ++ cs4.map .d) (.i r)) (r : (List (List S61))) (h : d229 N a0 a1 a2 a3 p4 = some r) : FunM Tryz.prog 229 [.ref 1000 0 a0.length, .i a1, .i a2, .i a3, .fn (.func g4) (cs4.map .d)] [(1000, R57 a0)] [1000] (.tup []) ([(1000, .arr 57 1 (r.map (cL cS61)))]) := by
 unfold d229 at h
 refine FunM.enter 38 [(0, .ref 1000 0 a0.length), (1, .i a1), (2, .i a2), (3, .i a3), (4, .fn (.func g4) (cs4.map .d))] Tryz.func229 rfl (of_decide_eq_true rfl) rfl rfl ?_
 refine .tt (L16 a0.length a1 a2 a3) [(1000, R57 a0)] ?_
 refine .seqR ?_
 refine .runK [] 1 fun K k => ?_; simp; refine k _ _ ?_; clear k K
 refine .tt (L16 a0.length a1 a2 a3 ++ [(10, .i 0)]) [(1000, R57 a0)] ?_
 refine .nil ?_
 refine .lastN (fun (l53 : List (List S61)) => mk 38 [1000] [] [(1000, R57 l53)]) h ?_ ?_ <;> clear h
 ·intro o h
  refine .block ?_
  refine .iter (fun ((l17, v18) : ((List (List S61)) × Int)) => mk 38 [1000] (L17 l17.length a1 a2 a3 v18) [(1000, R57 l17)]) h Sub.tt ?_
  clear h
  rintro ⟨l17, v18⟩ x h
  dsimp only at h ⊢
  refine .seq ?_
  refine .seqR ?_
  refine .runK [] 3 fun K k => ?_; simp; refine k _ _ ?_; clear k K
  refine .tt (L17 l17.length a1 a2 a3 v18 ++ [(13, .b (decide (v18 < a3)))]) [(1000, R57 l17)] ?_
  refine .nil ?_
  replace h := isome h; rcases h with ⟨c54, h⟩ | ⟨c54, h⟩
  ·have c54_ : decide (v18 < a3) = true := decide_eq_true c54
   refine .condT (b := decide (v18 < a3)) rfl c54_ ?_
   refine .sub (.bool 13 (b := decide (v18 < a3)) rfl c54_) ?_
   refine .st (mk 38 [1000] (L17 l17.length a1 a2 a3 v18 ++ [(13, .b true)]) [(1000, R57 l17)]) ?_
   refine .skip ?_
   refine thenQ_normal ?_
   refine .seq ?_
   refine .block ?_
   replace h := bsome h; obtain ⟨v55, hv55, h⟩ := h
   have hv55 := chkI_some hv55
   replace h := bsome h; obtain ⟨v56, hv56, h⟩ := h
   have hv56 := chkI_some hv56
   replace h := bsome h; obtain ⟨v57, hv57, h⟩ := h
   have hv57 := chkI_some hv57
   replace h := bsome h; obtain ⟨x58, hx58, h⟩ := h
   obtain ⟨k59, hx58k, hx58, hx58a, hx58b⟩ := idx_some hx58
   replace h := bsome h; obtain ⟨v60, hv60, h⟩ := h
   have hv60 := chkI_some hv60
   replace h := bsome h; obtain ⟨x61, hx61, h⟩ := h
   obtain ⟨k62, hx61k, hx61, hx61a, hx61b⟩ := idx_some hx61
   replace h := bsome h; obtain ⟨x63, hx63, h⟩ := h
   obtain ⟨k64, hx63k, hx63, hx63a, hx63b⟩ := idx_some hx63
   replace h := lsome h; obtain ⟨l65, gl65, h⟩ := h
   obtain ⟨hl65, hl65n⟩ := setI_some (cL cS61) gl65 hx63k
   replace hl65 : (l17.map (cL cS61)).set k64 [.sl (x58.map cS61)] = l65.map (cL cS61) := hl65
   clear gl65
   replace h := bsome h; obtain ⟨x66, hx66, h⟩ := h
   obtain ⟨k67, hx66k, hx66, hx66a, hx66b⟩ := idx_some hx66
   replace h := lsome h; obtain ⟨l68, gl68, h⟩ := h
   obtain ⟨hl68, hl68n⟩ := setI_some (cL cS61) gl68 hx66k
   replace hl68 : (l65.map (cL cS61)).set k67 [.sl (x61.map cS61)] = l68.map (cL cS61) := hl68
   clear gl68
   refine .lastAnyS [[], [], [], [1, 2], [], [], [], [5, 6], [], [], [], [9, 10], [8, 9, 10, 11], [8, 9, 10, 11, 12], [], [], [], [15, 16], [14, 15, 16, 17], [14, 15, 16, 17, 18], [0, 1, 2, 3, 8, 9, 10, 11, 12, 13, 14, 15, 16, 17, 18, 19], [0, 1, 2, 3, 8, 9, 10, 11, 12, 13, 14, 15, 16, 17, 18, 19, 20], [0, 1, 2, 3, 4, 5, 6, 7, 8, 9, 10, 11, 12, 13, 14, 15, 16, 17, 18, 19, 20, 21], [0, 1, 2, 3, 4, 5, 6, 7, 8, 9, 10, 11, 12, 13, 14, 15, 16, 17, 18, 19, 20, 21, 22]] (fun (b : Nat → Bool) => mk 38 [1000] [(0, (if b 23 then .ref 1000 0 l68.length else (if b 21 then .ref 1000 0 l65.length else .ref 1000 0 l17.length))), (1, .i a1), (2, .i a2), (3, .i a3), (10, .i v18), (16, (if b 23 then .ref 1000 0 l68.length else (if b 21 then .ref 1000 0 l65.length else (if b 0 then .ref 1000 0 l17.length else .junk)))), (17, (if b 1 then .i a1 else .junk)), (18, (if b 2 then .i v18 else .junk)), (19, (if b 3 then .i v55 else .junk)), (20, (if b 23 then .ref 1000 0 l68.length else (if b 4 then (if b 21 then .ref 1000 0 l65.length else .ref 1000 0 l17.length) else .junk))), (21, (if b 5 then .i a2 else .junk)), (22, (if b 6 then .i v18 else .junk)), (23, (if b 7 then .i v56 else .junk)), (24, (if b 23 then .ref 1000 0 l68.length else (if b 21 then .ref 1000 0 l65.length else (if b 8 then .ref 1000 0 l17.length else .junk)))), (25, (if b 9 then .i a2 else .junk)), (26, (if b 10 then .i v18 else .junk)), (27, (if b 11 then .i v57 else .junk)), (28, (if b 12 then .ptr 1000 k59 0 else .junk)), (29, (if b 13 then .d (.sl (x58.map cS61)) else .junk)), (30, (if b 23 then .ref 1000 0 l68.length else (if b 21 then .ref 1000 0 l65.length else (if b 14 then .ref 1000 0 l17.length else .junk)))), (31, (if b 15 then .i a1 else .junk)), (32, (if b 16 then .i v18 else .junk)), (33, (if b 17 then .i v60 else .junk)), (34, (if b 18 then .ptr 1000 k62 0 else .junk)), (35, (if b 19 then .d (.sl (x61.map cS61)) else .junk)), (36, (if b 20 then .ptr 1000 k64 0 else .junk)), (37, (if b 22 then .ptr 1000 k67 0 else .junk))] [(1000, (if b 23 then R57 l68 else (if b 21 then R57 l65 else R57 l17)))]) (mk 38 [1000] (L17 l68.length a1 a2 a3 v18) [(1000, R57 l68)]) (by kernel_rfl) (by kernel_rfl) Sub.tt (Steps.cons ?_ (Steps.cons ?_ (Steps.cons ?_ (Steps.cons ?_ (Steps.cons ?_ (Steps.cons ?_ (Steps.cons ?_ (Steps.cons ?_ (Steps.cons ?_ (Steps.cons ?_ (Steps.cons ?_ (Steps.cons ?_ (Steps.cons ?_ (Steps.cons ?_ (Steps.cons ?_ (Steps.cons ?_ (Steps.cons ?_ (Steps.cons ?_ (Steps.cons ?_ (Steps.cons ?_ (Steps.cons ?_ (Steps.cons ?_ (Steps.cons ?_ (Steps.cons ?_ (Steps.nil))))))))))))))))))))))))) ?_ ?_
   iterate 3
    ·intro b h0 ha hd
     have T := fct h0 ha hd; simp at T
     refine .runK [] 1 fun K k => ?_; simp [T]; refine k _ _ ?_; clear k K
     exact .nil (.table (by simp [T]) (by simp [T]))
   ·intro b h0 ha hd
    have T := fct h0 ha hd; simp at T
    refine .runK [] 1 fun K k => ?_; simp [T, hv55]; refine k _ _ ?_; clear k K
    exact .nil (.table (by simp [T]) (by simp [T]))
   iterate 3
    ·intro b h0 ha hd
     have T := fct h0 ha hd; simp at T
     refine .runK [] 1 fun K k => ?_; simp [T]; refine k _ _ ?_; clear k K
     exact .nil (.table (by simp [T]) (by simp [T]))
   ·intro b h0 ha hd
    have T := fct h0 ha hd; simp at T
    refine .runK [] 1 fun K k => ?_; simp [T, hv56]; refine k _ _ ?_; clear k K
    exact .nil (.table (by simp [T]) (by simp [T]))
   iterate 3
    ·intro b h0 ha hd
     have T := fct h0 ha hd; simp at T
     refine .runK [] 1 fun K k => ?_; simp [T]; refine k _ _ ?_; clear k K
     exact .nil (.table (by simp [T]) (by simp [T]))
   ·intro b h0 ha hd
    have T := fct h0 ha hd; simp at T
    refine .runK [] 1 fun K k => ?_; simp [T, hv57]; refine k _ _ ?_; clear k K
    exact .nil (.table (by simp [T]) (by simp [T]))
   ·intro b h0 ha hd
    have T := fct h0 ha hd; simp at T
    refine .runK [] 1 fun K k => ?_; simp [T, hx58k, hx58a, hx58b]; refine k _ _ ?_; clear k K
    exact .nil (.table (by simp [T]) (by simp [T]))
   ·intro b h0 ha hd
    have T := fct h0 ha hd; simp at T
    refine .runK [] 1 fun K k => ?_; simp [T, hx58]; refine k _ _ ?_; clear k K
    exact .nil (.table (by simp [T]) (by simp [T]))
   iterate 3
    ·intro b h0 ha hd
     have T := fct h0 ha hd; simp at T
     refine .runK [] 1 fun K k => ?_; simp [T]; refine k _ _ ?_; clear k K
     exact .nil (.table (by simp [T]) (by simp [T]))
   ·intro b h0 ha hd
    have T := fct h0 ha hd; simp at T
    refine .runK [] 1 fun K k => ?_; simp [T, hv60]; refine k _ _ ?_; clear k K
    exact .nil (.table (by simp [T]) (by simp [T]))
   ·intro b h0 ha hd
    have T := fct h0 ha hd; simp at T
    refine .runK [] 1 fun K k => ?_; simp [T, hx61k, hx61a, hx61b]; refine k _ _ ?_; clear k K
    exact .nil (.table (by simp [T]) (by simp [T]))
   ·intro b h0 ha hd
    have T := fct h0 ha hd; simp at T
    refine .runK [] 1 fun K k => ?_; simp [T, hx61]; refine k _ _ ?_; clear k K
    exact .nil (.table (by simp [T]) (by simp [T]))
   ·intro b h0 ha hd
    have T := fct h0 ha hd; simp at T
    refine .runK [] 1 fun K k => ?_; simp [T, hx63k, hx63a, hx63b]; refine k _ _ ?_; clear k K
    exact .nil (.table (by simp [T]) (by simp [T]))
   ·intro b h0 ha hd
    have T := fct h0 ha hd; simp at T
    refine .runK [] 1 fun K k => ?_; simp [T, hx63, hl65]; refine k _ _ ?_; clear k K
    exact .nil (.table (by simp [T, hl65n]) (by simp [T]))
   ·intro b h0 ha hd
    have T := fct h0 ha hd; simp at T
    refine .runK [] 1 fun K k => ?_; simp [T, hx66k, hx66a, hx66b]; refine k _ _ ?_; clear k K
    exact .nil (.table (by simp [T]) (by simp [T]))
   ·intro b h0 ha hd
    have T := fct h0 ha hd; simp at T
    refine .runK [] 1 fun K k => ?_; simp [T, hx66, hl68]; refine k _ _ ?_; clear k K
    exact .nil (.table (by simp [T, hl68n]) (by simp))
   ·intro b hb
    have t0 := hb 0 (by decide)
    have t1 := hb 1 (by decide)
    have t2 := hb 2 (by decide)
    have t3 := hb 3 (by decide)
    have t4 := hb 4 (by decide)
    have t5 := hb 5 (by decide)
    have t6 := hb 6 (by decide)
    have t7 := hb 7 (by decide)
    have t8 := hb 8 (by decide)
    have t9 := hb 9 (by decide)
    have t10 := hb 10 (by decide)
    have t11 := hb 11 (by decide)
    have t12 := hb 12 (by decide)
    have t13 := hb 13 (by decide)
    have t14 := hb 14 (by decide)
    have t15 := hb 15 (by decide)
    have t16 := hb 16 (by decide)
    have t17 := hb 17 (by decide)
    have t18 := hb 18 (by decide)
    have t19 := hb 19 (by decide)
    have t20 := hb 20 (by decide)
    have t21 := hb 21 (by decide)
    have t22 := hb 22 (by decide)
    have t23 := hb 23 (by decide)
    exact Sub.table (by simp [t1, t2, t3, t5, t6, t7, t9, t10, t11, t12, t13, t15, t16, t17, t18, t19, t20, t22, t23]) (by simp [t23])
   skip
   refine blockQ.normal ?_
   refine thenQ_normal ?_
   refine .region ?_
   replace h := bsome h; obtain ⟨v69, hv69, h⟩ := h
   have hv69 := chkI_some hv69
   refine .runK [] 3 fun K k => ?_; simp [hv69]; refine k _ _ ?_; clear k K
   refine .tt (L17 l68.length a1 a2 a3 v69) [(1000, R57 l68)] ?_
   refine .nil ?_
   cases h
   refine PostI.next ?_
   exact Sub.tt
  have c54_ : decide (v18 < a3) = false := decide_eq_false c54
  refine .condF (b := decide (v18 < a3)) rfl c54_ ?_
  refine .sub (.bool 13 (b := decide (v18 < a3)) rfl c54_) ?_
  refine .st (mk 38 [1000] (L17 l17.length a1 a2 a3 v18 ++ [(13, .b false)]) [(1000, R57 l17)]) ?_
  refine .exit ?_
  cases h
  refine thenQ_pass (by simp) ?_
  refine PostI.out (by simp) ?_
  rintro rfl
  refine blockQ.hit ?_
  refine PostN.next ?_
  exact Sub.tt
 rintro l53 h
 cases h
 exact FinF.normal (by simp) (by simp)
/-- slices.rotateCmpFunc[stemma/api.Row] -/
def d204 (N : Nat) (a0 : (List (List S61))) (a1 : Int) (a2 : Int) (a3 : Int) (p4 : (List S61) → (List S61) → Option Int) : Option (List (List S61)) :=
 (chkI (a2 - a1)).bind fun v1 =>
 (chkI (a3 - a2)).bind fun v2 =>
 Option.bind (α := ((List (List S61)) × Int)) (
  iterN (σ := ((List (List S61)) × Int × Int)) (ρ := ((List (List S61)) × Int)) (fun ((l13, v14, v15) : ((List (List S61)) × Int × Int)) =>
   if (v14 != v15) then (
    if v14 > v15 then (
     (chkI (a2 - v14)).bind fun v43 =>
     (d229 N l13 v43 a2 v15 p4).bind fun r44 =>
     (lenG r44.length l13.length).bind fun _ =>
     (chkI (v14 - v15)).bind fun v45 =>
     some (.inl (r44, v45, v15))
    ) else
    (chkI (a2 - v14)).bind fun v46 =>
    (chkI (a2 + v15)).bind fun v47 =>
    (chkI (v47 - v14)).bind fun v48 =>
    (d229 N l13 v46 v48 v14 p4).bind fun r49 =>
    (lenG r49.length l13.length).bind fun _ =>
    (chkI (v15 - v14)).bind fun v50 =>
    some (.inl (r49, v14, v50))
   ) else
   some (.inr (l13, v14))
  ) N (a0, v1, v2)
 ) fun ((l39, v40) : ((List (List S61)) × Int)) =>
 (chkI (a2 - v40)).bind fun v51 =>
 (d229 N l39 v51 a2 v40 p4).bind fun r52 =>
 (lenG r52.length l39.length).bind fun _ =>
 some r52
set_option maxRecDepth 100000 in
set_option maxHeartbeats 4000000 in
theorem p204 (N : Nat) (a0 : (List (List S61))) (a1 : Int) (a2 : Int) (a3 : Int) (g4 : Nat) (cs4 : List D) (p4 : (List S61) → (List S61) → Option Int) (ent_4 : Rp.Enters Tryz.prog g4) (hp4 : ∀ a0 a1 r, p4 a0 a1 = some r → FunC Tryz.prog g4 ([.d (.sl (a0.map cS61)), .d (.sl (a1.map cS61))] ++ cs4.map .d) (.i r)) (r : (List (List S61))) (h : d204 N a0 a1 a2 a3 p4 = some r) : FunM Tryz.prog 204 [.ref 1000 0 a0.length, .i a1, .i a2, .i a3, .fn (.func g4) (cs4.map .d)] [(1000, R57 a0)] [1000] (.tup []) ([(1000, .arr 57 1 (r.map (cL cS61)))]) := by
 unfold d204 at h
 refine FunM.enter 58 [(0, .ref 1000 0 a0.length), (1, .i a1), (2, .i a2), (3, .i a3), (4, .fn (.func g4) (cs4.map .d))] Tryz.func204 rfl (of_decide_eq_true rfl) rfl rfl ?_
 refine .seqR ?_
 replace h := bsome h; obtain ⟨v1, hv1, h⟩ := h
 have hv1 := chkI_some hv1
 refine .runK [] 4 fun K k => ?_; simp [hv1]; refine k _ _ ?_; clear k K
 refine .tt [(0, .ref 1000 0 a0.length), (2, .i a2), (3, .i a3), (4, .fn (.func g4) (cs4.map .d)), (10, .i v1)] [(1000, R57 a0)] ?_
 refine .nil ?_
 refine .seqR ?_
 replace h := bsome h; obtain ⟨v2, hv2, h⟩ := h
 have hv2 := chkI_some hv2
 refine .runK [] 4 fun K k => ?_; simp [hv2]; refine k _ _ ?_; clear k K
 refine .tt [(0, .ref 1000 0 a0.length), (2, .i a2), (4, .fn (.func g4) (cs4.map .d)), (10, .i v1), (11, .i v2)] [(1000, R57 a0)] ?_
 refine .nil ?_
 refine .seqN (fun ((l39, v40) : ((List (List S61)) × Int)) => mk 58 [1000] [(0, .ref 1000 0 l39.length), (2, .i a2), (4, .fn (.func g4) (cs4.map .d)), (10, .i v40)] [(1000, R57 l39)]) h ?_ ?_ <;> clear h
 ·intro o h
  refine .block ?_
  refine .iter (fun ((l13, v14, v15) : ((List (List S61)) × Int × Int)) => mk 58 [1000] [(0, .ref 1000 0 l13.length), (2, .i a2), (4, .fn (.func g4) (cs4.map .d)), (10, .i v14), (11, .i v15)] [(1000, R57 l13)]) h Sub.tt ?_
  clear h
  rintro ⟨l13, v14, v15⟩ x h
  dsimp only at h ⊢
  refine .seq ?_
  refine .seqR ?_
  refine .runK [] 3 fun K k => ?_; simp; refine k _ _ ?_; clear k K
  refine .tt [(0, .ref 1000 0 l13.length), (2, .i a2), (4, .fn (.func g4) (cs4.map .d)), (10, .i v14), (11, .i v15), (20, .b (v14 != v15))] [(1000, R57 l13)] ?_
  refine .nil ?_
  replace h := isome h; rcases h with ⟨c41, h⟩ | ⟨c41, h⟩
  ·have c41_ : (v14 != v15) = true := c41
   refine .condT (b := (v14 != v15)) rfl c41_ ?_
   refine .sub (.bool 20 (b := (v14 != v15)) rfl c41_) ?_
   refine .st (mk 58 [1000] [(0, .ref 1000 0 l13.length), (2, .i a2), (4, .fn (.func g4) (cs4.map .d)), (10, .i v14), (11, .i v15), (20, .b true)] [(1000, R57 l13)]) ?_
   refine .skip ?_
   refine thenQ_normal ?_
   refine .block ?_
   refine .seqR ?_
   refine .runK [] 3 fun K k => ?_; simp; refine k _ _ ?_; clear k K
   refine .tt [(0, .ref 1000 0 l13.length), (2, .i a2), (4, .fn (.func g4) (cs4.map .d)), (10, .i v14), (11, .i v15), (23, .b (decide (v14 > v15)))] [(1000, R57 l13)] ?_
   refine .nil ?_
   replace h := isome h; rcases h with ⟨c42, h⟩ | ⟨c42, h⟩
   ·have c42_ : decide (v14 > v15) = true := decide_eq_true c42
    refine .condT (b := decide (v14 > v15)) rfl c42_ ?_
    refine .sub (.bool 23 (b := decide (v14 > v15)) rfl c42_) ?_
    refine .st (mk 58 [1000] [(0, .ref 1000 0 l13.length), (2, .i a2), (4, .fn (.func g4) (cs4.map .d)), (10, .i v14), (11, .i v15), (23, .b true)] [(1000, R57 l13)]) ?_
    refine .seqR ?_
    replace h := bsome h; obtain ⟨v43, hv43, h⟩ := h
    have hv43 := chkI_some hv43
    refine .runK [] 7 fun K k => ?_; simp [hv43]; refine k _ _ ?_; clear k K
    refine .tt [(0, .ref 1000 0 l13.length), (2, .i a2), (4, .fn (.func g4) (cs4.map .d)), (10, .i v14), (11, .i v15), (24, .ref 1000 0 l13.length), (27, .i v43), (28, .i a2), (29, .i v15), (30, .fn (.func g4) (cs4.map .d))] [(1000, R57 l13)] ?_
    replace h := bsome h; obtain ⟨r44, hr44, h⟩ := h
    refine .callF (p229 N l13 v43 a2 v15 g4 cs4 p4 ent_4 hp4 r44 hr44) [(1000, 1000)] [1000] [(1000, 1000)] [(1000, .arr 57 1 (r44.map (cL cS61)))] (.tup []) (by simp) rfl (by simp <;> rfl) (by simp) (by simp) (by simp) (by simp) (by simp) ent229 (by simp) (by simp) (by simp) (by simp) (by simp) (by simp) ?_
    replace h := bsome h; obtain ⟨ur44, kr44, h⟩ := h
    have hlr44 := lenG_some kr44
    clear kr44
    refine .sub (S' := mk 58 [1000] [(0, .ref 1000 0 r44.length), (2, .i a2), (4, .fn (.func g4) (cs4.map .d)), (10, .i v14), (11, .i v15), (24, .ref 1000 0 r44.length), (27, .i v43), (28, .i a2), (29, .i v15), (30, .fn (.func g4) (cs4.map .d)), (31, .tup [])] [(1000, R57 r44)]) (by simp [hlr44]; exact Sub.table (by simp) (by simp)) ?_
    refine .nil ?_
    refine .region ?_
    replace h := bsome h; obtain ⟨v45, hv45, h⟩ := h
    have hv45 := chkI_some hv45
    refine .runK [] 4 fun K k => ?_; simp [hv45]; refine k _ _ ?_; clear k K
    refine .tt [(0, .ref 1000 0 r44.length), (2, .i a2), (4, .fn (.func g4) (cs4.map .d)), (10, .i v45), (11, .i v15)] [(1000, R57 r44)] ?_
    refine .nil ?_
    cases h
    refine blockQ.normal ?_
    refine PostI.next ?_
    exact Sub.tt
   have c42_ : decide (v14 > v15) = false := decide_eq_false c42
   refine .condF (b := decide (v14 > v15)) rfl c42_ ?_
   refine .sub (.bool 23 (b := decide (v14 > v15)) rfl c42_) ?_
   refine .st (mk 58 [1000] [(0, .ref 1000 0 l13.length), (2, .i a2), (4, .fn (.func g4) (cs4.map .d)), (10, .i v14), (11, .i v15), (23, .b false)] [(1000, R57 l13)]) ?_
   refine .seqR ?_
   replace h := bsome h; obtain ⟨v46, hv46, h⟩ := h
   have hv46 := chkI_some hv46
   replace h := bsome h; obtain ⟨v47, hv47, h⟩ := h
   have hv47 := chkI_some hv47
   replace h := bsome h; obtain ⟨v48, hv48, h⟩ := h
   have hv48 := chkI_some hv48
   refine .runK [] 11 fun K k => ?_; simp [hv46, hv47, hv48]; refine k _ _ ?_; clear k K
   refine .tt [(0, .ref 1000 0 l13.length), (2, .i a2), (4, .fn (.func g4) (cs4.map .d)), (10, .i v14), (11, .i v15), (35, .ref 1000 0 l13.length), (38, .i v46), (43, .i v48), (44, .i v14), (45, .fn (.func g4) (cs4.map .d))] [(1000, R57 l13)] ?_
   replace h := bsome h; obtain ⟨r49, hr49, h⟩ := h
   refine .callF (p229 N l13 v46 v48 v14 g4 cs4 p4 ent_4 hp4 r49 hr49) [(1000, 1000)] [1000] [(1000, 1000)] [(1000, .arr 57 1 (r49.map (cL cS61)))] (.tup []) (by simp) rfl (by simp <;> rfl) (by simp) (by simp) (by simp) (by simp) (by simp) ent229 (by simp) (by simp) (by simp) (by simp) (by simp) (by simp) ?_
   replace h := bsome h; obtain ⟨ur49, kr49, h⟩ := h
   have hlr49 := lenG_some kr49
   clear kr49
   refine .sub (S' := mk 58 [1000] [(0, .ref 1000 0 r49.length), (2, .i a2), (4, .fn (.func g4) (cs4.map .d)), (10, .i v14), (11, .i v15), (35, .ref 1000 0 r49.length), (38, .i v46), (43, .i v48), (44, .i v14), (45, .fn (.func g4) (cs4.map .d)), (46, .tup [])] [(1000, R57 r49)]) (by simp [hlr49]; exact Sub.table (by simp) (by simp)) ?_
   refine .nil ?_
   refine .region ?_
   replace h := bsome h; obtain ⟨v50, hv50, h⟩ := h
   have hv50 := chkI_some hv50
   refine .runK [] 4 fun K k => ?_; simp [hv50]; refine k _ _ ?_; clear k K
   refine .tt [(0, .ref 1000 0 r49.length), (2, .i a2), (4, .fn (.func g4) (cs4.map .d)), (10, .i v14), (11, .i v50)] [(1000, R57 r49)] ?_
   refine .nil ?_
   cases h
   refine blockQ.normal ?_
   refine PostI.next ?_
   exact Sub.tt
  have c41_ : (v14 != v15) = false := Bool.eq_false_iff.2 c41
  refine .condF (b := (v14 != v15)) rfl c41_ ?_
  refine .sub (.bool 20 (b := (v14 != v15)) rfl c41_) ?_
  refine .st (mk 58 [1000] [(0, .ref 1000 0 l13.length), (2, .i a2), (4, .fn (.func g4) (cs4.map .d)), (10, .i v14), (11, .i v15), (20, .b false)] [(1000, R57 l13)]) ?_
  refine .exit ?_
  cases h
  refine thenQ_pass (by simp) ?_
  refine PostI.out (by simp) ?_
  rintro rfl
  refine blockQ.hit ?_
  refine PostN.next ?_
  exact Sub.tt
 rintro ⟨l39, v40⟩ h
 dsimp only at h ⊢
 refine .region ?_
 replace h := bsome h; obtain ⟨v51, hv51, h⟩ := h
 have hv51 := chkI_some hv51
 refine .runK [] 7 fun K k => ?_; simp [hv51]; refine k _ _ ?_; clear k K
 refine .tt [(50, .ref 1000 0 l39.length), (53, .i v51), (54, .i a2), (55, .i v40), (56, .fn (.func g4) (cs4.map .d))] [(1000, R57 l39)] ?_
 replace h := bsome h; obtain ⟨r52, hr52, h⟩ := h
 refine .callF (p229 N l39 v51 a2 v40 g4 cs4 p4 ent_4 hp4 r52 hr52) [(1000, 1000)] [1000] [(1000, 1000)] [(1000, .arr 57 1 (r52.map (cL cS61)))] (.tup []) (by simp) rfl (by simp <;> rfl) (by simp) (by simp) (by simp) (by simp) (by simp) ent229 (by simp) (by simp) (by simp) (by simp) (by simp) (by simp) ?_
 replace h := bsome h; obtain ⟨ur52, kr52, h⟩ := h
 have hlr52 := lenG_some kr52
 clear kr52
 refine .sub (S' := mk 58 [1000] [(50, .ref 1000 0 r52.length), (53, .i v51), (54, .i a2), (55, .i v40), (56, .fn (.func g4) (cs4.map .d)), (57, .tup [])] [(1000, R57 r52)]) (by simp [hlr52]; exact Sub.table (by simp) (by simp)) ?_
 refine .nil ?_
 cases h
 exact FinF.normal (by simp) (by simp)
end Go.Proofs.YtimkkjiplioohaaGreatDoor
