/- Functions of the program as functional programs; the code computes them. -/
import Derived.Test.YtmgddgcniacnbaaGreatDoorCa4
namespace Go.Proofs.YtmgddgcniacnbaaGreatDoor
set_option maxRecDepth 100000
set_option maxHeartbeats 4000000
open Go.Ab Go.Rp
attribute [-simp] List.all_eq_true Array.all_toList Array.all_eq_true
def d73 : (N : Nat) → (a0 : S76) → (a1 : (List Int)) → (a2 : Bool) → (a3 : (List Bool)) → (a4 : Unit) → Option ((List Int) × Bool × (List Bool) × Unit)
 | 0,_,_,_,_,_ => none
 | N + 1,a0,a1,a2,a3,_a4 =>
  Option.bind (α := Bool) (
   if (a0.Kind == 3) then (
    if a0.Index ≥ 0 then (
     some (decide (a0.Index < 8))
    ) else
    some false
   ) else
   some false
  ) fun (v3 : Bool) =>
  Option.bind (α := ((List Int) × Bool × (List Bool))) (
   if v3 = true then (
    Option.bind (α := List Int) (
     iterN (σ := List Int) (ρ := List Int) (fun (l42 : List Int) =>
      if (l42.length : Int) ≤ a0.Index then (
       (appL 8 l42 [0]).bind fun _l50 =>
       some (.inl (l42 ++ [0]))
      ) else
      some (.inr l42)
     ) N a1
    ) fun (l48 : List Int) =>
    Option.bind (α := Bool) (
     if a2 = true then (
      some true
     ) else
     (arrI a0.Index 8).bind fun k59 =>
     (a3[k59]?).bind fun x60 =>
     if x60 = true then (
      (idx l48 a0.Index).bind fun x62 =>
      some (x62 != a0.Value.Kind)
     ) else
     some false
    ) fun (v57 : Bool) =>
    (idx l48 a0.Index).bind fun _x64 =>
    letv (setI l48 a0.Index a0.Value.Kind) fun l66 =>
    (arrI a0.Index 8).bind fun k67 =>
    (setN a3 (k67) true).bind fun l68 =>
    some (l66,v57,l68)
   ) else
   some (a1,a2,a3)
  ) fun ((l36,v37,l38) : ((List Int) × Bool × (List Bool))) =>
  Option.bind (α := ((List Int) × Bool × (List Bool))) (
   iterN (σ := ((List Int) × Bool × (List Bool) × Int)) (ρ := ((List Int) × Bool × (List Bool))) (fun ((l73,v74,l75,v76) : ((List Int) × Bool × (List Bool) × Int)) =>
    if v76 < (a0.Args.length : Int) then (
     (idx a0.Args v76).bind fun x95 =>
     (d73 N x95 l73 v74 l75 ()).bind fun r97 =>
     (chkI (v76 + 1)).bind fun v98 =>
     some (.inl (r97.1,r97.2.1,r97.2.2.1,v98))
    ) else
    some (.inr (l73,v74,l75))
   ) N (l36,v37,l38,0)
  ) fun ((l91,v92,l93) : ((List Int) × Bool × (List Bool))) =>
  some (l91,v92,l93,())
theorem p73 (N : Nat) : ∀ (a0 : S76) (a1 : (List Int)) (a2 : Bool) (a3 : (List Bool)) (a4 : Unit) (r : ((List Int) × Bool × (List Bool) × Unit)) (_ : d73 N a0 a1 a2 a3 a4 = some r),FunM Tryz.prog 73 [.agg (k76 a0),.ptr 1000 0 0,.ptr 2000 0 0,.ptr 3000 0 0,.ptr 4000 0 0] [(1000,some (.box [.ref 25000 0 a1.length])),(2000,some (.box [.b a2])),(3000,some (.box (a3.map vB))),(4000,some (.box [.fn (.func 73) [.ptr 1000 0 0,.ptr 2000 0 0,.ptr 3000 0 0,.ptr 4000 0 0]])),(25000,R3 a1)] [1000,2000,3000,4000] (.tup []) ([(1000,(.box [.ref 25000 0 r.1.length])),(25000,(.arr 3 1 (r.1.map (cI .i64)))),(2000,(.box [.b r.2.1])),(3000,(.box (r.2.2.1.map vB))),(4000,(.box [.fn (.func 73) [.ptr 1000 0 0,.ptr 2000 0 0,.ptr 3000 0 0,.ptr 4000 0 0]]))]) := by
 induction N with
 | zero => intro a0 a1 a2 a3 a4 r h;cases h
 | succ N ih =>
 intro a0 a1 a2 a3 a4 r h
 unfold d73 at h
 refine FunM.enter 68 [(0,.agg (k76 a0)),(1,.ptr 1000 0 0),(2,.ptr 2000 0 0),(3,.ptr 3000 0 0),(4,.ptr 4000 0 0)] Tryz.func73 rfl (of_decide_eq_true rfl) rfl rfl ?_
 refine .seqR ?_
 refine .rr 1 ?_
 refine .tt (L37) [(5,some (.box (k76 a0))),(1000,some (.box [.ref 25000 0 a1.length])),(2000,some (.box [.b a2])),(3000,some (.box (a3.map vB))),(4000,some (.box [.fn (.func 73) [.ptr 1000 0 0,.ptr 2000 0 0,.ptr 3000 0 0,.ptr 4000 0 0]])),(25000,R3 a1)] (.nil (.seq ?_))
 replace h := bsome h;obtain ⟨v3,hj,h⟩ := h
 refine .cutR (mk 68 [1000,2000,3000,4000] (L37 ++ [(20,.b v3)]) [(5,some (.box (k76 a0))),(1000,some (.box [.ref 25000 0 a1.length])),(2000,some (.box [.b a2])),(3000,some (.box (a3.map vB))),(4000,some (.box [.fn (.func 73) [.ptr 1000 0 0,.ptr 2000 0 0,.ptr 3000 0 0,.ptr 4000 0 0]])),(25000,R3 a1)]) ?_ ?_
 ·clear h;have h := hj;clear hj
  refine .rr 4 ?_
  replace h := isome h;rcases h with ⟨c4,h⟩ | ⟨c4,h⟩
  ·refine .sub (.bool 11 rfl c4) ?_
   refine .rr 5 ?_
   replace h := isome h;rcases h with ⟨c5,h⟩ | ⟨c5,h⟩
   ·refine .sub (.bool 16 rfl (decide_eq_true c5)) ?_
    refine .rr 4 ?_
    cases h
    exact .nil .tt
   ·refine .sub (.bool 16 rfl (decide_eq_false c5)) ?_
    refine .rr 4 ?_
    cases h
    exact .nil .tt
  ·refine .sub (.bool 11 rfl (Bool.eq_false_iff.2 c4)) ?_
   refine .rr 9 ?_
   cases h
   exact .nil .tt
 ·clear hj
  refine .lastN (fun ((l36,v37,l38) : ((List Int) × Bool × (List Bool))) => mk 68 [1000,2000,3000,4000] [(4,.ptr 4000 0 0),(5,.ptr 5 0 0)] [(5,some (.box (k76 a0))),(1000,some (.box [.ref 25000 0 l36.length])),(2000,some (.box [.b v37])),(3000,some (.box (l38.map vB))),(4000,some (.box [.fn (.func 73) [.ptr 1000 0 0,.ptr 2000 0 0,.ptr 3000 0 0,.ptr 4000 0 0]])),(25000,R3 l36)]) h ?_ ?_ <;> clear h
  ·intro o h
   replace h := isome h;rcases h with ⟨c39,h⟩ | ⟨c39,h⟩
   ·refine .condT rfl c39 ?_
    refine .seqN (fun (l48 : List Int) => mk 68 [1000,2000,3000,4000] (L37) [(5,some (.box (k76 a0))),(1000,some (.box [.ref 25000 0 l48.length])),(2000,some (.box [.b a2])),(3000,some (.box (a3.map vB))),(4000,some (.box [.fn (.func 73) [.ptr 1000 0 0,.ptr 2000 0 0,.ptr 3000 0 0,.ptr 4000 0 0]])),(25000,R3 l48)]) h ?_ ?_ <;> clear h
    ·intro o h
     refine .block ?_
     refine .iter (fun (l42 : List Int) => mk 68 [1000,2000,3000,4000] (L37) [(5,some (.box (k76 a0))),(1000,some (.box [.ref 25000 0 l42.length])),(2000,some (.box [.b a2])),(3000,some (.box (a3.map vB))),(4000,some (.box [.fn (.func 73) [.ptr 1000 0 0,.ptr 2000 0 0,.ptr 3000 0 0,.ptr 4000 0 0]])),(25000,R3 l42)]) h Sub.tt ?_
     clear h
     rintro l42 x h
     refine .seq (.seqR ?_)
     refine .rr 5 ?_
     refine .nil ?_
     replace h := isome h;rcases h with ⟨c49,h⟩ | ⟨c49,h⟩
     ·refine .condT rfl (decide_eq_true c49) ?_
      refine .skip (thenQ_normal (.block (.region ?_)))
      replace h := bsome h;obtain ⟨l50,hl50,h⟩ := h
      obtain ⟨hl50a,hl50⟩ := appL_some hl50
      subst hl50
      try simp only [List.length_cons,List.length_nil,Nat.zero_add] at hl50a
      refine .runK [27] 4 fun K k => ?_;simp [hl50a];refine k _ _ ?_;clear k K
      refine .nil ?_
      cases h
      refine blockQ.normal (PostI.next ?_)
      exact Sub.tt
     ·refine .condF rfl (decide_eq_false c49) ?_
      refine .exit ?_
      cases h
      refine thenQ_ps ?_
      refine PostI.os ?_
      rintro rfl
      refine blockQ.hit (PostN.next ?_)
      exact Sub.tt
    ·rintro l48 h
     replace h := bsome h;obtain ⟨v57,hj,h⟩ := h
     refine .seqQT 18 (by kernel_rfl) (by kernel_rfl) (Chain.cut (mk 68 [1000,2000,3000,4000] (L37 ++ [(46,.b v57)]) [(5,some (.box (k76 a0))),(1000,some (.box [.ref 25000 0 l48.length])),(2000,some (.box [.b a2])),(3000,some (.box (a3.map vB))),(4000,some (.box [.fn (.func 73) [.ptr 1000 0 0,.ptr 2000 0 0,.ptr 3000 0 0,.ptr 4000 0 0]])),(25000,R3 l48)]) ?_ fun S' hS => ?_)
     ·simp only [List.take_succ_cons,List.take_zero]
      clear h;have h := hj;clear hj
      refine .rq 2 fun K k => ?_;simp;refine k ?_
      replace h := isome h;rcases h with ⟨c58,h⟩ | ⟨c58,h⟩
      ·refine .sub (.bool 30 rfl c58) ?_
       refine .rq 16 fun K k => ?_;simp;refine k ?_
       cases h
       exact .nil .tt
      ·refine .sub (.bool 30 rfl (Bool.eq_false_iff.2 c58)) ?_
       refine .st (mk 68 [1000,2000,3000,4000] (L38) [(5,some (.box (k76 a0))),(1000,some (.box [.ref 25000 0 l48.length])),(2000,some (.box [.b a2])),(3000,some (.box (a3.map vB))),(4000,some (.box [.fn (.func 73) [.ptr 1000 0 0,.ptr 2000 0 0,.ptr 3000 0 0,.ptr 4000 0 0]])),(25000,R3 l48)]) ?_
       replace h := bsome h;obtain ⟨k59,gk59,h⟩ := h
       obtain ⟨hk59,hk59a,hk59b,hk59c⟩ := arrI_some gk59
       have hk59b : a0.Index < 8 := hk59b
       replace h := bsome h;obtain ⟨x60,hx60,h⟩ := h
       refine .rq 5 fun K k => ?_;simp [hk59,hk59a,hk59b,hx60];refine k ?_
       replace h := isome h;rcases h with ⟨c61,h⟩ | ⟨c61,h⟩
       ·refine .sub (.bool 35 rfl c61) ?_
        refine .st (mk 68 [1000,2000,3000,4000] (L38 ++ [(35,.b true)]) [(5,some (.box (k76 a0))),(1000,some (.box [.ref 25000 0 l48.length])),(2000,some (.box [.b a2])),(3000,some (.box (a3.map vB))),(4000,some (.box [.fn (.func 73) [.ptr 1000 0 0,.ptr 2000 0 0,.ptr 3000 0 0,.ptr 4000 0 0]])),(25000,R3 l48)]) ?_
        replace h := xsome h;obtain ⟨x62,k63,hx62k,hx62,hx62a,hx62b,h⟩ := h
        refine .rq 11 fun K k => ?_;simp [hx62,hx62k,hx62a,hx62b];refine k ?_
        cases h
        exact .nil .tt
       ·refine .sub (.bool 35 rfl (Bool.eq_false_iff.2 c61)) ?_
        refine .rq 11 fun K k => ?_;simp;refine k ?_
        cases h
        exact .nil .tt
     ·simp only [List.drop_succ_cons,List.drop_zero]
      clear hj
      refine .sub hS ?_
      refine .rr 1 ?_
      refine .tt [(1,.ptr 1000 0 0),(3,.ptr 3000 0 0),(4,.ptr 4000 0 0),(5,.ptr 5 0 0)] [(5,some (.box (k76 a0))),(1000,some (.box [.ref 25000 0 l48.length])),(2000,some (.box [.b v57])),(3000,some (.box (a3.map vB))),(4000,some (.box [.fn (.func 73) [.ptr 1000 0 0,.ptr 2000 0 0,.ptr 3000 0 0,.ptr 4000 0 0]])),(25000,R3 l48)] (.nil ?_)
      replace h := xsome h;obtain ⟨x64,k65,hx64k,hx64,hx64a,hx64b,h⟩ := h
      replace h := lsome h;obtain ⟨l66,gl66,h⟩ := h
      obtain ⟨hl66,hl66n⟩ := setI_some (cI .i64) gl66 hx64k
      replace hl66 : (l48.map (cI .i64)).set k65 [.lit (.int .i64 a0.Value.Kind)] = l66.map (cI .i64) := hl66
      clear gl66
      replace h := bsome h;obtain ⟨k67,gk67,h⟩ := h
      obtain ⟨hk67,hk67a,hk67b,hk67c⟩ := arrI_some gk67
      have hk67b : a0.Index < 8 := hk67b
      have hk67e : k65 = k67 := hx64k.symm.trans hk67
      subst hk67e
      replace h := bsome h;obtain ⟨l68,gl68,h⟩ := h
      obtain ⟨hl68a,hl68b,hl68c⟩ := setN_some vB gl68
      replace hl68b : (a3.map vB).take (k65) ++ .d (.lit (.bool true)) :: (a3.map vB).drop (k65 + 1) = l68.map vB := hl68b
      refine .lastAnyS [[],[],[1],[],[3],[],[5],[5,6],[0,1,2,5,6,7],[0,1,2,5,6,7,8],[0,1,2,3,4,5,6,7,8,9],[0,1,2,3,4,5,6,7,8,9,10]] (fun (b : Nat → Bool) => mk 68 [1000,2000,3000,4000] [(1,.ptr 1000 0 0),(3,.ptr 3000 0 0),(4,.ptr 4000 0 0),(5,.ptr 5 0 0),(47,(if b 9 then .ref 25000 0 l66.length else (if b 0 then .ref 25000 0 l48.length else .junk))),(48,(if b 1 then .ptr 5 0 2 else .junk)),(49,(if b 2 then .i a0.Index else .junk)),(50,(if b 3 then .ptr 5 0 2 else .junk)),(51,(if b 4 then .i a0.Index else .junk)),(52,(if b 5 then .ptr 5 0 3 else .junk)),(53,(if b 6 then .ptr 5 0 3 else .junk)),(54,(if b 7 then .i a0.Value.Kind else .junk)),(55,(if b 8 then .ptr 25000 k65 0 else .junk)),(56,(if b 10 then .ptr 3000 0 k65 else .junk))] [(5,some (.box (k76 a0))),(1000,(if b 9 then some (.box [.ref 25000 0 l66.length]) else some (.box [.ref 25000 0 l48.length]))),(2000,some (.box [.b v57])),(3000,(if b 11 then some (.box (l68.map vB)) else some (.box (a3.map vB)))),(4000,some (.box [.fn (.func 73) [.ptr 1000 0 0,.ptr 2000 0 0,.ptr 3000 0 0,.ptr 4000 0 0]])),(25000,(if b 9 then R3 l66 else R3 l48))]) (mk 68 [1000,2000,3000,4000] [(4,.ptr 4000 0 0),(5,.ptr 5 0 0)] [(5,some (.box (k76 a0))),(1000,some (.box [.ref 25000 0 l66.length])),(2000,some (.box [.b v57])),(3000,some (.box (l68.map vB))),(4000,some (.box [.fn (.func 73) [.ptr 1000 0 0,.ptr 2000 0 0,.ptr 3000 0 0,.ptr 4000 0 0]])),(25000,R3 l66)]) (by kernel_rfl) (by kernel_rfl) Sub.tt (Steps.cons ?_ (Steps.cons ?_ (Steps.cons ?_ (Steps.cons ?_ (Steps.cons ?_ (Steps.cons ?_ (Steps.cons ?_ (Steps.cons ?_ (Steps.cons ?_ (Steps.cons ?_ (Steps.cons ?_ (Steps.cons ?_ (Steps.nil))))))))))))) ?_ ?_
      ·intro b h0 ha hd
       have T := fct h0 ha hd;simp at T
       refine .rk 1 fun K k => ?_;simp [T];refine k ?_
       exact .nil .tT
      iterate 11
       ·intro b h0 ha hd
        have T := fct h0 ha hd;simp at T
        refine .rk 1 fun K k => ?_;simp [T,hx64,hx64k,hx64a,hx64b,hl66,hk67b,hl68a,hl68b];refine k ?_
        exact .nil (.table (by simp [T,hl66n]) (by simp [T,hl66n]))
      ·intro b hb
       have T := FA_of (n := 12) hb;simp at T
       exact Sub.tT
      ·skip
       cases h
       refine PostN.next ?_
       exact Sub.tt
   ·refine .condF rfl (Bool.eq_false_iff.2 c39) ?_
    refine .skip ?_
    cases h
    refine PostN.next ?_
    exact Sub.tt
  ·rintro ⟨l36,v37,l38⟩ h
   dsimp only at h ⊢
   refine thenQ_normal (.seqR ?_)
   refine .rr 4 ?_
   refine .tt [(4,.ptr 4000 0 0),(58,.s76 a0.Args),(59,.i (a0.Args.length : Int)),(60,.i 0)] [(1000,some (.box [.ref 25000 0 l36.length])),(2000,some (.box [.b v37])),(3000,some (.box (l38.map vB))),(4000,some (.box [.fn (.func 73) [.ptr 1000 0 0,.ptr 2000 0 0,.ptr 3000 0 0,.ptr 4000 0 0]])),(25000,R3 l36)] (.nil ?_)
   refine .lastN (fun ((l91,v92,l93) : ((List Int) × Bool × (List Bool))) => mk 68 [1000,2000,3000,4000] [] [(1000,some (.box [.ref 25000 0 l91.length])),(2000,some (.box [.b v92])),(3000,some (.box (l93.map vB))),(4000,some (.box [.fn (.func 73) [.ptr 1000 0 0,.ptr 2000 0 0,.ptr 3000 0 0,.ptr 4000 0 0]])),(25000,R3 l91)]) h ?_ ?_ <;> clear h
   ·intro o h
    refine .block ?_
    refine .iter (fun ((l73,v74,l75,v76) : ((List Int) × Bool × (List Bool) × Int)) => mk 68 [1000,2000,3000,4000] (L39 a0.Args a0.Args.length v76) [(1000,some (.box [.ref 25000 0 l73.length])),(2000,some (.box [.b v74])),(3000,some (.box (l75.map vB))),(4000,some (.box [.fn (.func 73) [.ptr 1000 0 0,.ptr 2000 0 0,.ptr 3000 0 0,.ptr 4000 0 0]])),(25000,R3 l73)]) h Sub.tt ?_
    clear h
    rintro ⟨l73,v74,l75,v76⟩ x h
    dsimp only at h ⊢
    refine .seqR ?_
    refine .rr 1 ?_
    refine .nil (.seq ?_)
    replace h := isome h;rcases h with ⟨c94,h⟩ | ⟨c94,h⟩
    ·refine .condT rfl (decide_eq_true c94) ?_
     refine .skip (thenQ_normal (.seq (.block (.seqR ?_))))
     replace h := xsome h;obtain ⟨x95,k96,hx95k,hx95,hx95a,hx95b,h⟩ := h
     refine .rk 4 fun K k => ?_;simp [hx95,hx95k,hx95a];refine k ?_
     refine .nil (.region ?_)
     refine .rr 2 ?_
     refine .tt (L39 a0.Args a0.Args.length v76 ++ [(64,.fn (.func 73) [.ptr 1000 0 0,.ptr 2000 0 0,.ptr 3000 0 0,.ptr 4000 0 0]),(65,.agg (k76 x95))]) [(1000,some (.box [.ref 25000 0 l73.length])),(2000,some (.box [.b v74])),(3000,some (.box (l75.map vB))),(4000,some (.box [.fn (.func 73) [.ptr 1000 0 0,.ptr 2000 0 0,.ptr 3000 0 0,.ptr 4000 0 0]])),(25000,R3 l73)] ?_
     replace h := bsome h;obtain ⟨r97,hr97,h⟩ := h
     refine .callF (ih x95 l73 v74 l75 () r97 hr97) [(1000,1000),(25000,25000),(2000,2000),(3000,3000),(4000,4000)] [1000,2000,3000,4000] [(1000,1000),(25000,25000),(2000,2000),(3000,3000),(4000,4000)] [(1000,(.box [.ref 25000 0 r97.1.length])),(25000,(.arr 3 1 (r97.1.map (cI .i64)))),(2000,(.box [.d (.lit (.bool r97.2.1))])),(3000,(.box (r97.2.2.1.map vB))),(4000,(.box [.fn (.func 73) [.ptr 1000 0 0,.ptr 2000 0 0,.ptr 3000 0 0,.ptr 4000 0 0]]))] (.tup []) (by simp) rfl (by simp <;> rfl) (by simp) (by simp) (by simp) (by simp) (by simp) ent73 (by simp) (by simp) (by simp) (by simp) (by simp) (by simp) ?_
     refine .st (mk 68 [1000,2000,3000,4000] (L39 a0.Args a0.Args.length v76 ++ [(64,.fn (.func 73) [.ptr 1000 0 0,.ptr 2000 0 0,.ptr 3000 0 0,.ptr 4000 0 0]),(65,.agg (k76 x95)),(66,.tup [])]) [(1000,some (.box [.ref 25000 0 r97.1.length])),(2000,some (.box [.b r97.2.1])),(3000,some (.box (r97.2.2.1.map vB))),(4000,some (.box [.fn (.func 73) [.ptr 1000 0 0,.ptr 2000 0 0,.ptr 3000 0 0,.ptr 4000 0 0]])),(25000,R3 r97.1)]) (.nil (blockQ.normal (thenQ_normal (.region ?_))))
     replace h := csome h;obtain ⟨v98,hv98,h⟩ := h
     refine .rk 2 fun K k => ?_;simp [hv98];refine k ?_
     refine .nil ?_
     cases h
     refine PostI.next ?_
     exact Sub.tt
    ·refine .condF rfl (decide_eq_false c94) ?_
     refine .exit ?_
     cases h
     refine thenQ_ps ?_
     refine PostI.os ?_
     rintro rfl
     refine blockQ.hit (PostN.next ?_)
     exact Sub.tt
   ·rintro ⟨l91,v92,l93⟩ h
    dsimp only at h ⊢
    cases h
    exact FinF.normal (by simp) (by simp)
def d50 (N : Nat) (a0 : S34) : Option ((List Int) × Int) :=
 (d47 N a0).bind fun r1 =>
 Option.bind (α := ((List Int) × Bool)) (
  iterN (σ := ((List Int) × Bool × (List Bool) × Int)) (ρ := ((List Int) × Bool)) (fun ((l181,v182,l183,v184) : ((List Int) × Bool × (List Bool) × Int)) =>
   if v184 < (r1.length : Int) then (
    (idx r1 v184).bind fun x552 =>
    Option.bind (α := ((List Int) × Bool × (List Bool))) (
     iterN (σ := ((List Int) × Bool × (List Bool) × Int)) (ρ := ((List Int) × Bool × (List Bool))) (fun ((l558,v559,l560,v561) : ((List Int) × Bool × (List Bool) × Int)) =>
      if v561 < (x552.Exprs.length : Int) then (
       (idx x552.Exprs v561).bind fun x580 =>
       (d73 N x580 l558 v559 l560 ()).bind fun r582 =>
       (chkI (v561 + 1)).bind fun v583 =>
       some (.inl (r582.1,r582.2.1,r582.2.2.1,v583))
      ) else
      some (.inr (l558,v559,l560))
     ) N (l181,v182,l183,0)
    ) fun ((l576,v577,l578) : ((List Int) × Bool × (List Bool))) =>
    Option.bind (α := ((List Int) × Bool × (List Bool))) (
     iterN (σ := ((List Int) × Bool × (List Bool) × Int)) (ρ := ((List Int) × Bool × (List Bool))) (fun ((l617,v618,l619,v620) : ((List Int) × Bool × (List Bool) × Int)) =>
      if v620 < (x552.Aggregates.length : Int) then (
       (idx x552.Aggregates v620).bind fun x697 =>
       Option.bind (α := ((List Int) × Bool × (List Bool))) (
        iterN (σ := ((List Int) × Bool × (List Bool) × Int)) (ρ := ((List Int) × Bool × (List Bool))) (fun ((l703,v704,l705,v706) : ((List Int) × Bool × (List Bool) × Int)) =>
         if v706 < (x697.Args.length : Int) then (
          (idx x697.Args v706).bind fun x725 =>
          (d73 N x725 l703 v704 l705 ()).bind fun r727 =>
          (chkI (v706 + 1)).bind fun v728 =>
          some (.inl (r727.1,r727.2.1,r727.2.2.1,v728))
         ) else
         some (.inr (l703,v704,l705))
        ) N (l617,v618,l619,0)
       ) fun ((l721,v722,l723) : ((List Int) × Bool × (List Bool))) =>
       (chkI (v620 + 1)).bind fun v729 =>
       some (.inl (l721,v722,l723,v729))
      ) else
      some (.inr (l617,v618,l619))
     ) N (l576,v577,l578,0)
    ) fun ((l693,v694,l695) : ((List Int) × Bool × (List Bool))) =>
    (chkI (v184 + 1)).bind fun v730 =>
    some (.inl (l693,v694,l695,v730))
   ) else
   some (.inr (l181,v182))
  ) N (([] : List Int),false,(List.replicate 8 false),0)
 ) fun ((l549,v550) : ((List Int) × Bool)) =>
 if v550 = true then (
  some (([] : List Int),13)
 ) else
 some (l549,0)
theorem p50 (N : Nat) (a0 : S34) (r : ((List Int) × Int)) (h : d50 N a0 = some r) : FunC Tryz.prog 50 [.agg (k34 a0)] (.tup [.si r.1,.i r.2]) := by
 unfold d50 at h
 refine FunC.enter 57 [(0,.agg (k34 a0))] (by simp) Tryz.func50 rfl (of_decide_eq_true rfl) rfl rfl ?_
 refine .seqR ?_
 refine .rr 3 ?_
 refine .nil (.seqR ?_)
 refine .rr 1 ?_
 refine .tt [(1,.ptr 1 0 0),(4,.ptr 4 0 0)] [(1,some (.box (k34 a0))),(4,some (.box [.z]))] ?_
 refine .sub (.nilOwnBox (bid := 4) (j := 0) (id := 5080) (T := 3) (n := 1) rfl rfl (by decide) rfl (by decide)) ?_
 refine .nil (.seqR ?_)
 refine .rr 1 ?_
 refine .nil (.seqR ?_)
 refine .rr 2 ?_
 refine .nil (.seqR ?_)
 refine .rr 1 ?_
 refine .nil (.seqR ?_)
 refine .rr 2 ?_
 refine .nil (.seq (.seqR ?_))
 refine .rr 1 ?_
 refine .tt (L40 ++ [(17,.agg (k34 a0))]) H55 ?_
 replace h := bsome h;obtain ⟨r1,hr1,h⟩ := h
 refine .callC (d := 18) (p47 N a0 r1 hr1) (by simp) rfl rfl (by simp <;> rfl) (by simp <;> rfl) ent47 (by simp) (.inl ⟨by simp,by simp⟩) ?_
 refine .rr 2 ?_
 refine .tt (L40 ++ [(18,.s34 r1),(19,.i (r1.length : Int)),(20,.i 0)]) H55 (.nil ?_)
 refine .lastN (fun ((l549,v550) : ((List Int) × Bool)) => mk 57 [] [(4,.ptr 4 0 0),(6,.ptr 6 0 0)] [(4,some (.box [.ref 5080 0 l549.length])),(6,some (.box [.b v550])),(5080,R3 l549)]) h ?_ ?_ <;> clear h
 ·intro o h
  refine .block ?_
  refine .iter (fun ((l181,v182,l183,v184) : ((List Int) × Bool × (List Bool) × Int)) => mk 57 [] (L41 r1 r1.length v184) [(4,some (.box [.ref 5080 0 l181.length])),(5,some (.box (l183.map vB))),(6,some (.box [.b v182])),(7,some (.box [.fn (.func 73) [.ptr 4 0 0,.ptr 6 0 0,.ptr 5 0 0,.ptr 7 0 0]])),(5080,R3 l181)]) h Sub.tt ?_
  clear h
  rintro ⟨l181,v182,l183,v184⟩ x h
  dsimp only at h ⊢
  refine .seqR ?_
  refine .rr 1 ?_
  refine .nil (.seq ?_)
  replace h := isome h;rcases h with ⟨c551,h⟩ | ⟨c551,h⟩
  ·refine .condT rfl (decide_eq_true c551) ?_
   refine .skip (thenQ_normal (.seq (.block (.seqR ?_))))
   replace h := xsome h;obtain ⟨x552,k553,hx552k,hx552,hx552a,hx552b,h⟩ := h
   refine .rk 4 fun K k => ?_;simp [hx552,hx552k,hx552a];refine k ?_
   refine .nil (.seq (.seqR ?_))
   refine .rr 4 ?_
   refine .tt (L42 r1 r1.length v184 ++ [(25,.s76 x552.Exprs),(26,.i (x552.Exprs.length : Int)),(27,.i 0)]) [(4,some (.box [.ref 5080 0 l181.length])),(5,some (.box (l183.map vB))),(6,some (.box [.b v182])),(7,some (.box [.fn (.func 73) [.ptr 4 0 0,.ptr 6 0 0,.ptr 5 0 0,.ptr 7 0 0]])),(9,some (.box (k34 x552))),(5080,R3 l181)] (.nil ?_)
   refine .lastN (fun ((l576,v577,l578) : ((List Int) × Bool × (List Bool))) => mk 57 [] (L42 r1 r1.length v184) [(4,some (.box [.ref 5080 0 l576.length])),(5,some (.box (l578.map vB))),(6,some (.box [.b v577])),(7,some (.box [.fn (.func 73) [.ptr 4 0 0,.ptr 6 0 0,.ptr 5 0 0,.ptr 7 0 0]])),(9,some (.box (k34 x552))),(5080,R3 l576)]) h ?_ ?_ <;> clear h
   ·intro o h
    refine .block ?_
    refine .iter (fun ((l558,v559,l560,v561) : ((List Int) × Bool × (List Bool) × Int)) => mk 57 [] (L43 r1 r1.length v184 x552.Exprs x552.Exprs.length v561) [(4,some (.box [.ref 5080 0 l558.length])),(5,some (.box (l560.map vB))),(6,some (.box [.b v559])),(7,some (.box [.fn (.func 73) [.ptr 4 0 0,.ptr 6 0 0,.ptr 5 0 0,.ptr 7 0 0]])),(9,some (.box (k34 x552))),(5080,R3 l558)]) h Sub.tt ?_
    clear h
    rintro ⟨l558,v559,l560,v561⟩ x h
    dsimp only at h ⊢
    refine .seqR ?_
    refine .rr 1 ?_
    refine .nil (.seq ?_)
    replace h := isome h;rcases h with ⟨c579,h⟩ | ⟨c579,h⟩
    ·refine .condT rfl (decide_eq_true c579) ?_
     refine .skip (thenQ_normal (.seq (.block (.seqR ?_))))
     replace h := xsome h;obtain ⟨x580,k581,hx580k,hx580,hx580a,hx580b,h⟩ := h
     refine .rk 4 fun K k => ?_;simp [hx580,hx580k,hx580a];refine k ?_
     refine .nil (.region ?_)
     refine .rr 2 ?_
     refine .tt (L43 r1 r1.length v184 x552.Exprs x552.Exprs.length v561 ++ [(31,.fn (.func 73) [.ptr 4 0 0,.ptr 6 0 0,.ptr 5 0 0,.ptr 7 0 0]),(32,.agg (k76 x580))]) [(4,some (.box [.ref 5080 0 l558.length])),(5,some (.box (l560.map vB))),(6,some (.box [.b v559])),(7,some (.box [.fn (.func 73) [.ptr 4 0 0,.ptr 6 0 0,.ptr 5 0 0,.ptr 7 0 0]])),(9,some (.box (k34 x552))),(5080,R3 l558)] ?_
     replace h := bsome h;obtain ⟨r582,hr582,h⟩ := h
     refine .callF (p73 N x580 l558 v559 l560 () r582 hr582) [(4,1000),(5080,25000),(6,2000),(5,3000),(7,4000)] [4,6,5,7] [(1000,4),(25000,5080),(2000,6),(3000,5),(4000,7)] [(4,(.box [.ref 5080 0 r582.1.length])),(5080,(.arr 3 1 (r582.1.map (cI .i64)))),(6,(.box [.d (.lit (.bool r582.2.1))])),(5,(.box (r582.2.2.1.map vB))),(7,(.box [.fn (.func 73) [.ptr 4 0 0,.ptr 6 0 0,.ptr 5 0 0,.ptr 7 0 0]]))] (.tup []) (by simp) rfl (by simp <;> rfl) (by simp) (by simp) (by simp) (by simp) (by simp) ent73 (by simp) (by simp) (by simp) (by simp) (by simp) (by simp) ?_
     refine .st (mk 57 [] (L43 r1 r1.length v184 x552.Exprs x552.Exprs.length v561 ++ [(31,.fn (.func 73) [.ptr 4 0 0,.ptr 6 0 0,.ptr 5 0 0,.ptr 7 0 0]),(32,.agg (k76 x580)),(33,.tup [])]) [(4,some (.box [.ref 5080 0 r582.1.length])),(5,some (.box (r582.2.2.1.map vB))),(6,some (.box [.b r582.2.1])),(7,some (.box [.fn (.func 73) [.ptr 4 0 0,.ptr 6 0 0,.ptr 5 0 0,.ptr 7 0 0]])),(9,some (.box (k34 x552))),(5080,R3 r582.1)]) (.nil (blockQ.normal (thenQ_normal (.region ?_))))
     replace h := csome h;obtain ⟨v583,hv583,h⟩ := h
     refine .rk 2 fun K k => ?_;simp [hv583];refine k ?_
     refine .nil ?_
     cases h
     refine PostI.next ?_
     exact Sub.tt
    refine .condF rfl (decide_eq_false c579) ?_
    refine .exit ?_
    cases h
    refine thenQ_ps ?_
    refine PostI.os ?_
    rintro rfl
    refine blockQ.hit (PostN.next ?_)
    exact Sub.tt
   rintro ⟨l576,v577,l578⟩ h
   dsimp only at h ⊢
   refine thenQ_normal (.seqR ?_)
   refine .rr 4 ?_
   refine .tt (L41 r1 r1.length v184 ++ [(36,.s79 x552.Aggregates),(37,.i (x552.Aggregates.length : Int)),(38,.i 0)]) [(4,some (.box [.ref 5080 0 l576.length])),(5,some (.box (l578.map vB))),(6,some (.box [.b v577])),(7,some (.box [.fn (.func 73) [.ptr 4 0 0,.ptr 6 0 0,.ptr 5 0 0,.ptr 7 0 0]])),(5080,R3 l576)] (.nil ?_)
   refine .lastN (fun ((l693,v694,l695) : ((List Int) × Bool × (List Bool))) => mk 57 [] (L41 r1 r1.length v184) [(4,some (.box [.ref 5080 0 l693.length])),(5,some (.box (l695.map vB))),(6,some (.box [.b v694])),(7,some (.box [.fn (.func 73) [.ptr 4 0 0,.ptr 6 0 0,.ptr 5 0 0,.ptr 7 0 0]])),(5080,R3 l693)]) h ?_ ?_ <;> clear h
   ·intro o h
    refine .block ?_
    refine .iter (fun ((l617,v618,l619,v620) : ((List Int) × Bool × (List Bool) × Int)) => mk 57 [] (L44 r1 r1.length v184 x552.Aggregates x552.Aggregates.length v620) [(4,some (.box [.ref 5080 0 l617.length])),(5,some (.box (l619.map vB))),(6,some (.box [.b v618])),(7,some (.box [.fn (.func 73) [.ptr 4 0 0,.ptr 6 0 0,.ptr 5 0 0,.ptr 7 0 0]])),(5080,R3 l617)]) h Sub.tt ?_
    clear h
    rintro ⟨l617,v618,l619,v620⟩ x h
    dsimp only at h ⊢
    refine .seqR ?_
    refine .rr 1 ?_
    refine .nil (.seq ?_)
    replace h := isome h;rcases h with ⟨c696,h⟩ | ⟨c696,h⟩
    ·refine .condT rfl (decide_eq_true c696) ?_
     refine .skip (thenQ_normal (.seq (.block (.seqR ?_))))
     replace h := xsome h;obtain ⟨x697,k698,hx697k,hx697,hx697a,hx697b,h⟩ := h
     refine .rk 4 fun K k => ?_;simp [hx697,hx697k,hx697a];refine k ?_
     refine .nil (.seqR ?_)
     refine .rr 4 ?_
     refine .tt (L44 r1 r1.length v184 x552.Aggregates x552.Aggregates.length v620 ++ [(43,.s76 x697.Args),(44,.i (x697.Args.length : Int)),(45,.i 0)]) [(4,some (.box [.ref 5080 0 l617.length])),(5,some (.box (l619.map vB))),(6,some (.box [.b v618])),(7,some (.box [.fn (.func 73) [.ptr 4 0 0,.ptr 6 0 0,.ptr 5 0 0,.ptr 7 0 0]])),(5080,R3 l617)] (.nil ?_)
     refine .lastN (fun ((l721,v722,l723) : ((List Int) × Bool × (List Bool))) => mk 57 [] (L44 r1 r1.length v184 x552.Aggregates x552.Aggregates.length v620) [(4,some (.box [.ref 5080 0 l721.length])),(5,some (.box (l723.map vB))),(6,some (.box [.b v722])),(7,some (.box [.fn (.func 73) [.ptr 4 0 0,.ptr 6 0 0,.ptr 5 0 0,.ptr 7 0 0]])),(5080,R3 l721)]) h ?_ ?_ <;> clear h
     ·intro o h
      refine .block ?_
      refine .iter (fun ((l703,v704,l705,v706) : ((List Int) × Bool × (List Bool) × Int)) => mk 57 [] (L45 r1 r1.length v184 x552.Aggregates x552.Aggregates.length v620 x697.Args x697.Args.length v706) [(4,some (.box [.ref 5080 0 l703.length])),(5,some (.box (l705.map vB))),(6,some (.box [.b v704])),(7,some (.box [.fn (.func 73) [.ptr 4 0 0,.ptr 6 0 0,.ptr 5 0 0,.ptr 7 0 0]])),(5080,R3 l703)]) h Sub.tt ?_
      clear h
      rintro ⟨l703,v704,l705,v706⟩ x h
      dsimp only at h ⊢
      refine .seqR ?_
      refine .rr 1 ?_
      refine .nil (.seq ?_)
      replace h := isome h;rcases h with ⟨c724,h⟩ | ⟨c724,h⟩
      ·refine .condT rfl (decide_eq_true c724) ?_
       refine .skip (thenQ_normal (.seq (.block (.seqR ?_))))
       replace h := xsome h;obtain ⟨x725,k726,hx725k,hx725,hx725a,hx725b,h⟩ := h
       refine .rk 4 fun K k => ?_;simp [hx725,hx725k,hx725a];refine k ?_
       refine .nil (.region ?_)
       refine .rr 2 ?_
       refine .tt (L45 r1 r1.length v184 x552.Aggregates x552.Aggregates.length v620 x697.Args x697.Args.length v706 ++ [(49,.fn (.func 73) [.ptr 4 0 0,.ptr 6 0 0,.ptr 5 0 0,.ptr 7 0 0]),(50,.agg (k76 x725))]) [(4,some (.box [.ref 5080 0 l703.length])),(5,some (.box (l705.map vB))),(6,some (.box [.b v704])),(7,some (.box [.fn (.func 73) [.ptr 4 0 0,.ptr 6 0 0,.ptr 5 0 0,.ptr 7 0 0]])),(5080,R3 l703)] ?_
       replace h := bsome h;obtain ⟨r727,hr727,h⟩ := h
       refine .callF (p73 N x725 l703 v704 l705 () r727 hr727) [(4,1000),(5080,25000),(6,2000),(5,3000),(7,4000)] [4,6,5,7] [(1000,4),(25000,5080),(2000,6),(3000,5),(4000,7)] [(4,(.box [.ref 5080 0 r727.1.length])),(5080,(.arr 3 1 (r727.1.map (cI .i64)))),(6,(.box [.d (.lit (.bool r727.2.1))])),(5,(.box (r727.2.2.1.map vB))),(7,(.box [.fn (.func 73) [.ptr 4 0 0,.ptr 6 0 0,.ptr 5 0 0,.ptr 7 0 0]]))] (.tup []) (by simp) rfl (by simp <;> rfl) (by simp) (by simp) (by simp) (by simp) (by simp) ent73 (by simp) (by simp) (by simp) (by simp) (by simp) (by simp) ?_
       refine .st (mk 57 [] (L45 r1 r1.length v184 x552.Aggregates x552.Aggregates.length v620 x697.Args x697.Args.length v706 ++ [(49,.fn (.func 73) [.ptr 4 0 0,.ptr 6 0 0,.ptr 5 0 0,.ptr 7 0 0]),(50,.agg (k76 x725)),(51,.tup [])]) [(4,some (.box [.ref 5080 0 r727.1.length])),(5,some (.box (r727.2.2.1.map vB))),(6,some (.box [.b r727.2.1])),(7,some (.box [.fn (.func 73) [.ptr 4 0 0,.ptr 6 0 0,.ptr 5 0 0,.ptr 7 0 0]])),(5080,R3 r727.1)]) (.nil (blockQ.normal (thenQ_normal (.region ?_))))
       replace h := csome h;obtain ⟨v728,hv728,h⟩ := h
       refine .rk 2 fun K k => ?_;simp [hv728];refine k ?_
       refine .nil ?_
       cases h
       refine PostI.next ?_
       exact Sub.tt
      refine .condF rfl (decide_eq_false c724) ?_
      refine .exit ?_
      cases h
      refine thenQ_ps ?_
      refine PostI.os ?_
      rintro rfl
      refine blockQ.hit (PostN.next ?_)
      exact Sub.tt
     rintro ⟨l721,v722,l723⟩ h
     dsimp only at h ⊢
     refine blockQ.normal (thenQ_normal (.region ?_))
     replace h := csome h;obtain ⟨v729,hv729,h⟩ := h
     refine .rk 2 fun K k => ?_;simp [hv729];refine k ?_
     refine .nil ?_
     cases h
     refine PostI.next ?_
     exact Sub.tt
    refine .condF rfl (decide_eq_false c696) ?_
    refine .exit ?_
    cases h
    refine thenQ_ps ?_
    refine PostI.os ?_
    rintro rfl
    refine blockQ.hit (PostN.next ?_)
    exact Sub.tt
   rintro ⟨l693,v694,l695⟩ h
   dsimp only at h ⊢
   refine blockQ.normal (thenQ_normal (.region ?_))
   replace h := csome h;obtain ⟨v730,hv730,h⟩ := h
   refine .rk 2 fun K k => ?_;simp [hv730];refine k ?_
   refine .nil ?_
   cases h
   refine PostI.next ?_
   exact Sub.tt
  refine .condF rfl (decide_eq_false c551) ?_
  refine .exit ?_
  cases h
  refine thenQ_ps ?_
  refine PostI.os ?_
  rintro rfl
  refine blockQ.hit (PostN.next ?_)
  exact Sub.tt
 rintro ⟨l549,v550⟩ h
 dsimp only at h ⊢
 refine thenQ_normal (.seq (.seqR ?_))
 refine .rr 1 ?_
 refine .nil ?_
 replace h := isome h;rcases h with ⟨c731,h⟩ | ⟨c731,h⟩
 ·refine .condT rfl c731 ?_
  refine .seqR ?_
  refine .rr 2 ?_
  refine .tt [(2,.z),(3,.i 13)] [] (.nil ?_)
  refine .sub (.wk 2 rfl) ?_
  refine .st (mk 57 [] [(2,.si ([] : List Int)),(3,.i 13)] []) (.ret ?_)
  cases h
  refine thenQ_ps ?_
  exact FinC.rs
 refine .condF rfl (Bool.eq_false_iff.2 c731) ?_
 refine .skip (thenQ_normal (.seqR ?_))
 refine .rr 3 ?_
 refine .tt [(2,.ref 5080 0 l549.length),(3,.i 0)] [(5080,R3 l549)] (.nil ?_)
 refine .sub (.freeze 5080 rfl) ?_
 refine .st (mk 57 [] [(2,.si l549),(3,.i 0)] []) (.ret ?_)
 cases h
 exact FinC.rs
def d144 (N : Nat) (a0 : (List Int)) (a1 : Int) : Option Int :=
 bindO (β := Unit) (ρ := Int) (
  iterN (σ := Int) (ρ := (Out Unit Int)) (fun (v5 : Int) =>
   if v5 < (a0.length : Int) then (
    (idx a0 v5).bind fun x18 =>
    if (a1 == x18) then (
     some (.inr (.ret v5))
    ) else
    (chkI (v5 + 1)).bind fun v21 =>
    some (.inl v21)
   ) else
   some (.inr (.go ()))
  ) N 0
 ) fun (_ : Unit) =>
 some (-1)
theorem p144 (N : Nat) (a0 : (List Int)) (a1 : Int) (r : Int) (h : d144 N a0 a1 = some r) : FunC Tryz.prog 144 [.si a0,.i a1] (.i r) := by
 unfold d144 at h
 refine FunC.enter 19 [(0,.si a0),(1,.i a1)] (by simp) Tryz.func144 rfl (of_decide_eq_true rfl) rfl rfl ?_
 refine .seqR ?_
 refine .rr 1 ?_
 refine .nil (.seq (.seqR ?_))
 refine .rr 3 ?_
 refine .tt [(0,.si a0),(1,.i a1),(7,.i (a0.length : Int)),(8,.i 0)] [] (.nil ?_)
 refine .lastJ (fun (_ : Unit) => mk 19 [] [] []) h ?_ ?_ <;> clear h
 ·intro o h
  refine .block ?_
  refine .iter (fun (v5 : Int) => mk 19 [] [(0,.si a0),(1,.i a1),(7,.i (a0.length : Int)),(8,.i v5)] []) h Sub.tt ?_
  clear h
  rintro v5 x h
  refine .seqR ?_
  refine .rr 1 ?_
  refine .nil (.seq ?_)
  replace h := isome h;rcases h with ⟨c17,h⟩ | ⟨c17,h⟩
  ·refine .condT rfl (decide_eq_true c17) ?_
   refine .skip (thenQ_normal (.seq (.block (.seqR ?_))))
   refine .rr 2 ?_
   refine .tt [(0,.si a0),(1,.i a1),(5,.i v5),(7,.i (a0.length : Int)),(8,.i v5)] [] (.nil (.seqR ?_))
   replace h := xsome h;obtain ⟨x18,k19,hx18k,hx18,hx18a,hx18b,h⟩ := h
   refine .rk 6 fun K k => ?_;simp [hx18,hx18k,hx18a];refine k ?_
   refine .nil ?_
   replace h := isome h;rcases h with ⟨c20,h⟩ | ⟨c20,h⟩
   ·refine .condT rfl c20 ?_
    refine .seqR ?_
    refine .rr 2 ?_
    refine .nil (.ret ?_)
    cases h
    refine blockQ.ret ?_
    refine thenQ_ps ?_
    refine PostI.os ?_
    rintro rfl
    refine blockQ.ret ?_
    refine PostJ.out (by simp) ?_
    rintro rfl
    refine thenQ_ps ?_
    exact FinC.rs
   refine .condF rfl (Bool.eq_false_iff.2 c20) ?_
   refine .skip (blockQ.normal (thenQ_normal (.region ?_)))
   replace h := csome h;obtain ⟨v21,hv21,h⟩ := h
   refine .rk 2 fun K k => ?_;simp [hv21];refine k ?_
   refine .nil ?_
   cases h
   refine PostI.next ?_
   exact Sub.tt
  refine .condF rfl (decide_eq_false c17) ?_
  refine .exit ?_
  cases h
  refine thenQ_ps ?_
  refine PostI.os ?_
  rintro rfl
  refine blockQ.hit (PostJ.next ?_)
  exact Sub.tt
 rintro ⟨⟩ h
 refine thenQ_normal (.seqR ?_)
 refine .rr 1 ?_
 refine .nil (.ret ?_)
 cases h
 exact FinC.rs
def d108 (N : Nat) (a0 : (List Int)) (a1 : Int) : Option Bool :=
 (d144 N a0 a1).bind fun r1 =>
 some (decide (r1 ≥ 0))
theorem p108 (N : Nat) (a0 : (List Int)) (a1 : Int) (r : Bool) (h : d108 N a0 a1 = some r) : FunC Tryz.prog 108 [.si a0,.i a1] (.b r) := by
 unfold d108 at h
 refine FunC.enter 9 [(0,.si a0),(1,.i a1)] (by simp) Tryz.func108 rfl (of_decide_eq_true rfl) rfl rfl ?_
 refine .seqR ?_
 refine .rr 1 ?_
 refine .nil (.seqR ?_)
 refine .rr 2 ?_
 refine .tt [(5,.si a0),(6,.i a1)] [] ?_
 replace h := bsome h;obtain ⟨r1,hr1,h⟩ := h
 refine .callL (d := 7) (p144 N a0 a1 r1 hr1) (by simp) rfl rfl (by simp <;> rfl) (by simp <;> rfl) ent144 (by simp <;> rfl) ?_
 refine .rr 2 ?_
 refine .nil (.ret ?_)
 cases h
 exact FinC.rs
def d107 (N : Nat) (a0 : (List Int)) (a1 : S34) : Option Bool :=
 (d108 N a0 a1.Kind).bind fun r1 =>
 some r1
theorem p107 (N : Nat) (a0 : (List Int)) (a1 : S34) (r : Bool) (h : d107 N a0 a1 = some r) : FunC Tryz.prog 107 [.si a0,.d (.pim [.lit (.int .i64 a1.Kind),.lit (.string a1.Table),.sl (a1.Names.map cS),.sl (a1.Exprs.map cS76),.sl (a1.Aggregates.map cS79),.sl (a1.Descending.map cB),.lit (.int .i64 a1.Count),.lit (.int .i64 a1.Offset),.sl (a1.Inputs.map cS34)])] (.b r) := by
 unfold d107 at h
 refine FunC.enter 8 [(0,.si a0),(1,.d (.pim [.lit (.int .i64 a1.Kind),.lit (.string a1.Table),.sl (a1.Names.map cS),.sl (a1.Exprs.map cS76),.sl (a1.Aggregates.map cS79),.sl (a1.Descending.map cB),.lit (.int .i64 a1.Count),.lit (.int .i64 a1.Offset),.sl (a1.Inputs.map cS34)]))] (by simp) Tryz.func107 rfl (of_decide_eq_true rfl) rfl rfl ?_
 refine .seqR ?_
 refine .rr 1 ?_
 refine .nil (.seqR ?_)
 refine .rr 3 ?_
 refine .tt [(4,.si a0),(6,.i a1.Kind)] [] ?_
 replace h := bsome h;obtain ⟨r1,hr1,h⟩ := h
 refine .callL (d := 7) (p108 N a0 a1.Kind r1 hr1) (by simp) rfl rfl (by simp <;> rfl) (by simp <;> rfl) ent108 (by simp <;> rfl) ?_
 refine .rr 1 ?_
 refine .nil (.ret ?_)
 cases h
 exact FinC.rs
end Go.Proofs.YtmgddgcniacnbaaGreatDoor
