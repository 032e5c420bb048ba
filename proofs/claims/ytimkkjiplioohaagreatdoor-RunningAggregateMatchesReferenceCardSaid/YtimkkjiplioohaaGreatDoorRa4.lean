/- Functions of the program as functional programs; the code computes them. -/
import Derived.Test.YtimkkjiplioohaaGreatDoorRa3
namespace Go.Proofs.YtimkkjiplioohaaGreatDoor
set_option maxRecDepth 100000
set_option maxHeartbeats 4000000
open Go.Ab Go.Rp
attribute [-simp] List.all_eq_true Array.all_toList Array.all_eq_true
def d168 (N : Nat) (a0 : (List (List S61))) (a1 : Int) (a2 : Int) (p3 : (List S61) → (List S61) → Option Int) : Option (List (List S61)) :=
 (chkI (a1 + 1)).bind fun v1 =>
 Option.bind (α := List (List S61)) (
  iterN (σ := ((List (List S61)) × Int)) (ρ := List (List S61)) (fun ((l117,v118) : ((List (List S61)) × Int)) =>
   if v118 < a2 then (
    Option.bind (α := List (List S61)) (
     iterN (σ := ((List (List S61)) × Int)) (ρ := List (List S61)) (fun ((l380,v381) : ((List (List S61)) × Int)) =>
      Option.bind (α := Bool) (
       if v381 > a1 then (
        (idx l380 v381).bind fun x448 =>
        (chkI (v381 - 1)).bind fun v450 =>
        (idx l380 v450).bind fun x451 =>
        (p3 x448 x451).bind fun r453 =>
        some (decide (r453 < 0))
       ) else
       some false
      ) fun (v446 : Bool) =>
      if v446 = true then (
       (chkI (v381 - 1)).bind fun v455 =>
       (chkI (v381 - 1)).bind fun v456 =>
       (idx l380 v456).bind fun x457 =>
       (idx l380 v381).bind fun x459 =>
       letv (setI l380 v381 x457) fun l461 =>
       (idx l461 v455).bind fun _x462 =>
       letv (setI l461 v455 x459) fun l464 =>
       (chkI (v381 - 1)).bind fun v465 =>
       some (.inl (l464,v465))
      ) else
      some (.inr l380)
     ) N (l117,v118)
    ) fun (l438 : List (List S61)) =>
    (chkI (v118 + 1)).bind fun v466 =>
    some (.inl (l438,v466))
   ) else
   some (.inr l117)
  ) N (a0,v1)
 ) fun (l351 : List (List S61)) =>
 some l351
theorem p168 (N : Nat) (a0 : (List (List S61))) (a1 : Int) (a2 : Int) (g3 : Nat) (cs3 : List D) (p3 : (List S61) → (List S61) → Option Int) (ent_3 : Rp.Enters Tryz.prog g3) (hp3 : ∀ a0 a1 r,p3 a0 a1 = some r → FunC Tryz.prog g3 ([.s61 a0,.s61 a1] ++ cs3.map .d) (.i r)) (r : (List (List S61))) (h : d168 N a0 a1 a2 p3 = some r) : FunM Tryz.prog 168 [.ref 1000 0 a0.length,.i a1,.i a2,.fg g3 cs3] [(1000,R57 a0)] [1000] (.tup []) ([(1000,.arr 57 1 (r.map (cL cS61)))]) := by
 unfold d168 at h
 refine FunM.enter 53 [(0,.ref 1000 0 a0.length),(1,.i a1),(2,.i a2),(3,.fg g3 cs3)] Tryz.func168 rfl (of_decide_eq_true rfl) rfl rfl ?_
 refine .seqR ?_
 replace h := csome h;obtain ⟨v1,hv1,h⟩ := h
 refine .rk 3 fun K k => ?_;simp [hv1];refine k ?_
 refine .tt (L14 a0.length a1 a2 ++ [(3,.fg g3 cs3),(8,.i v1)]) [(1000,R57 a0)] (.nil ?_)
 refine .lastN (fun (l351 : List (List S61)) => mk 53 [1000] [] [(1000,R57 l351)]) h ?_ ?_ <;> clear h
 ·intro o h
  refine .block ?_
  refine .iter (fun ((l117,v118) : ((List (List S61)) × Int)) => mk 53 [1000] (L14 l117.length a1 a2 ++ [(3,.fg g3 cs3),(8,.i v118)]) [(1000,R57 l117)]) h Sub.tt ?_
  clear h
  rintro ⟨l117,v118⟩ x h
  dsimp only at h ⊢
  refine .seq (.seqR ?_)
  refine .rr 3 ?_
  refine .tt (L14 l117.length a1 a2 ++ [(3,.fg g3 cs3),(8,.i v118),(14,.b (decide (v118 < a2)))]) [(1000,R57 l117)] (.nil ?_)
  replace h := isome h;rcases h with ⟨c352,h⟩ | ⟨c352,h⟩
  ·have c352_ : decide (v118 < a2) = true := decide_eq_true c352
   refine .condT rfl c352_ ?_
   refine .skip (thenQ_normal (.seq (.block (.seqR ?_))))
   refine .rr 2 ?_
   refine .tt (L14 l117.length a1 a2 ++ [(3,.fg g3 cs3),(8,.i v118),(9,.i v118)]) [(1000,R57 l117)] (.nil ?_)
   refine .lastN (fun (l438 : List (List S61)) => mk 53 [1000] (L14 l438.length a1 a2 ++ [(3,.fg g3 cs3),(8,.i v118)]) [(1000,R57 l438)]) h ?_ ?_ <;> clear h
   ·intro o h
    refine .block ?_
    refine .iter (fun ((l380,v381) : ((List (List S61)) × Int)) => mk 53 [1000] (L14 l380.length a1 a2 ++ [(3,.fg g3 cs3),(8,.i v118),(9,.i v381)]) [(1000,R57 l380)]) h Sub.tt ?_
    clear h
    rintro ⟨l380,v381⟩ x h
    dsimp only at h ⊢
    refine .seq ?_
    replace h := bsome h;obtain ⟨v446,hj,h⟩ := h
    refine .cutQ (by kernel_rfl) (by kernel_rfl) (mk 53 [1000] (L14 l380.length a1 a2 ++ [(3,.fg g3 cs3),(8,.i v118),(9,.i v381),(34,.b v446)]) [(1000,R57 l380)]) ?_ ?_
    ·clear h;have h := hj;clear hj
     refine .rq 4 fun K k => ?_;simp;refine k ?_
     refine .tt (L14 l380.length a1 a2 ++ [(3,.fg g3 cs3),(8,.i v118),(9,.i v381),(21,.b (decide (v381 > a1)))]) [(1000,R57 l380)] ?_
     replace h := isome h;rcases h with ⟨c447,h⟩ | ⟨c447,h⟩
     ·have c447_ : decide (v381 > a1) = true := decide_eq_true c447
      refine .sub (.bool 21 rfl c447_) ?_
      refine .st (mk 53 [1000] (L14 l380.length a1 a2 ++ [(3,.fg g3 cs3),(8,.i v118),(9,.i v381),(21,.b true)]) [(1000,R57 l380)]) ?_
      replace h := xsome h;obtain ⟨x448,k449,hx448k,hx448,hx448a,hx448b,h⟩ := h
      replace h := csome h;obtain ⟨v450,hv450,h⟩ := h
      replace h := xsome h;obtain ⟨x451,k452,hx451k,hx451,hx451a,hx451b,h⟩ := h
      refine .rq 10 fun K k => ?_;simp [hx448,hx448k,hx448a,hx448b,hv450,hx451,hx451k,hx451a,hx451b];refine k ?_
      refine .tt (L14 l380.length a1 a2 ++ [(3,.fg g3 cs3),(8,.i v118),(9,.i v381),(21,.b true),(22,.fg g3 cs3),(23,.ref 1000 0 l380.length),(24,.i v381),(25,.ptr 1000 k449 0),(26,.s61 x448),(27,.ref 1000 0 l380.length),(28,.i v381),(29,.i v450),(30,.ptr 1000 k452 0),(31,.s61 x451)]) [(1000,R57 l380)] ?_
      replace h := bsome h;obtain ⟨r453,hr453,h⟩ := h
      refine .callL (d := 32) (hp3 x448 x451 r453 hr453) (by simp) rfl rfl (by simp <;> rfl) (by simp <;> rfl) ent_3 (by simp <;> rfl) ?_
      refine .st (mk 53 [1000] (L14 l380.length a1 a2 ++ [(3,.fg g3 cs3),(8,.i v118),(9,.i v381),(21,.b true),(22,.fg g3 cs3),(23,.ref 1000 0 l380.length),(24,.i v381),(25,.ptr 1000 k449 0),(26,.s61 x448),(27,.ref 1000 0 l380.length),(28,.i v381),(29,.i v450),(30,.ptr 1000 k452 0),(31,.s61 x451),(32,.i r453)]) [(1000,R57 l380)]) ?_
      refine .rq 2 fun K k => ?_;simp;refine k ?_
      refine .tt (L14 l380.length a1 a2 ++ [(3,.fg g3 cs3),(8,.i v118),(9,.i v381),(22,.fg g3 cs3),(23,.ref 1000 0 l380.length),(24,.i v381),(25,.ptr 1000 k449 0),(26,.s61 x448),(27,.ref 1000 0 l380.length),(28,.i v381),(29,.i v450),(30,.ptr 1000 k452 0),(31,.s61 x451),(32,.i r453),(33,.b (decide (r453 < 0))),(34,.b (decide (r453 < 0)))]) [(1000,R57 l380)] ?_
      cases h
      exact .nil .tt
     have c447_ : decide (v381 > a1) = false := decide_eq_false c447
     refine .sub (.bool 21 rfl c447_) ?_
     refine .st (mk 53 [1000] (L14 l380.length a1 a2 ++ [(3,.fg g3 cs3),(8,.i v118),(9,.i v381),(21,.b false)]) [(1000,R57 l380)]) ?_
     refine .rq 13 fun K k => ?_;simp;refine k ?_
     refine .tt (L14 l380.length a1 a2 ++ [(3,.fg g3 cs3),(8,.i v118),(9,.i v381),(22,.tup []),(23,.tup []),(24,.tup []),(25,.tup []),(26,.tup []),(27,.tup []),(28,.tup []),(29,.tup []),(30,.tup []),(31,.tup []),(32,.tup []),(33,.tup []),(34,.b false)]) [(1000,R57 l380)] ?_
     cases h
     exact .nil .tt
    clear hj
    replace h := isome h;rcases h with ⟨c454,h⟩ | ⟨c454,h⟩
    ·have c454_ : v446 = true := c454
     refine .condT rfl c454_ ?_
     refine .skip (thenQ_normal (.seq (.block ?_)))
     replace h := csome h;obtain ⟨v455,hv455,h⟩ := h
     replace h := csome h;obtain ⟨v456,hv456,h⟩ := h
     replace h := xsome h;obtain ⟨x457,k458,hx457k,hx457,hx457a,hx457b,h⟩ := h
     replace h := xsome h;obtain ⟨x459,k460,hx459k,hx459,hx459a,hx459b,h⟩ := h
     replace h := lsome h;obtain ⟨l461,gl461,h⟩ := h
     obtain ⟨hl461,hl461n⟩ := setI_some (cL cS61) gl461 hx459k
     replace hl461 : (l380.map (cL cS61)).set k460 [.sl (x457.map cS61)] = l461.map (cL cS61) := hl461
     clear gl461
     replace h := xsome h;obtain ⟨x462,k463,hx462k,hx462,hx462a,hx462b,h⟩ := h
     replace h := lsome h;obtain ⟨l464,gl464,h⟩ := h
     obtain ⟨hl464,hl464n⟩ := setI_some (cL cS61) gl464 hx462k
     replace hl464 : (l461.map (cL cS61)).set k463 [.sl (x459.map cS61)] = l464.map (cL cS61) := hl464
     clear gl464
     refine .lastAnyS [[],[],[],[],[3],[],[],[6],[5,6,7],[5,6,7,8],[],[],[10,11],[10,11,12],[0,1,5,6,7,8,9,10,11,12,13],[0,1,5,6,7,8,9,10,11,12,13,14],[0,1,2,3,4,5,6,7,8,9,10,11,12,13,14,15],[0,1,2,3,4,5,6,7,8,9,10,11,12,13,14,15,16]] (fun (b : Nat → Bool) => mk 53 [1000] [(0,(if b 17 then .ref 1000 0 l464.length else (if b 15 then .ref 1000 0 l461.length else .ref 1000 0 l380.length))),(1,.i a1),(2,.i a2),(3,.fg g3 cs3),(8,.i v118),(9,.i v381),(37,(if b 17 then .ref 1000 0 l464.length else (if b 15 then .ref 1000 0 l461.length else (if b 0 then .ref 1000 0 l380.length else .junk)))),(38,(if b 1 then .i v381 else .junk)),(39,(if b 17 then .ref 1000 0 l464.length else (if b 2 then (if b 15 then .ref 1000 0 l461.length else .ref 1000 0 l380.length) else .junk))),(40,(if b 3 then .i v381 else .junk)),(41,(if b 4 then .i v455 else .junk)),(42,(if b 17 then .ref 1000 0 l464.length else (if b 15 then .ref 1000 0 l461.length else (if b 5 then .ref 1000 0 l380.length else .junk)))),(43,(if b 6 then .i v381 else .junk)),(44,(if b 7 then .i v456 else .junk)),(45,(if b 8 then .ptr 1000 k458 0 else .junk)),(46,(if b 9 then .s61 x457 else .junk)),(47,(if b 17 then .ref 1000 0 l464.length else (if b 15 then .ref 1000 0 l461.length else (if b 10 then .ref 1000 0 l380.length else .junk)))),(48,(if b 11 then .i v381 else .junk)),(49,(if b 12 then .ptr 1000 k460 0 else .junk)),(50,(if b 13 then .s61 x459 else .junk)),(51,(if b 14 then .ptr 1000 k460 0 else .junk)),(52,(if b 16 then .ptr 1000 k463 0 else .junk))] [(1000,(if b 17 then R57 l464 else (if b 15 then R57 l461 else R57 l380)))]) (mk 53 [1000] (L14 l464.length a1 a2 ++ [(3,.fg g3 cs3),(8,.i v118),(9,.i v381)]) [(1000,R57 l464)]) (by kernel_rfl) (by kernel_rfl) Sub.tt (Steps.cons ?_ (Steps.cons ?_ (Steps.cons ?_ (Steps.cons ?_ (Steps.cons ?_ (Steps.cons ?_ (Steps.cons ?_ (Steps.cons ?_ (Steps.cons ?_ (Steps.cons ?_ (Steps.cons ?_ (Steps.cons ?_ (Steps.cons ?_ (Steps.cons ?_ (Steps.cons ?_ (Steps.cons ?_ (Steps.cons ?_ (Steps.cons ?_ (Steps.nil))))))))))))))))))) ?_ ?_
     iterate 4
      ·intro b h0 ha hd
       have T := fct h0 ha hd;simp at T
       refine .rk 1 fun K k => ?_;simp [T];refine k ?_
       exact .nil .tT
     ·intro b h0 ha hd
      have T := fct h0 ha hd;simp at T
      refine .rk 1 fun K k => ?_;simp [T,hv455];refine k ?_
      exact .nil .tT
     iterate 2
      ·intro b h0 ha hd
       have T := fct h0 ha hd;simp at T
       refine .rk 1 fun K k => ?_;simp [T];refine k ?_
       exact .nil .tT
     ·intro b h0 ha hd
      have T := fct h0 ha hd;simp at T
      refine .rk 1 fun K k => ?_;simp [T,hv456];refine k ?_
      exact .nil .tT
     ·intro b h0 ha hd
      have T := fct h0 ha hd;simp at T
      refine .rk 1 fun K k => ?_;simp [T,hx457k,hx457a,hx457b];refine k ?_
      exact .nil .tT
     ·intro b h0 ha hd
      have T := fct h0 ha hd;simp at T
      refine .rk 1 fun K k => ?_;simp [T,hx457];refine k ?_
      exact .nil .tT
     iterate 3
      ·intro b h0 ha hd
       have T := fct h0 ha hd;simp at T
       refine .rk 1 fun K k => ?_;simp [T,hx459k,hx459a,hx459b];refine k ?_
       exact .nil .tT
     ·intro b h0 ha hd
      have T := fct h0 ha hd;simp at T
      refine .rk 1 fun K k => ?_;simp [T,hx459];refine k ?_
      exact .nil .tT
     iterate 4
      ·intro b h0 ha hd
       have T := fct h0 ha hd;simp at T
       refine .rk 1 fun K k => ?_;simp [T,hx459,hx459k,hx459a,hx459b,hl461,hx462,hx462k,hx462a,hx462b,hl464];refine k ?_
       exact .nil (.table (by simp [T,hl461n,hl464n]) (by simp [T]))
     ·intro b hb
      have T := FA_of (n := 18) hb;simp at T
      exact Sub.tT
     skip
     refine blockQ.normal (thenQ_normal (.region ?_))
     replace h := csome h;obtain ⟨v465,hv465,h⟩ := h
     refine .rk 3 fun K k => ?_;simp [hv465];refine k ?_
     refine .tt (L14 l464.length a1 a2 ++ [(3,.fg g3 cs3),(8,.i v118),(9,.i v465)]) [(1000,R57 l464)] (.nil ?_)
     cases h
     refine PostI.next ?_
     exact Sub.tt
    have c454_ : v446 = false := Bool.eq_false_iff.2 c454
    refine .condF rfl c454_ ?_
    refine .exit ?_
    cases h
    refine thenQ_ps ?_
    refine PostI.os ?_
    rintro rfl
    refine blockQ.hit (PostN.next ?_)
    exact Sub.tt
   rintro l438 h
   refine blockQ.normal (thenQ_normal (.region ?_))
   replace h := csome h;obtain ⟨v466,hv466,h⟩ := h
   refine .rk 3 fun K k => ?_;simp [hv466];refine k ?_
   refine .tt (L14 l438.length a1 a2 ++ [(3,.fg g3 cs3),(8,.i v466)]) [(1000,R57 l438)] (.nil ?_)
   cases h
   refine PostI.next ?_
   exact Sub.tt
  have c352_ : decide (v118 < a2) = false := decide_eq_false c352
  refine .condF rfl c352_ ?_
  refine .exit ?_
  cases h
  refine thenQ_ps ?_
  refine PostI.os ?_
  rintro rfl
  refine blockQ.hit (PostN.next ?_)
  exact Sub.tt
 rintro l351 h
 cases h
 exact FinF.normal (by simp) (by simp)
def d229 (N : Nat) (a0 : (List (List S61))) (a1 : Int) (a2 : Int) (a3 : Int) (_p4 : (List S61) → (List S61) → Option Int) : Option (List (List S61)) :=
 Option.bind (α := List (List S61)) (
  iterN (σ := ((List (List S61)) × Int)) (ρ := List (List S61)) (fun ((l17,v18) : ((List (List S61)) × Int)) =>
   if v18 < a3 then (
    (chkI (a1 + v18)).bind fun v55 =>
    (chkI (a2 + v18)).bind fun v56 =>
    (chkI (a2 + v18)).bind fun v57 =>
    (idx l17 v57).bind fun x58 =>
    (chkI (a1 + v18)).bind fun v60 =>
    (idx l17 v60).bind fun x61 =>
    (idx l17 v55).bind fun _x63 =>
    letv (setI l17 v55 x58) fun l65 =>
    (idx l65 v56).bind fun _x66 =>
    letv (setI l65 v56 x61) fun l68 =>
    (chkI (v18 + 1)).bind fun v69 =>
    some (.inl (l68,v69))
   ) else
   some (.inr l17)
  ) N (a0,0)
 ) fun (l53 : List (List S61)) =>
 some l53
theorem p229 (N : Nat) (a0 : (List (List S61))) (a1 : Int) (a2 : Int) (a3 : Int) (g4 : Nat) (cs4 : List D) (p4 : (List S61) → (List S61) → Option Int) (_ent_4 : Rp.Enters Tryz.prog g4) (_hp4 : ∀ a0 a1 r,p4 a0 a1 = some r → FunC Tryz.prog g4 ([.s61 a0,.s61 a1] ++ cs4.map .d) (.i r)) (r : (List (List S61))) (h : d229 N a0 a1 a2 a3 p4 = some r) : FunM Tryz.prog 229 [.ref 1000 0 a0.length,.i a1,.i a2,.i a3,.fg g4 cs4] [(1000,R57 a0)] [1000] (.tup []) ([(1000,.arr 57 1 (r.map (cL cS61)))]) := by
 unfold d229 at h
 refine FunM.enter 38 [(0,.ref 1000 0 a0.length),(1,.i a1),(2,.i a2),(3,.i a3),(4,.fg g4 cs4)] Tryz.func229 rfl (of_decide_eq_true rfl) rfl rfl ?_
 refine .tt (L15 a0.length a1 a2 a3) [(1000,R57 a0)] (.seqR ?_)
 refine .rr 1 ?_
 refine .tt (L15 a0.length a1 a2 a3 ++ [(10,.i 0)]) [(1000,R57 a0)] (.nil ?_)
 refine .lastN (fun (l53 : List (List S61)) => mk 38 [1000] [] [(1000,R57 l53)]) h ?_ ?_ <;> clear h
 ·intro o h
  refine .block ?_
  refine .iter (fun ((l17,v18) : ((List (List S61)) × Int)) => mk 38 [1000] (L16 l17.length a1 a2 a3 v18) [(1000,R57 l17)]) h Sub.tt ?_
  clear h
  rintro ⟨l17,v18⟩ x h
  dsimp only at h ⊢
  refine .seq (.seqR ?_)
  refine .rr 3 ?_
  refine .tt (L16 l17.length a1 a2 a3 v18 ++ [(13,.b (decide (v18 < a3)))]) [(1000,R57 l17)] (.nil ?_)
  replace h := isome h;rcases h with ⟨c54,h⟩ | ⟨c54,h⟩
  ·have c54_ : decide (v18 < a3) = true := decide_eq_true c54
   refine .condT rfl c54_ ?_
   refine .skip (thenQ_normal (.seq (.block ?_)))
   replace h := csome h;obtain ⟨v55,hv55,h⟩ := h
   replace h := csome h;obtain ⟨v56,hv56,h⟩ := h
   replace h := csome h;obtain ⟨v57,hv57,h⟩ := h
   replace h := xsome h;obtain ⟨x58,k59,hx58k,hx58,hx58a,hx58b,h⟩ := h
   replace h := csome h;obtain ⟨v60,hv60,h⟩ := h
   replace h := xsome h;obtain ⟨x61,k62,hx61k,hx61,hx61a,hx61b,h⟩ := h
   replace h := xsome h;obtain ⟨x63,k64,hx63k,hx63,hx63a,hx63b,h⟩ := h
   replace h := lsome h;obtain ⟨l65,gl65,h⟩ := h
   obtain ⟨hl65,hl65n⟩ := setI_some (cL cS61) gl65 hx63k
   replace hl65 : (l17.map (cL cS61)).set k64 [.sl (x58.map cS61)] = l65.map (cL cS61) := hl65
   clear gl65
   replace h := xsome h;obtain ⟨x66,k67,hx66k,hx66,hx66a,hx66b,h⟩ := h
   replace h := lsome h;obtain ⟨l68,gl68,h⟩ := h
   obtain ⟨hl68,hl68n⟩ := setI_some (cL cS61) gl68 hx66k
   replace hl68 : (l65.map (cL cS61)).set k67 [.sl (x61.map cS61)] = l68.map (cL cS61) := hl68
   clear gl68
   refine .lastAnyS [[],[],[],[1,2],[],[],[],[5,6],[],[],[],[9,10],[8,9,10,11],[8,9,10,11,12],[],[],[],[15,16],[14,15,16,17],[14,15,16,17,18],[0,1,2,3,8,9,10,11,12,13,14,15,16,17,18,19],[0,1,2,3,8,9,10,11,12,13,14,15,16,17,18,19,20],[0,1,2,3,4,5,6,7,8,9,10,11,12,13,14,15,16,17,18,19,20,21],[0,1,2,3,4,5,6,7,8,9,10,11,12,13,14,15,16,17,18,19,20,21,22]] (fun (b : Nat → Bool) => mk 38 [1000] [(0,(if b 23 then .ref 1000 0 l68.length else (if b 21 then .ref 1000 0 l65.length else .ref 1000 0 l17.length))),(1,.i a1),(2,.i a2),(3,.i a3),(10,.i v18),(16,(if b 23 then .ref 1000 0 l68.length else (if b 21 then .ref 1000 0 l65.length else (if b 0 then .ref 1000 0 l17.length else .junk)))),(17,(if b 1 then .i a1 else .junk)),(18,(if b 2 then .i v18 else .junk)),(19,(if b 3 then .i v55 else .junk)),(20,(if b 23 then .ref 1000 0 l68.length else (if b 4 then (if b 21 then .ref 1000 0 l65.length else .ref 1000 0 l17.length) else .junk))),(21,(if b 5 then .i a2 else .junk)),(22,(if b 6 then .i v18 else .junk)),(23,(if b 7 then .i v56 else .junk)),(24,(if b 23 then .ref 1000 0 l68.length else (if b 21 then .ref 1000 0 l65.length else (if b 8 then .ref 1000 0 l17.length else .junk)))),(25,(if b 9 then .i a2 else .junk)),(26,(if b 10 then .i v18 else .junk)),(27,(if b 11 then .i v57 else .junk)),(28,(if b 12 then .ptr 1000 k59 0 else .junk)),(29,(if b 13 then .s61 x58 else .junk)),(30,(if b 23 then .ref 1000 0 l68.length else (if b 21 then .ref 1000 0 l65.length else (if b 14 then .ref 1000 0 l17.length else .junk)))),(31,(if b 15 then .i a1 else .junk)),(32,(if b 16 then .i v18 else .junk)),(33,(if b 17 then .i v60 else .junk)),(34,(if b 18 then .ptr 1000 k62 0 else .junk)),(35,(if b 19 then .s61 x61 else .junk)),(36,(if b 20 then .ptr 1000 k64 0 else .junk)),(37,(if b 22 then .ptr 1000 k67 0 else .junk))] [(1000,(if b 23 then R57 l68 else (if b 21 then R57 l65 else R57 l17)))]) (mk 38 [1000] (L16 l68.length a1 a2 a3 v18) [(1000,R57 l68)]) (by kernel_rfl) (by kernel_rfl) Sub.tt (Steps.cons ?_ (Steps.cons ?_ (Steps.cons ?_ (Steps.cons ?_ (Steps.cons ?_ (Steps.cons ?_ (Steps.cons ?_ (Steps.cons ?_ (Steps.cons ?_ (Steps.cons ?_ (Steps.cons ?_ (Steps.cons ?_ (Steps.cons ?_ (Steps.cons ?_ (Steps.cons ?_ (Steps.cons ?_ (Steps.cons ?_ (Steps.cons ?_ (Steps.cons ?_ (Steps.cons ?_ (Steps.cons ?_ (Steps.cons ?_ (Steps.cons ?_ (Steps.cons ?_ (Steps.nil))))))))))))))))))))))))) ?_ ?_
   iterate 3
    ·intro b h0 ha hd
     have T := fct h0 ha hd;simp at T
     refine .rk 1 fun K k => ?_;simp [T];refine k ?_
     exact .nil .tT
   ·intro b h0 ha hd
    have T := fct h0 ha hd;simp at T
    refine .rk 1 fun K k => ?_;simp [T,hv55];refine k ?_
    exact .nil .tT
   iterate 3
    ·intro b h0 ha hd
     have T := fct h0 ha hd;simp at T
     refine .rk 1 fun K k => ?_;simp [T];refine k ?_
     exact .nil .tT
   ·intro b h0 ha hd
    have T := fct h0 ha hd;simp at T
    refine .rk 1 fun K k => ?_;simp [T,hv56];refine k ?_
    exact .nil .tT
   iterate 3
    ·intro b h0 ha hd
     have T := fct h0 ha hd;simp at T
     refine .rk 1 fun K k => ?_;simp [T];refine k ?_
     exact .nil .tT
   ·intro b h0 ha hd
    have T := fct h0 ha hd;simp at T
    refine .rk 1 fun K k => ?_;simp [T,hv57];refine k ?_
    exact .nil .tT
   ·intro b h0 ha hd
    have T := fct h0 ha hd;simp at T
    refine .rk 1 fun K k => ?_;simp [T,hx58k,hx58a,hx58b];refine k ?_
    exact .nil .tT
   ·intro b h0 ha hd
    have T := fct h0 ha hd;simp at T
    refine .rk 1 fun K k => ?_;simp [T,hx58];refine k ?_
    exact .nil .tT
   iterate 3
    ·intro b h0 ha hd
     have T := fct h0 ha hd;simp at T
     refine .rk 1 fun K k => ?_;simp [T];refine k ?_
     exact .nil .tT
   ·intro b h0 ha hd
    have T := fct h0 ha hd;simp at T
    refine .rk 1 fun K k => ?_;simp [T,hv60];refine k ?_
    exact .nil .tT
   ·intro b h0 ha hd
    have T := fct h0 ha hd;simp at T
    refine .rk 1 fun K k => ?_;simp [T,hx61k,hx61a,hx61b];refine k ?_
    exact .nil .tT
   ·intro b h0 ha hd
    have T := fct h0 ha hd;simp at T
    refine .rk 1 fun K k => ?_;simp [T,hx61];refine k ?_
    exact .nil .tT
   iterate 4
    ·intro b h0 ha hd
     have T := fct h0 ha hd;simp at T
     refine .rk 1 fun K k => ?_;simp [T,hx63,hx63k,hx63a,hx63b,hl65,hx66,hx66k,hx66a,hx66b,hl68];refine k ?_
     exact .nil (.table (by simp [T,hl65n,hl68n]) (by simp [T]))
   ·intro b hb
    have T := FA_of (n := 24) hb;simp at T
    exact Sub.tT
   skip
   refine blockQ.normal (thenQ_normal (.region ?_))
   replace h := csome h;obtain ⟨v69,hv69,h⟩ := h
   refine .rk 3 fun K k => ?_;simp [hv69];refine k ?_
   refine .tt (L16 l68.length a1 a2 a3 v69) [(1000,R57 l68)] (.nil ?_)
   cases h
   refine PostI.next ?_
   exact Sub.tt
  have c54_ : decide (v18 < a3) = false := decide_eq_false c54
  refine .condF rfl c54_ ?_
  refine .exit ?_
  cases h
  refine thenQ_ps ?_
  refine PostI.os ?_
  rintro rfl
  refine blockQ.hit (PostN.next ?_)
  exact Sub.tt
 rintro l53 h
 cases h
 exact FinF.normal (by simp) (by simp)
end Go.Proofs.YtimkkjiplioohaaGreatDoor
