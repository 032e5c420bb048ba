/- Functions of the program as functional programs; the code computes them. -/
import Derived.Test.YtimkkjiplioohaaGreatDoorRa4
namespace Go.Proofs.YtimkkjiplioohaaGreatDoor
open Go.Ab Go.Rp
attribute [-simp] List.all_eq_true Array.all_toList Array.all_eq_true
def d204 (N : Nat) (a0 : (List (List S61))) (a1 : Int) (a2 : Int) (a3 : Int) (p4 : (List S61) → (List S61) → Option Int) : Option (List (List S61)) :=
 (chkI (a2 - a1)).bind fun v1 =>
 (chkI (a3 - a2)).bind fun v2 =>
 Option.bind (α := ((List (List S61)) × Int)) (
  iterN (σ := ((List (List S61)) × Int × Int)) (ρ := ((List (List S61)) × Int)) (fun ((l13,v14,v15) : ((List (List S61)) × Int × Int)) =>
   if (v14 != v15) then (
    if v14 > v15 then (
     (chkI (a2 - v14)).bind fun v43 =>
     (d229 N l13 v43 a2 v15 p4).bind fun r44 =>
     (lenG r44.length l13.length).bind fun _ =>
     (chkI (v14 - v15)).bind fun v45 =>
     some (.inl (r44,v45,v15))
    ) else
    (chkI (a2 - v14)).bind fun v46 =>
    (chkI (a2 + v15)).bind fun v47 =>
    (chkI (v47 - v14)).bind fun v48 =>
    (d229 N l13 v46 v48 v14 p4).bind fun r49 =>
    (lenG r49.length l13.length).bind fun _ =>
    (chkI (v15 - v14)).bind fun v50 =>
    some (.inl (r49,v14,v50))
   ) else
   some (.inr (l13,v14))
  ) N (a0,v1,v2)
 ) fun ((l39,v40) : ((List (List S61)) × Int)) =>
 (chkI (a2 - v40)).bind fun v51 =>
 (d229 N l39 v51 a2 v40 p4).bind fun r52 =>
 (lenG r52.length l39.length).bind fun _ =>
 some r52
set_option maxRecDepth 100000 in
set_option maxHeartbeats 4000000 in
theorem p204 (N : Nat) (a0 : (List (List S61))) (a1 : Int) (a2 : Int) (a3 : Int) (g4 : Nat) (cs4 : List D) (p4 : (List S61) → (List S61) → Option Int) (ent_4 : Rp.Enters Tryz.prog g4) (hp4 : ∀ a0 a1 r,p4 a0 a1 = some r → FunC Tryz.prog g4 ([.s61 a0,.s61 a1] ++ cs4.map .d) (.i r)) (r : (List (List S61))) (h : d204 N a0 a1 a2 a3 p4 = some r) : FunM Tryz.prog 204 [.ref 1000 0 a0.length,.i a1,.i a2,.i a3,.fg g4 cs4] [(1000,R57 a0)] [1000] (.tup []) ([(1000,.arr 57 1 (r.map (cL cS61)))]) := by
 unfold d204 at h
 refine FunM.enter 58 [(0,.ref 1000 0 a0.length),(1,.i a1),(2,.i a2),(3,.i a3),(4,.fg g4 cs4)] Tryz.func204 rfl (of_decide_eq_true rfl) rfl rfl ?_
 refine .seqR ?_
 replace h := csome h;obtain ⟨v1,hv1,h⟩ := h
 refine .rk 4 fun K k => ?_;simp [hv1];refine k ?_
 refine .tt [(0,.ref 1000 0 a0.length),(2,.i a2),(3,.i a3),(4,.fg g4 cs4),(10,.i v1)] [(1000,R57 a0)] (.nil (.seqR ?_))
 replace h := csome h;obtain ⟨v2,hv2,h⟩ := h
 refine .rk 4 fun K k => ?_;simp [hv2];refine k ?_
 refine .tt [(0,.ref 1000 0 a0.length),(2,.i a2),(4,.fg g4 cs4),(10,.i v1),(11,.i v2)] [(1000,R57 a0)] (.nil ?_)
 refine .seqN (fun ((l39,v40) : ((List (List S61)) × Int)) => mk 58 [1000] [(0,.ref 1000 0 l39.length),(2,.i a2),(4,.fg g4 cs4),(10,.i v40)] [(1000,R57 l39)]) h ?_ ?_ <;> clear h
 ·intro o h
  refine .block ?_
  refine .iter (fun ((l13,v14,v15) : ((List (List S61)) × Int × Int)) => mk 58 [1000] [(0,.ref 1000 0 l13.length),(2,.i a2),(4,.fg g4 cs4),(10,.i v14),(11,.i v15)] [(1000,R57 l13)]) h Sub.tt ?_
  clear h
  rintro ⟨l13,v14,v15⟩ x h
  dsimp only at h ⊢
  refine .seq (.seqR ?_)
  refine .rr 3 ?_
  refine .tt [(0,.ref 1000 0 l13.length),(2,.i a2),(4,.fg g4 cs4),(10,.i v14),(11,.i v15),(20,.b (v14 != v15))] [(1000,R57 l13)] (.nil ?_)
  replace h := isome h;rcases h with ⟨c41,h⟩ | ⟨c41,h⟩
  ·have c41_ : (v14 != v15) = true := c41
   refine .condT rfl c41_ ?_
   refine .skip (thenQ_normal (.block (.seqR ?_)))
   refine .rr 3 ?_
   refine .tt [(0,.ref 1000 0 l13.length),(2,.i a2),(4,.fg g4 cs4),(10,.i v14),(11,.i v15),(23,.b (decide (v14 > v15)))] [(1000,R57 l13)] (.nil ?_)
   replace h := isome h;rcases h with ⟨c42,h⟩ | ⟨c42,h⟩
   ·have c42_ : decide (v14 > v15) = true := decide_eq_true c42
    refine .condT rfl c42_ ?_
    refine .seqR ?_
    replace h := csome h;obtain ⟨v43,hv43,h⟩ := h
    refine .rk 7 fun K k => ?_;simp [hv43];refine k ?_
    refine .tt [(0,.ref 1000 0 l13.length),(2,.i a2),(4,.fg g4 cs4),(10,.i v14),(11,.i v15),(24,.ref 1000 0 l13.length),(27,.i v43),(28,.i a2),(29,.i v15),(30,.fg g4 cs4)] [(1000,R57 l13)] ?_
    replace h := bsome h;obtain ⟨r44,hr44,h⟩ := h
    refine .callF (p229 N l13 v43 a2 v15 g4 cs4 p4 ent_4 hp4 r44 hr44) [(1000,1000)] [1000] [(1000,1000)] [(1000,.arr 57 1 (r44.map (cL cS61)))] (.tup []) (by simp) rfl (by simp <;> rfl) (by simp) (by simp) (by simp) (by simp) (by simp) ent229 (by simp) (by simp) (by simp) (by simp) (by simp) (by simp) ?_
    replace h := bsome h;obtain ⟨ur44,kr44,h⟩ := h
    have hlr44 := lenG_some kr44
    clear kr44
    refine .sub (S' := mk 58 [1000] [(0,.ref 1000 0 r44.length),(2,.i a2),(4,.fg g4 cs4),(10,.i v14),(11,.i v15),(24,.ref 1000 0 r44.length),(27,.i v43),(28,.i a2),(29,.i v15),(30,.fg g4 cs4),(31,.tup [])] [(1000,R57 r44)]) (by simp [hlr44];exact Sub.table (by simp) (by simp)) ?_
    refine .nil (.region ?_)
    replace h := csome h;obtain ⟨v45,hv45,h⟩ := h
    refine .rk 4 fun K k => ?_;simp [hv45];refine k ?_
    refine .tt [(0,.ref 1000 0 r44.length),(2,.i a2),(4,.fg g4 cs4),(10,.i v45),(11,.i v15)] [(1000,R57 r44)] (.nil ?_)
    cases h
    refine blockQ.normal (PostI.next ?_)
    exact Sub.tt
   have c42_ : decide (v14 > v15) = false := decide_eq_false c42
   refine .condF rfl c42_ ?_
   refine .seqR ?_
   replace h := csome h;obtain ⟨v46,hv46,h⟩ := h
   replace h := csome h;obtain ⟨v47,hv47,h⟩ := h
   replace h := csome h;obtain ⟨v48,hv48,h⟩ := h
   refine .rk 11 fun K k => ?_;simp [hv46,hv47,hv48];refine k ?_
   refine .tt [(0,.ref 1000 0 l13.length),(2,.i a2),(4,.fg g4 cs4),(10,.i v14),(11,.i v15),(35,.ref 1000 0 l13.length),(38,.i v46),(43,.i v48),(44,.i v14),(45,.fg g4 cs4)] [(1000,R57 l13)] ?_
   replace h := bsome h;obtain ⟨r49,hr49,h⟩ := h
   refine .callF (p229 N l13 v46 v48 v14 g4 cs4 p4 ent_4 hp4 r49 hr49) [(1000,1000)] [1000] [(1000,1000)] [(1000,.arr 57 1 (r49.map (cL cS61)))] (.tup []) (by simp) rfl (by simp <;> rfl) (by simp) (by simp) (by simp) (by simp) (by simp) ent229 (by simp) (by simp) (by simp) (by simp) (by simp) (by simp) ?_
   replace h := bsome h;obtain ⟨ur49,kr49,h⟩ := h
   have hlr49 := lenG_some kr49
   clear kr49
   refine .sub (S' := mk 58 [1000] [(0,.ref 1000 0 r49.length),(2,.i a2),(4,.fg g4 cs4),(10,.i v14),(11,.i v15),(35,.ref 1000 0 r49.length),(38,.i v46),(43,.i v48),(44,.i v14),(45,.fg g4 cs4),(46,.tup [])] [(1000,R57 r49)]) (by simp [hlr49];exact Sub.table (by simp) (by simp)) ?_
   refine .nil (.region ?_)
   replace h := csome h;obtain ⟨v50,hv50,h⟩ := h
   refine .rk 4 fun K k => ?_;simp [hv50];refine k ?_
   refine .tt [(0,.ref 1000 0 r49.length),(2,.i a2),(4,.fg g4 cs4),(10,.i v14),(11,.i v50)] [(1000,R57 r49)] (.nil ?_)
   cases h
   refine blockQ.normal (PostI.next ?_)
   exact Sub.tt
  have c41_ : (v14 != v15) = false := Bool.eq_false_iff.2 c41
  refine .condF rfl c41_ ?_
  refine .exit ?_
  cases h
  refine thenQ_ps ?_
  refine PostI.os ?_
  rintro rfl
  refine blockQ.hit (PostN.next ?_)
  exact Sub.tt
 rintro ⟨l39,v40⟩ h
 dsimp only at h ⊢
 refine .region ?_
 replace h := csome h;obtain ⟨v51,hv51,h⟩ := h
 refine .rk 7 fun K k => ?_;simp [hv51];refine k ?_
 refine .tt [(50,.ref 1000 0 l39.length),(53,.i v51),(54,.i a2),(55,.i v40),(56,.fg g4 cs4)] [(1000,R57 l39)] ?_
 replace h := bsome h;obtain ⟨r52,hr52,h⟩ := h
 refine .callF (p229 N l39 v51 a2 v40 g4 cs4 p4 ent_4 hp4 r52 hr52) [(1000,1000)] [1000] [(1000,1000)] [(1000,.arr 57 1 (r52.map (cL cS61)))] (.tup []) (by simp) rfl (by simp <;> rfl) (by simp) (by simp) (by simp) (by simp) (by simp) ent229 (by simp) (by simp) (by simp) (by simp) (by simp) (by simp) ?_
 replace h := bsome h;obtain ⟨ur52,kr52,h⟩ := h
 have hlr52 := lenG_some kr52
 clear kr52
 refine .sub (S' := mk 58 [1000] [(50,.ref 1000 0 r52.length),(53,.i v51),(54,.i a2),(55,.i v40),(56,.fg g4 cs4),(57,.tup [])] [(1000,R57 r52)]) (by simp [hlr52];exact Sub.table (by simp) (by simp)) ?_
 refine .nil ?_
 cases h
 exact FinF.normal (by simp) (by simp)
end Go.Proofs.YtimkkjiplioohaaGreatDoor
