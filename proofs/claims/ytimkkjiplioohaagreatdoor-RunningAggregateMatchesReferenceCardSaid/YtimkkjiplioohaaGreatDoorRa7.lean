/- Functions of the program as functional programs; the code computes them. -/
import Derived.Test.YtimkkjiplioohaaGreatDoorRa6
namespace Go.Proofs.YtimkkjiplioohaaGreatDoor
set_option maxRecDepth 100000
set_option maxHeartbeats 4000000
open Go.Ab Go.Rp
attribute [-simp] List.all_eq_true Array.all_toList Array.all_eq_true
def d133 (N : Nat) (a0 : (List (List S61))) (a1 : Int) (p2 : (List S61) → (List S61) → Option Int) : Option (List (List S61)) :=
 Option.bind (α := ((List (List S61)) × Int)) (
  iterN (σ := ((List (List S61)) × Int × Int)) (ρ := ((List (List S61)) × Int)) (fun ((l4,v5,v6) : ((List (List S61)) × Int × Int)) =>
   if v6 ≤ a1 then (
    (d168 N l4 v5 v6 p2).bind fun r19 =>
    (lenG r19.length l4.length).bind fun _ =>
    (chkI (v6 + 20)).bind fun v20 =>
    some (.inl (r19,v6,v20))
   ) else
   some (.inr (l4,v5))
  ) N (a0,0,20)
 ) fun ((l16,v17) : ((List (List S61)) × Int)) =>
 (d168 N l16 v17 a1 p2).bind fun r21 =>
 (lenG r21.length l16.length).bind fun _ =>
 Option.bind (α := List (List S61)) (
  iterN (σ := ((List (List S61)) × Int)) (ρ := List (List S61)) (fun ((l57,v58) : ((List (List S61)) × Int)) =>
   if v58 < a1 then (
    (chkI (2 * v58)).bind fun v133 =>
    Option.bind (α := ((List (List S61)) × Int)) (
     iterN (σ := ((List (List S61)) × Int × Int)) (ρ := ((List (List S61)) × Int)) (fun ((l139,v140,v141) : ((List (List S61)) × Int × Int)) =>
      if v141 ≤ a1 then (
       (chkI (v140 + v58)).bind fun v158 =>
       (d169 N l139 v140 v158 v141 p2).bind fun r159 =>
       (lenG r159.length l139.length).bind fun _ =>
       (chkI (2 * v58)).bind fun v160 =>
       (chkI (v141 + v160)).bind fun v161 =>
       some (.inl (r159,v141,v161))
      ) else
      some (.inr (l139,v140))
     ) N (l57,0,v133)
    ) fun ((l155,v156) : ((List (List S61)) × Int)) =>
    (chkI (v156 + v58)).bind fun v162 =>
    if v162 < a1 then (
     (d169 N l155 v156 v162 a1 p2).bind fun r164 =>
     (lenG r164.length l155.length).bind fun _ =>
     (chkI (v58 * 2)).bind fun v165 =>
     some (.inl (r164,v165))
    ) else
    (chkI (v58 * 2)).bind fun v166 =>
    some (.inl (l155,v166))
   ) else
   some (.inr l57)
  ) N (r21,20)
 ) fun (l131 : List (List S61)) =>
 some l131
theorem p133 (N : Nat) (a0 : (List (List S61))) (a1 : Int) (g2 : Nat) (cs2 : List D) (p2 : (List S61) → (List S61) → Option Int) (ent_2 : Rp.Enters Tryz.prog g2) (hp2 : ∀ a0 a1 r,p2 a0 a1 = some r → FunC Tryz.prog g2 ([.s61 a0,.s61 a1] ++ cs2.map .d) (.i r)) (r : (List (List S61))) (h : d133 N a0 a1 p2 = some r) : FunM Tryz.prog 133 [.ref 1000 0 a0.length,.i a1,.fg g2 cs2] [(1000,R57 a0)] [1000] (.tup []) ([(1000,.arr 57 1 (r.map (cL cS61)))]) := by
 unfold d133 at h
 refine FunM.enter 63 [(0,.ref 1000 0 a0.length),(1,.i a1),(2,.fg g2 cs2)] Tryz.func133 rfl (of_decide_eq_true rfl) rfl rfl ?_
 refine .seqR ?_
 refine .rr 1 ?_
 refine .tt [(0,.ref 1000 0 a0.length),(1,.i a1),(2,.fg g2 cs2),(6,.i 20)] [(1000,R57 a0)] (.nil (.seqR ?_))
 refine .rr 3 ?_
 refine .tt [(0,.ref 1000 0 a0.length),(1,.i a1),(2,.fg g2 cs2),(6,.i 20),(7,.i 0),(8,.i 20)] [(1000,R57 a0)] (.nil ?_)
 refine .seqN (fun ((l16,v17) : ((List (List S61)) × Int)) => mk 63 [1000] [(0,.ref 1000 0 l16.length),(1,.i a1),(2,.fg g2 cs2),(6,.i 20),(7,.i v17)] [(1000,R57 l16)]) h ?_ ?_ <;> clear h
 ·intro o h
  refine .block ?_
  refine .iter (fun ((l4,v5,v6) : ((List (List S61)) × Int × Int)) => mk 63 [1000] [(0,.ref 1000 0 l4.length),(1,.i a1),(2,.fg g2 cs2),(6,.i 20),(7,.i v5),(8,.i v6)] [(1000,R57 l4)]) h Sub.tt ?_
  clear h
  rintro ⟨l4,v5,v6⟩ x h
  dsimp only at h ⊢
  refine .seq (.seqR ?_)
  refine .rr 3 ?_
  refine .tt [(0,.ref 1000 0 l4.length),(1,.i a1),(2,.fg g2 cs2),(6,.i 20),(7,.i v5),(8,.i v6),(13,.b (decide (v6 ≤ a1)))] [(1000,R57 l4)] (.nil ?_)
  replace h := isome h;rcases h with ⟨c18,h⟩ | ⟨c18,h⟩
  ·have c18_ : decide (v6 ≤ a1) = true := decide_eq_true c18
   refine .condT rfl c18_ ?_
   refine .skip (thenQ_normal (.block (.seqR ?_)))
   refine .rr 4 ?_
   refine .tt [(0,.ref 1000 0 l4.length),(1,.i a1),(2,.fg g2 cs2),(6,.i 20),(8,.i v6),(14,.ref 1000 0 l4.length),(15,.i v5),(16,.i v6),(17,.fg g2 cs2)] [(1000,R57 l4)] ?_
   replace h := bsome h;obtain ⟨r19,hr19,h⟩ := h
   refine .callF (p168 N l4 v5 v6 g2 cs2 p2 ent_2 hp2 r19 hr19) [(1000,1000)] [1000] [(1000,1000)] [(1000,.arr 57 1 (r19.map (cL cS61)))] (.tup []) (by simp) rfl (by simp <;> rfl) (by simp) (by simp) (by simp) (by simp) (by simp) ent168 (by simp) (by simp) (by simp) (by simp) (by simp) (by simp) ?_
   replace h := bsome h;obtain ⟨ur19,kr19,h⟩ := h
   have hlr19 := lenG_some kr19
   clear kr19
   refine .sub (S' := mk 63 [1000] [(0,.ref 1000 0 r19.length),(1,.i a1),(2,.fg g2 cs2),(6,.i 20),(8,.i v6),(14,.ref 1000 0 r19.length),(15,.i v5),(16,.i v6),(17,.fg g2 cs2),(18,.tup [])] [(1000,R57 r19)]) (by simp [hlr19];exact Sub.table (by simp) (by simp)) ?_
   refine .nil (.seqR ?_)
   refine .rr 2 ?_
   refine .tt [(0,.ref 1000 0 r19.length),(1,.i a1),(2,.fg g2 cs2),(6,.i 20),(7,.i v6),(8,.i v6)] [(1000,R57 r19)] (.nil (.region ?_))
   replace h := csome h;obtain ⟨v20,hv20,h⟩ := h
   refine .rk 4 fun K k => ?_;simp [hv20];refine k ?_
   refine .tt [(0,.ref 1000 0 r19.length),(1,.i a1),(2,.fg g2 cs2),(6,.i 20),(7,.i v6),(8,.i v20)] [(1000,R57 r19)] (.nil ?_)
   cases h
   refine blockQ.normal (PostI.next ?_)
   exact Sub.tt
  have c18_ : decide (v6 ≤ a1) = false := decide_eq_false c18
  refine .condF rfl c18_ ?_
  refine .exit ?_
  cases h
  refine thenQ_ps ?_
  refine PostI.os ?_
  rintro rfl
  refine blockQ.hit (PostN.next ?_)
  exact Sub.tt
 rintro ⟨l16,v17⟩ h
 dsimp only at h ⊢
 refine .seqR ?_
 refine .rr 4 ?_
 refine .tt [(0,.ref 1000 0 l16.length),(1,.i a1),(2,.fg g2 cs2),(6,.i 20),(23,.ref 1000 0 l16.length),(24,.i v17),(25,.i a1),(26,.fg g2 cs2)] [(1000,R57 l16)] ?_
 replace h := bsome h;obtain ⟨r21,hr21,h⟩ := h
 refine .callF (p168 N l16 v17 a1 g2 cs2 p2 ent_2 hp2 r21 hr21) [(1000,1000)] [1000] [(1000,1000)] [(1000,.arr 57 1 (r21.map (cL cS61)))] (.tup []) (by simp) rfl (by simp <;> rfl) (by simp) (by simp) (by simp) (by simp) (by simp) ent168 (by simp) (by simp) (by simp) (by simp) (by simp) (by simp) ?_
 replace h := bsome h;obtain ⟨ur21,kr21,h⟩ := h
 have hlr21 := lenG_some kr21
 clear kr21
 refine .sub (S' := mk 63 [1000] [(0,.ref 1000 0 r21.length),(1,.i a1),(2,.fg g2 cs2),(6,.i 20),(23,.ref 1000 0 r21.length),(24,.i v17),(25,.i a1),(26,.fg g2 cs2),(27,.tup [])] [(1000,R57 r21)]) (by simp [hlr21];exact Sub.table (by simp) (by simp)) ?_
 refine .nil ?_
 refine .lastN (fun (l131 : List (List S61)) => mk 63 [1000] [] [(1000,R57 l131)]) h ?_ ?_ <;> clear h
 ·intro o h
  refine .block ?_
  refine .iter (fun ((l57,v58) : ((List (List S61)) × Int)) => mk 63 [1000] [(0,.ref 1000 0 l57.length),(1,.i a1),(2,.fg g2 cs2),(6,.i v58)] [(1000,R57 l57)]) h Sub.tt ?_
  clear h
  rintro ⟨l57,v58⟩ x h
  dsimp only at h ⊢
  refine .seq (.seqR ?_)
  refine .rr 3 ?_
  refine .tt [(0,.ref 1000 0 l57.length),(1,.i a1),(2,.fg g2 cs2),(6,.i v58),(30,.b (decide (v58 < a1)))] [(1000,R57 l57)] (.nil ?_)
  replace h := isome h;rcases h with ⟨c132,h⟩ | ⟨c132,h⟩
  ·have c132_ : decide (v58 < a1) = true := decide_eq_true c132
   refine .condT rfl c132_ ?_
   refine .skip (thenQ_normal (.block (.seqR ?_)))
   replace h := csome h;obtain ⟨v133,hv133,h⟩ := h
   refine .rk 4 fun K k => ?_;simp [hv133];refine k ?_
   refine .tt [(0,.ref 1000 0 l57.length),(1,.i a1),(2,.fg g2 cs2),(6,.i v58),(7,.i 0),(8,.i v133)] [(1000,R57 l57)] (.nil ?_)
   refine .seqN (fun ((l155,v156) : ((List (List S61)) × Int)) => mk 63 [1000] [(0,.ref 1000 0 l155.length),(1,.i a1),(2,.fg g2 cs2),(6,.i v58),(7,.i v156)] [(1000,R57 l155)]) h ?_ ?_ <;> clear h
   ·intro o h
    refine .block ?_
    refine .iter (fun ((l139,v140,v141) : ((List (List S61)) × Int × Int)) => mk 63 [1000] [(0,.ref 1000 0 l139.length),(1,.i a1),(2,.fg g2 cs2),(6,.i v58),(7,.i v140),(8,.i v141)] [(1000,R57 l139)]) h Sub.tt ?_
    clear h
    rintro ⟨l139,v140,v141⟩ x h
    dsimp only at h ⊢
    refine .seq (.seqR ?_)
    refine .rr 3 ?_
    refine .tt [(0,.ref 1000 0 l139.length),(1,.i a1),(2,.fg g2 cs2),(6,.i v58),(7,.i v140),(8,.i v141),(35,.b (decide (v141 ≤ a1)))] [(1000,R57 l139)] (.nil ?_)
    replace h := isome h;rcases h with ⟨c157,h⟩ | ⟨c157,h⟩
    ·have c157_ : decide (v141 ≤ a1) = true := decide_eq_true c157
     refine .condT rfl c157_ ?_
     refine .skip (thenQ_normal (.block (.seqR ?_)))
     replace h := csome h;obtain ⟨v158,hv158,h⟩ := h
     refine .rk 7 fun K k => ?_;simp [hv158];refine k ?_
     refine .tt [(0,.ref 1000 0 l139.length),(1,.i a1),(2,.fg g2 cs2),(6,.i v58),(8,.i v141),(36,.ref 1000 0 l139.length),(37,.i v140),(40,.i v158),(41,.i v141),(42,.fg g2 cs2)] [(1000,R57 l139)] ?_
     replace h := bsome h;obtain ⟨r159,hr159,h⟩ := h
     refine .callF (p169 N l139 v140 v158 v141 g2 cs2 p2 ent_2 hp2 r159 hr159) [(1000,1000)] [1000] [(1000,1000)] [(1000,.arr 57 1 (r159.map (cL cS61)))] (.tup []) (by simp) rfl (by simp <;> rfl) (by simp) (by simp) (by simp) (by simp) (by simp) ent169 (by simp) (by simp) (by simp) (by simp) (by simp) (by simp) ?_
     replace h := bsome h;obtain ⟨ur159,kr159,h⟩ := h
     have hlr159 := lenG_some kr159
     clear kr159
     refine .sub (S' := mk 63 [1000] [(0,.ref 1000 0 r159.length),(1,.i a1),(2,.fg g2 cs2),(6,.i v58),(8,.i v141),(36,.ref 1000 0 r159.length),(37,.i v140),(40,.i v158),(41,.i v141),(42,.fg g2 cs2),(43,.tup [])] [(1000,R57 r159)]) (by simp [hlr159];exact Sub.table (by simp) (by simp)) ?_
     refine .nil (.seqR ?_)
     refine .rr 2 ?_
     refine .tt [(0,.ref 1000 0 r159.length),(1,.i a1),(2,.fg g2 cs2),(6,.i v58),(7,.i v141),(8,.i v141)] [(1000,R57 r159)] (.nil (.region ?_))
     replace h := csome h;obtain ⟨v160,hv160,h⟩ := h
     replace h := csome h;obtain ⟨v161,hv161,h⟩ := h
     refine .rk 5 fun K k => ?_;simp [hv160,hv161];refine k ?_
     refine .tt [(0,.ref 1000 0 r159.length),(1,.i a1),(2,.fg g2 cs2),(6,.i v58),(7,.i v141),(8,.i v161)] [(1000,R57 r159)] (.nil ?_)
     cases h
     refine blockQ.normal (PostI.next ?_)
     exact Sub.tt
    have c157_ : decide (v141 ≤ a1) = false := decide_eq_false c157
    refine .condF rfl c157_ ?_
    refine .exit ?_
    cases h
    refine thenQ_ps ?_
    refine PostI.os ?_
    rintro rfl
    refine blockQ.hit (PostN.next ?_)
    exact Sub.tt
   rintro ⟨l155,v156⟩ h
   dsimp only at h ⊢
   refine .seq (.seqR ?_)
   replace h := csome h;obtain ⟨v162,hv162,h⟩ := h
   refine .rk 4 fun K k => ?_;simp [hv162];refine k ?_
   refine .tt [(0,.ref 1000 0 l155.length),(1,.i a1),(2,.fg g2 cs2),(6,.i v58),(7,.i v156),(9,.i v162)] [(1000,R57 l155)] (.nil (.seqR ?_))
   refine .rr 3 ?_
   refine .tt [(0,.ref 1000 0 l155.length),(1,.i a1),(2,.fg g2 cs2),(6,.i v58),(7,.i v156),(9,.i v162),(54,.b (decide (v162 < a1)))] [(1000,R57 l155)] (.nil ?_)
   replace h := isome h;rcases h with ⟨c163,h⟩ | ⟨c163,h⟩
   ·have c163_ : decide (v162 < a1) = true := decide_eq_true c163
    refine .condT rfl c163_ ?_
    refine .region ?_
    refine .rr 5 ?_
    refine .tt [(0,.ref 1000 0 l155.length),(1,.i a1),(2,.fg g2 cs2),(6,.i v58),(55,.ref 1000 0 l155.length),(56,.i v156),(57,.i v162),(58,.i a1),(59,.fg g2 cs2)] [(1000,R57 l155)] ?_
    replace h := bsome h;obtain ⟨r164,hr164,h⟩ := h
    refine .callF (p169 N l155 v156 v162 a1 g2 cs2 p2 ent_2 hp2 r164 hr164) [(1000,1000)] [1000] [(1000,1000)] [(1000,.arr 57 1 (r164.map (cL cS61)))] (.tup []) (by simp) rfl (by simp <;> rfl) (by simp) (by simp) (by simp) (by simp) (by simp) ent169 (by simp) (by simp) (by simp) (by simp) (by simp) (by simp) ?_
    replace h := bsome h;obtain ⟨ur164,kr164,h⟩ := h
    have hlr164 := lenG_some kr164
    clear kr164
    refine .sub (S' := mk 63 [1000] [(0,.ref 1000 0 r164.length),(1,.i a1),(2,.fg g2 cs2),(6,.i v58),(55,.ref 1000 0 r164.length),(56,.i v156),(57,.i v162),(58,.i a1),(59,.fg g2 cs2),(60,.tup [])] [(1000,R57 r164)]) (by simp [hlr164];exact Sub.table (by simp) (by simp)) ?_
    refine .nil (thenQ_normal (.region ?_))
    replace h := csome h;obtain ⟨v165,hv165,h⟩ := h
    refine .rk 3 fun K k => ?_;simp [hv165];refine k ?_
    refine .tt [(0,.ref 1000 0 r164.length),(1,.i a1),(2,.fg g2 cs2),(6,.i v165)] [(1000,R57 r164)] (.nil ?_)
    cases h
    refine blockQ.normal (PostI.next ?_)
    exact Sub.tt
   have c163_ : decide (v162 < a1) = false := decide_eq_false c163
   refine .condF rfl c163_ ?_
   refine .skip (thenQ_normal (.region ?_))
   replace h := csome h;obtain ⟨v166,hv166,h⟩ := h
   refine .rk 3 fun K k => ?_;simp [hv166];refine k ?_
   refine .tt [(0,.ref 1000 0 l155.length),(1,.i a1),(2,.fg g2 cs2),(6,.i v166)] [(1000,R57 l155)] (.nil ?_)
   cases h
   refine blockQ.normal (PostI.next ?_)
   exact Sub.tt
  have c132_ : decide (v58 < a1) = false := decide_eq_false c132
  refine .condF rfl c132_ ?_
  refine .exit ?_
  cases h
  refine thenQ_ps ?_
  refine PostI.os ?_
  rintro rfl
  refine blockQ.hit (PostN.next ?_)
  exact Sub.tt
 rintro l131 h
 cases h
 exact FinF.normal (by simp) (by simp)
def d110 (N : Nat) (a0 : (List (List S61))) (p1 : (List S61) → (List S61) → Option Int) : Option (List (List S61)) :=
 (d133 N a0 (a0.length : Int) p1).bind fun r1 =>
 (lenG r1.length a0.length).bind fun _ =>
 some r1
theorem p110 (N : Nat) (a0 : (List (List S61))) (g1 : Nat) (cs1 : List D) (p1 : (List S61) → (List S61) → Option Int) (ent_1 : Rp.Enters Tryz.prog g1) (hp1 : ∀ a0 a1 r,p1 a0 a1 = some r → FunC Tryz.prog g1 ([.s61 a0,.s61 a1] ++ cs1.map .d) (.i r)) (r : (List (List S61))) (h : d110 N a0 p1 = some r) : FunM Tryz.prog 110 [.ref 1000 0 a0.length,.fg g1 cs1] [(1000,R57 a0)] [1000] (.tup []) ([(1000,.arr 57 1 (r.map (cL cS61)))]) := by
 unfold d110 at h
 refine FunM.enter 9 [(0,.ref 1000 0 a0.length),(1,.fg g1 cs1)] Tryz.func110 rfl (of_decide_eq_true rfl) rfl rfl ?_
 refine .region ?_
 refine .rr 4 ?_
 refine .tt [(4,.ref 1000 0 a0.length),(6,.i (a0.length : Int)),(7,.fg g1 cs1)] [(1000,R57 a0)] ?_
 replace h := bsome h;obtain ⟨r1,hr1,h⟩ := h
 refine .callF (p133 N a0 (a0.length : Int) g1 cs1 p1 ent_1 hp1 r1 hr1) [(1000,1000)] [1000] [(1000,1000)] [(1000,.arr 57 1 (r1.map (cL cS61)))] (.tup []) (by simp) rfl (by simp <;> rfl) (by simp) (by simp) (by simp) (by simp) (by simp) ent133 (by simp) (by simp) (by simp) (by simp) (by simp) (by simp) ?_
 replace h := bsome h;obtain ⟨ur1,kr1,h⟩ := h
 have hlr1 := lenG_some kr1
 clear kr1
 refine .sub (S' := mk 9 [1000] [(4,.ref 1000 0 r1.length),(6,.i (a0.length : Int)),(7,.fg g1 cs1),(8,.tup [])] [(1000,R57 r1)]) (by simp [hlr1];exact Sub.table (by simp) (by simp)) ?_
 refine .nil ?_
 cases h
 exact FinF.normal (by simp) (by simp)
def d84 (N : Nat) (a0 : (List (List S61))) (a1 : S65) (a2 : Int) : Option ((List (List (List S61))) × Int) :=
 (d31 N a0 a1 a2).bind fun r1 =>
 if (r1 != 0) then (
  some (([] : List (List (List S61))),r1)
 ) else
 (posG a2).bind fun _ =>
 bindO (β := List (List (List S61))) (ρ := ((List (List (List S61))) × Int)) (
  (chunksO a2 a0).bind fun cs => rangeL (α := List (List S61)) (β := List (List (List S61))) (ρ := ((List (List (List S61))) × Int)) (fun (x4 : List (List S61)) => fun (l8 : List (List (List S61))) =>
   (d78 N x4).bind fun r13 =>
   (d110 N r13 (fun b0 b1 => d111 N b0 b1 a1)).bind fun r14 =>
   (lenG r14.length r13.length).bind fun _ =>
   (appL 24 l8 [r14]).bind fun _l15 =>
   some (.go (l8 ++ [r14]))
  ) cs ([] : List (List (List S61)))
 ) fun (l8 : List (List (List S61))) =>
 some (l8,0)
theorem p84 (N : Nat) (a0 : (List (List S61))) (a1 : S65) (a2 : Int) (r : ((List (List (List S61))) × Int)) (h : d84 N a0 a1 a2 = some r) : FunC Tryz.prog 84 [.ls61 a0,.agg [.si a1.Columns,.sb a1.Descending],.i a2] (.tup [.lls61 r.1,.i r.2]) := by
 unfold d84 at h
 refine FunC.enter 33 [(0,.ls61 a0),(1,.agg [.si a1.Columns,.sb a1.Descending]),(2,.i a2)] (by simp) Tryz.func84 rfl (of_decide_eq_true rfl) rfl rfl ?_
 refine .seqR ?_
 refine .rr 3 ?_
 refine .tt (L11 a0 a2) (H7 a1) (.nil (.seq (.seqR ?_)))
 refine .rr 3 ?_
 refine .tt (L11 a0 a2 ++ [(12,.ls61 a0),(13,.agg [.si a1.Columns,.sb a1.Descending]),(14,.i a2)]) (H7 a1) ?_
 replace h := bsome h;obtain ⟨r1,hr1,h⟩ := h
 refine .callL (d := 15) (p31 N a0 a1 a2 r1 hr1) (by simp) rfl rfl (by simp <;> rfl) (by simp <;> rfl) ent31 (by simp <;> rfl) ?_
 refine .st (mk 33 [] (L11 a0 a2 ++ [(12,.ls61 a0),(13,.agg [.si a1.Columns,.sb a1.Descending]),(14,.i a2),(15,.i r1)]) (H7 a1)) ?_
 refine .rr 1 ?_
 refine .tt (L11 a0 a2 ++ [(8,.i r1)]) (H7 a1) (.nil (.seqR ?_))
 refine .rr 2 ?_
 refine .tt (L11 a0 a2 ++ [(8,.i r1),(17,.b (r1 != 0))]) (H7 a1) (.nil ?_)
 replace h := isome h;rcases h with ⟨c2,h⟩ | ⟨c2,h⟩
 ·have c2_ : (r1 != 0) = true := c2
  refine .condT rfl c2_ ?_
  refine .seqR ?_
  refine .rr 3 ?_
  refine .tt [(6,.z),(7,.i r1)] [] (.nil ?_)
  refine .sub (.wk 6 rfl) ?_
  refine .st (mk 33 [] [(6,.lls61 ([] : List (List (List S61)))),(7,.i r1)] []) (.ret ?_)
  cases h
  refine thenQ_ps ?_
  exact FinC.rs
 have c2_ : (r1 != 0) = false := Bool.eq_false_iff.2 c2
 refine .condF rfl c2_ ?_
 refine .skip (thenQ_normal (.seqR ?_))
 refine .rr 1 ?_
 refine .tt (L11 a0 a2 ++ [(9,.ptr 9 0 0)]) (H43 a1) (.nil (.seq (.seqR ?_)))
 refine .rr 2 ?_
 refine .tt [(4,.ptr 4 0 0),(9,.ptr 9 0 0),(19,.ls61 a0),(20,.i a2)] (H43 a1) ?_
 replace h := bsome h;obtain ⟨u3,hu3,h⟩ := h
 refine .callF (pch109 (a0.map (cL cS61)) a2 (posG_some hu3)) [] [] [(2,21),(3,800021)] [(21,.box [.ls61 a0]),(800021,.box [.d (.lit (.int .i64 a2))])] (.fn (.func 132) [.ptr 21 0 0,.ptr 800021 0 0]) (by simp) rfl (by simp <;> rfl) (by simp) (by simp) (by simp) (by simp) (by simp) ent109 (by simp) (by simp) (by simp) (by simp) (by simp) (by simp) ?_
 refine .st (mk 33 [] [(4,.ptr 4 0 0),(9,.ptr 9 0 0),(19,.ls61 a0),(20,.i a2),(21,.fn (.func 132) [.ptr 21 0 0,.ptr 800021 0 0])] [(4,some (.box [.si a1.Columns,.sb a1.Descending])),(9,some (.box [.z])),(21,some (.box [.ls61 a0])),(800021,some (.box [.i a2]))]) (.nil (.block ?_))
 refine .sub (.freezeBox 4 [.sl (a1.Columns.map (cI .i64)),.sl (a1.Descending.map cB)] rfl) ?_
 refine .st (mk 33 [] (L18 a1.Columns a1.Descending ++ [(19,.ls61 a0),(20,.i a2),(21,.fn (.func 132) [.ptr 21 0 0,.ptr 800021 0 0])]) [(9,some (.box [.z])),(21,some (.box [.ls61 a0])),(800021,some (.box [.i a2]))]) ?_
 refine .lastJ (fun b => mk 33 [] [(4,.d (.pim [.sl (a1.Columns.map (cI .i64)),.sl (a1.Descending.map cB)])),(9,.ptr 9 0 0),(21,.fn (.func 132) [.ptr 21 0 0,.ptr 800021 0 0])] ((fun (b : List (List (List S61))) => [(9,some (.box [.ref 31 0 b.length])),(21,some (.box [.ls61 a0])),(31,R48 b),(800021,some (.box [.i a2]))]) b)) h ?_ ?_ <;> clear h
 ·intro o h
  refine .chunk (nt := 33) (rts := []) (l := [(4,.d (.pim [.sl (a1.Columns.map (cI .i64)),.sl (a1.Descending.map cB)])),(9,.ptr 9 0 0),(21,.fn (.func 132) [.ptr 21 0 0,.ptr 800021 0 0])]) (c := (cL cS61)) (xs := a0) (B := 21) (B2 := 800021) (v := a2) (fun (b : List (List (List S61))) => [(9,some (.box [.ref 31 0 b.length])),(21,some (.box [.ls61 a0])),(31,some (.arr 48 1 (b.map (cL (cL cS61))))),(800021,some (.box [.d (.lit (.int .i64 a2))]))]) [9,21,800021] cc132 ent132 (Sub.trans (Sub.nilOwnBox (bid := 9) (j := 0) (id := 31) (T := 48) (n := 1) rfl rfl (by decide) rfl (by decide)) (by simp;exact Sub.tt)) rfl (by intros;rfl) (by intros;rfl) (fun _ => rfl) (by simp) (by simp [V.has] <;> omega) h ?_
  clear h
  rintro l8 x4 o' h
  try dsimp only at h ⊢
  refine .st (mk 33 [9,21,800021] (L18 a1.Columns a1.Descending ++ [(22,.ls61 x4)]) (H34 l8 a0 a2)) (.region ?_)
  refine .rr 1 ?_
  refine .tt (L18 a1.Columns a1.Descending ++ [(10,.ls61 x4)]) (H34 l8 a0 a2) (.nil (thenQ_normal (.block (.seqR ?_))))
  refine .rr 1 ?_
  refine .tt (L18 a1.Columns a1.Descending ++ [(23,.ls61 x4)]) (H34 l8 a0 a2) ?_
  replace h := bsome h;obtain ⟨r13,hr13,h⟩ := h
  refine .callO (d := 24) (p78 N x4 r13 hr13) (by simp) rfl rfl (by simp <;> rfl) (by simp <;> rfl) ent78 (by simp) ⟨by simp,by simp⟩ ?_
  refine .st (mk 33 [9,21,800021] (L18 a1.Columns a1.Descending ++ [(23,.ls61 x4),(24,.ref 24 0 r13.length)]) (H28 l8 a0 r13 a2)) ?_
  refine .rr 1 ?_
  refine .tt (L18 a1.Columns a1.Descending ++ [(11,.ref 24 0 r13.length)]) (H28 l8 a0 r13 a2) (.nil (.seqR ?_))
  refine .rr 2 ?_
  refine .tt [(9,.ptr 9 0 0),(11,.ref 24 0 r13.length),(25,.ref 24 0 r13.length),(26,.fn (.func 111) [.d (.pim [.sl (a1.Columns.map (cI .i64)),.sl (a1.Descending.map cB)])])] (H28 l8 a0 r13 a2) ?_
  replace h := bsome h;obtain ⟨r14,hr14,h⟩ := h
  refine .callF (p110 N r13 111 [.pim [.sl (a1.Columns.map (cI .i64)),.sl (a1.Descending.map cB)]] (fun b0 b1 => d111 N b0 b1 a1) ent111 (fun b0 b1 r h => p111 N b0 b1 a1 r h) r14 hr14) [(24,1000)] [24] [(1000,24)] [(24,.arr 57 1 (r14.map (cL cS61)))] (.tup []) (by simp) rfl (by simp <;> rfl) (by simp) (by simp) (by simp) (by simp) (by simp) ent110 (by simp) (by simp) (by simp) (by simp) (by simp) (by simp) ?_
  replace h := bsome h;obtain ⟨ur14,kr14,h⟩ := h
  have hlr14 := lenG_some kr14
  clear kr14
  refine .sub (S' := mk 33 [9,21,800021] [(9,.ptr 9 0 0),(11,.ref 24 0 r14.length),(25,.ref 24 0 r14.length),(26,.fn (.func 111) [.d (.pim [.sl (a1.Columns.map (cI .i64)),.sl (a1.Descending.map cB)])]),(27,.tup [])] (H28 l8 a0 r14 a2)) (by simp [hlr14];exact Sub.table (by simp) (by simp)) ?_
  refine .nil (.region ?_)
  refine .runK [30] 2 fun K k => ?_;simp;refine k _ _ ?_;clear k K
  refine .tt [(9,.ptr 9 0 0),(28,.ref 31 0 l8.length),(29,.ref 24 0 r14.length)] (H28 l8 a0 r14 a2) ?_
  refine .sub (.freeze 24 rfl) ?_
  refine .st (mk 33 [9,21,800021] [(9,.ptr 9 0 0),(28,.ref 31 0 l8.length),(29,.ls61 r14)] (H34 l8 a0 a2)) ?_
  replace h := bsome h;obtain ⟨l15,hl15,h⟩ := h
  obtain ⟨hl15a,hl15⟩ := appL_some hl15
  subst hl15
  try simp only [List.length_cons,List.length_nil,Nat.zero_add] at hl15a
  refine .runK [30] 3 fun K k => ?_;simp [hl15a];refine k _ _ ?_;clear k K
  refine .tt [] [(9,some (.box [.ref 31 0 ((l8 ++ [r14]).length)])),(21,some (.box [.ls61 a0])),(31,R48 (l8 ++ [r14])),(800021,some (.box [.i a2]))] (.nil ?_)
  cases h
  refine blockQ.normal ?_
  exact ⟨rfl,Sub.tt⟩
 rintro l8 h
 try dsimp only at h ⊢
 refine blockQ.normal (thenQ_normal (.seqR ?_))
 refine .rr 3 ?_
 refine .tt [(6,.ref 31 0 l8.length),(7,.i 0)] [(31,R48 l8)] (.nil ?_)
 refine .sub (.freeze 31 rfl) ?_
 refine .st (mk 33 [] [(6,.lls61 l8),(7,.i 0)] []) (.ret ?_)
 cases h
 exact FinC.rs
set_option maxHeartbeats 2000000 in
attribute [local go_sem] Oper.semAt_some in
open Go.RowKit Go.Shelf in
theorem cc112 : ChunkC Tryz.prog 112 1 := by
 intro pb po qb qo l N n J Jx W hN hn hn2 hdr hbase hY h0
 refine callsIn_of_wp Tryz.func112 rfl trivial ?_ rfl
 simp only [show Tryz.f112.ntmps = 31 from rfl,List.size_toArray,List.length_cons,List.length_nil,Nat.reduceAdd,Nat.reduceSub,Array.replicate_succ,Array.replicate_zero,List.push_toArray,List.append_toArray,List.nil_append,List.cons_append]
 gi_wp2
 gi_loopw [4] (fun i wr => ∃ k j : Nat,k * n = j ∧ i = .int .i64 (j : Int) ∧ j < N + n ∧ J k wr) (fun i _ => (N + n - intOf i).toNat)
 case atStart => exact ⟨0,0,by simp,rfl,by omega,h0⟩
 case round =>
  obtain ⟨k,j,hj,rfl,hk,hJs⟩ := hrel
  obtain ⟨⟨A,cap,hb0⟩,hq0⟩ := hbase k wr hJs
  by_cases hlt : j < N
  ·gi_wp2
   have hjc : (j : Int) ≤ N := by omega
   have hj0 : ¬ (j : Int) < 0 := by omega
   obtain ⟨b,off,hA,hcj⟩ : ∃ b off,A = some ⟨b,off,none⟩ ∧ ¬ cap = j := by
    obtain ⟨_,⟨b,off,cap',hc,hcap,_⟩,_⟩ := hY k wr (by omega) hJs
    rw [hb0] at hc
    injection hc with hc
    injection hc with hc _ hc2
    exact ⟨b,off,hc,by omega⟩
   subst hA
   gi_quiet (fail)
   replace hJs := hdr k wr nq hJs
   obtain ⟨⟨A,cap2,hb1⟩,hq1⟩ := hbase k _ hJs
   obtain ⟨args,⟨b2,off2,cap',hc,hcap,rfl⟩,fn,tmps,assign,body,hy,hR⟩ := hY k _ (by omega) hJs
   clear hb0 hq0
   generalize wr.drewN nq = w2 at *
   have hmin : (if N - j < n then ((N - j : Nat) : Int) else (n : Int)) = ((min n (N - j) : Nat) : Int) := by omega
   rw [hmin]
   obtain ⟨m,hm⟩ : ∃ m,min n (N - j) = m := ⟨_,rfl⟩
   rw [hj,hm] at hy
   rw [hm]
   have hmn : m ≤ n := by omega
   have hmj : j + m ≤ N := by omega
   rw [hb1] at hc
   injection hc with hc
   injection hc with hc1 hc2 hc3
   subst hc1 hc3
   rw [Nat.mul_one] at hy
   have e1 : (j : Int) + m ≤ cap2 := by omega
   have e2 : (j : Int) ≤ j + m := by omega
   have e3 : ((j : Int) + m).toNat - j = m := by omega
   gi_wp2
   refine hR.mono ?_
   rintro e W3 (⟨rfl,hJ3⟩ | ⟨rfl,hJx3⟩)
   ·obtain ⟨_,hq3⟩ := hbase (k + 1) W3 hJ3
    gi_wp2
    go_roundw
    case rel => exact ⟨k + 1,j + n,by rw [Nat.add_mul,hj,Nat.one_mul],by simp,by omega,hJ3⟩
    case measure => simp [intOf];omega
   ·gi_wp2
    refine bodyPost_ret (results_none rfl _ _ _) rfl ?_
    exact ⟨⟨_,rfl⟩,.inr hJx3⟩
  ·gi_wp2
   go_end0
   exact ⟨⟨_,rfl⟩,.inl ⟨k,by omega,hJs⟩⟩
theorem pch85 (es : List (List D)) (v : Int) (hv : 1 ≤ v) : FunM Tryz.prog 85 [.d (.sl es),.i v] [] [] (.fn (.func 112) [.ptr 2 0 0,.ptr 3 0 0]) [(2,.box [.d (.sl es)]),(3,.box [.i v])] := by
 refine FunM.enter 9 [(0,.d (.sl es)),(1,.i v)] Tryz.func85 rfl (of_decide_eq_true rfl) rfl rfl ?_
 have hv1 : ¬ v < 1 := by omega
 refine .goR [] 3 fun K k => ?_;simp;refine k _ ?_;clear k K
 refine .seq ?_
 refine .goR [] 2 fun K k => ?_;simp;refine k _ ?_;clear k K
 refine .condK fun K1 K2 k1 k2 => ?_;simp [hv1];refine k2 ?_;clear k1 k2 K1 K2
 refine .skip (thenQ_normal ?_)
 refine .goR [] 2 fun K k => ?_;simp;refine k _ ?_;clear k K
 refine .ret ?_
 exact FinF.ret (by simp) (by simp)
def d134 (N : Nat) (a0 : S187) (a1 : Int) (a2 : Int) : Option (S187 × Bool) :=
 Option.bind (α := (Int × (List Int) × (List Bool) × (List S189))) (
  iterN (σ := (Int × (List Int) × (List Bool) × (List S189))) (ρ := (Int × (List Int) × (List Bool) × (List S189))) (fun ((v19,l20,l21,l22) : (Int × (List Int) × (List Bool) × (List S189))) =>
   (chkI (2 * v19)).bind fun v67 =>
   (chkI (v67 + 1)).bind fun v68 =>
   Option.bind (α := Bool) (
    if v68 ≥ a2 then (
     some true
    ) else
    some (decide (v68 < 0))
   ) fun (v70 : Bool) =>
   if v70 = true then (
    some (.inr (v19,l20,l21,l22))
   ) else
   (chkI (v68 + 1)).bind fun v73 =>
   Option.bind (α := Bool) (
    if v73 < a2 then (
     (d285 N (S187.mk (S65.mk l20 l21) l22) v73 v68).bind fun r78 =>
     some r78
    ) else
    some false
   ) fun (v76 : Bool) =>
   Option.bind (α := Int) (
    if v76 = true then (
     some v73
    ) else
    some v68
   ) fun (v80 : Int) =>
   (d285 N (S187.mk (S65.mk l20 l21) l22) v80 v19).bind fun r82 =>
   if (!r82) = true then (
    some (.inr (v19,l20,l21,l22))
   ) else
   (d288 N (S187.mk (S65.mk l20 l21) l22) v19 v80).bind fun r84 =>
   some (.inl (v80,r84.by_.Columns,r84.by_.Descending,r84.l))
  ) N (a1,a0.by_.Columns,a0.by_.Descending,a0.l)
 ) fun ((v63,l64,l65,l66) : (Int × (List Int) × (List Bool) × (List S189))) =>
 some ((S187.mk (S65.mk l64 l65) l66),decide (v63 > a1))
theorem p134 (N : Nat) (a0 : S187) (a1 : Int) (a2 : Int) (r : (S187 × Bool)) (h : d134 N a0 a1 a2 = some r) : FunM Tryz.prog 134 [.fn (.methodOf 184 "") [.ptr 1000 0 0], .i a1, .i a2] [(1000, some (.box [.si a0.by_.Columns, .sb a0.by_.Descending, .ref 25002 0 a0.l.length])), (25002, R189 a0.l)] [1000] (.b r.2) ([(1000, (.box [.si r.1.by_.Columns, .sb r.1.by_.Descending, .ref 25002 0 r.1.l.length])), (25002, (.arr 189 3 (r.1.l.map cS189)))]) := by
 unfold d134 at h
 refine FunM.enter 48 [(0, .fn (.methodOf 184 "") [.ptr 1000 0 0]), (1, .i a1), (2, .i a2)] Tryz.func134 rfl (of_decide_eq_true rfl) rfl rfl ?_
 refine .seqR ?_
 refine .rr 1 ?_
 refine .tt (L19 a1 a2) (H3 a0) (.nil (.seqR ?_))
 refine .rr 2 ?_
 refine .tt (L19 a1 a2 ++ [(7,.i a1)]) (H3 a0) (.nil ?_)
 refine .seqN (fun ((v63,l64,l65,l66) : (Int × (List Int) × (List Bool) × (List S189))) => mk 48 [1000] [(1,.i a1),(7,.i v63)] (H1 l64 l65 l66)) h ?_ ?_ <;> clear h
 ·intro o h
  refine .block ?_
  refine .iter (fun ((v19,l20,l21,l22) : (Int × (List Int) × (List Bool) × (List S189))) => mk 48 [1000] (L19 a1 a2 ++ [(7,.i v19)]) (H1 l20 l21 l22)) h Sub.tt ?_
  clear h
  rintro ⟨v19,l20,l21,l22⟩ x h
  dsimp only at h ⊢
  refine .block (.seqR ?_)
  replace h := csome h;obtain ⟨v67,hv67,h⟩ := h
  replace h := csome h;obtain ⟨v68,hv68,h⟩ := h
  refine .rk 4 fun K k => ?_;simp [hv67,hv68];refine k ?_
  refine .tt (L20 a1 a2 v19 v68) (H1 l20 l21 l22) (.nil (.seq ?_))
  replace h := bsome h;obtain ⟨v70,hj,h⟩ := h
  refine .cutR (mk 48 [1000] (L20 a1 a2 v19 v68 ++ [(21,.b v70)]) (H1 l20 l21 l22)) ?_ ?_
  ·clear h;have h := hj;clear hj
   refine .rr 4 ?_
   refine .tt (L20 a1 a2 v19 v68 ++ [(18,.b (decide (v68 ≥ a2)))]) (H1 l20 l21 l22) ?_
   replace h := isome h;rcases h with ⟨c71,h⟩ | ⟨c71,h⟩
   ·have c71_ : decide (v68 ≥ a2) = true := decide_eq_true c71
    refine .sub (.bool 18 rfl c71_) ?_
    refine .st (mk 48 [1000] (L20 a1 a2 v19 v68 ++ [(18,.b true)]) (H1 l20 l21 l22)) ?_
    refine .rr 3 ?_
    refine .tt (L20 a1 a2 v19 v68 ++ [(19,.tup []),(20,.tup []),(21,.b true)]) (H1 l20 l21 l22) ?_
    cases h
    exact .nil .tt
   have c71_ : decide (v68 ≥ a2) = false := decide_eq_false c71
   refine .sub (.bool 18 rfl c71_) ?_
   refine .st (mk 48 [1000] (L20 a1 a2 v19 v68 ++ [(18,.b false)]) (H1 l20 l21 l22)) ?_
   refine .rr 3 ?_
   refine .tt (L20 a1 a2 v19 v68 ++ [(19,.i v68),(20,.b (decide (v68 < 0))),(21,.b (decide (v68 < 0)))]) (H1 l20 l21 l22) ?_
   cases h
   exact .nil .tt
  clear hj
  replace h := isome h;rcases h with ⟨c72,h⟩ | ⟨c72,h⟩
  ·have c72_ : v70 = true := c72
   refine .condT rfl c72_ ?_
   refine .exit ?_
   cases h
   refine thenQ_ps ?_
   refine blockQ.pass (by decide) ?_
   refine PostI.os ?_
   rintro rfl
   refine blockQ.hit (PostN.next ?_)
   exact Sub.tt
  have c72_ : v70 = false := Bool.eq_false_iff.2 c72
  refine .condF rfl c72_ ?_
  refine .skip (thenQ_normal (.seqR ?_))
  refine .rr 2 ?_
  refine .tt (L20 a1 a2 v19 v68 ++ [(9,.i v68)]) (H1 l20 l21 l22) (.nil (.seq (.seqR ?_)))
  replace h := csome h;obtain ⟨v73,hv73,h⟩ := h
  refine .rk 3 fun K k => ?_;simp [hv73];refine k ?_
  refine .tt (L21 a1 a2 v19 v68 v73) (H1 l20 l21 l22) (.nil ?_)
  replace h := bsome h;obtain ⟨v76,hj,h⟩ := h
  refine .cutR (mk 48 [1000] (L22 a1 a2 v19 v68 v73 ++ [(33,.b v76)]) (H1 l20 l21 l22)) ?_ ?_
  ·clear h;have h := hj;clear hj
   refine .rr 4 ?_
   refine .tt (L21 a1 a2 v19 v68 v73 ++ [(28,.b (decide (v73 < a2)))]) (H1 l20 l21 l22) ?_
   replace h := isome h;rcases h with ⟨c77,h⟩ | ⟨c77,h⟩
   ·have c77_ : decide (v73 < a2) = true := decide_eq_true c77
    refine .sub (.bool 28 rfl c77_) ?_
    refine .st (mk 48 [1000] (L21 a1 a2 v19 v68 v73 ++ [(28,.b true)]) (H1 l20 l21 l22)) ?_
    refine .rr 3 ?_
    refine .tt (L22 a1 a2 v19 v68 v73 ++ [(28, .b true), (29, .fn (.methodOf 184 "") [.ptr 1000 0 0]), (30, .i v73), (31, .i v68)]) (H1 l20 l21 l22) ?_
    replace h := bsome h;obtain ⟨r78,hr78,h⟩ := h
    refine .callLG (d := 32) (p285 N (S187.mk (S65.mk l20 l21) l22) v73 v68 r78 hr78) (by simp) (.invoke (nm := "") meth285 ent285 rfl rfl (by simp <;> rfl)) rfl (by simp <;> rfl) ent285 (by simp <;> rfl) ?_
    refine .st (mk 48 [1000] (L22 a1 a2 v19 v68 v73 ++ [(28, .b true), (29, .fn (.methodOf 184 "") [.ptr 1000 0 0]), (30, .i v73), (31, .i v68), (32, .b r78)]) (H1 l20 l21 l22)) ?_
    refine .rr 1 ?_
    refine .tt (L22 a1 a2 v19 v68 v73 ++ [(29, .fn (.methodOf 184 "") [.ptr 1000 0 0]), (30, .i v73), (31, .i v68), (32, .b r78), (33, .b r78)]) (H1 l20 l21 l22) ?_
    cases h
    exact .nil .tt
   have c77_ : decide (v73 < a2) = false := decide_eq_false c77
   refine .sub (.bool 28 rfl c77_) ?_
   refine .st (mk 48 [1000] (L21 a1 a2 v19 v68 v73 ++ [(28,.b false)]) (H1 l20 l21 l22)) ?_
   refine .rr 5 ?_
   refine .tt (L22 a1 a2 v19 v68 v73 ++ [(29,.tup []),(30,.tup []),(31,.tup []),(32,.tup []),(33,.b false)]) (H1 l20 l21 l22) ?_
   cases h
   exact .nil .tt
  clear hj
  refine .lastN (fun (v80 : Int) => mk 48 [1000] (L23 a1 a2 v19 v80) (H1 l20 l21 l22)) h ?_ ?_ <;> clear h
  ·intro o h
   replace h := isome h;rcases h with ⟨c81,h⟩ | ⟨c81,h⟩
   ·have c81_ : v76 = true := c81
    refine .condT rfl c81_ ?_
    refine .region ?_
    refine .rr 2 ?_
    refine .tt (L23 a1 a2 v19 v73) (H1 l20 l21 l22) (.nil ?_)
    cases h
    refine PostN.next ?_
    exact Sub.tt
   have c81_ : v76 = false := Bool.eq_false_iff.2 c81
   refine .condF rfl c81_ ?_
   refine .skip ?_
   cases h
   refine PostN.next ?_
   exact Sub.tt
  rintro v80 h
  refine thenQ_normal (.seq (.seqR ?_))
  refine .rr 3 ?_
  refine .tt (L23 a1 a2 v19 v80 ++ [(35, .fn (.methodOf 184 "") [.ptr 1000 0 0]), (36, .i v80), (37, .i v19)]) (H1 l20 l21 l22) ?_
  replace h := bsome h;obtain ⟨r82,hr82,h⟩ := h
  refine .callLG (d := 38) (p285 N (S187.mk (S65.mk l20 l21) l22) v80 v19 r82 hr82) (by simp) (.invoke (nm := "") meth285 ent285 rfl rfl (by simp <;> rfl)) rfl (by simp <;> rfl) ent285 (by simp <;> rfl) ?_
  refine .st (mk 48 [1000] (L23 a1 a2 v19 v80 ++ [(35, .fn (.methodOf 184 "") [.ptr 1000 0 0]), (36, .i v80), (37, .i v19), (38, .b r82)]) (H1 l20 l21 l22)) ?_
  refine .rr 1 ?_
  refine .tt (L23 a1 a2 v19 v80 ++ [(39,.b (!r82))]) (H1 l20 l21 l22) (.nil ?_)
  replace h := isome h;rcases h with ⟨c83,h⟩ | ⟨c83,h⟩
  ·have c83_ : (!r82) = true := c83
   refine .condT rfl c83_ ?_
   refine .exit ?_
   cases h
   refine thenQ_ps ?_
   refine blockQ.pass (by decide) ?_
   refine PostI.os ?_
   rintro rfl
   refine blockQ.hit (PostN.next ?_)
   exact Sub.tt
  have c83_ : (!r82) = false := Bool.eq_false_iff.2 c83
  refine .condF rfl c83_ ?_
  refine .skip (thenQ_normal (.seqR ?_))
  refine .rr 3 ?_
  refine .tt (L19 a1 a2 ++ [(9, .i v80), (40, .fn (.methodOf 184 "") [.ptr 1000 0 0]), (41, .i v19), (42, .i v80)]) (H1 l20 l21 l22) ?_
  replace h := bsome h;obtain ⟨r84,hr84,h⟩ := h
  refine .callFG (p288 N (S187.mk (S65.mk l20 l21) l22) v19 v80 r84 hr84) [(1000, 1000), (25002, 25002)] [1000] [(1000, 1000), (25002, 25002)] [(1000, (.box [.si r84.by_.Columns, .sb r84.by_.Descending, .ref 25002 0 r84.l.length])), (25002, (.arr 189 3 (r84.l.map cS189)))] (.tup []) (by simp) (.invoke (nm := "") meth288 ent288 rfl rfl (by simp <;> rfl)) (by simp) (by simp) (by simp) (by simp) (by simp) (by simp) (by simp) (by simp) (by simp) (by simp) (by simp) ?_
  refine .st (mk 48 [1000] (L19 a1 a2 ++ [(9, .i v80), (40, .fn (.methodOf 184 "") [.ptr 1000 0 0]), (41, .i v19), (42, .i v80), (43, .tup [])]) (H3 r84)) (.nil (.region ?_))
  refine .rr 2 ?_
  refine .tt (L19 a1 a2 ++ [(7,.i v80)]) (H3 r84) (.nil ?_)
  cases h
  refine blockQ.normal (PostI.next ?_)
  exact Sub.tt
 rintro ⟨v63,l64,l65,l66⟩ h
 dsimp only at h ⊢
 refine .seqR ?_
 refine .rr 4 ?_
 refine .tt [(6,.b (decide (v63 > a1)))] (H1 l64 l65 l66) (.nil (.ret ?_))
 cases h
 exact FinF.ret (by simp) (by simp)
end Go.Proofs.YtimkkjiplioohaaGreatDoor
