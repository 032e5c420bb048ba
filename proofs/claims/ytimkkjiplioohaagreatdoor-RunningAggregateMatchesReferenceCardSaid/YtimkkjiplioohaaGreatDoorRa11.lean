/- Functions of the program as functional programs; the code computes them. -/
import Derived.Test.YtimkkjiplioohaaGreatDoorRa10
namespace Go.Proofs.YtimkkjiplioohaaGreatDoor
set_option maxRecDepth 100000
set_option maxHeartbeats 4000000
open Go.Ab Go.Rp
attribute [-simp] List.all_eq_true Array.all_toList Array.all_eq_true
def d103 (_N : Nat) (a0 : Int) : Option S61 :=
 Option.bind (α := Bool) (
  if a0 < (-1000000000000) then (
   some true
  ) else
  some (decide (a0 > 1000000000000))
 ) fun (v2 : Bool) =>
 if v2 = true then (
  some (S61.mk 0 0 (ByteArray.mk #[]))
 ) else
 some (S61.mk 1 a0 (ByteArray.mk #[]))
theorem p103 (N : Nat) (a0 : Int) (r : S61) (h : d103 N a0 = some r) : FunC Tryz.prog 103 [.i a0] (.agg [.i r.Kind,.i r.Int,.s r.Text]) := by
 unfold d103 at h
 refine FunC.enter 12 [(0,.i a0)] (by simp) Tryz.func103 rfl (of_decide_eq_true rfl) rfl rfl ?_
 refine .seqR ?_
 refine .rr 1 ?_
 refine .tt [(0,.i a0),(2,.ptr 2 0 0)] H12 (.nil (.seq ?_))
 replace h := bsome h;obtain ⟨v2,hj,h⟩ := h
 refine .cutR (mk 12 [] [(0,.i a0),(2,.ptr 2 0 0),(8,.b v2)] H12) ?_ ?_
 ·clear h;have h := hj;clear hj
  refine .rr 3 ?_
  refine .tt [(0,.i a0),(2,.ptr 2 0 0),(5,.b (decide (a0 < (-1000000000000))))] H12 ?_
  replace h := isome h;rcases h with ⟨c3,h⟩ | ⟨c3,h⟩
  ·have c3_ : decide (a0 < (-1000000000000)) = true := decide_eq_true c3
   refine .sub (.bool 5 rfl c3_) ?_
   refine .st (mk 12 [] [(0,.i a0),(2,.ptr 2 0 0),(5,.b true)] H12) ?_
   refine .rr 3 ?_
   refine .tt [(0,.i a0),(2,.ptr 2 0 0),(8,.b true)] H12 ?_
   cases h
   exact .nil .tt
  have c3_ : decide (a0 < (-1000000000000)) = false := decide_eq_false c3
  refine .sub (.bool 5 rfl c3_) ?_
  refine .st (mk 12 [] [(0,.i a0),(2,.ptr 2 0 0),(5,.b false)] H12) ?_
  refine .rr 3 ?_
  refine .tt [(0,.i a0),(2,.ptr 2 0 0),(8,.b (decide (a0 > 1000000000000)))] H12 ?_
  cases h
  exact .nil .tt
 clear hj
 replace h := isome h;rcases h with ⟨c4,h⟩ | ⟨c4,h⟩
 ·have c4_ : v2 = true := c4
  refine .condT rfl c4_ ?_
  refine .seqR ?_
  refine .rr 2 ?_
  refine .tt [(2,.ptr 2 0 0)] H12 (.nil (.ret ?_))
  cases h
  refine thenQ_ps ?_
  exact FinC.rs
 have c4_ : v2 = false := Bool.eq_false_iff.2 c4
 refine .condF rfl c4_ ?_
 refine .skip (thenQ_normal (.seqR ?_))
 refine .rr 3 ?_
 refine .tt [(2,.ptr 2 0 0)] [(2,some (.box [.i 1,.i a0,.s (ByteArray.mk #[])]))] (.nil (.ret ?_))
 cases h
 exact FinC.rs
def d104 (N : Nat) (a0 : ByteArray) (a1 : (List S61)) : Option S61 :=
 if decide (a0 = (ByteArray.mk #[99,111,117,110,116])) = true then (
  (d103 N (a1.length : Int)).bind fun r2 =>
  some r2
 ) else
 if ((a1.length : Int) == 0) then (
  some (S61.mk 0 0 (ByteArray.mk #[]))
 ) else
 (idx a1 0).bind fun x4 =>
 Option.bind (α := (Int × Int × ByteArray × Int)) (
  iterN (σ := (Int × Int × ByteArray × Int × Int)) (ρ := (Int × Int × ByteArray × Int)) (fun ((v49,v50,v51,v52,v53) : (Int × Int × ByteArray × Int × Int)) =>
   if v53 < (a1.length : Int) then (
    (idx a1 v53).bind fun x108 =>
    (chkI (v52 + x108.Int)).bind fun v110 =>
    Option.bind (α := Bool) (
     if decide (a0 = (ByteArray.mk #[109,105,110])) = true then (
      (d131 N x108 (S61.mk v49 v50 v51)).bind fun r120 =>
      if r120 = true then (
       some true
      ) else
      if decide (a0 = (ByteArray.mk #[109,97,120])) = true then (
       (d131 N (S61.mk v49 v50 v51) x108).bind fun r123 =>
       some r123
      ) else
      some false
     ) else
     if decide (a0 = (ByteArray.mk #[109,97,120])) = true then (
      (d131 N (S61.mk v49 v50 v51) x108).bind fun r125 =>
      some r125
     ) else
     some false
    ) fun (v118 : Bool) =>
    if v118 = true then (
     (chkI (v53 + 1)).bind fun v127 =>
     some (.inl (x108.Kind,x108.Int,x108.Text,v110,v127))
    ) else
    (chkI (v53 + 1)).bind fun v128 =>
    some (.inl (v49,v50,v51,v110,v128))
   ) else
   some (.inr (v49,v50,v51,v52))
  ) N (x4.Kind,x4.Int,x4.Text,0,0)
 ) fun ((v103,v104,v105,v106) : (Int × Int × ByteArray × Int)) =>
 if decide (a0 = (ByteArray.mk #[115,117,109])) = true then (
  (d103 N v106).bind fun r130 =>
  some r130
 ) else
 some (S61.mk v103 v104 v105)
theorem p104 (N : Nat) (a0 : ByteArray) (a1 : (List S61)) (r : S61) (h : d104 N a0 a1 = some r) : FunC Tryz.prog 104 [.s a0,.s61 a1] (.agg [.i r.Kind,.i r.Int,.s r.Text]) := by
 unfold d104 at h
 refine FunC.enter 54 [(0,.s a0),(1,.s61 a1)] (by simp) Tryz.func104 rfl (of_decide_eq_true rfl) rfl rfl ?_
 refine .seqR ?_
 refine .rr 1 ?_
 refine .tt (L41 a0 a1) H9 (.nil (.seq (.seqR ?_)))
 refine .rr 2 ?_
 refine .tt (L41 a0 a1 ++ [(10,.b (decide (a0 = (ByteArray.mk #[99,111,117,110,116]))))]) H9 (.nil ?_)
 replace h := isome h;rcases h with ⟨c1,h⟩ | ⟨c1,h⟩
 ·have c1_ : decide (a0 = (ByteArray.mk #[99,111,117,110,116])) = true := c1
  refine .condT rfl c1_ ?_
  refine .seqR ?_
  refine .rr 2 ?_
  refine .tt [(4,.ptr 4 0 0),(12,.i (a1.length : Int))] H9 ?_
  replace h := bsome h;obtain ⟨r2,hr2,h⟩ := h
  refine .callC (d := 13) (p103 N (a1.length : Int) r2 hr2) (by simp) rfl rfl (by simp <;> rfl) (by simp <;> rfl) ent103 (by simp) (.inl ⟨by simp,by simp⟩) ?_
  refine .st (mk 54 [] (L42 a1.length r2.Kind r2.Int r2.Text) H9) ?_
  refine .rr 1 ?_
  refine .tt [(4,.ptr 4 0 0)] (H18 r2) (.nil (.ret ?_))
  cases h
  refine thenQ_ps ?_
  exact FinC.rs
 have c1_ : decide (a0 = (ByteArray.mk #[99,111,117,110,116])) = false := Bool.eq_false_iff.2 c1
 refine .condF rfl c1_ ?_
 refine .skip (thenQ_normal (.seq (.seqR ?_)))
 refine .rr 3 ?_
 refine .tt (L41 a0 a1 ++ [(16,.b ((a1.length : Int) == 0))]) H9 (.nil ?_)
 replace h := isome h;rcases h with ⟨c3,h⟩ | ⟨c3,h⟩
 ·have c3_ : ((a1.length : Int) == 0) = true := c3
  refine .condT rfl c3_ ?_
  refine .seqR ?_
  refine .rr 2 ?_
  refine .tt [(4,.ptr 4 0 0)] H9 (.nil (.ret ?_))
  cases h
  refine thenQ_ps ?_
  exact FinC.rs
 have c3_ : ((a1.length : Int) == 0) = false := Bool.eq_false_iff.2 c3
 refine .condF rfl c3_ ?_
 refine .skip (thenQ_normal (.seqR ?_))
 replace h := bsome h;obtain ⟨x4,hx4,h⟩ := h
 obtain ⟨hx4,hx4b,hx4c⟩ := idx_someN (n := 0) hx4
 refine .rk 5 fun K k => ?_;simp [hx4];refine k ?_
 refine .tt (L41 a0 a1 ++ [(5,.ptr 5 0 0)]) (H30 x4) (.nil (.seqR ?_))
 refine .rr 1 ?_
 refine .tt (L41 a0 a1 ++ [(5,.ptr 5 0 0),(6,.i 0)]) (H30 x4) (.nil (.seq (.seqR ?_)))
 refine .rr 3 ?_
 refine .tt [(0,.s a0),(4,.ptr 4 0 0),(5,.ptr 5 0 0),(6,.i 0),(21,.s61 a1),(22,.i (a1.length : Int)),(23,.i 0)] (H30 x4) (.nil ?_)
 refine .lastN (fun ((v103,v104,v105,v106) : (Int × Int × ByteArray × Int)) => mk 54 [] [(0,.s a0),(4,.ptr 4 0 0),(5,.ptr 5 0 0),(6,.i v106)] (H31 v103 v104 v105)) h ?_ ?_ <;> clear h
 ·intro o h
  refine .block ?_
  refine .iter (fun ((v49,v50,v51,v52,v53) : (Int × Int × ByteArray × Int × Int)) => mk 54 [] (L43 a0 v52 a1 a1.length v53) (H31 v49 v50 v51)) h Sub.tt ?_
  clear h
  rintro ⟨v49,v50,v51,v52,v53⟩ x h
  dsimp only at h ⊢
  refine .seqR ?_
  refine .rr 1 ?_
  refine .tt (L43 a0 v52 a1 a1.length v53 ++ [(24,.b (decide (v53 < (a1.length : Int))))]) (H31 v49 v50 v51) (.nil (.seq ?_))
  replace h := isome h;rcases h with ⟨c107,h⟩ | ⟨c107,h⟩
  ·have c107_ : decide (v53 < (a1.length : Int)) = true := decide_eq_true c107
   refine .condT rfl c107_ ?_
   refine .skip (thenQ_normal (.seq (.block (.seqR ?_))))
   replace h := xsome h;obtain ⟨x108,k109,hx108k,hx108,hx108a,hx108b,h⟩ := h
   refine .rk 4 fun K k => ?_;simp [hx108,hx108k,hx108a];refine k ?_
   refine .tt (L44 a0 v52 a1 a1.length v53) (H4 v49 v50 v51 x108) (.nil (.seqR ?_))
   replace h := csome h;obtain ⟨v110,hv110,h⟩ := h
   refine .rk 5 fun K k => ?_;simp [hv110];refine k ?_
   refine .tt (L44 a0 v110 a1 a1.length v53) (H4 v49 v50 v51 x108) (.nil ?_)
   replace h := bsome h;obtain ⟨v118,hj,h⟩ := h
   refine .cutR (mk 54 [] (L44 a0 v110 a1 a1.length v53 ++ [(46,.b v118)]) (H4 v49 v50 v51 x108)) ?_ ?_
   ·clear h;have h := hj;clear hj
    refine .rr 3 ?_
    refine .tt (L44 a0 v110 a1 a1.length v53 ++ [(33,.b (decide (a0 = (ByteArray.mk #[109,105,110]))))]) (H4 v49 v50 v51 x108) ?_
    replace h := isome h;rcases h with ⟨c119,h⟩ | ⟨c119,h⟩
    ·have c119_ : decide (a0 = (ByteArray.mk #[109,105,110])) = true := c119
     refine .sub (.bool 33 rfl c119_) ?_
     refine .st (mk 54 [] (L45 a0 v110 a1 a1.length v53) (H4 v49 v50 v51 x108)) ?_
     refine .rr 2 ?_
     refine .tt (L45 a0 v110 a1 a1.length v53 ++ [(34,.agg [.i x108.Kind,.i x108.Int,.s x108.Text]),(35,.agg [.i v49,.i v50,.s v51])]) (H4 v49 v50 v51 x108) ?_
     replace h := bsome h;obtain ⟨r120,hr120,h⟩ := h
     refine .callL (d := 36) (p131 N x108 (S61.mk v49 v50 v51) r120 hr120) (by simp) rfl rfl (by simp <;> rfl) (by simp <;> rfl) ent131 (by simp <;> rfl) ?_
     refine .st (mk 54 [] (L45 a0 v110 a1 a1.length v53 ++ [(34,.agg [.i x108.Kind,.i x108.Int,.s x108.Text]),(35,.agg [.i v49,.i v50,.s v51]),(36,.b r120)]) (H4 v49 v50 v51 x108)) ?_
     refine .rr 2 ?_
     refine .tt (L46 a0 v110 a1 a1.length v53 x108.Kind x108.Int x108.Text v49 v50 v51 ++ [(36,.b r120),(38,.b r120)]) (H4 v49 v50 v51 x108) ?_
     replace h := isome h;rcases h with ⟨c121,h⟩ | ⟨c121,h⟩
     ·have c121_ : r120 = true := c121
      refine .sub (.bool 36 rfl c121_) ?_
      refine .sub (.bool 38 rfl c121_) ?_
      refine .st (mk 54 [] (L46 a0 v110 a1 a1.length v53 x108.Kind x108.Int x108.Text v49 v50 v51 ++ [(36,.b true),(38,.b true)]) (H4 v49 v50 v51 x108)) ?_
      refine .rr 8 ?_
      refine .tt (L46 a0 v110 a1 a1.length v53 x108.Kind x108.Int x108.Text v49 v50 v51 ++ [(36,.b true),(39,.tup []),(40,.tup []),(41,.tup []),(42,.tup []),(43,.tup []),(44,.tup []),(45,.tup []),(46,.b true)]) (H4 v49 v50 v51 x108) ?_
      cases h
      exact .nil .tt
     have c121_ : r120 = false := Bool.eq_false_iff.2 c121
     refine .sub (.bool 36 rfl c121_) ?_
     refine .sub (.bool 38 rfl c121_) ?_
     refine .st (mk 54 [] (L47 a0 v110 a1 a1.length v53 x108.Kind x108.Int x108.Text v49 v50 v51 ++ [(38,.b false)]) (H4 v49 v50 v51 x108)) ?_
     refine .rr 3 ?_
     refine .tt (L48 a0 v110 a1 a1.length v53 x108.Kind x108.Int x108.Text v49 v50 v51 ++ [(40,.b (decide (a0 = (ByteArray.mk #[109,97,120])))),(41,.b (decide (a0 = (ByteArray.mk #[109,97,120]))))]) (H4 v49 v50 v51 x108) ?_
     replace h := isome h;rcases h with ⟨c122,h⟩ | ⟨c122,h⟩
     ·have c122_ : decide (a0 = (ByteArray.mk #[109,97,120])) = true := c122
      refine .sub (.bool 40 rfl c122_) ?_
      refine .sub (.bool 41 rfl c122_) ?_
      refine .st (mk 54 [] (L49 a0 v110 a1 a1.length v53 x108.Kind x108.Int x108.Text v49 v50 v51) (H4 v49 v50 v51 x108)) ?_
      refine .rr 2 ?_
      refine .tt (L49 a0 v110 a1 a1.length v53 x108.Kind x108.Int x108.Text v49 v50 v51 ++ [(42,.agg [.i v49,.i v50,.s v51]),(43,.agg [.i x108.Kind,.i x108.Int,.s x108.Text])]) (H4 v49 v50 v51 x108) ?_
      replace h := bsome h;obtain ⟨r123,hr123,h⟩ := h
      refine .callL (d := 44) (p131 N (S61.mk v49 v50 v51) x108 r123 hr123) (by simp) rfl rfl (by simp <;> rfl) (by simp <;> rfl) ent131 (by simp <;> rfl) ?_
      refine .st (mk 54 [] (L49 a0 v110 a1 a1.length v53 x108.Kind x108.Int x108.Text v49 v50 v51 ++ [(42,.agg [.i v49,.i v50,.s v51]),(43,.agg [.i x108.Kind,.i x108.Int,.s x108.Text]),(44,.b r123)]) (H4 v49 v50 v51 x108)) ?_
      refine .rr 2 ?_
      refine .tt (L47 a0 v110 a1 a1.length v53 x108.Kind x108.Int x108.Text v49 v50 v51 ++ [(39,.s a0),(40,.b true),(41,.b true),(42,.agg [.i v49,.i v50,.s v51]),(43,.agg [.i x108.Kind,.i x108.Int,.s x108.Text]),(44,.b r123),(45,.b r123),(46,.b r123)]) (H4 v49 v50 v51 x108) ?_
      cases h
      exact .nil .tt
     have c122_ : decide (a0 = (ByteArray.mk #[109,97,120])) = false := Bool.eq_false_iff.2 c122
     refine .sub (.bool 40 rfl c122_) ?_
     refine .sub (.bool 41 rfl c122_) ?_
     refine .st (mk 54 [] (L48 a0 v110 a1 a1.length v53 x108.Kind x108.Int x108.Text v49 v50 v51 ++ [(40,.b false),(41,.b false)]) (H4 v49 v50 v51 x108)) ?_
     refine .rr 5 ?_
     refine .tt (L47 a0 v110 a1 a1.length v53 x108.Kind x108.Int x108.Text v49 v50 v51 ++ [(39,.s a0),(40,.b false),(41,.b false),(42,.tup []),(43,.tup []),(44,.tup []),(45,.b false),(46,.b false)]) (H4 v49 v50 v51 x108) ?_
     cases h
     exact .nil .tt
    have c119_ : decide (a0 = (ByteArray.mk #[109,105,110])) = false := Bool.eq_false_iff.2 c119
    refine .sub (.bool 33 rfl c119_) ?_
    refine .st (mk 54 [] (L44 a0 v110 a1 a1.length v53 ++ [(33,.b false)]) (H4 v49 v50 v51 x108)) ?_
    refine .rr 8 ?_
    refine .tt (L50 a0 v110 a1 a1.length v53 ++ [(40,.b (decide (a0 = (ByteArray.mk #[109,97,120])))),(41,.b (decide (a0 = (ByteArray.mk #[109,97,120]))))]) (H4 v49 v50 v51 x108) ?_
    replace h := isome h;rcases h with ⟨c124,h⟩ | ⟨c124,h⟩
    ·have c124_ : decide (a0 = (ByteArray.mk #[109,97,120])) = true := c124
     refine .sub (.bool 40 rfl c124_) ?_
     refine .sub (.bool 41 rfl c124_) ?_
     refine .st (mk 54 [] (L51 a0 v110 a1 a1.length v53) (H4 v49 v50 v51 x108)) ?_
     refine .rr 2 ?_
     refine .tt (L51 a0 v110 a1 a1.length v53 ++ [(42,.agg [.i v49,.i v50,.s v51]),(43,.agg [.i x108.Kind,.i x108.Int,.s x108.Text])]) (H4 v49 v50 v51 x108) ?_
     replace h := bsome h;obtain ⟨r125,hr125,h⟩ := h
     refine .callL (d := 44) (p131 N (S61.mk v49 v50 v51) x108 r125 hr125) (by simp) rfl rfl (by simp <;> rfl) (by simp <;> rfl) ent131 (by simp <;> rfl) ?_
     refine .st (mk 54 [] (L51 a0 v110 a1 a1.length v53 ++ [(42,.agg [.i v49,.i v50,.s v51]),(43,.agg [.i x108.Kind,.i x108.Int,.s x108.Text]),(44,.b r125)]) (H4 v49 v50 v51 x108)) ?_
     refine .rr 2 ?_
     refine .tt (L52 a0 v110 a1 a1.length v53 ++ [(39,.s a0),(40,.b true),(41,.b true),(42,.agg [.i v49,.i v50,.s v51]),(43,.agg [.i x108.Kind,.i x108.Int,.s x108.Text]),(44,.b r125),(45,.b r125),(46,.b r125)]) (H4 v49 v50 v51 x108) ?_
     cases h
     exact .nil .tt
    have c124_ : decide (a0 = (ByteArray.mk #[109,97,120])) = false := Bool.eq_false_iff.2 c124
    refine .sub (.bool 40 rfl c124_) ?_
    refine .sub (.bool 41 rfl c124_) ?_
    refine .st (mk 54 [] (L50 a0 v110 a1 a1.length v53 ++ [(40,.b false),(41,.b false)]) (H4 v49 v50 v51 x108)) ?_
    refine .rr 5 ?_
    refine .tt (L52 a0 v110 a1 a1.length v53 ++ [(39,.s a0),(40,.b false),(41,.b false),(42,.tup []),(43,.tup []),(44,.tup []),(45,.b false),(46,.b false)]) (H4 v49 v50 v51 x108) ?_
    cases h
    exact .nil .tt
   clear hj
   replace h := isome h;rcases h with ⟨c126,h⟩ | ⟨c126,h⟩
   ·have c126_ : v118 = true := c126
    refine .condT rfl c126_ ?_
    refine .region ?_
    refine .rr 2 ?_
    refine .tt (L43 a0 v110 a1 a1.length v53) (H30 x108) (.nil (blockQ.normal (thenQ_normal (.region ?_))))
    replace h := csome h;obtain ⟨v127,hv127,h⟩ := h
    refine .rk 2 fun K k => ?_;simp [hv127];refine k ?_
    refine .tt (L43 a0 v110 a1 a1.length v127) (H30 x108) (.nil ?_)
    cases h
    refine PostI.next ?_
    exact Sub.tt
   have c126_ : v118 = false := Bool.eq_false_iff.2 c126
   refine .condF rfl c126_ ?_
   refine .skip (blockQ.normal (thenQ_normal (.region ?_)))
   replace h := csome h;obtain ⟨v128,hv128,h⟩ := h
   refine .rk 2 fun K k => ?_;simp [hv128];refine k ?_
   refine .tt (L43 a0 v110 a1 a1.length v128) (H31 v49 v50 v51) (.nil ?_)
   cases h
   refine PostI.next ?_
   exact Sub.tt
  have c107_ : decide (v53 < (a1.length : Int)) = false := decide_eq_false c107
  refine .condF rfl c107_ ?_
  refine .exit ?_
  cases h
  refine thenQ_ps ?_
  refine PostI.os ?_
  rintro rfl
  refine blockQ.hit (PostN.next ?_)
  exact Sub.tt
 rintro ⟨v103,v104,v105,v106⟩ h
 dsimp only at h ⊢
 refine thenQ_normal (.seq (.seqR ?_))
 refine .rr 2 ?_
 refine .tt [(4,.ptr 4 0 0),(5,.ptr 5 0 0),(6,.i v106),(50,.b (decide (a0 = (ByteArray.mk #[115,117,109]))))] (H31 v103 v104 v105) (.nil ?_)
 replace h := isome h;rcases h with ⟨c129,h⟩ | ⟨c129,h⟩
 ·have c129_ : decide (a0 = (ByteArray.mk #[115,117,109])) = true := c129
  refine .condT rfl c129_ ?_
  refine .seqR ?_
  refine .rr 1 ?_
  refine .tt [(4,.ptr 4 0 0),(51,.i v106)] H9 ?_
  replace h := bsome h;obtain ⟨r130,hr130,h⟩ := h
  refine .callC (d := 52) (p103 N v106 r130 hr130) (by simp) rfl rfl (by simp <;> rfl) (by simp <;> rfl) ent103 (by simp) (.inl ⟨by simp,by simp⟩) ?_
  refine .st (mk 54 [] [(4,.ptr 4 0 0),(51,.i v106),(52,.agg [.i r130.Kind,.i r130.Int,.s r130.Text])] H9) ?_
  refine .rr 1 ?_
  refine .tt [(4,.ptr 4 0 0)] (H18 r130) (.nil (.ret ?_))
  cases h
  refine thenQ_ps ?_
  exact FinC.rs
 have c129_ : decide (a0 = (ByteArray.mk #[115,117,109])) = false := Bool.eq_false_iff.2 c129
 refine .condF rfl c129_ ?_
 refine .skip (thenQ_normal (.seqR ?_))
 refine .rr 2 ?_
 refine .tt [(4,.ptr 4 0 0)] [(4,some (.box [.i v103,.i v104,.s v105]))] (.nil (.ret ?_))
 cases h
 exact FinC.rs
def d72 (N : Nat) (a0 : (List (List S61))) (a1 : S75) : Option S61 :=
 if a1.Column < 0 then (
  (d103 N (a0.length : Int)).bind fun r2 =>
  some r2
 ) else
 Option.bind (α := List S61) (
  iterN (σ := ((List S61) × Int)) (ρ := List S61) (fun ((l11,v12) : ((List S61) × Int)) =>
   if v12 < (a0.length : Int) then (
    (idx a0 v12).bind fun x35 =>
    (idx x35 a1.Column).bind fun x37 =>
    if (x37.Kind != 0) then (
     (appL 32 l11 [x37]).bind fun _l40 =>
     (chkI (v12 + 1)).bind fun v41 =>
     some (.inl ((l11 ++ [x37]),v41))
    ) else
    (chkI (v12 + 1)).bind fun v42 =>
    some (.inl (l11,v42))
   ) else
   some (.inr l11)
  ) N (([] : List S61),0)
 ) fun (l33 : List S61) =>
 (d104 N a1.Function l33).bind fun r43 =>
 some r43
theorem p72 (N : Nat) (a0 : (List (List S61))) (a1 : S75) (r : S61) (h : d72 N a0 a1 = some r) : FunC Tryz.prog 72 [.ls61 a0,.agg [.s a1.Function,.i a1.Column]] (.agg [.i r.Kind,.i r.Int,.s r.Text]) := by
 unfold d72 at h
 refine FunC.enter 40 [(0,.ls61 a0),(1,.agg [.s a1.Function,.i a1.Column])] (by simp) Tryz.func72 rfl (of_decide_eq_true rfl) rfl rfl ?_
 refine .seqR ?_
 refine .rr 2 ?_
 refine .tt (L53 a0) (H19 a1) (.nil (.seq (.seqR ?_)))
 refine .rr 3 ?_
 refine .tt (L53 a0 ++ [(10,.b (decide (a1.Column < 0)))]) (H19 a1) (.nil ?_)
 replace h := isome h;rcases h with ⟨c1,h⟩ | ⟨c1,h⟩
 ·have c1_ : decide (a1.Column < 0) = true := decide_eq_true c1
  refine .condT rfl c1_ ?_
  refine .seqR ?_
  refine .rr 2 ?_
  refine .tt [(4,.ptr 4 0 0),(12,.i (a0.length : Int))] H9 ?_
  replace h := bsome h;obtain ⟨r2,hr2,h⟩ := h
  refine .callC (d := 13) (p103 N (a0.length : Int) r2 hr2) (by simp) rfl rfl (by simp <;> rfl) (by simp <;> rfl) ent103 (by simp) (.inl ⟨by simp,by simp⟩) ?_
  refine .st (mk 40 [] (L42 a0.length r2.Kind r2.Int r2.Text) H9) ?_
  refine .rr 1 ?_
  refine .tt [(4,.ptr 4 0 0)] (H18 r2) (.nil (.ret ?_))
  cases h
  refine thenQ_ps ?_
  exact FinC.rs
 have c1_ : decide (a1.Column < 0) = false := decide_eq_false c1
 refine .condF rfl c1_ ?_
 refine .skip (thenQ_normal (.seqR ?_))
 refine .rr 1 ?_
 refine .tt (L53 a0 ++ [(5,.z)]) (H19 a1) (.nil (.seq (.seqR ?_)))
 refine .rr 3 ?_
 refine .tt [(3,.ptr 3 0 0),(4,.ptr 4 0 0),(5,.z),(14,.ls61 a0),(15,.i (a0.length : Int)),(16,.i 0)] (H19 a1) (.nil ?_)
 refine .lastN (fun (l33 : List S61) => mk 40 [] [(3,.ptr 3 0 0),(4,.ptr 4 0 0),(5,.ref 34 0 l33.length)] (H25 a1 l33)) h ?_ ?_ <;> clear h
 ·intro o h
  refine .block ?_
  refine .iter (fun ((l11,v12) : ((List S61) × Int)) => mk 40 [] (L54 l11.length a0 a0.length v12) (H25 a1 l11)) h (Sub.trans (Sub.nilOwn (t := 5) (id := 34) (T := 61) (n := 3) rfl rfl (by decide)) (by simp;exact Sub.tt)) ?_
  clear h
  rintro ⟨l11,v12⟩ x h
  dsimp only at h ⊢
  refine .seqR ?_
  refine .rr 1 ?_
  refine .tt (L54 l11.length a0 a0.length v12 ++ [(17,.b (decide (v12 < (a0.length : Int))))]) (H25 a1 l11) (.nil (.seq ?_))
  replace h := isome h;rcases h with ⟨c34,h⟩ | ⟨c34,h⟩
  ·have c34_ : decide (v12 < (a0.length : Int)) = true := decide_eq_true c34
   refine .condT rfl c34_ ?_
   refine .skip (thenQ_normal (.seq (.block (.seqR ?_))))
   replace h := xsome h;obtain ⟨x35,k36,hx35k,hx35,hx35a,hx35b,h⟩ := h
   refine .rk 3 fun K k => ?_;simp [hx35,hx35k,hx35a];refine k ?_
   refine .tt [(3,.ptr 3 0 0),(4,.ptr 4 0 0),(5,.ref 34 0 l11.length),(7,.s61 x35),(14,.ls61 a0),(15,.i (a0.length : Int)),(16,.i v12)] (H25 a1 l11) (.nil (.seqR ?_))
   replace h := xsome h;obtain ⟨x37,k38,hx37k,hx37,hx37a,hx37b,h⟩ := h
   refine .rk 7 fun K k => ?_;simp [hx37,hx37k,hx37a];refine k ?_
   refine .tt [(3,.ptr 3 0 0),(4,.ptr 4 0 0),(5,.ref 34 0 l11.length),(7,.s61 x35),(14,.ls61 a0),(15,.i (a0.length : Int)),(16,.i v12),(26,.b (x37.Kind != 0))] (H25 a1 l11) (.nil ?_)
   replace h := isome h;rcases h with ⟨c39,h⟩ | ⟨c39,h⟩
   ·have c39_ : (x37.Kind != 0) = true := c39
    refine .condT rfl c39_ ?_
    refine .region ?_
    replace h := bsome h;obtain ⟨l40,hl40,h⟩ := h
    obtain ⟨hl40a,hl40⟩ := appL_some hl40
    subst hl40
    try simp only [List.length_cons,List.length_nil,Nat.zero_add] at hl40a
    refine .runK [33] 9 fun K k => ?_;simp [hx37,hx37k,hx37a,hl40a];refine k _ _ ?_;clear k K
    refine .tt [(3,.ptr 3 0 0),(4,.ptr 4 0 0),(5,.ref 34 0 ((l11 ++ [x37]).length)),(14,.ls61 a0),(15,.i (a0.length : Int)),(16,.i v12)] [(3,some (.box [.s a1.Function,.i a1.Column])),(4,some (.box [.i 0,.i 0,.s (ByteArray.mk #[])])),(34,R61 (l11 ++ [x37]))] (.nil (blockQ.normal (thenQ_normal (.region ?_))))
    replace h := csome h;obtain ⟨v41,hv41,h⟩ := h
    refine .rk 2 fun K k => ?_;simp [hv41];refine k ?_
    refine .tt [(3,.ptr 3 0 0),(4,.ptr 4 0 0),(5,.ref 34 0 ((l11 ++ [x37]).length)),(14,.ls61 a0),(15,.i (a0.length : Int)),(16,.i v41)] [(3,some (.box [.s a1.Function,.i a1.Column])),(4,some (.box [.i 0,.i 0,.s (ByteArray.mk #[])])),(34,R61 (l11 ++ [x37]))] (.nil ?_)
    cases h
    refine PostI.next ?_
    exact Sub.tt
   have c39_ : (x37.Kind != 0) = false := Bool.eq_false_iff.2 c39
   refine .condF rfl c39_ ?_
   refine .skip (blockQ.normal (thenQ_normal (.region ?_)))
   replace h := csome h;obtain ⟨v42,hv42,h⟩ := h
   refine .rk 2 fun K k => ?_;simp [hv42];refine k ?_
   refine .tt (L54 l11.length a0 a0.length v42) (H25 a1 l11) (.nil ?_)
   cases h
   refine PostI.next ?_
   exact Sub.tt
  have c34_ : decide (v12 < (a0.length : Int)) = false := decide_eq_false c34
  refine .condF rfl c34_ ?_
  refine .exit ?_
  cases h
  refine thenQ_ps ?_
  refine PostI.os ?_
  rintro rfl
  refine blockQ.hit (PostN.next ?_)
  exact Sub.tt
 rintro l33 h
 refine thenQ_normal (.seqR ?_)
 refine .rr 3 ?_
 refine .tt [(4,.ptr 4 0 0),(37,.s a1.Function),(38,.ref 34 0 l33.length)] [(4,some (.box [.i 0,.i 0,.s (ByteArray.mk #[])])),(34,R61 l33)] ?_
 replace h := bsome h;obtain ⟨r43,hr43,h⟩ := h
 refine .callC (d := 39) (p104 N a1.Function l33 r43 hr43) (by simp) rfl rfl (by simp <;> rfl) (by simp <;> rfl) ent104 (by simp) (.inr (by simp)) ?_
 refine .st (mk 40 [] [(4,.ptr 4 0 0),(37,.s a1.Function),(38,.ref 34 0 l33.length),(39,.agg [.i r43.Kind,.i r43.Int,.s r43.Text])] [(4,some (.box [.i 0,.i 0,.s (ByteArray.mk #[])])),(34,R61 l33)]) ?_
 refine .rr 1 ?_
 refine .tt [(4,.ptr 4 0 0)] (H18 r43) (.nil (.ret ?_))
 cases h
 exact FinC.rs
end Go.Proofs.YtimkkjiplioohaaGreatDoor
