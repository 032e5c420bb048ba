/- Functions of the program as functional programs; the code computes them. -/
import Derived.Test.YtimkkjiplioohaaGreatDoorRa14
namespace Go.Proofs.YtimkkjiplioohaaGreatDoor
set_option maxRecDepth 100000
set_option maxHeartbeats 4000000
open Go.Ab Go.Rp
attribute [-simp] List.all_eq_true Array.all_toList Array.all_eq_true
def d81 (N : Nat) (a0 : ByteArray) (a1 : (List S61)) : Option S61 :=
 if decide (a0 = (ByteArray.mk #[99,111,117,110,116])) = true then (
  (d108 N (a1.length : Int)).bind fun r2 =>
  some r2
 ) else
 if ((a1.length : Int) == 0) then (
  some (S61.mk 0 0 (ByteArray.mk #[]))
 ) else
 (idx a1 0).bind fun x4 =>
 Option.bind (α := (Int × Int × Int × ByteArray)) (
  iterN (σ := (Int × Int × Int × ByteArray × Int)) (ρ := (Int × Int × Int × ByteArray)) (fun ((v49,v50,v51,v52,v53) : (Int × Int × Int × ByteArray × Int)) =>
   if v53 < (a1.length : Int) then (
    (idx a1 v53).bind fun x108 =>
    (chkI (v49 + x108.Int)).bind fun v110 =>
    Option.bind (α := Bool) (
     if decide (a0 = (ByteArray.mk #[109,105,110])) = true then (
      (d107 N x108 (S61.mk v50 v51 v52)).bind fun r120 =>
      if r120 = true then (
       some true
      ) else
      if decide (a0 = (ByteArray.mk #[109,97,120])) = true then (
       (d107 N (S61.mk v50 v51 v52) x108).bind fun r123 =>
       some r123
      ) else
      some false
     ) else
     if decide (a0 = (ByteArray.mk #[109,97,120])) = true then (
      (d107 N (S61.mk v50 v51 v52) x108).bind fun r125 =>
      some r125
     ) else
     some false
    ) fun (v118 : Bool) =>
    if v118 = true then (
     (chkI (v53 + 1)).bind fun v127 =>
     some (.inl (v110,x108.Kind,x108.Int,x108.Text,v127))
    ) else
    (chkI (v53 + 1)).bind fun v128 =>
    some (.inl (v110,v50,v51,v52,v128))
   ) else
   some (.inr (v49,v50,v51,v52))
  ) N (0,x4.Kind,x4.Int,x4.Text,0)
 ) fun ((v103,v104,v105,v106) : (Int × Int × Int × ByteArray)) =>
 if decide (a0 = (ByteArray.mk #[115,117,109])) = true then (
  (d108 N v103).bind fun r130 =>
  some r130
 ) else
 some (S61.mk v104 v105 v106)
theorem p81 (N : Nat) (a0 : ByteArray) (a1 : (List S61)) (r : S61) (h : d81 N a0 a1 = some r) : FunC Tryz.prog 81 [.s a0,.s61 a1] (.agg [.i r.Kind,.i r.Int,.s r.Text]) := by
 unfold d81 at h
 refine FunC.enter 54 [(0,.s a0),(1,.s61 a1)] (by simp) Tryz.func81 rfl (of_decide_eq_true rfl) rfl rfl ?_
 refine .seqR ?_
 refine .rr 1 ?_
 refine .tt (L41 a0 a1) H9 (.nil (.seq (.seqR ?_)))
 refine .rr 2 ?_
 refine .tt (L41 a0 a1 ++ [(10,.b (decide (a0 = (ByteArray.mk #[99,111,117,110,116]))))]) H9 (.nil ?_)
 replace h := isome h;rcases h with ⟨c1,h⟩ | ⟨c1,h⟩
 ·have c1_ : decide (a0 = (ByteArray.mk #[99,111,117,110,116])) = true := c1
  refine .condT rfl c1_ ?_
  refine .seqR ?_
  refine .rr 2 ?_
  refine .tt [(4,.ptr 4 0 0),(12,.i (a1.length : Int))] H9 ?_
  replace h := bsome h;obtain ⟨r2,hr2,h⟩ := h
  refine .callC (d := 13) (p108 N (a1.length : Int) r2 hr2) (by simp) rfl rfl (by simp <;> rfl) (by simp <;> rfl) ent108 (by simp) (.inl ⟨by simp,by simp⟩) ?_
  refine .st (mk 54 [] (L42 a1.length r2.Kind r2.Int r2.Text) H9) ?_
  refine .rr 1 ?_
  refine .tt [(4,.ptr 4 0 0)] (H18 r2) (.nil (.ret ?_))
  cases h
  refine thenQ_ps ?_
  exact FinC.rs
 have c1_ : decide (a0 = (ByteArray.mk #[99,111,117,110,116])) = false := Bool.eq_false_iff.2 c1
 refine .condF rfl c1_ ?_
 refine .skip (thenQ_normal (.seq (.seqR ?_)))
 refine .rr 3 ?_
 refine .tt (L41 a0 a1 ++ [(16,.b ((a1.length : Int) == 0))]) H9 (.nil ?_)
 replace h := isome h;rcases h with ⟨c3,h⟩ | ⟨c3,h⟩
 ·have c3_ : ((a1.length : Int) == 0) = true := c3
  refine .condT rfl c3_ ?_
  refine .seqR ?_
  refine .rr 2 ?_
  refine .tt [(4,.ptr 4 0 0)] H9 (.nil (.ret ?_))
  cases h
  refine thenQ_ps ?_
  exact FinC.rs
 have c3_ : ((a1.length : Int) == 0) = false := Bool.eq_false_iff.2 c3
 refine .condF rfl c3_ ?_
 refine .skip (thenQ_normal ?_)
 replace h := bsome h;obtain ⟨x4,hx4,h⟩ := h
 obtain ⟨hx4,hx4b,hx4c⟩ := idx_someN (n := 0) hx4
 refine .seqAnyS [[],[0],[0,1],[],[3],[0,1,2,3,4]] (fun (b : Nat → Bool) => mk 54 [] [(0,.s a0),(1,.s61 a1),(4,.ptr 4 0 0),(5,(if b 4 then .i 0 else .junk)),(6,(if b 3 then .ptr 6 0 0 else .junk)),(18,(if b 0 then .s61 a1 else .junk)),(19,(if b 1 then .d (.pim [.lit (.int .i64 x4.Kind),.lit (.int .i64 x4.Int),.lit (.string x4.Text)]) else .junk)),(20,(if b 2 then .agg [.i x4.Kind,.i x4.Int,.s x4.Text] else .junk))] [(4,some (.box [.i 0,.i 0,.s (ByteArray.mk #[])])),(6,(if b 5 then some (.box [.i x4.Kind,.i x4.Int,.s x4.Text]) else (if b 3 then some (.box [.i 0,.i 0,.s (ByteArray.mk #[])]) else none)))]) (mk 54 [] (L41 a0 a1 ++ [(5,.i 0),(6,.ptr 6 0 0)]) (H36 x4)) (by kernel_rfl) (by kernel_rfl) Sub.tt (Steps.cons ?_ (Steps.cons ?_ (Steps.cons ?_ (Steps.cons ?_ (Steps.cons ?_ (Steps.cons ?_ (Steps.nil))))))) ?_ ?_
 iterate 3
  ·intro b h0 ha hd
   have T := fct h0 ha hd;simp at T
   refine .rk 1 fun K k => ?_;simp [T,hx4];refine k ?_
   exact .nil .tT
 iterate 3
  ·intro b h0 ha hd
   have T := fct h0 ha hd;simp at T
   refine .rk 1 fun K k => ?_;simp [T];refine k ?_
   exact .nil .tT
 ·intro b hb
  have T := FA_of (n := 6) hb;simp at T
  exact Sub.tT
 skip
 refine .seq (.seqR ?_)
 refine .rr 3 ?_
 refine .tt [(0,.s a0),(4,.ptr 4 0 0),(5,.i 0),(6,.ptr 6 0 0),(21,.s61 a1),(22,.i (a1.length : Int)),(23,.i 0)] (H36 x4) (.nil ?_)
 refine .lastN (fun ((v103,v104,v105,v106) : (Int × Int × Int × ByteArray)) => mk 54 [] [(0,.s a0),(4,.ptr 4 0 0),(5,.i v103),(6,.ptr 6 0 0)] (H32 v104 v105 v106)) h ?_ ?_ <;> clear h
 ·intro o h
  refine .block ?_
  refine .iter (fun ((v49,v50,v51,v52,v53) : (Int × Int × Int × ByteArray × Int)) => mk 54 [] (L73 a0 v49 a1 a1.length v53) (H32 v50 v51 v52)) h Sub.tt ?_
  clear h
  rintro ⟨v49,v50,v51,v52,v53⟩ x h
  dsimp only at h ⊢
  refine .seqR ?_
  refine .rr 1 ?_
  refine .tt (L73 a0 v49 a1 a1.length v53 ++ [(24,.b (decide (v53 < (a1.length : Int))))]) (H32 v50 v51 v52) (.nil (.seq ?_))
  replace h := isome h;rcases h with ⟨c107,h⟩ | ⟨c107,h⟩
  ·have c107_ : decide (v53 < (a1.length : Int)) = true := decide_eq_true c107
   refine .condT rfl c107_ ?_
   refine .skip (thenQ_normal (.seq (.block (.seqR ?_))))
   replace h := xsome h;obtain ⟨x108,k109,hx108k,hx108,hx108a,hx108b,h⟩ := h
   refine .rk 4 fun K k => ?_;simp [hx108,hx108k,hx108a];refine k ?_
   refine .tt (L74 a0 v49 a1 a1.length v53) (H5 v50 v51 v52 x108) (.nil (.seqR ?_))
   replace h := csome h;obtain ⟨v110,hv110,h⟩ := h
   refine .rk 5 fun K k => ?_;simp [hv110];refine k ?_
   refine .tt (L74 a0 v110 a1 a1.length v53) (H5 v50 v51 v52 x108) (.nil ?_)
   replace h := bsome h;obtain ⟨v118,hj,h⟩ := h
   refine .cutR (mk 54 [] (L74 a0 v110 a1 a1.length v53 ++ [(46,.b v118)]) (H5 v50 v51 v52 x108)) ?_ ?_
   ·clear h;have h := hj;clear hj
    refine .rr 3 ?_
    refine .tt (L74 a0 v110 a1 a1.length v53 ++ [(33,.b (decide (a0 = (ByteArray.mk #[109,105,110]))))]) (H5 v50 v51 v52 x108) ?_
    replace h := isome h;rcases h with ⟨c119,h⟩ | ⟨c119,h⟩
    ·have c119_ : decide (a0 = (ByteArray.mk #[109,105,110])) = true := c119
     refine .sub (.bool 33 rfl c119_) ?_
     refine .st (mk 54 [] (L75 a0 v110 a1 a1.length v53) (H5 v50 v51 v52 x108)) ?_
     refine .rr 2 ?_
     refine .tt (L75 a0 v110 a1 a1.length v53 ++ [(34,.agg [.i x108.Kind,.i x108.Int,.s x108.Text]),(35,.agg [.i v50,.i v51,.s v52])]) (H5 v50 v51 v52 x108) ?_
     replace h := bsome h;obtain ⟨r120,hr120,h⟩ := h
     refine .callL (d := 36) (p107 N x108 (S61.mk v50 v51 v52) r120 hr120) (by simp) rfl rfl (by simp <;> rfl) (by simp <;> rfl) ent107 (by simp <;> rfl) ?_
     refine .st (mk 54 [] (L75 a0 v110 a1 a1.length v53 ++ [(34,.agg [.i x108.Kind,.i x108.Int,.s x108.Text]),(35,.agg [.i v50,.i v51,.s v52]),(36,.b r120)]) (H5 v50 v51 v52 x108)) ?_
     refine .rr 2 ?_
     refine .tt (L76 a0 v110 a1 a1.length v53 x108.Kind x108.Int x108.Text v50 v51 v52 ++ [(36,.b r120),(38,.b r120)]) (H5 v50 v51 v52 x108) ?_
     replace h := isome h;rcases h with ⟨c121,h⟩ | ⟨c121,h⟩
     ·have c121_ : r120 = true := c121
      refine .sub (.bool 36 rfl c121_) ?_
      refine .sub (.bool 38 rfl c121_) ?_
      refine .st (mk 54 [] (L76 a0 v110 a1 a1.length v53 x108.Kind x108.Int x108.Text v50 v51 v52 ++ [(36,.b true),(38,.b true)]) (H5 v50 v51 v52 x108)) ?_
      refine .rr 8 ?_
      refine .tt (L76 a0 v110 a1 a1.length v53 x108.Kind x108.Int x108.Text v50 v51 v52 ++ [(36,.b true),(39,.tup []),(40,.tup []),(41,.tup []),(42,.tup []),(43,.tup []),(44,.tup []),(45,.tup []),(46,.b true)]) (H5 v50 v51 v52 x108) ?_
      cases h
      exact .nil .tt
     have c121_ : r120 = false := Bool.eq_false_iff.2 c121
     refine .sub (.bool 36 rfl c121_) ?_
     refine .sub (.bool 38 rfl c121_) ?_
     refine .st (mk 54 [] (L77 a0 v110 a1 a1.length v53 x108.Kind x108.Int x108.Text v50 v51 v52 ++ [(38,.b false)]) (H5 v50 v51 v52 x108)) ?_
     refine .rr 3 ?_
     refine .tt (L78 a0 v110 a1 a1.length v53 x108.Kind x108.Int x108.Text v50 v51 v52 ++ [(40,.b (decide (a0 = (ByteArray.mk #[109,97,120])))),(41,.b (decide (a0 = (ByteArray.mk #[109,97,120]))))]) (H5 v50 v51 v52 x108) ?_
     replace h := isome h;rcases h with ⟨c122,h⟩ | ⟨c122,h⟩
     ·have c122_ : decide (a0 = (ByteArray.mk #[109,97,120])) = true := c122
      refine .sub (.bool 40 rfl c122_) ?_
      refine .sub (.bool 41 rfl c122_) ?_
      refine .st (mk 54 [] (L79 a0 v110 a1 a1.length v53 x108.Kind x108.Int x108.Text v50 v51 v52) (H5 v50 v51 v52 x108)) ?_
      refine .rr 2 ?_
      refine .tt (L79 a0 v110 a1 a1.length v53 x108.Kind x108.Int x108.Text v50 v51 v52 ++ [(42,.agg [.i v50,.i v51,.s v52]),(43,.agg [.i x108.Kind,.i x108.Int,.s x108.Text])]) (H5 v50 v51 v52 x108) ?_
      replace h := bsome h;obtain ⟨r123,hr123,h⟩ := h
      refine .callL (d := 44) (p107 N (S61.mk v50 v51 v52) x108 r123 hr123) (by simp) rfl rfl (by simp <;> rfl) (by simp <;> rfl) ent107 (by simp <;> rfl) ?_
      refine .st (mk 54 [] (L79 a0 v110 a1 a1.length v53 x108.Kind x108.Int x108.Text v50 v51 v52 ++ [(42,.agg [.i v50,.i v51,.s v52]),(43,.agg [.i x108.Kind,.i x108.Int,.s x108.Text]),(44,.b r123)]) (H5 v50 v51 v52 x108)) ?_
      refine .rr 2 ?_
      refine .tt (L77 a0 v110 a1 a1.length v53 x108.Kind x108.Int x108.Text v50 v51 v52 ++ [(39,.s a0),(40,.b true),(41,.b true),(42,.agg [.i v50,.i v51,.s v52]),(43,.agg [.i x108.Kind,.i x108.Int,.s x108.Text]),(44,.b r123),(45,.b r123),(46,.b r123)]) (H5 v50 v51 v52 x108) ?_
      cases h
      exact .nil .tt
     have c122_ : decide (a0 = (ByteArray.mk #[109,97,120])) = false := Bool.eq_false_iff.2 c122
     refine .sub (.bool 40 rfl c122_) ?_
     refine .sub (.bool 41 rfl c122_) ?_
     refine .st (mk 54 [] (L78 a0 v110 a1 a1.length v53 x108.Kind x108.Int x108.Text v50 v51 v52 ++ [(40,.b false),(41,.b false)]) (H5 v50 v51 v52 x108)) ?_
     refine .rr 5 ?_
     refine .tt (L77 a0 v110 a1 a1.length v53 x108.Kind x108.Int x108.Text v50 v51 v52 ++ [(39,.s a0),(40,.b false),(41,.b false),(42,.tup []),(43,.tup []),(44,.tup []),(45,.b false),(46,.b false)]) (H5 v50 v51 v52 x108) ?_
     cases h
     exact .nil .tt
    have c119_ : decide (a0 = (ByteArray.mk #[109,105,110])) = false := Bool.eq_false_iff.2 c119
    refine .sub (.bool 33 rfl c119_) ?_
    refine .st (mk 54 [] (L74 a0 v110 a1 a1.length v53 ++ [(33,.b false)]) (H5 v50 v51 v52 x108)) ?_
    refine .rr 8 ?_
    refine .tt (L80 a0 v110 a1 a1.length v53 ++ [(40,.b (decide (a0 = (ByteArray.mk #[109,97,120])))),(41,.b (decide (a0 = (ByteArray.mk #[109,97,120]))))]) (H5 v50 v51 v52 x108) ?_
    replace h := isome h;rcases h with ⟨c124,h⟩ | ⟨c124,h⟩
    ·have c124_ : decide (a0 = (ByteArray.mk #[109,97,120])) = true := c124
     refine .sub (.bool 40 rfl c124_) ?_
     refine .sub (.bool 41 rfl c124_) ?_
     refine .st (mk 54 [] (L81 a0 v110 a1 a1.length v53) (H5 v50 v51 v52 x108)) ?_
     refine .rr 2 ?_
     refine .tt (L81 a0 v110 a1 a1.length v53 ++ [(42,.agg [.i v50,.i v51,.s v52]),(43,.agg [.i x108.Kind,.i x108.Int,.s x108.Text])]) (H5 v50 v51 v52 x108) ?_
     replace h := bsome h;obtain ⟨r125,hr125,h⟩ := h
     refine .callL (d := 44) (p107 N (S61.mk v50 v51 v52) x108 r125 hr125) (by simp) rfl rfl (by simp <;> rfl) (by simp <;> rfl) ent107 (by simp <;> rfl) ?_
     refine .st (mk 54 [] (L81 a0 v110 a1 a1.length v53 ++ [(42,.agg [.i v50,.i v51,.s v52]),(43,.agg [.i x108.Kind,.i x108.Int,.s x108.Text]),(44,.b r125)]) (H5 v50 v51 v52 x108)) ?_
     refine .rr 2 ?_
     refine .tt (L82 a0 v110 a1 a1.length v53 ++ [(39,.s a0),(40,.b true),(41,.b true),(42,.agg [.i v50,.i v51,.s v52]),(43,.agg [.i x108.Kind,.i x108.Int,.s x108.Text]),(44,.b r125),(45,.b r125),(46,.b r125)]) (H5 v50 v51 v52 x108) ?_
     cases h
     exact .nil .tt
    have c124_ : decide (a0 = (ByteArray.mk #[109,97,120])) = false := Bool.eq_false_iff.2 c124
    refine .sub (.bool 40 rfl c124_) ?_
    refine .sub (.bool 41 rfl c124_) ?_
    refine .st (mk 54 [] (L80 a0 v110 a1 a1.length v53 ++ [(40,.b false),(41,.b false)]) (H5 v50 v51 v52 x108)) ?_
    refine .rr 5 ?_
    refine .tt (L82 a0 v110 a1 a1.length v53 ++ [(39,.s a0),(40,.b false),(41,.b false),(42,.tup []),(43,.tup []),(44,.tup []),(45,.b false),(46,.b false)]) (H5 v50 v51 v52 x108) ?_
    cases h
    exact .nil .tt
   clear hj
   replace h := isome h;rcases h with ⟨c126,h⟩ | ⟨c126,h⟩
   ·have c126_ : v118 = true := c126
    refine .condT rfl c126_ ?_
    refine .region ?_
    refine .rr 2 ?_
    refine .tt (L73 a0 v110 a1 a1.length v53) (H36 x108) (.nil (blockQ.normal (thenQ_normal (.region ?_))))
    replace h := csome h;obtain ⟨v127,hv127,h⟩ := h
    refine .rk 2 fun K k => ?_;simp [hv127];refine k ?_
    refine .tt (L73 a0 v110 a1 a1.length v127) (H36 x108) (.nil ?_)
    cases h
    refine PostI.next ?_
    exact Sub.tt
   have c126_ : v118 = false := Bool.eq_false_iff.2 c126
   refine .condF rfl c126_ ?_
   refine .skip (blockQ.normal (thenQ_normal (.region ?_)))
   replace h := csome h;obtain ⟨v128,hv128,h⟩ := h
   refine .rk 2 fun K k => ?_;simp [hv128];refine k ?_
   refine .tt (L73 a0 v110 a1 a1.length v128) (H32 v50 v51 v52) (.nil ?_)
   cases h
   refine PostI.next ?_
   exact Sub.tt
  have c107_ : decide (v53 < (a1.length : Int)) = false := decide_eq_false c107
  refine .condF rfl c107_ ?_
  refine .exit ?_
  cases h
  refine thenQ_ps ?_
  refine PostI.os ?_
  rintro rfl
  refine blockQ.hit (PostN.next ?_)
  exact Sub.tt
 rintro ⟨v103,v104,v105,v106⟩ h
 dsimp only at h ⊢
 refine thenQ_normal (.seq (.seqR ?_))
 refine .rr 2 ?_
 refine .tt [(4,.ptr 4 0 0),(5,.i v103),(6,.ptr 6 0 0),(50,.b (decide (a0 = (ByteArray.mk #[115,117,109]))))] (H32 v104 v105 v106) (.nil ?_)
 replace h := isome h;rcases h with ⟨c129,h⟩ | ⟨c129,h⟩
 ·have c129_ : decide (a0 = (ByteArray.mk #[115,117,109])) = true := c129
  refine .condT rfl c129_ ?_
  refine .seqR ?_
  refine .rr 1 ?_
  refine .tt [(4,.ptr 4 0 0),(51,.i v103)] H9 ?_
  replace h := bsome h;obtain ⟨r130,hr130,h⟩ := h
  refine .callC (d := 52) (p108 N v103 r130 hr130) (by simp) rfl rfl (by simp <;> rfl) (by simp <;> rfl) ent108 (by simp) (.inl ⟨by simp,by simp⟩) ?_
  refine .st (mk 54 [] [(4,.ptr 4 0 0),(51,.i v103),(52,.agg [.i r130.Kind,.i r130.Int,.s r130.Text])] H9) ?_
  refine .rr 1 ?_
  refine .tt [(4,.ptr 4 0 0)] (H18 r130) (.nil (.ret ?_))
  cases h
  refine thenQ_ps ?_
  exact FinC.rs
 have c129_ : decide (a0 = (ByteArray.mk #[115,117,109])) = false := Bool.eq_false_iff.2 c129
 refine .condF rfl c129_ ?_
 refine .skip (thenQ_normal (.seqR ?_))
 refine .rr 2 ?_
 refine .tt [(4,.ptr 4 0 0)] [(4,some (.box [.i v104,.i v105,.s v106]))] (.nil (.ret ?_))
 cases h
 exact FinC.rs
def d36 (N : Nat) (a0 : (List (List S61))) (a1 : S75) : Option S61 :=
 Option.bind (α := List S61) (
  iterN (σ := ((List S61) × Int)) (ρ := List S61) (fun ((l12,v13) : ((List S61) × Int)) =>
   if v13 < (a0.length : Int) then (
    (idx a0 v13).bind fun x42 =>
    if a1.Column < 0 then (
     (appL 32 l12 [(S61.mk 1 1 (ByteArray.mk #[]))]).bind fun _l45 =>
     (chkI (v13 + 1)).bind fun v46 =>
     some (.inl ((l12 ++ [(S61.mk 1 1 (ByteArray.mk #[]))]),v46))
    ) else
    (idx x42 a1.Column).bind fun x47 =>
    if (x47.Kind != 0) then (
     (appL 32 l12 [x47]).bind fun _l50 =>
     (chkI (v13 + 1)).bind fun v51 =>
     some (.inl ((l12 ++ [x47]),v51))
    ) else
    (chkI (v13 + 1)).bind fun v52 =>
    some (.inl (l12,v52))
   ) else
   some (.inr l12)
  ) N (([] : List S61),0)
 ) fun (l40 : List S61) =>
 (d81 N a1.Function l40).bind fun r53 =>
 some r53
theorem p36 (N : Nat) (a0 : (List (List S61))) (a1 : S75) (r : S61) (h : d36 N a0 a1 = some r) : FunC Tryz.prog 36 [.ls61 a0,.agg [.s a1.Function,.i a1.Column]] (.agg [.i r.Kind,.i r.Int,.s r.Text]) := by
 unfold d36 at h
 refine FunC.enter 41 [(0,.ls61 a0),(1,.agg [.s a1.Function,.i a1.Column])] (by simp) Tryz.func36 rfl (of_decide_eq_true rfl) rfl rfl ?_
 refine .seqR ?_
 refine .rr 2 ?_
 refine .tt (L53 a0) (H19 a1) (.nil (.seqR ?_))
 refine .rr 1 ?_
 refine .tt (L53 a0 ++ [(5,.z)]) (H19 a1) (.nil (.seq (.seqR ?_)))
 refine .rr 3 ?_
 refine .tt [(3,.ptr 3 0 0),(4,.ptr 4 0 0),(5,.z),(8,.ls61 a0),(9,.i (a0.length : Int)),(10,.i 0)] (H19 a1) (.nil ?_)
 refine .lastN (fun (l40 : List S61) => mk 41 [] [(3,.ptr 3 0 0),(4,.ptr 4 0 0),(5,.ref 20 0 l40.length)] (H21 a1 l40)) h ?_ ?_ <;> clear h
 ·intro o h
  refine .block ?_
  refine .iter (fun ((l12,v13) : ((List S61) × Int)) => mk 41 [] (L83 l12.length a0 a0.length v13) (H21 a1 l12)) h (Sub.trans (Sub.nilOwn (t := 5) (id := 20) (T := 61) (n := 3) rfl rfl (by decide)) (by simp;exact Sub.tt)) ?_
  clear h
  rintro ⟨l12,v13⟩ x h
  dsimp only at h ⊢
  refine .seqR ?_
  refine .rr 1 ?_
  refine .tt (L83 l12.length a0 a0.length v13 ++ [(11,.b (decide (v13 < (a0.length : Int))))]) (H21 a1 l12) (.nil (.seq ?_))
  replace h := isome h;rcases h with ⟨c41,h⟩ | ⟨c41,h⟩
  ·have c41_ : decide (v13 < (a0.length : Int)) = true := decide_eq_true c41
   refine .condT rfl c41_ ?_
   refine .skip (thenQ_normal (.seq (.block (.seqR ?_))))
   replace h := xsome h;obtain ⟨x42,k43,hx42k,hx42,hx42a,hx42b,h⟩ := h
   refine .rk 3 fun K k => ?_;simp [hx42,hx42k,hx42a];refine k ?_
   refine .tt (L84 l12.length x42 a0 a0.length v13) (H21 a1 l12) (.nil (.seqR ?_))
   refine .rr 3 ?_
   refine .tt (L84 l12.length x42 a0 a0.length v13 ++ [(16,.b (decide (a1.Column < 0)))]) (H21 a1 l12) (.nil ?_)
   replace h := isome h;rcases h with ⟨c44,h⟩ | ⟨c44,h⟩
   ·have c44_ : decide (a1.Column < 0) = true := decide_eq_true c44
    refine .condT rfl c44_ ?_
    refine .region ?_
    replace h := bsome h;obtain ⟨l45,hl45,h⟩ := h
    obtain ⟨hl45a,hl45⟩ := appL_some hl45
    subst hl45
    try simp only [List.length_cons,List.length_nil,Nat.zero_add] at hl45a
    refine .runK [19] 5 fun K k => ?_;simp [hl45a];refine k _ _ ?_;clear k K
    refine .tt [(3,.ptr 3 0 0),(4,.ptr 4 0 0),(5,.ref 20 0 ((l12 ++ [(S61.mk 1 1 (ByteArray.mk #[]))]).length)),(8,.ls61 a0),(9,.i (a0.length : Int)),(10,.i v13)] [(3,some (.box [.s a1.Function,.i a1.Column])),(4,some (.box [.i 0,.i 0,.s (ByteArray.mk #[])])),(20,R61 (l12 ++ [(S61.mk 1 1 (ByteArray.mk #[]))]))] (.nil (blockQ.normal (thenQ_normal (.region ?_))))
    replace h := csome h;obtain ⟨v46,hv46,h⟩ := h
    refine .rk 2 fun K k => ?_;simp [hv46];refine k ?_
    refine .tt [(3,.ptr 3 0 0),(4,.ptr 4 0 0),(5,.ref 20 0 ((l12 ++ [(S61.mk 1 1 (ByteArray.mk #[]))]).length)),(8,.ls61 a0),(9,.i (a0.length : Int)),(10,.i v46)] [(3,some (.box [.s a1.Function,.i a1.Column])),(4,some (.box [.i 0,.i 0,.s (ByteArray.mk #[])])),(20,R61 (l12 ++ [(S61.mk 1 1 (ByteArray.mk #[]))]))] (.nil ?_)
    cases h
    refine PostI.next ?_
    exact Sub.tt
   have c44_ : decide (a1.Column < 0) = false := decide_eq_false c44
   refine .condF rfl c44_ ?_
   refine .seqR ?_
   replace h := xsome h;obtain ⟨x47,k48,hx47k,hx47,hx47a,hx47b,h⟩ := h
   refine .rk 7 fun K k => ?_;simp [hx47,hx47k,hx47a];refine k ?_
   refine .tt (L84 l12.length x42 a0 a0.length v13 ++ [(27,.b (x47.Kind != 0))]) (H21 a1 l12) (.nil ?_)
   replace h := isome h;rcases h with ⟨c49,h⟩ | ⟨c49,h⟩
   ·have c49_ : (x47.Kind != 0) = true := c49
    refine .condT rfl c49_ ?_
    refine .region ?_
    replace h := bsome h;obtain ⟨l50,hl50,h⟩ := h
    obtain ⟨hl50a,hl50⟩ := appL_some hl50
    subst hl50
    try simp only [List.length_cons,List.length_nil,Nat.zero_add] at hl50a
    refine .runK [34] 9 fun K k => ?_;simp [hx47,hx47k,hx47a,hl50a];refine k _ _ ?_;clear k K
    refine .tt [(3,.ptr 3 0 0),(4,.ptr 4 0 0),(5,.ref 20 0 ((l12 ++ [x47]).length)),(8,.ls61 a0),(9,.i (a0.length : Int)),(10,.i v13)] [(3,some (.box [.s a1.Function,.i a1.Column])),(4,some (.box [.i 0,.i 0,.s (ByteArray.mk #[])])),(20,R61 (l12 ++ [x47]))] (.nil (blockQ.normal (thenQ_normal (.region ?_))))
    replace h := csome h;obtain ⟨v51,hv51,h⟩ := h
    refine .rk 2 fun K k => ?_;simp [hv51];refine k ?_
    refine .tt [(3,.ptr 3 0 0),(4,.ptr 4 0 0),(5,.ref 20 0 ((l12 ++ [x47]).length)),(8,.ls61 a0),(9,.i (a0.length : Int)),(10,.i v51)] [(3,some (.box [.s a1.Function,.i a1.Column])),(4,some (.box [.i 0,.i 0,.s (ByteArray.mk #[])])),(20,R61 (l12 ++ [x47]))] (.nil ?_)
    cases h
    refine PostI.next ?_
    exact Sub.tt
   have c49_ : (x47.Kind != 0) = false := Bool.eq_false_iff.2 c49
   refine .condF rfl c49_ ?_
   refine .skip (blockQ.normal (thenQ_normal (.region ?_)))
   replace h := csome h;obtain ⟨v52,hv52,h⟩ := h
   refine .rk 2 fun K k => ?_;simp [hv52];refine k ?_
   refine .tt (L83 l12.length a0 a0.length v52) (H21 a1 l12) (.nil ?_)
   cases h
   refine PostI.next ?_
   exact Sub.tt
  have c41_ : decide (v13 < (a0.length : Int)) = false := decide_eq_false c41
  refine .condF rfl c41_ ?_
  refine .exit ?_
  cases h
  refine thenQ_ps ?_
  refine PostI.os ?_
  rintro rfl
  refine blockQ.hit (PostN.next ?_)
  exact Sub.tt
 rintro l40 h
 refine thenQ_normal (.seqR ?_)
 refine .rr 3 ?_
 refine .tt [(4,.ptr 4 0 0),(38,.s a1.Function),(39,.ref 20 0 l40.length)] [(4,some (.box [.i 0,.i 0,.s (ByteArray.mk #[])])),(20,R61 l40)] ?_
 replace h := bsome h;obtain ⟨r53,hr53,h⟩ := h
 refine .callC (d := 40) (p81 N a1.Function l40 r53 hr53) (by simp) rfl rfl (by simp <;> rfl) (by simp <;> rfl) ent81 (by simp) (.inr (by simp)) ?_
 refine .st (mk 41 [] [(4,.ptr 4 0 0),(38,.s a1.Function),(39,.ref 20 0 l40.length),(40,.agg [.i r53.Kind,.i r53.Int,.s r53.Text])] [(4,some (.box [.i 0,.i 0,.s (ByteArray.mk #[])])),(20,R61 l40)]) ?_
 refine .rr 1 ?_
 refine .tt [(4,.ptr 4 0 0)] (H18 r53) (.nil (.ret ?_))
 cases h
 exact FinC.rs
end Go.Proofs.YtimkkjiplioohaaGreatDoor
