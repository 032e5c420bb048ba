/- Functions of the program as functional programs; the code computes them. -/
import Derived.Test.YtimkkjiplioohaaGreatDoorRa13
namespace Go.Proofs.YtimkkjiplioohaaGreatDoor
set_option maxRecDepth 100000
set_option maxHeartbeats 4000000
open Go.Ab Go.Rp
attribute [-simp] List.all_eq_true Array.all_toList Array.all_eq_true
def d33 (N : Nat) (a0 : (List (List S61))) (a1 : S65) : Option (List (List S61)) :=
 (d78 N a0).bind fun r1 =>
 Option.bind (α := List (List S61)) (
  iterN (σ := ((List (List S61)) × (List (List S61)))) (ρ := List (List S61)) (fun ((l65,l66) : ((List (List S61)) × (List (List S61)))) =>
   if (l65.length : Int) > 0 then (
    Option.bind (α := Int) (
     iterN (σ := (Int × Int)) (ρ := Int) (fun ((v216,v217) : (Int × Int)) =>
      if v217 < (l65.length : Int) then (
       (idx l65 v217).bind fun x244 =>
       (d35 N x244 a1.Columns).bind fun r246 =>
       (idx l65 v216).bind fun x247 =>
       (d35 N x247 a1.Columns).bind fun r249 =>
       (d79 N r246 r249 a1.Descending).bind fun r250 =>
       if r250 = true then (
        (chkI (v217 + 1)).bind fun v252 =>
        some (.inl (v217,v252))
       ) else
       (chkI (v217 + 1)).bind fun v253 =>
       some (.inl (v216,v253))
      ) else
      some (.inr v216)
     ) N (0,0)
    ) fun (v242 : Int) =>
    (idx l65 v242).bind fun x254 =>
    (appL 24 l66 [x254]).bind fun _l256 =>
    (chkI (v242 + 1)).bind fun v257 =>
    (d80 N l65 v242 v257).bind fun l258 =>
    some (.inl (l258,(l66 ++ [x254])))
   ) else
   some (.inr l66)
  ) N (r1,([] : List (List S61)))
 ) fun (l195 : List (List S61)) =>
 some l195
theorem p33 (N : Nat) (a0 : (List (List S61))) (a1 : S65) (r : (List (List S61))) (h : d33 N a0 a1 = some r) : FunC Tryz.prog 33 [.ls61 a0,.agg [.si a1.Columns,.sb a1.Descending]] (.ls61 r) := by
 unfold d33 at h
 refine FunC.enter 51 [(0,.ls61 a0),(1,.agg [.si a1.Columns,.sb a1.Descending])] (by simp) Tryz.func33 rfl (of_decide_eq_true rfl) rfl rfl ?_
 refine .seqR ?_
 refine .rr 2 ?_
 refine .tt [(0,.ls61 a0),(3,.ptr 3 0 0)] (H27 a1) (.nil (.seqR ?_))
 refine .rr 1 ?_
 refine .tt [(3,.ptr 3 0 0),(9,.ls61 a0)] (H27 a1) ?_
 replace h := bsome h;obtain ⟨r1,hr1,h⟩ := h
 refine .callO (d := 10) (p78 N a0 r1 hr1) (by simp) rfl rfl (by simp <;> rfl) (by simp <;> rfl) ent78 (by simp) ⟨by simp,by simp⟩ ?_
 refine .st (mk 51 [] [(3,.ptr 3 0 0),(9,.ls61 a0),(10,.ref 10 0 r1.length)] (H41 a1 r1)) ?_
 refine .rr 1 ?_
 refine .tt [(3,.ptr 3 0 0),(5,.ref 10 0 r1.length)] (H41 a1 r1) (.nil (.seqR ?_))
 refine .rr 1 ?_
 refine .tt [(3,.ptr 3 0 0),(5,.ref 10 0 r1.length),(6,.z)] (H41 a1 r1) (.nil ?_)
 refine .seqN (fun (l195 : List (List S61)) => mk 51 [] [(6,.ref 44 0 l195.length)] [(44,R57 l195)]) h ?_ ?_ <;> clear h
 ·intro o h
  refine .block ?_
  refine .iter (fun ((l65,l66) : ((List (List S61)) × (List (List S61)))) => mk 51 [] (L70 l65.length l66.length) (H14 a1 l65 l66)) h (Sub.trans (Sub.nilOwn (t := 6) (id := 44) (T := 57) (n := 1) rfl rfl (by decide)) (by simp;exact Sub.tt)) ?_
  clear h
  rintro ⟨l65,l66⟩ x h
  dsimp only at h ⊢
  refine .seq (.seqR ?_)
  refine .rr 3 ?_
  refine .tt (L70 l65.length l66.length ++ [(13,.b (decide ((l65.length : Int) > 0)))]) (H14 a1 l65 l66) (.nil ?_)
  replace h := isome h;rcases h with ⟨c196,h⟩ | ⟨c196,h⟩
  ·have c196_ : decide ((l65.length : Int) > 0) = true := decide_eq_true c196
   refine .condT rfl c196_ ?_
   refine .skip (thenQ_normal (.block (.seqR ?_)))
   refine .rr 1 ?_
   refine .tt (L70 l65.length l66.length ++ [(7,.i 0)]) (H14 a1 l65 l66) (.nil (.seq (.seqR ?_)))
   refine .rr 3 ?_
   refine .tt (L70 l65.length l66.length ++ [(7,.i 0),(15,.i (l65.length : Int)),(16,.i 0)]) (H14 a1 l65 l66) (.nil ?_)
   refine .lastN (fun (v242 : Int) => mk 51 [] (L70 l65.length l66.length ++ [(7,.i v242)]) (H14 a1 l65 l66)) h ?_ ?_ <;> clear h
   ·intro o h
    refine .block ?_
    refine .iter (fun ((v216,v217) : (Int × Int)) => mk 51 [] (L71 l65.length l66.length v216 v217) (H14 a1 l65 l66)) h Sub.tt ?_
    clear h
    rintro ⟨v216,v217⟩ x h
    dsimp only at h ⊢
    refine .seqR ?_
    refine .rr 1 ?_
    refine .tt (L71 l65.length l66.length v216 v217 ++ [(17,.b (decide (v217 < (l65.length : Int))))]) (H14 a1 l65 l66) (.nil (.seq ?_))
    replace h := isome h;rcases h with ⟨c243,h⟩ | ⟨c243,h⟩
    ·have c243_ : decide (v217 < (l65.length : Int)) = true := decide_eq_true c243
     refine .condT rfl c243_ ?_
     refine .skip (thenQ_normal (.seq (.block (.seqR ?_))))
     refine .rr 2 ?_
     refine .tt (L70 l65.length l66.length ++ [(7,.i v216),(8,.i v217),(15,.i (l65.length : Int)),(16,.i v217)]) (H14 a1 l65 l66) (.nil ?_)
     replace h := xsome h;obtain ⟨x244,k245,hx244k,hx244,hx244a,hx244b,h⟩ := h
     replace h := bsome h;obtain ⟨r246,hr246,h⟩ := h
     replace h := xsome h;obtain ⟨x247,k248,hx247k,hx247,hx247a,hx247b,h⟩ := h
     replace h := bsome h;obtain ⟨r249,hr249,h⟩ := h
     replace h := bsome h;obtain ⟨r250,hr250,h⟩ := h
     refine .seqAnyS [[],[],[0,1],[0,1,2],[],[4],[0,1,2,3,4,5],[],[],[7,8],[7,8,9],[],[11],[0,1,2,3,4,5,6,7,8,9,10,11,12],[],[14],[0,1,2,3,4,5,6,7,8,9,10,11,12,13,14,15]] (fun (b : Nat → Bool) => mk 51 [] [(3,.ptr 3 0 0),(5,.ref 10 0 l65.length),(6,.ref 44 0 l66.length),(7,.i v216),(8,.i v217),(15,.i (l65.length : Int)),(16,.i v217),(19,(if b 0 then .ref 10 0 l65.length else .junk)),(20,(if b 1 then .i v217 else .junk)),(21,(if b 2 then .ptr 10 k245 0 else .junk)),(22,(if b 3 then .s61 x244 else .junk)),(23,(if b 4 then .ptr 3 0 0 else .junk)),(24,(if b 5 then .si a1.Columns else .junk)),(25,(if b 6 then .ref 25 0 r246.length else .junk)),(26,(if b 7 then .ref 10 0 l65.length else .junk)),(27,(if b 8 then .i v216 else .junk)),(28,(if b 9 then .ptr 10 k248 0 else .junk)),(29,(if b 10 then .s61 x247 else .junk)),(30,(if b 11 then .ptr 3 0 0 else .junk)),(31,(if b 12 then .si a1.Columns else .junk)),(32,(if b 13 then .ref 32 0 r249.length else .junk)),(33,(if b 14 then .ptr 3 0 1 else .junk)),(34,(if b 15 then .sb a1.Descending else .junk)),(35,(if b 16 then .b r250 else .junk))] [(3,some (.box [.si a1.Columns,.sb a1.Descending])),(10,R57 l65),(25,(if b 6 then R61 r246 else none)),(32,(if b 13 then R61 r249 else none)),(44,R57 l66)]) (mk 51 [] (L70 l65.length l66.length ++ [(7,.i v216),(8,.i v217),(15,.i (l65.length : Int)),(16,.i v217),(35,.b r250)]) (H14 a1 l65 l66)) (by kernel_rfl) (by kernel_rfl) Sub.tt (Steps.cons ?_ (Steps.cons ?_ (Steps.cons ?_ (Steps.cons ?_ (Steps.cons ?_ (Steps.cons ?_ (Steps.cons ?_ (Steps.cons ?_ (Steps.cons ?_ (Steps.cons ?_ (Steps.cons ?_ (Steps.cons ?_ (Steps.cons ?_ (Steps.cons ?_ (Steps.cons ?_ (Steps.cons ?_ (Steps.cons ?_ (Steps.nil)))))))))))))))))) ?_ ?_
     iterate 6
      ·intro b h0 ha hd
       have T := fct h0 ha hd;simp at T
       refine .rk 1 fun K k => ?_;simp [T,hx244,hx244k,hx244a,hx244b];refine k ?_
       exact .nil .tT
     ·intro b h0 ha hd
      have T := fct h0 ha hd;simp at T
      simp only [T,if_true,if_false,Bool.false_eq_true]
      refine .callO (d := 25) (p35 N x244 a1.Columns r246 hr246) (by simp) rfl rfl (by simp <;> rfl) (by simp <;> rfl) ent35 (by simp) ⟨by simp,by simp⟩ ?_
      exact .nil (by simp [T];exact Sub.tT)
     iterate 6
      ·intro b h0 ha hd
       have T := fct h0 ha hd;simp at T
       refine .rk 1 fun K k => ?_;simp [T,hx247,hx247k,hx247a,hx247b];refine k ?_
       exact .nil .tT
     ·intro b h0 ha hd
      have T := fct h0 ha hd;simp at T
      simp only [T,if_true,if_false,Bool.false_eq_true]
      refine .callO (d := 32) (p35 N x247 a1.Columns r249 hr249) (by simp) rfl rfl (by simp <;> rfl) (by simp <;> rfl) ent35 (by simp) ⟨by simp,by simp⟩ ?_
      exact .nil (by simp [T];exact Sub.tT)
     iterate 2
      ·intro b h0 ha hd
       have T := fct h0 ha hd;simp at T
       refine .rk 1 fun K k => ?_;simp [T];refine k ?_
       exact .nil .tT
     ·intro b h0 ha hd
      have T := fct h0 ha hd;simp at T
      simp only [T,if_true,if_false,Bool.false_eq_true]
      refine .callL (d := 35) (p79 N r246 r249 a1.Descending r250 hr250) (by simp) rfl rfl (by simp <;> rfl) (by simp <;> rfl) ent79 (by simp <;> rfl) ?_
      exact .nil (by simp [T];exact Sub.tT)
     ·intro b hb
      have T := FA_of (n := 17) hb;simp at T
      exact Sub.tT
     skip
     replace h := isome h;rcases h with ⟨c251,h⟩ | ⟨c251,h⟩
     ·have c251_ : r250 = true := c251
      refine .condT rfl c251_ ?_
      refine .region ?_
      refine .rr 2 ?_
      refine .tt (L70 l65.length l66.length ++ [(7,.i v217),(15,.i (l65.length : Int)),(16,.i v217)]) (H14 a1 l65 l66) (.nil (blockQ.normal (thenQ_normal (.region ?_))))
      replace h := csome h;obtain ⟨v252,hv252,h⟩ := h
      refine .rk 2 fun K k => ?_;simp [hv252];refine k ?_
      refine .tt (L71 l65.length l66.length v217 v252) (H14 a1 l65 l66) (.nil ?_)
      cases h
      refine PostI.next ?_
      exact Sub.tt
     have c251_ : r250 = false := Bool.eq_false_iff.2 c251
     refine .condF rfl c251_ ?_
     refine .skip (blockQ.normal (thenQ_normal (.region ?_)))
     replace h := csome h;obtain ⟨v253,hv253,h⟩ := h
     refine .rk 2 fun K k => ?_;simp [hv253];refine k ?_
     refine .tt (L71 l65.length l66.length v216 v253) (H14 a1 l65 l66) (.nil ?_)
     cases h
     refine PostI.next ?_
     exact Sub.tt
    have c243_ : decide (v217 < (l65.length : Int)) = false := decide_eq_false c243
    refine .condF rfl c243_ ?_
    refine .exit ?_
    cases h
    refine thenQ_ps ?_
    refine PostI.os ?_
    rintro rfl
    refine blockQ.hit (PostN.next ?_)
    exact Sub.tt
   rintro v242 h
   refine thenQ_normal (.seqR ?_)
   replace h := xsome h;obtain ⟨x254,k255,hx254k,hx254,hx254a,hx254b,h⟩ := h
   replace h := bsome h;obtain ⟨l256,hl256,h⟩ := h
   obtain ⟨hl256a,hl256⟩ := appL_some hl256
   subst hl256
   try simp only [List.length_cons,List.length_nil,Nat.zero_add] at hl256a
   refine .runK [43] 8 fun K k => ?_;simp [hx254,hx254k,hx254a,hx254b,hl256a];refine k _ _ ?_;clear k K
   refine .tt [(3,.ptr 3 0 0),(5,.ref 10 0 l65.length),(6,.ref 44 0 ((l66 ++ [x254]).length)),(7,.i v242)] [(3,some (.box [.si a1.Columns,.sb a1.Descending])),(10,R57 l65),(44,R57 (l66 ++ [x254]))] (.nil (.region ?_))
   replace h := csome h;obtain ⟨v257,hv257,h⟩ := h
   refine .rk 4 fun K k => ?_;simp [hv257];refine k ?_
   refine .tt [(3,.ptr 3 0 0),(6,.ref 44 0 ((l66 ++ [x254]).length)),(45,.ref 10 0 l65.length),(46,.i v242),(48,.i v257)] [(3,some (.box [.si a1.Columns,.sb a1.Descending])),(10,R57 l65),(44,R57 (l66 ++ [x254]))] ?_
   replace h := bsome h;obtain ⟨l258,hl258,h⟩ := h
   refine .callF (p80 N l65 v242 v257 l258 hl258) [(10,1000)] [] [(1000,10)] [(10,.arr 57 1 (l258.map (cL cS61)))] (.ref 10 0 l258.length) (by simp) rfl (by simp <;> rfl) (by simp) (by simp) (by simp) (by simp) (by simp) ent80 (by simp) (by simp) (by simp) (by simp) (by simp) (by simp) ?_
   refine .st (mk 51 [] [(3,.ptr 3 0 0),(6,.ref 44 0 ((l66 ++ [x254]).length)),(46,.i v242),(48,.i v257),(49,.ref 10 0 l258.length)] [(3,some (.box [.si a1.Columns,.sb a1.Descending])),(10,R57 l258),(44,R57 (l66 ++ [x254]))]) ?_
   refine .rr 1 ?_
   refine .tt [(3,.ptr 3 0 0),(5,.ref 10 0 l258.length),(6,.ref 44 0 ((l66 ++ [x254]).length))] [(3,some (.box [.si a1.Columns,.sb a1.Descending])),(10,R57 l258),(44,R57 (l66 ++ [x254]))] (.nil ?_)
   cases h
   refine blockQ.normal (PostI.next ?_)
   exact Sub.tt
  have c196_ : decide ((l65.length : Int) > 0) = false := decide_eq_false c196
  refine .condF rfl c196_ ?_
  refine .exit ?_
  cases h
  refine thenQ_ps ?_
  refine PostI.os ?_
  rintro rfl
  refine blockQ.hit (PostN.next ?_)
  exact Sub.tt
 rintro l195 h
 refine .seqR ?_
 refine .rr 2 ?_
 refine .tt [(4,.ref 44 0 l195.length)] [(44,R57 l195)] (.nil ?_)
 refine .sub (.freeze 44 rfl) ?_
 refine .st (mk 51 [] [(4,.ls61 l195)] []) (.ret ?_)
 cases h
 exact FinC.rs
def d34 (N : Nat) (a0 : (List S61)) (a1 : (List S61)) : Option Bool :=
 if ((a0.length : Int) != (a1.length : Int)) then (
  some false
 ) else
 bindO (β := Unit) (ρ := Bool) (
  iterN (σ := Int) (ρ := (Out Unit Bool)) (fun (v7 : Int) =>
   if v7 < (a0.length : Int) then (
    (idx a0 v7).bind fun x22 =>
    (idx a1 v7).bind fun x24 =>
    if (!beqS61 x22 x24) = true then (
     some (.inr (.ret false))
    ) else
    (chkI (v7 + 1)).bind fun v26 =>
    some (.inl v26)
   ) else
   some (.inr (.go ()))
  ) N 0
 ) fun (_ : Unit) =>
 some true
theorem p34 (N : Nat) (a0 : (List S61)) (a1 : (List S61)) (r : Bool) (h : d34 N a0 a1 = some r) : FunC Tryz.prog 34 [.s61 a0,.s61 a1] (.b r) := by
 unfold d34 at h
 refine FunC.enter 26 [(0,.s61 a0),(1,.s61 a1)] (by simp) Tryz.func34 rfl (of_decide_eq_true rfl) rfl rfl ?_
 refine .seqR ?_
 refine .rr 1 ?_
 refine .tt [(0,.s61 a0),(1,.s61 a1)] [] (.nil (.seq (.seqR ?_)))
 refine .rr 5 ?_
 refine .tt (L1 a0 a1 ++ [(10,.b ((a0.length : Int) != (a1.length : Int)))]) [] (.nil ?_)
 replace h := isome h;rcases h with ⟨c1,h⟩ | ⟨c1,h⟩
 ·have c1_ : ((a0.length : Int) != (a1.length : Int)) = true := c1
  refine .condT rfl c1_ ?_
  refine .seqR ?_
  refine .rr 1 ?_
  refine .tt [(4,.b false)] [] (.nil (.ret ?_))
  cases h
  refine thenQ_ps ?_
  exact FinC.rs
 have c1_ : ((a0.length : Int) != (a1.length : Int)) = false := Bool.eq_false_iff.2 c1
 refine .condF rfl c1_ ?_
 refine .skip (thenQ_normal (.seq (.seqR ?_)))
 refine .rr 3 ?_
 refine .tt (L1 a0 a1 ++ [(12,.i (a0.length : Int)),(13,.i 0)]) [] (.nil ?_)
 refine .lastJ (fun (_ : Unit) => mk 26 [] [] []) h ?_ ?_ <;> clear h
 ·intro o h
  refine .block ?_
  refine .iter (fun (v7 : Int) => mk 26 [] (L72 a0 a1 a0.length v7) []) h Sub.tt ?_
  clear h
  rintro v7 x h
  refine .seqR ?_
  refine .rr 1 ?_
  refine .tt (L72 a0 a1 a0.length v7 ++ [(14,.b (decide (v7 < (a0.length : Int))))]) [] (.nil (.seq ?_))
  replace h := isome h;rcases h with ⟨c21,h⟩ | ⟨c21,h⟩
  ·have c21_ : decide (v7 < (a0.length : Int)) = true := decide_eq_true c21
   refine .condT rfl c21_ ?_
   refine .skip (thenQ_normal (.seq (.block (.seqR ?_))))
   refine .rr 2 ?_
   refine .tt (L1 a0 a1 ++ [(5,.i v7),(12,.i (a0.length : Int)),(13,.i v7)]) [] (.nil ?_)
   refine .seqQ (by kernel_rfl) (by kernel_rfl) ?_
   replace h := xsome h;obtain ⟨x22,k23,hx22k,hx22,hx22a,hx22b,h⟩ := h
   replace h := bsome h;obtain ⟨x24,hx24,h⟩ := h
   obtain ⟨hx24,hx24a,hx24b⟩ := idx_some2 hx24 hx22k
   refine .rq 8 fun K k => ?_;simp [hx22,hx22a,hx24,hx22k];refine k ?_
   refine .tt (L72 a0 a1 a0.length v7 ++ [(19,.agg [.i x22.Kind,.i x22.Int,.s x22.Text]),(23,.agg [.i x24.Kind,.i x24.Int,.s x24.Text])]) [] ?_
   refine .pureP (by simp) (pure_eqA true rfl rfl rfl rfl (by kernel_rfl) (eqv61 x22 x24)) ?_
   refine .st (mk 26 [] (L72 a0 a1 a0.length v7 ++ [(19,.agg [.i x22.Kind,.i x22.Int,.s x22.Text]),(23,.agg [.i x24.Kind,.i x24.Int,.s x24.Text]),(24,.b (!beqS61 x22 x24))]) []) (.nil ?_)
   replace h := isome h;rcases h with ⟨c25,h⟩ | ⟨c25,h⟩
   ·have c25_ : (!beqS61 x22 x24) = true := c25
    refine .condT rfl c25_ ?_
    refine .seqR ?_
    refine .rr 1 ?_
    refine .tt [(4,.b false)] [] (.nil (.ret ?_))
    cases h
    refine blockQ.ret ?_
    refine thenQ_ps ?_
    refine PostI.os ?_
    rintro rfl
    refine blockQ.ret ?_
    refine PostJ.out (by simp) ?_
    rintro rfl
    refine thenQ_ps ?_
    exact FinC.rs
   have c25_ : (!beqS61 x22 x24) = false := Bool.eq_false_iff.2 c25
   refine .condF rfl c25_ ?_
   refine .skip (blockQ.normal (thenQ_normal (.region ?_)))
   replace h := csome h;obtain ⟨v26,hv26,h⟩ := h
   refine .rk 2 fun K k => ?_;simp [hv26];refine k ?_
   refine .tt (L72 a0 a1 a0.length v26) [] (.nil ?_)
   cases h
   refine PostI.next ?_
   exact Sub.tt
  have c21_ : decide (v7 < (a0.length : Int)) = false := decide_eq_false c21
  refine .condF rfl c21_ ?_
  refine .exit ?_
  cases h
  refine thenQ_ps ?_
  refine PostI.os ?_
  rintro rfl
  refine blockQ.hit (PostJ.next ?_)
  exact Sub.tt
 rintro ⟨⟩ h
 refine thenQ_normal (.seqR ?_)
 refine .rr 1 ?_
 refine .tt [(4,.b true)] [] (.nil (.ret ?_))
 cases h
 exact FinC.rs
def d108 (_N : Nat) (a0 : Int) : Option S61 :=
 Option.bind (α := Bool) (
  if a0 > 1000000000000 then (
   some true
  ) else
  some (decide (a0 < (-1000000000000)))
 ) fun (v2 : Bool) =>
 if v2 = true then (
  some (S61.mk 0 0 (ByteArray.mk #[]))
 ) else
 some (S61.mk 1 a0 (ByteArray.mk #[]))
theorem p108 (N : Nat) (a0 : Int) (r : S61) (h : d108 N a0 = some r) : FunC Tryz.prog 108 [.i a0] (.agg [.i r.Kind,.i r.Int,.s r.Text]) := by
 unfold d108 at h
 refine FunC.enter 12 [(0,.i a0)] (by simp) Tryz.func108 rfl (of_decide_eq_true rfl) rfl rfl ?_
 refine .seqR ?_
 refine .rr 1 ?_
 refine .tt [(0,.i a0),(2,.ptr 2 0 0)] H12 (.nil (.seq ?_))
 replace h := bsome h;obtain ⟨v2,hj,h⟩ := h
 refine .cutR (mk 12 [] [(0,.i a0),(2,.ptr 2 0 0),(8,.b v2)] H12) ?_ ?_
 ·clear h;have h := hj;clear hj
  refine .rr 3 ?_
  refine .tt [(0,.i a0),(2,.ptr 2 0 0),(5,.b (decide (a0 > 1000000000000)))] H12 ?_
  replace h := isome h;rcases h with ⟨c3,h⟩ | ⟨c3,h⟩
  ·have c3_ : decide (a0 > 1000000000000) = true := decide_eq_true c3
   refine .sub (.bool 5 rfl c3_) ?_
   refine .st (mk 12 [] [(0,.i a0),(2,.ptr 2 0 0),(5,.b true)] H12) ?_
   refine .rr 3 ?_
   refine .tt [(0,.i a0),(2,.ptr 2 0 0),(8,.b true)] H12 ?_
   cases h
   exact .nil .tt
  have c3_ : decide (a0 > 1000000000000) = false := decide_eq_false c3
  refine .sub (.bool 5 rfl c3_) ?_
  refine .st (mk 12 [] [(0,.i a0),(2,.ptr 2 0 0),(5,.b false)] H12) ?_
  refine .rr 3 ?_
  refine .tt [(0,.i a0),(2,.ptr 2 0 0),(8,.b (decide (a0 < (-1000000000000))))] H12 ?_
  cases h
  exact .nil .tt
 clear hj
 replace h := isome h;rcases h with ⟨c4,h⟩ | ⟨c4,h⟩
 ·have c4_ : v2 = true := c4
  refine .condT rfl c4_ ?_
  refine .seqR ?_
  refine .rr 2 ?_
  refine .tt [(2,.ptr 2 0 0)] H12 (.nil (.ret ?_))
  cases h
  refine thenQ_ps ?_
  exact FinC.rs
 have c4_ : v2 = false := Bool.eq_false_iff.2 c4
 refine .condF rfl c4_ ?_
 refine .skip (thenQ_normal (.seqR ?_))
 refine .rr 3 ?_
 refine .tt [(2,.ptr 2 0 0)] [(2,some (.box [.i 1,.i a0,.s (ByteArray.mk #[])]))] (.nil (.ret ?_))
 cases h
 exact FinC.rs
end Go.Proofs.YtimkkjiplioohaaGreatDoor
