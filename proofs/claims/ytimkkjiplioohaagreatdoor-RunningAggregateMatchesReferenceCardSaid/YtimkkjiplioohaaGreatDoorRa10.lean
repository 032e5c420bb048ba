/- Functions of the program as functional programs; the code computes them. -/
import Derived.Test.YtimkkjiplioohaaGreatDoorRa9
namespace Go.Proofs.YtimkkjiplioohaaGreatDoor
set_option maxRecDepth 100000
set_option maxHeartbeats 4000000
open Go.Ab Go.Rp
attribute [-simp] List.all_eq_true Array.all_toList Array.all_eq_true
def d40 (N : Nat) (a0 : (List (List S61))) (a1 : S65) (a2 : Int) : Option ((List (List S61)) × Int × Int) :=
 (d84 N a0 a1 a2).bind fun r1 =>
 if (r1.2 != 0) then (
  some (([] : List (List S61)),0,r1.2)
 ) else
 Option.bind (α := ((List (List (List S61))) × Int)) (
  iterN (σ := ((List (List (List S61))) × Int)) (ρ := ((List (List (List S61))) × Int)) (fun ((l15,v16) : ((List (List (List S61))) × Int)) =>
   if (l15.length : Int) > 1 then (
    (posG a2).bind fun _ =>
    bindO (β := List (List (List S61))) (ρ := (((List (List (List S61))) × Int) ⊕ ((List (List (List S61))) × Int))) (
     (chunksO a2 l15).bind fun cs => rangeL (α := List (List (List S61))) (β := List (List (List S61))) (ρ := (((List (List (List S61))) × Int) ⊕ ((List (List (List S61))) × Int))) (fun (x47 : List (List (List S61))) => fun (l50 : List (List (List S61))) =>
      (d86 N x47 a1).bind fun r54 =>
      (appL 24 l50 [r54]).bind fun _l55 =>
      some (.go (l50 ++ [r54]))
     ) cs ([] : List (List (List S61)))
    ) fun (l50 : List (List (List S61))) =>
    (chkI (v16 + 1)).bind fun v56 =>
    some (.inl (l50,v56))
   ) else
   some (.inr (l15,v16))
  ) N (r1.1,0)
 ) fun ((l43,v44) : ((List (List (List S61))) × Int)) =>
 Option.bind (α := List (List S61)) (
  iterN (σ := ((List (List S61)) × Int)) (ρ := List (List S61)) (fun ((l88,v89) : ((List (List S61)) × Int)) =>
   if v89 < (l43.length : Int) then (
    (idx l43 v89).bind fun x158 =>
    Option.bind (α := List (List S61)) (
     iterN (σ := ((List (List S61)) × Int)) (ρ := List (List S61)) (fun ((l165,v166) : ((List (List S61)) × Int)) =>
      if v166 < (x158.length : Int) then (
       (idx x158 v166).bind fun x183 =>
       (d39 N x183).bind fun r185 =>
       (appL 24 l165 [r185]).bind fun _l186 =>
       (chkI (v166 + 1)).bind fun v187 =>
       some (.inl ((l165 ++ [r185]),v187))
      ) else
      some (.inr l165)
     ) N (l88,0)
    ) fun (l181 : List (List S61)) =>
    (chkI (v89 + 1)).bind fun v188 =>
    some (.inl (l181,v188))
   ) else
   some (.inr l88)
  ) N (([] : List (List S61)),0)
 ) fun (l156 : List (List S61)) =>
 some (l156,v44,0)
theorem p40 (N : Nat) (a0 : (List (List S61))) (a1 : S65) (a2 : Int) (r : ((List (List S61)) × Int × Int)) (h : d40 N a0 a1 a2 = some r) : FunC Tryz.prog 40 [.ls61 a0,.agg [.si a1.Columns,.sb a1.Descending],.i a2] (.tup [.ls61 r.1,.i r.2.1,.i r.2.2]) := by
 unfold d40 at h
 refine FunC.enter 66 [(0,.ls61 a0),(1,.agg [.si a1.Columns,.sb a1.Descending]),(2,.i a2)] (by simp) Tryz.func40 rfl (of_decide_eq_true rfl) rfl rfl ?_
 refine .seqR ?_
 refine .rr 4 ?_
 refine .tt (L11 a0 a2) (H7 a1) (.nil (.seqR ?_))
 refine .rr 3 ?_
 refine .tt [(2,.i a2),(4,.ptr 4 0 0),(20,.ls61 a0),(21,.agg [.si a1.Columns,.sb a1.Descending]),(22,.i a2)] (H7 a1) ?_
 replace h := bsome h;obtain ⟨r1,hr1,h⟩ := h
 refine .callC (d := 23) (p84 N a0 a1 a2 r1 hr1) (by simp) rfl rfl (by simp <;> rfl) (by simp <;> rfl) ent84 (by simp) (.inl ⟨by simp,by simp⟩) ?_
 refine .st (mk 66 [] [(2,.i a2),(4,.ptr 4 0 0),(20,.ls61 a0),(21,.agg [.si a1.Columns,.sb a1.Descending]),(22,.i a2),(23,.tup [.lls61 r1.1,.i r1.2])] (H7 a1)) ?_
 refine .rr 5 ?_
 refine .tt [(2,.i a2),(4,.ptr 4 0 0),(9,.lls61 r1.1),(10,.i r1.2)] (H7 a1) (.nil (.seq (.seqR ?_)))
 refine .rr 2 ?_
 refine .tt [(2,.i a2),(4,.ptr 4 0 0),(9,.lls61 r1.1),(10,.i r1.2),(27,.b (r1.2 != 0))] (H7 a1) (.nil ?_)
 replace h := isome h;rcases h with ⟨c2,h⟩ | ⟨c2,h⟩
 ·have c2_ : (r1.2 != 0) = true := c2
  refine .condT rfl c2_ ?_
  refine .seqR ?_
  refine .rr 4 ?_
  refine .tt [(6,.z),(7,.i 0),(8,.i r1.2)] [] (.nil ?_)
  refine .sub (.wk 6 rfl) ?_
  refine .st (mk 66 [] [(6,.ls61 ([] : List (List S61))),(7,.i 0),(8,.i r1.2)] []) (.ret ?_)
  cases h
  refine thenQ_ps ?_
  exact FinC.rs
 have c2_ : (r1.2 != 0) = false := Bool.eq_false_iff.2 c2
 refine .condF rfl c2_ ?_
 refine .skip (thenQ_normal (.seqR ?_))
 refine .rr 1 ?_
 refine .tt [(2,.i a2),(4,.ptr 4 0 0),(9,.lls61 r1.1),(11,.i 0)] (H7 a1) (.nil ?_)
 refine .seqN (fun ((l43,v44) : ((List (List (List S61))) × Int)) => mk 66 [] [(9,.lls61 l43),(11,.i v44)] []) h ?_ ?_ <;> clear h
 ·intro o h
  refine .block ?_
  refine .iter (fun ((l15,v16) : ((List (List (List S61))) × Int)) => mk 66 [] (L29 a2 l15 v16) (H7 a1)) h Sub.tt ?_
  clear h
  rintro ⟨l15,v16⟩ x h
  dsimp only at h ⊢
  refine .seq (.seqR ?_)
  refine .rr 3 ?_
  refine .tt (L29 a2 l15 v16 ++ [(31,.b (decide ((l15.length : Int) > 1)))]) (H7 a1) (.nil ?_)
  replace h := isome h;rcases h with ⟨c45,h⟩ | ⟨c45,h⟩
  ·have c45_ : decide ((l15.length : Int) > 1) = true := decide_eq_true c45
   refine .condT rfl c45_ ?_
   refine .skip (thenQ_normal (.block (.seqR ?_)))
   refine .rr 1 ?_
   refine .tt (L29 a2 l15 v16 ++ [(12,.ptr 12 0 0)]) (H45 a1) (.nil (.seq (.seqR ?_)))
   refine .rr 2 ?_
   refine .tt [(2,.i a2),(4,.ptr 4 0 0),(11,.i v16),(12,.ptr 12 0 0),(32,.lls61 l15),(33,.i a2)] (H45 a1) ?_
   replace h := bsome h;obtain ⟨u46,hu46,h⟩ := h
   refine .callF (pch85 (l15.map (cL (cL cS61))) a2 (posG_some hu46)) [] [] [(2,34),(3,800034)] [(34,.box [.lls61 l15]),(800034,.box [.d (.lit (.int .i64 a2))])] (.fn (.func 112) [.ptr 34 0 0,.ptr 800034 0 0]) (by simp) rfl (by simp <;> rfl) (by simp) (by simp) (by simp) (by simp) (by simp) ent85 (by simp) (by simp) (by simp) (by simp) (by simp) (by simp) ?_
   refine .st (mk 66 [] [(2,.i a2),(4,.ptr 4 0 0),(11,.i v16),(12,.ptr 12 0 0),(32,.lls61 l15),(33,.i a2),(34,.fn (.func 112) [.ptr 34 0 0,.ptr 800034 0 0])] [(4,some (.box [.si a1.Columns,.sb a1.Descending])),(12,some (.box [.z])),(34,some (.box [.lls61 l15])),(800034,some (.box [.i a2]))]) (.nil (.block ?_))
   refine .lastJ (fun b => mk 66 [] [(2,.i a2),(4,.ptr 4 0 0),(11,.i v16),(12,.ptr 12 0 0),(34,.fn (.func 112) [.ptr 34 0 0,.ptr 800034 0 0])] ((fun (b : List (List (List S61))) => [(4,some (.box [.si a1.Columns,.sb a1.Descending])),(12,some (.box [.ref 41 0 b.length])),(34,some (.box [.lls61 l15])),(41,R48 b),(800034,some (.box [.i a2]))]) b)) h ?_ ?_ <;> clear h
   ·intro o h
    refine .chunk (nt := 66) (rts := []) (l := [(2,.d (.lit (.int .i64 a2))),(4,.ptr 4 0 0),(11,.d (.lit (.int .i64 v16))),(12,.ptr 12 0 0),(34,.fn (.func 112) [.ptr 34 0 0,.ptr 800034 0 0])]) (c := (cL (cL cS61))) (xs := l15) (B := 34) (B2 := 800034) (v := a2) (fun (b : List (List (List S61))) => [(4,some (.box [.si a1.Columns,.sb a1.Descending])),(12,some (.box [.ref 41 0 b.length])),(34,some (.box [.lls61 l15])),(41,some (.arr 48 1 (b.map (cL (cL cS61))))),(800034,some (.box [.d (.lit (.int .i64 a2))]))]) [4,12,34,800034] cc112 ent112 (Sub.trans (Sub.nilOwnBox (bid := 12) (j := 0) (id := 41) (T := 48) (n := 1) rfl rfl (by decide) rfl (by decide)) (by simp;exact Sub.tt)) rfl (by intros;rfl) (by intros;rfl) (fun _ => rfl) (by simp) (by simp [V.has] <;> omega) h ?_
    clear h
    rintro l50 x47 o' h
    try dsimp only at h ⊢
    refine .st (mk 66 [4,12,34,800034] [(4,.ptr 4 0 0),(12,.ptr 12 0 0),(35,.lls61 x47)] (H46 a1 l50 l15 a2)) (.region ?_)
    refine .rr 1 ?_
    refine .tt [(4,.ptr 4 0 0),(12,.ptr 12 0 0),(13,.lls61 x47)] (H46 a1 l50 l15 a2) (.nil (thenQ_normal (.block ?_)))
    replace h := bsome h;obtain ⟨r54,hr54,h⟩ := h
    replace h := bsome h;obtain ⟨l55,hl55,h⟩ := h
    obtain ⟨hl55a,hl55⟩ := appL_some hl55
    subst hl55
    try simp only [List.length_cons,List.length_nil,Nat.zero_add] at hl55a
    refine .lastAnyS [[],[],[],[1,2],[1,2,3],[0,1,2,3,4],[0,1,2,3,4,5]] (fun (b : Nat → Bool) => mk 66 [4,12,34,800034] [(4,.ptr 4 0 0),(12,.ptr 12 0 0),(13,.lls61 x47),(36,(if b 5 then .junk else (if b 0 then .ref 41 0 l50.length else .junk))),(37,(if b 1 then .lls61 x47 else .junk)),(38,(if b 2 then .agg [.si a1.Columns,.sb a1.Descending] else .junk)),(39,(if b 3 then .ls61 r54 else .junk)),(40,(if b 4 then .d (.sl ([r54].map (cL (cL cS61)))) else .junk)),(41,(if b 5 then .ref 41 0 ((l50 ++ [r54]).length) else .junk))] [(4,some (.box [.si a1.Columns,.sb a1.Descending])),(12,(if b 6 then some (.box [.ref 41 0 ((l50 ++ [r54]).length)]) else (if b 5 then some (.box [.hole]) else some (.box [.ref 41 0 l50.length])))),(34,some (.box [.lls61 l15])),(41,(if b 5 then R48 (l50 ++ [r54]) else R48 l50)),(800034,some (.box [.i a2]))]) (mk 66 [4,12,34,800034] [] [(4,some (.box [.si a1.Columns,.sb a1.Descending])),(12,some (.box [.ref 41 0 ((l50 ++ [r54]).length)])),(34,some (.box [.lls61 l15])),(41,R48 (l50 ++ [r54])),(800034,some (.box [.i a2]))]) (by kernel_rfl) (by kernel_rfl) Sub.tt (Steps.cons ?_ (Steps.cons ?_ (Steps.cons ?_ (Steps.cons ?_ (Steps.cons ?_ (Steps.cons ?_ (Steps.cons ?_ (Steps.nil)))))))) ?_ ?_
    iterate 3
     ·intro b h0 ha hd
      have T := fct h0 ha hd;simp at T
      refine .runK [40] 1 fun K k => ?_;simp [T];refine k _ _ ?_;clear k K
      exact .nil .tT
    ·intro b h0 ha hd
     have T := fct h0 ha hd;simp at T
     simp only [T,if_true,if_false,Bool.false_eq_true]
     refine .callC (d := 39) (p86 N x47 a1 r54 hr54) (by simp) rfl rfl (by simp <;> rfl) (by simp <;> rfl) ent86 (by simp) (.inl ⟨by simp,by simp⟩) ?_
     exact .nil (by simp [T];exact Sub.tT)
    ·intro b h0 ha hd
     have T := fct h0 ha hd;simp at T
     refine .runK [40] 1 fun K k => ?_;simp [T];refine k _ _ ?_;clear k K
     exact .nil .tT
    iterate 2
     ·intro b h0 ha hd
      have T := fct h0 ha hd;simp at T
      refine .runK [40] 1 fun K k => ?_;simp [T,hl55a];refine k _ _ ?_;clear k K
      exact .nil .tT
    ·intro b hb
     have T := FA_of (n := 7) hb;simp at T
     exact Sub.tT
    skip
    cases h
    refine blockQ.normal ?_
    exact ⟨rfl,Sub.tt⟩
   rintro l50 h
   try dsimp only at h ⊢
   refine blockQ.normal (thenQ_normal (.seqR ?_))
   refine .rr 2 ?_
   refine .tt [(2,.i a2),(4,.ptr 4 0 0),(9,.ref 41 0 l50.length),(11,.i v16)] (H47 a1 l50) (.nil (.region ?_))
   replace h := csome h;obtain ⟨v56,hv56,h⟩ := h
   refine .rk 3 fun K k => ?_;simp [hv56];refine k ?_
   refine .tt [(2,.i a2),(4,.ptr 4 0 0),(9,.ref 41 0 l50.length),(11,.i v56)] (H47 a1 l50) (.nil ?_)
   cases h
   refine blockQ.normal (PostI.next ?_)
   exact (Sub.trans (Sub.freeze 41 rfl) (by simp;exact Sub.tt))
  have c45_ : decide ((l15.length : Int) > 1) = false := decide_eq_false c45
  refine .condF rfl c45_ ?_
  refine .exit ?_
  cases h
  refine thenQ_ps ?_
  refine PostI.os ?_
  rintro rfl
  refine blockQ.hit (PostN.next ?_)
  exact Sub.tt
 rintro ⟨l43,v44⟩ h
 dsimp only at h ⊢
 refine .seqR ?_
 refine .rr 1 ?_
 refine .tt [(9,.lls61 l43),(11,.i v44),(14,.z)] [] (.nil (.seq (.seqR ?_)))
 refine .rr 3 ?_
 refine .tt [(11,.i v44),(14,.z),(45,.lls61 l43),(46,.i (l43.length : Int)),(47,.i 0)] [] (.nil ?_)
 refine .lastN (fun (l156 : List (List S61)) => mk 66 [] [(11,.i v44),(14,.ref 61 0 l156.length)] [(61,R57 l156)]) h ?_ ?_ <;> clear h
 ·intro o h
  refine .block ?_
  refine .iter (fun ((l88,v89) : ((List (List S61)) × Int)) => mk 66 [] (L30 v44 l88.length l43 l43.length v89) [(61,R57 l88)]) h (Sub.trans (Sub.nilOwn (t := 14) (id := 61) (T := 57) (n := 1) rfl rfl (by decide)) (by simp;exact Sub.tt)) ?_
  clear h
  rintro ⟨l88,v89⟩ x h
  dsimp only at h ⊢
  refine .seqR ?_
  refine .rr 1 ?_
  refine .tt (L30 v44 l88.length l43 l43.length v89 ++ [(48,.b (decide (v89 < (l43.length : Int))))]) [(61,R57 l88)] (.nil (.seq ?_))
  replace h := isome h;rcases h with ⟨c157,h⟩ | ⟨c157,h⟩
  ·have c157_ : decide (v89 < (l43.length : Int)) = true := decide_eq_true c157
   refine .condT rfl c157_ ?_
   refine .skip (thenQ_normal (.seq (.block (.seqR ?_))))
   replace h := xsome h;obtain ⟨x158,k159,hx158k,hx158,hx158a,hx158b,h⟩ := h
   refine .rk 3 fun K k => ?_;simp [hx158,hx158k,hx158a];refine k ?_
   refine .tt [(11,.i v44),(14,.ref 61 0 l88.length),(16,.ls61 x158),(45,.lls61 l43),(46,.i (l43.length : Int)),(47,.i v89)] [(61,R57 l88)] (.nil (.seqR ?_))
   refine .rr 3 ?_
   refine .tt (L31 v44 l88.length l43 l43.length v89 x158 x158.length ++ [(53,.i 0)]) [(61,R57 l88)] (.nil ?_)
   refine .lastN (fun (l181 : List (List S61)) => mk 66 [] (L30 v44 l181.length l43 l43.length v89) [(61,R57 l181)]) h ?_ ?_ <;> clear h
   ·intro o h
    refine .block ?_
    refine .iter (fun ((l165,v166) : ((List (List S61)) × Int)) => mk 66 [] (L31 v44 l165.length l43 l43.length v89 x158 x158.length ++ [(53,.i v166)]) [(61,R57 l165)]) h Sub.tt ?_
    clear h
    rintro ⟨l165,v166⟩ x h
    dsimp only at h ⊢
    refine .seqR ?_
    refine .rr 1 ?_
    refine .tt (L31 v44 l165.length l43 l43.length v89 x158 x158.length ++ [(53,.i v166),(54,.b (decide (v166 < (x158.length : Int))))]) [(61,R57 l165)] (.nil (.seq ?_))
    replace h := isome h;rcases h with ⟨c182,h⟩ | ⟨c182,h⟩
    ·have c182_ : decide (v166 < (x158.length : Int)) = true := decide_eq_true c182
     refine .condT rfl c182_ ?_
     refine .skip (thenQ_normal (.seq (.block (.seqR ?_))))
     replace h := xsome h;obtain ⟨x183,k184,hx183k,hx183,hx183a,hx183b,h⟩ := h
     refine .rk 3 fun K k => ?_;simp [hx183,hx183k,hx183a];refine k ?_
     refine .tt [(11,.i v44),(14,.ref 61 0 l165.length),(18,.s61 x183),(45,.lls61 l43),(46,.i (l43.length : Int)),(47,.i v89),(51,.ls61 x158),(52,.i (x158.length : Int)),(53,.i v166)] [(61,R57 l165)] (.nil (.region ?_))
     refine .runK [60] 2 fun K k => ?_;simp;refine k _ _ ?_;clear k K
     refine .tt (L32 v44 l43 l43.length v89 x158 x158.length v166 l165.length x183) [(61,R57 l165)] ?_
     replace h := bsome h;obtain ⟨r185,hr185,h⟩ := h
     refine .callO (d := 59) (p39 N x183 r185 hr185) (by simp) rfl rfl (by simp <;> rfl) (by simp <;> rfl) ent39 (by simp) ⟨by simp,by simp⟩ ?_
     refine .st (mk 66 [] (L32 v44 l43 l43.length v89 x158 x158.length v166 l165.length x183 ++ [(59,.ref 59 0 r185.length)]) [(59,R61 r185),(61,R57 l165)]) ?_
     refine .sub (.freeze 59 rfl) ?_
     refine .st (mk 66 [] (L32 v44 l43 l43.length v89 x158 x158.length v166 l165.length x183 ++ [(59,.s61 r185)]) [(61,R57 l165)]) ?_
     replace h := bsome h;obtain ⟨l186,hl186,h⟩ := h
     obtain ⟨hl186a,hl186⟩ := appL_some hl186
     subst hl186
     try simp only [List.length_cons,List.length_nil,Nat.zero_add] at hl186a
     refine .runK [60] 3 fun K k => ?_;simp [hl186a];refine k _ _ ?_;clear k K
     refine .tt [(11,.i v44),(14,.ref 61 0 ((l165 ++ [r185]).length)),(45,.lls61 l43),(46,.i (l43.length : Int)),(47,.i v89),(51,.ls61 x158),(52,.i (x158.length : Int)),(53,.i v166)] [(61,R57 (l165 ++ [r185]))] (.nil (blockQ.normal (thenQ_normal (.region ?_))))
     replace h := csome h;obtain ⟨v187,hv187,h⟩ := h
     refine .rk 2 fun K k => ?_;simp [hv187];refine k ?_
     refine .tt [(11,.i v44),(14,.ref 61 0 ((l165 ++ [r185]).length)),(45,.lls61 l43),(46,.i (l43.length : Int)),(47,.i v89),(51,.ls61 x158),(52,.i (x158.length : Int)),(53,.i v187)] [(61,R57 (l165 ++ [r185]))] (.nil ?_)
     cases h
     refine PostI.next ?_
     exact Sub.tt
    have c182_ : decide (v166 < (x158.length : Int)) = false := decide_eq_false c182
    refine .condF rfl c182_ ?_
    refine .exit ?_
    cases h
    refine thenQ_ps ?_
    refine PostI.os ?_
    rintro rfl
    refine blockQ.hit (PostN.next ?_)
    exact Sub.tt
   rintro l181 h
   refine blockQ.normal (thenQ_normal (.region ?_))
   replace h := csome h;obtain ⟨v188,hv188,h⟩ := h
   refine .rk 2 fun K k => ?_;simp [hv188];refine k ?_
   refine .tt (L30 v44 l181.length l43 l43.length v188) [(61,R57 l181)] (.nil ?_)
   cases h
   refine PostI.next ?_
   exact Sub.tt
  have c157_ : decide (v89 < (l43.length : Int)) = false := decide_eq_false c157
  refine .condF rfl c157_ ?_
  refine .exit ?_
  cases h
  refine thenQ_ps ?_
  refine PostI.os ?_
  rintro rfl
  refine blockQ.hit (PostN.next ?_)
  exact Sub.tt
 rintro l156 h
 refine thenQ_normal (.seqR ?_)
 refine .rr 5 ?_
 refine .tt [(6,.ref 61 0 l156.length),(7,.i v44),(8,.i 0)] [(61,R57 l156)] (.nil ?_)
 refine .sub (.freeze 61 rfl) ?_
 refine .st (mk 66 [] [(6,.ls61 l156),(7,.i v44),(8,.i 0)] []) (.ret ?_)
 cases h
 exact FinC.rs
def d106 (N : Nat) (a0 : (List ByteArray)) (a1 : ByteArray) : Option Int :=
 bindO (β := Unit) (ρ := Int) (
  iterN (σ := Int) (ρ := (Out Unit Int)) (fun (v5 : Int) =>
   if v5 < (a0.length : Int) then (
    (idx a0 v5).bind fun x18 =>
    if decide (a1 = x18) = true then (
     some (.inr (.ret v5))
    ) else
    (chkI (v5 + 1)).bind fun v21 =>
    some (.inl v21)
   ) else
   some (.inr (.go ()))
  ) N 0
 ) fun (_ : Unit) =>
 some (-1)
theorem p106 (N : Nat) (a0 : (List ByteArray)) (a1 : ByteArray) (r : Int) (h : d106 N a0 a1 = some r) : FunC Tryz.prog 106 [.ss a0,.s a1] (.i r) := by
 unfold d106 at h
 refine FunC.enter 19 [(0,.ss a0),(1,.s a1)] (by simp) Tryz.func106 rfl (of_decide_eq_true rfl) rfl rfl ?_
 refine .seqR ?_
 refine .rr 1 ?_
 refine .tt [(0,.ss a0),(1,.s a1)] [] (.nil (.seq (.seqR ?_)))
 refine .rr 3 ?_
 refine .tt [(0,.ss a0),(1,.s a1),(7,.i (a0.length : Int)),(8,.i 0)] [] (.nil ?_)
 refine .lastJ (fun (_ : Unit) => mk 19 [] [] []) h ?_ ?_ <;> clear h
 ·intro o h
  refine .block ?_
  refine .iter (fun (v5 : Int) => mk 19 [] (L33 a0 a1 a0.length v5) []) h Sub.tt ?_
  clear h
  rintro v5 x h
  refine .seqR ?_
  refine .rr 1 ?_
  refine .tt (L33 a0 a1 a0.length v5 ++ [(9,.b (decide (v5 < (a0.length : Int))))]) [] (.nil (.seq ?_))
  replace h := isome h;rcases h with ⟨c17,h⟩ | ⟨c17,h⟩
  ·have c17_ : decide (v5 < (a0.length : Int)) = true := decide_eq_true c17
   refine .condT rfl c17_ ?_
   refine .skip (thenQ_normal (.seq (.block (.seqR ?_))))
   refine .rr 2 ?_
   refine .tt [(0,.ss a0),(1,.s a1),(5,.i v5),(7,.i (a0.length : Int)),(8,.i v5)] [] (.nil (.seqR ?_))
   replace h := xsome h;obtain ⟨x18,k19,hx18k,hx18,hx18a,hx18b,h⟩ := h
   refine .rk 6 fun K k => ?_;simp [hx18,hx18k,hx18a];refine k ?_
   refine .tt [(0,.ss a0),(1,.s a1),(5,.i v5),(7,.i (a0.length : Int)),(8,.i v5),(16,.b (decide (a1 = x18)))] [] (.nil ?_)
   replace h := isome h;rcases h with ⟨c20,h⟩ | ⟨c20,h⟩
   ·have c20_ : decide (a1 = x18) = true := c20
    refine .condT rfl c20_ ?_
    refine .seqR ?_
    refine .rr 2 ?_
    refine .tt [(4,.i v5)] [] (.nil (.ret ?_))
    cases h
    refine blockQ.ret ?_
    refine thenQ_ps ?_
    refine PostI.os ?_
    rintro rfl
    refine blockQ.ret ?_
    refine PostJ.out (by simp) ?_
    rintro rfl
    refine thenQ_ps ?_
    exact FinC.rs
   have c20_ : decide (a1 = x18) = false := Bool.eq_false_iff.2 c20
   refine .condF rfl c20_ ?_
   refine .skip (blockQ.normal (thenQ_normal (.region ?_)))
   replace h := csome h;obtain ⟨v21,hv21,h⟩ := h
   refine .rk 2 fun K k => ?_;simp [hv21];refine k ?_
   refine .tt (L33 a0 a1 a0.length v21) [] (.nil ?_)
   cases h
   refine PostI.next ?_
   exact Sub.tt
  have c17_ : decide (v5 < (a0.length : Int)) = false := decide_eq_false c17
  refine .condF rfl c17_ ?_
  refine .exit ?_
  cases h
  refine thenQ_ps ?_
  refine PostI.os ?_
  rintro rfl
  refine blockQ.hit (PostJ.next ?_)
  exact Sub.tt
 rintro ⟨⟩ h
 refine thenQ_normal (.seqR ?_)
 refine .rr 1 ?_
 refine .tt [(4,.i (-1))] [] (.nil (.ret ?_))
 cases h
 exact FinC.rs
def d76 (N : Nat) (a0 : (List ByteArray)) (a1 : ByteArray) : Option Bool :=
 (d106 N a0 a1).bind fun r1 =>
 some (decide (r1 ≥ 0))
theorem p76 (N : Nat) (a0 : (List ByteArray)) (a1 : ByteArray) (r : Bool) (h : d76 N a0 a1 = some r) : FunC Tryz.prog 76 [.ss a0,.s a1] (.b r) := by
 unfold d76 at h
 refine FunC.enter 9 [(0,.ss a0),(1,.s a1)] (by simp) Tryz.func76 rfl (of_decide_eq_true rfl) rfl rfl ?_
 refine .seqR ?_
 refine .rr 1 ?_
 refine .tt [(0,.ss a0),(1,.s a1)] [] (.nil (.seqR ?_))
 refine .rr 2 ?_
 refine .tt [(5,.ss a0),(6,.s a1)] [] ?_
 replace h := bsome h;obtain ⟨r1,hr1,h⟩ := h
 refine .callL (d := 7) (p106 N a0 a1 r1 hr1) (by simp) rfl rfl (by simp <;> rfl) (by simp <;> rfl) ent106 (by simp <;> rfl) ?_
 refine .st (mk 9 [] [(5,.ss a0),(6,.s a1),(7,.i r1)] []) ?_
 refine .rr 2 ?_
 refine .tt [(4,.b (decide (r1 ≥ 0)))] [] (.nil (.ret ?_))
 cases h
 exact FinC.rs
def d101 (_N : Nat) (a0 : (List S61)) (a1 : S75) : Option Bool :=
 some (decide (a1.Column ≥ (a0.length : Int)))
theorem p101 (N : Nat) (a0 : (List S61)) (a1 : S75) (r : Bool) (h : d101 N a0 a1 = some r) : FunC Tryz.prog 101 [.s61 a0,.d (.pim [.lit (.string a1.Function),.lit (.int .i64 a1.Column)])] (.b r) := by
 unfold d101 at h
 refine FunC.enter 9 [(0,.s61 a0),(1,.d (.pim [.lit (.string a1.Function),.lit (.int .i64 a1.Column)]))] (by simp) Tryz.func101 rfl (of_decide_eq_true rfl) rfl rfl ?_
 refine .seqR ?_
 refine .rr 1 ?_
 refine .tt [(0,.s61 a0),(1,.d (.pim [.lit (.string a1.Function),.lit (.int .i64 a1.Column)]))] [] (.nil (.seqR ?_))
 refine .rr 6 ?_
 refine .tt [(3,.b (decide (a1.Column ≥ (a0.length : Int))))] [] (.nil (.ret ?_))
 cases h
 exact FinC.rs
def d69 (N : Nat) (a0 : (List (List S61))) (a1 : (List S75)) : Option Int :=
 bindO (β := Unit) (ρ := Int) (
  iterN (σ := Int) (ρ := (Out Unit Int)) (fun (v22 : Int) =>
   if v22 < (a1.length : Int) then (
    (idx a1 v22).bind fun x69 =>
    Option.bind (α := Bool) (
     letv ([(ByteArray.mk #[99,111,117,110,116]),(ByteArray.mk #[115,117,109]),(ByteArray.mk #[109,105,110]),(ByteArray.mk #[109,97,120])] : List ByteArray) fun l80 =>
     (d76 N l80 x69.Function).bind fun r81 =>
     if (!r81) = true then (
      some true
     ) else
     if x69.Column < (-1) then (
      some true
     ) else
     if (x69.Column == (-1)) then (
      if (!decide (x69.Function = (ByteArray.mk #[99,111,117,110,116]))) = true then (
       some true
      ) else
      (d56 N a0 (fun b0 => d101 N b0 x69)).bind fun r86 =>
      some r86
     ) else
     (d56 N a0 (fun b0 => d101 N b0 x69)).bind fun r87 =>
     some r87
    ) fun (v79 : Bool) =>
    if v79 = true then (
     some (.inr (.ret 3))
    ) else
    (chkI (v22 + 1)).bind fun v89 =>
    some (.inl v89)
   ) else
   some (.inr (.go ()))
  ) N 0
 ) fun (_ : Unit) =>
 some 0
theorem p69 (N : Nat) (a0 : (List (List S61))) (a1 : (List S75)) (r : Int) (h : d69 N a0 a1 = some r) : FunC Tryz.prog 69 [.ls61 a0,.s75 a1] (.i r) := by
 unfold d69 at h
 refine FunC.enter 39 [(0,.ls61 a0),(1,.s75 a1)] (by simp) Tryz.func69 rfl (of_decide_eq_true rfl) rfl rfl ?_
 refine .seqR ?_
 refine .rr 1 ?_
 refine .tt [(0,.ls61 a0),(1,.s75 a1)] [] (.nil (.seq (.seqR ?_)))
 refine .rr 3 ?_
 refine .tt [(0,.ls61 a0),(7,.s75 a1),(8,.i (a1.length : Int)),(9,.i 0)] [] (.nil ?_)
 refine .lastJ (fun (_ : Unit) => mk 39 [] [] []) h ?_ ?_ <;> clear h
 ·intro o h
  refine .block ?_
  refine .iter (fun (v22 : Int) => mk 39 [] (L34 a0 a1 a1.length v22) []) h Sub.tt ?_
  clear h
  rintro v22 x h
  refine .seqR ?_
  refine .rr 1 ?_
  refine .tt (L34 a0 a1 a1.length v22 ++ [(10,.b (decide (v22 < (a1.length : Int))))]) [] (.nil (.seq ?_))
  replace h := isome h;rcases h with ⟨c68,h⟩ | ⟨c68,h⟩
  ·have c68_ : decide (v22 < (a1.length : Int)) = true := decide_eq_true c68
   refine .condT rfl c68_ ?_
   refine .skip (thenQ_normal (.seq (.block (.seqR ?_))))
   replace h := xsome h;obtain ⟨x69,k70,hx69k,hx69,hx69a,hx69b,h⟩ := h
   refine .rk 4 fun K k => ?_;simp [hx69,hx69k,hx69a];refine k ?_
   refine .tt (L35 a0 a1 a1.length v22) (H8 x69) (.nil ?_)
   replace h := bsome h;obtain ⟨v79,hj,h⟩ := h
   refine .cutR (mk 39 [] (L34 a0 a1 a1.length v22 ++ [(37,.b v79)]) []) ?_ ?_
   ·clear h;have h := hj;clear hj
    refine .rr 1 ?_
    refine .sub (.wkRow 13 rfl) ?_
    replace h := lsome h;obtain ⟨l80,hl80,h⟩ := h
    refine .sub (S' := mk 39 [] (L36 a0 a1 a1.length v22 l80.length) (H38 x69 l80)) (by simp;subst hl80;exact Sub.table (by simp) (by simp)) ?_
    refine .rr 2 ?_
    refine .tt (L36 a0 a1 a1.length v22 l80.length ++ [(15,.s x69.Function)]) (H38 x69 l80) ?_
    replace h := bsome h;obtain ⟨r81,hr81,h⟩ := h
    refine .callL (d := 16) (p76 N l80 x69.Function r81 hr81) (by simp) rfl rfl (by simp <;> rfl) (by simp <;> rfl) ent76 (by simp <;> rfl) ?_
    refine .st (mk 39 [] (L36 a0 a1 a1.length v22 l80.length ++ [(15,.s x69.Function),(16,.b r81)]) (H38 x69 l80)) ?_
    refine .rr 2 ?_
    refine .tt (L35 a0 a1 a1.length v22 ++ [(18,.b (!r81))]) (H8 x69) ?_
    replace h := isome h;rcases h with ⟨c82,h⟩ | ⟨c82,h⟩
    ·have c82_ : (!r81) = true := c82
     refine .sub (.bool 18 rfl c82_) ?_
     refine .st (mk 39 [] (L35 a0 a1 a1.length v22 ++ [(18,.b true)]) (H8 x69)) ?_
     refine .rr 19 ?_
     refine .tt (L34 a0 a1 a1.length v22 ++ [(19,.tup []),(20,.tup []),(21,.tup []),(24,.tup []),(25,.tup []),(26,.tup []),(27,.tup []),(28,.tup []),(29,.tup []),(30,.tup []),(31,.tup []),(34,.tup []),(35,.tup []),(36,.tup []),(37,.b true)]) [] ?_
     cases h
     exact .nil .tt
    have c82_ : (!r81) = false := Bool.eq_false_iff.2 c82
    refine .sub (.bool 18 rfl c82_) ?_
    refine .st (mk 39 [] (L35 a0 a1 a1.length v22 ++ [(18,.b false)]) (H8 x69)) ?_
    refine .rr 5 ?_
    refine .tt (L35 a0 a1 a1.length v22 ++ [(19,.ptr 6 0 1),(20,.i x69.Column),(21,.b (decide (x69.Column < (-1)))),(23,.b (decide (x69.Column < (-1))))]) (H8 x69) ?_
    replace h := isome h;rcases h with ⟨c83,h⟩ | ⟨c83,h⟩
    ·have c83_ : decide (x69.Column < (-1)) = true := decide_eq_true c83
     refine .sub (.bool 21 rfl c83_) ?_
     refine .sub (.bool 23 rfl c83_) ?_
     refine .st (mk 39 [] (L35 a0 a1 a1.length v22 ++ [(19,.ptr 6 0 1),(20,.i x69.Column),(21,.b true),(23,.b true)]) (H8 x69)) ?_
     refine .rr 14 ?_
     refine .tt (L34 a0 a1 a1.length v22 ++ [(19,.ptr 6 0 1),(20,.i x69.Column),(21,.b true),(24,.tup []),(25,.tup []),(26,.tup []),(27,.tup []),(28,.tup []),(29,.tup []),(30,.tup []),(31,.tup []),(34,.tup []),(35,.tup []),(36,.tup []),(37,.b true)]) (H8 x69) ?_
     cases h
     exact .nil .tt
    have c83_ : decide (x69.Column < (-1)) = false := decide_eq_false c83
    refine .sub (.bool 21 rfl c83_) ?_
    refine .sub (.bool 23 rfl c83_) ?_
    refine .st (mk 39 [] (L35 a0 a1 a1.length v22 ++ [(19,.ptr 6 0 1),(20,.i x69.Column),(21,.b false),(23,.b false)]) (H8 x69)) ?_
    refine .rr 4 ?_
    refine .tt (L37 a0 a1 a1.length v22 x69.Column ++ [(26,.b (x69.Column == (-1))),(27,.b (x69.Column == (-1)))]) (H8 x69) ?_
    replace h := isome h;rcases h with ⟨c84,h⟩ | ⟨c84,h⟩
    ·have c84_ : (x69.Column == (-1)) = true := c84
     refine .sub (.bool 26 rfl c84_) ?_
     refine .sub (.bool 27 rfl c84_) ?_
     refine .st (mk 39 [] (L37 a0 a1 a1.length v22 x69.Column ++ [(26,.b true),(27,.b true)]) (H8 x69)) ?_
     refine .rr 6 ?_
     refine .tt (L38 a0 a1 a1.length v22 x69.Column x69.Function ++ [(30,.b (!decide (x69.Function = (ByteArray.mk #[99,111,117,110,116])))),(31,.b (!decide (x69.Function = (ByteArray.mk #[99,111,117,110,116])))),(33,.b (!decide (x69.Function = (ByteArray.mk #[99,111,117,110,116]))))]) (H8 x69) ?_
     replace h := isome h;rcases h with ⟨c85,h⟩ | ⟨c85,h⟩
     ·have c85_ : (!decide (x69.Function = (ByteArray.mk #[99,111,117,110,116]))) = true := c85
      refine .sub (.bool 30 rfl c85_) ?_
      refine .sub (.bool 31 rfl c85_) ?_
      refine .sub (.bool 33 rfl c85_) ?_
      refine .st (mk 39 [] (L38 a0 a1 a1.length v22 x69.Column x69.Function ++ [(30,.b true),(31,.b true),(33,.b true)]) (H8 x69)) ?_
      refine .rr 4 ?_
      refine .tt (L34 a0 a1 a1.length v22 ++ [(19,.ptr 6 0 1),(20,.i x69.Column),(21,.b false),(24,.ptr 6 0 1),(25,.i x69.Column),(26,.b true),(27,.b true),(28,.ptr 6 0 0),(29,.s x69.Function),(30,.b true),(31,.b true),(34,.tup []),(35,.tup []),(36,.tup []),(37,.b true)]) (H8 x69) ?_
      cases h
      exact .nil .tt
     have c85_ : (!decide (x69.Function = (ByteArray.mk #[99,111,117,110,116]))) = false := Bool.eq_false_iff.2 c85
     refine .sub (.bool 30 rfl c85_) ?_
     refine .sub (.bool 31 rfl c85_) ?_
     refine .sub (.bool 33 rfl c85_) ?_
     refine .st (mk 39 [] (L38 a0 a1 a1.length v22 x69.Column x69.Function ++ [(30,.b false),(31,.b false),(33,.b false)]) (H8 x69)) ?_
     refine .rr 2 ?_
     refine .tt (L39 a0 a1 a1.length v22 x69.Column x69.Function ++ [(33,.b false),(34,.ls61 a0),(35,.fn (.func 101) [.ptr 6 0 0])]) (H8 x69) ?_
     replace h := bsome h;obtain ⟨r86,hr86,h⟩ := h
     refine .callL (d := 36) (p56 N a0 101 [.pim [.lit (.string x69.Function),.lit (.int .i64 x69.Column)]] (fun b0 => d101 N b0 x69) ent101 (fun b0 r h => p101 N b0 x69 r h) r86 hr86) (by simp) rfl rfl (by simp <;> rfl) (by simp <;> rfl) ent56 (by simp <;> rfl) ?_
     refine .st (mk 39 [] (L39 a0 a1 a1.length v22 x69.Column x69.Function ++ [(33,.b false),(34,.ls61 a0),(35,.fn (.func 101) [.ptr 6 0 0]),(36,.b r86)]) (H8 x69)) ?_
     refine .rr 1 ?_
     refine .tt (L39 a0 a1 a1.length v22 x69.Column x69.Function ++ [(34,.ls61 a0),(35,.fn (.func 101) [.ptr 6 0 0]),(36,.b r86),(37,.b r86)]) (H8 x69) ?_
     cases h
     exact .nil .tt
    have c84_ : (x69.Column == (-1)) = false := Bool.eq_false_iff.2 c84
    refine .sub (.bool 26 rfl c84_) ?_
    refine .sub (.bool 27 rfl c84_) ?_
    refine .st (mk 39 [] (L37 a0 a1 a1.length v22 x69.Column ++ [(26,.b false),(27,.b false)]) (H8 x69)) ?_
    refine .rr 8 ?_
    refine .tt (L40 a0 a1 a1.length v22 x69.Column ++ [(33,.b false),(34,.ls61 a0),(35,.fn (.func 101) [.ptr 6 0 0])]) (H8 x69) ?_
    replace h := bsome h;obtain ⟨r87,hr87,h⟩ := h
    refine .callL (d := 36) (p56 N a0 101 [.pim [.lit (.string x69.Function),.lit (.int .i64 x69.Column)]] (fun b0 => d101 N b0 x69) ent101 (fun b0 r h => p101 N b0 x69 r h) r87 hr87) (by simp) rfl rfl (by simp <;> rfl) (by simp <;> rfl) ent56 (by simp <;> rfl) ?_
    refine .st (mk 39 [] (L40 a0 a1 a1.length v22 x69.Column ++ [(33,.b false),(34,.ls61 a0),(35,.fn (.func 101) [.ptr 6 0 0]),(36,.b r87)]) (H8 x69)) ?_
    refine .rr 1 ?_
    refine .tt (L40 a0 a1 a1.length v22 x69.Column ++ [(34,.ls61 a0),(35,.fn (.func 101) [.ptr 6 0 0]),(36,.b r87),(37,.b r87)]) (H8 x69) ?_
    cases h
    exact .nil .tt
   clear hj
   replace h := isome h;rcases h with ⟨c88,h⟩ | ⟨c88,h⟩
   ·have c88_ : v79 = true := c88
    refine .condT rfl c88_ ?_
    refine .seqR ?_
    refine .rr 1 ?_
    refine .tt [(4,.i 3)] [] (.nil (.ret ?_))
    cases h
    refine blockQ.ret ?_
    refine thenQ_ps ?_
    refine PostI.os ?_
    rintro rfl
    refine blockQ.ret ?_
    refine PostJ.out (by simp) ?_
    rintro rfl
    refine thenQ_ps ?_
    exact FinC.rs
   have c88_ : v79 = false := Bool.eq_false_iff.2 c88
   refine .condF rfl c88_ ?_
   refine .skip (blockQ.normal (thenQ_normal (.region ?_)))
   replace h := csome h;obtain ⟨v89,hv89,h⟩ := h
   refine .rk 2 fun K k => ?_;simp [hv89];refine k ?_
   refine .tt (L34 a0 a1 a1.length v89) [] (.nil ?_)
   cases h
   refine PostI.next ?_
   exact Sub.tt
  have c68_ : decide (v22 < (a1.length : Int)) = false := decide_eq_false c68
  refine .condF rfl c68_ ?_
  refine .exit ?_
  cases h
  refine thenQ_ps ?_
  refine PostI.os ?_
  rintro rfl
  refine blockQ.hit (PostJ.next ?_)
  exact Sub.tt
 rintro ⟨⟩ h
 refine thenQ_normal (.seqR ?_)
 refine .rr 1 ?_
 refine .tt [(4,.i 0)] [] (.nil (.ret ?_))
 cases h
 exact FinC.rs
end Go.Proofs.YtimkkjiplioohaaGreatDoor
