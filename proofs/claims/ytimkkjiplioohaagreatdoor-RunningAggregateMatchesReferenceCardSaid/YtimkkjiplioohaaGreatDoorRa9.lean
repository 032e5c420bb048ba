/- Functions of the program as functional programs; the code computes them. -/
import Derived.Test.YtimkkjiplioohaaGreatDoorRa8
namespace Go.Proofs.YtimkkjiplioohaaGreatDoor
open Go.Ab Go.Rp
attribute [-simp] List.all_eq_true Array.all_toList Array.all_eq_true
def d86 (N : Nat) (a0 : (List (List (List S61)))) (a1 : S65) : Option (List (List S61)) :=
 Option.bind (α := List S189) (
  iterN (σ := ((List S189) × Int)) (ρ := List S189) (fun ((l10,v11) : ((List S189) × Int)) =>
   if v11 < (a0.length : Int) then (
    (idx a0 v11).bind fun x36 =>
    if (x36.length : Int) > 0 then (
     (idx x36 0).bind fun x39 =>
     (natI 1 x36.length).bind fun n40 =>
     letv (x36.drop n40) fun l41 =>
     (appL 56 l10 [(S189.mk x39 v11 l41)]).bind fun l42 =>
     (chkI (v11 + 1)).bind fun v43 =>
     some (.inl ((l10 ++ [(S189.mk x39 v11 l41)]),v43))
    ) else
    (chkI (v11 + 1)).bind fun v44 =>
    some (.inl (l10,v44))
   ) else
   some (.inr l10)
  ) N (([] : List S189),0)
 ) fun (l34 : List S189) =>
 (d113 N (S187.mk a1 l34)).bind fun r45 =>
 Option.bind (α := List (List S61)) (
  iterN (σ := ((List Int) × (List Bool) × (List S189) × (List (List S61)))) (ρ := List (List S61)) (fun ((l55,l56,l57,l58) : ((List Int) × (List Bool) × (List S189) × (List (List S61)))) =>
   (d114 N (S187.mk (S65.mk l55 l56) l57)).bind fun r82 =>
   if r82 > 0 then (
    (d115 N (S187.mk (S65.mk l55 l56) l57)).bind fun r84 =>
    (appL 24 l58 [r84.2.row]).bind fun l85 =>
    if (r84.2.rest.length : Int) > 0 then (
     (idx r84.2.rest 0).bind fun x87 =>
     (natI 1 r84.2.rest.length).bind fun n88 =>
     letv (r84.2.rest.drop n88) fun l89 =>
     (d116 N r84.1 (S189.mk x87 r84.2.run l89)).bind fun r90 =>
     some (.inl (r90.by_.Columns,r90.by_.Descending,r90.l,(l58 ++ [r84.2.row])))
    ) else
    some (.inl (r84.1.by_.Columns,r84.1.by_.Descending,r84.1.l,(l58 ++ [r84.2.row])))
   ) else
   some (.inr l58)
  ) N (r45.by_.Columns,r45.by_.Descending,r45.l,([] : List (List S61)))
 ) fun (l81 : List (List S61)) =>
 some l81
set_option maxRecDepth 100000 in
set_option maxHeartbeats 4000000 in
theorem p86 (N : Nat) (a0 : (List (List (List S61)))) (a1 : S65) (r : (List (List S61))) (h : d86 N a0 a1 = some r) : FunC Tryz.prog 86 [.lls61 a0,.agg [.si a1.Columns,.sb a1.Descending]] (.ls61 r) := by
 unfold d86 at h
 refine FunC.enter 74 [(0,.lls61 a0),(1,.agg [.si a1.Columns,.sb a1.Descending])] (by simp) Tryz.func86 rfl (of_decide_eq_true rfl) rfl rfl ?_
 refine .seqR ?_
 refine .rr 2 ?_
 refine .tt [(0,.lls61 a0),(3,.ptr 3 0 0)] (H27 a1) (.nil (.seqR ?_))
 refine .rr 3 ?_
 refine .tt [(0,.lls61 a0),(12,.ptr 12 0 0)] [(12,some (.box [.si a1.Columns,.sb a1.Descending,.z]))] ?_
 refine .sub (.nilOwnBox (bid := 12) (j := 2) (id := 5242) (T := 189) (n := 3) rfl rfl (by decide) rfl (by decide)) ?_
 refine .st (mk 74 [] [(0,.lls61 a0),(12,.ptr 12 0 0)] (H37 a1)) ?_
 refine .rr 1 ?_
 refine .tt [(0,.lls61 a0),(5,.ptr 12 0 0)] (H37 a1) (.nil (.seq (.seqR ?_)))
 refine .rr 3 ?_
 refine .tt [(5,.ptr 12 0 0),(13,.lls61 a0),(14,.i (a0.length : Int)),(15,.i 0)] (H37 a1) (.nil ?_)
 refine .lastN (fun (l34 : List S189) => mk 74 [] [(5,.ptr 12 0 0)] (H17 a1 l34)) h ?_ ?_ <;> clear h
 ·intro o h
  refine .block ?_
  refine .iter (fun ((l10,v11) : ((List S189) × Int)) => mk 74 [] (L28 a0 a0.length v11) (H17 a1 l10)) h Sub.tt ?_
  clear h
  rintro ⟨l10,v11⟩ x h
  dsimp only at h ⊢
  refine .seqR ?_
  refine .rr 1 ?_
  refine .tt (L28 a0 a0.length v11 ++ [(16,.b (decide (v11 < (a0.length : Int))))]) (H17 a1 l10) (.nil (.seq ?_))
  replace h := isome h;rcases h with ⟨c35,h⟩ | ⟨c35,h⟩
  ·have c35_ : decide (v11 < (a0.length : Int)) = true := decide_eq_true c35
   refine .condT rfl c35_ ?_
   refine .skip (thenQ_normal (.seq (.block (.seqR ?_))))
   replace h := xsome h;obtain ⟨x36,k37,hx36k,hx36,hx36a,hx36b,h⟩ := h
   refine .rk 5 fun K k => ?_;simp [hx36,hx36k,hx36a];refine k ?_
   refine .tt [(5,.ptr 12 0 0),(6,.i v11),(7,.ls61 x36),(13,.lls61 a0),(14,.i (a0.length : Int)),(15,.i v11)] (H17 a1 l10) (.nil (.seqR ?_))
   refine .rr 3 ?_
   refine .tt [(5,.ptr 12 0 0),(6,.i v11),(7,.ls61 x36),(13,.lls61 a0),(14,.i (a0.length : Int)),(15,.i v11),(22,.b (decide ((x36.length : Int) > 0)))] (H17 a1 l10) (.nil ?_)
   replace h := isome h;rcases h with ⟨c38,h⟩ | ⟨c38,h⟩
   ·have c38_ : decide ((x36.length : Int) > 0) = true := decide_eq_true c38
    refine .condT rfl c38_ ?_
    replace h := bsome h;obtain ⟨x39,hx39,h⟩ := h
    obtain ⟨hx39,hx39b,hx39c⟩ := idx_someN (n := 0) hx39
    replace h := bsome h;obtain ⟨n40,gn40,h⟩ := h
    obtain ⟨hn40a,hn40⟩ := natI_some gn40
    clear gn40
    replace h := lsome h;obtain ⟨l41,gl41,h⟩ := h
    have hl41 : ((x36.map (cL cS61)).drop n40) = l41.map (cL cS61) := by rw [← gl41];simp
    clear gl41
    replace h := bsome h;obtain ⟨l42,hl42,h⟩ := h
    obtain ⟨hl42a,hl42⟩ := appL_some hl42
    subst hl42
    try simp only [List.length_append,List.length_cons,List.length_nil,Nat.zero_add,Nat.mul_one] at hl42a
    refine .lastAnyS [[],[],[1],[1,2],[1,2,3],[],[5],[5,6],[],[],[9],[5,6,7,8,9,10],[5,6,7,8,9,10,11],[1,2,3,4,5,6,7,8,9,10,11,12],[0,1,2,3,4,5,6,7,8,9,10,11,12,13],[0,1,2,3,4,5,6,7,8,9,10,11,12,13,14],[0,1,2,3,4,5,6,7,8,9,10,11,12,13,14,15]] (fun (b : Nat → Bool) => mk 74 [] [(5,.ptr 12 0 0),(6,.i v11),(7,.ls61 x36),(13,.lls61 a0),(14,.i (a0.length : Int)),(15,.i v11),(23,(if b 0 then .ptr 12 0 0 else .junk)),(24,(if b 1 then .ptr 12 0 0 else .junk)),(25,(if b 2 then .ptr 12 0 0 else .junk)),(26,(if b 3 then .ptr 12 0 2 else .junk)),(27,(if b 13 then .junk else (if b 4 then .ref 5242 0 l10.length else .junk))),(28,(if b 5 then .ls61 x36 else .junk)),(29,(if b 6 then .d (.pim [.sl (x39.map cS61)]) else .junk)),(30,(if b 7 then .s61 x39 else .junk)),(31,(if b 8 then .i v11 else .junk)),(32,(if b 9 then .ls61 x36 else .junk)),(33,(if b 10 then .ls61 l41 else .junk)),(34,(if b 11 then .agg [.s61 x39,.i v11,.ls61 l41] else .junk)),(35,(if b 12 then .d (.sl ([(S189.mk x39 v11 l41)].map cS189)) else .junk)),(36,(if b 13 then .ref 5242 0 ((l10 ++ [(S189.mk x39 v11 l41)]).length) else .junk)),(37,(if b 14 then .ptr 12 0 0 else .junk)),(38,(if b 15 then .ptr 12 0 2 else .junk))] [(12,(if b 16 then some (.box [.si a1.Columns,.sb a1.Descending,.ref 5242 0 ((l10 ++ [(S189.mk x39 v11 l41)]).length)]) else (if b 13 then some (.box [.si a1.Columns,.sb a1.Descending,.hole]) else some (.box [.si a1.Columns,.sb a1.Descending,.ref 5242 0 l10.length])))),(5242,(if b 13 then R189 (l10 ++ [(S189.mk x39 v11 l41)]) else R189 l10))]) (mk 74 [] (L28 a0 a0.length v11) [(12,some (.box [.si a1.Columns,.sb a1.Descending,.ref 5242 0 ((l10 ++ [(S189.mk x39 v11 l41)]).length)])),(5242,R189 (l10 ++ [(S189.mk x39 v11 l41)]))]) (by kernel_rfl) (by kernel_rfl) Sub.tt (Steps.cons ?_ (Steps.cons ?_ (Steps.cons ?_ (Steps.cons ?_ (Steps.cons ?_ (Steps.cons ?_ (Steps.cons ?_ (Steps.cons ?_ (Steps.cons ?_ (Steps.cons ?_ (Steps.cons ?_ (Steps.cons ?_ (Steps.cons ?_ (Steps.cons ?_ (Steps.cons ?_ (Steps.cons ?_ (Steps.cons ?_ (Steps.nil)))))))))))))))))) ?_ ?_
    iterate 5
     ·intro b h0 ha hd
      have T := fct h0 ha hd;simp at T
      refine .runK [35] 1 fun K k => ?_;simp [T];refine k _ _ ?_;clear k K
      exact .nil .tT
    iterate 7
     ·intro b h0 ha hd
      have T := fct h0 ha hd;simp at T
      refine .runK [35] 1 fun K k => ?_;simp [T,hx39,hn40,hn40a,hl41];refine k _ _ ?_;clear k K
      exact .nil .tT
    ·intro b h0 ha hd
     have T := fct h0 ha hd;simp at T
     refine .runK [35] 1 fun K k => ?_;simp [T];refine k _ _ ?_;clear k K
     exact .nil .tT
    iterate 4
     ·intro b h0 ha hd
      have T := fct h0 ha hd;simp at T
      refine .runK [35] 1 fun K k => ?_;simp [T,hl42a];refine k _ _ ?_;clear k K
      exact .nil .tT
    ·intro b hb
     have T := FA_of (n := 17) hb;simp at T
     exact Sub.tT
    skip
    refine blockQ.normal (thenQ_normal (.region ?_))
    replace h := csome h;obtain ⟨v43,hv43,h⟩ := h
    refine .rk 2 fun K k => ?_;simp [hv43];refine k ?_
    refine .tt (L28 a0 a0.length v43) [(12,some (.box [.si a1.Columns,.sb a1.Descending,.ref 5242 0 ((l10 ++ [(S189.mk x39 v11 l41)]).length)])),(5242,R189 (l10 ++ [(S189.mk x39 v11 l41)]))] (.nil ?_)
    cases h
    refine PostI.next ?_
    exact Sub.tt
   have c38_ : decide ((x36.length : Int) > 0) = false := decide_eq_false c38
   refine .condF rfl c38_ ?_
   refine .skip (blockQ.normal (thenQ_normal (.region ?_)))
   replace h := csome h;obtain ⟨v44,hv44,h⟩ := h
   refine .rk 2 fun K k => ?_;simp [hv44];refine k ?_
   refine .tt (L28 a0 a0.length v44) (H17 a1 l10) (.nil ?_)
   cases h
   refine PostI.next ?_
   exact Sub.tt
  have c35_ : decide (v11 < (a0.length : Int)) = false := decide_eq_false c35
  refine .condF rfl c35_ ?_
  refine .exit ?_
  cases h
  refine thenQ_ps ?_
  refine PostI.os ?_
  rintro rfl
  refine blockQ.hit (PostN.next ?_)
  exact Sub.tt
 rintro l34 h
 refine thenQ_normal (.seqR ?_)
 refine .rr 2 ?_
 refine .tt [(5, .ptr 12 0 0), (41, .fn (.methodOf 184 "") [.ptr 12 0 0])] (H17 a1 l34) ?_
 replace h := bsome h;obtain ⟨r45,hr45,h⟩ := h
 refine .callF (p113 N (S187.mk a1 l34) r45 hr45) [(12,1000),(5242,25002)] [12] [(1000,12),(25002,5242)] [(12,(.box [.si r45.by_.Columns,.sb r45.by_.Descending,.ref 5242 0 r45.l.length])),(5242,(.arr 189 3 (r45.l.map cS189)))] (.tup []) (by simp) rfl (by simp <;> rfl) (by simp) (by simp) (by simp) (by simp) (by simp) ent113 (by simp) (by simp) (by simp) (by simp) (by simp) (by simp) ?_
 refine .st (mk 74 [] [(5, .ptr 12 0 0), (41, .fn (.methodOf 184 "") [.ptr 12 0 0]), (42, .tup [])] (H44 r45)) (.nil (.seqR ?_))
 refine .rr 1 ?_
 refine .tt [(5,.ptr 12 0 0),(8,.z)] (H44 r45) (.nil ?_)
 refine .seqN (fun (l81 : List (List S61)) => mk 74 [] [(8,.ref 54 0 l81.length)] [(54,R57 l81)]) h ?_ ?_ <;> clear h
 ·intro o h
  refine .block ?_
  refine .iter (fun ((l55,l56,l57,l58) : ((List Int) × (List Bool) × (List S189) × (List (List S61)))) => mk 74 [] [(5,.ptr 12 0 0),(8,.ref 54 0 l58.length)] (H29 l55 l56 l57 l58)) h (Sub.trans (Sub.nilOwn (t := 8) (id := 54) (T := 57) (n := 1) rfl rfl (by decide)) (by simp;exact Sub.tt)) ?_
  clear h
  rintro ⟨l55,l56,l57,l58⟩ x h
  dsimp only at h ⊢
  refine .seq (.seqR ?_)
  refine .rr 1 ?_
  refine .tt [(5,.ptr 12 0 0),(8,.ref 54 0 l58.length),(43,.ptr 12 0 0)] (H29 l55 l56 l57 l58) ?_
  replace h := bsome h;obtain ⟨r82,hr82,h⟩ := h
  refine .callL (d := 44) (p114 N (S187.mk (S65.mk l55 l56) l57) r82 hr82) (by simp) rfl rfl (by simp <;> rfl) (by simp <;> rfl) ent114 (by simp <;> rfl) ?_
  refine .st (mk 74 [] [(5,.ptr 12 0 0),(8,.ref 54 0 l58.length),(43,.ptr 12 0 0),(44,.i r82)] (H29 l55 l56 l57 l58)) ?_
  refine .rr 1 ?_
  refine .tt [(5,.ptr 12 0 0),(8,.ref 54 0 l58.length),(45,.b (decide (r82 > 0)))] (H29 l55 l56 l57 l58) (.nil ?_)
  replace h := isome h;rcases h with ⟨c83,h⟩ | ⟨c83,h⟩
  ·have c83_ : decide (r82 > 0) = true := decide_eq_true c83
   refine .condT rfl c83_ ?_
   refine .skip (thenQ_normal (.block (.seqR ?_)))
   refine .rr 2 ?_
   refine .tt [(5, .ptr 12 0 0), (8, .ref 54 0 l58.length), (47, .fn (.methodOf 184 "") [.ptr 12 0 0])] (H29 l55 l56 l57 l58) ?_
   replace h := bsome h;obtain ⟨r84,hr84,h⟩ := h
   refine .callF (p115 N (S187.mk (S65.mk l55 l56) l57) r84 hr84) [(12, 1000), (5242, 25002)] [12] [(1000, 12), (25002, 5242)] [(12, (.box [.si r84.1.by_.Columns, .sb r84.1.by_.Descending, .ref 5242 0 r84.1.l.length])), (5242, (.arr 189 3 (r84.1.l.map cS189)))] (.fn (.methodOf 189 "") [.agg [.s61 r84.2.row, .i r84.2.run, .ls61 r84.2.rest]]) (by simp) rfl (by simp <;> rfl) (by simp) (by simp) (by simp) (by simp) (by simp) ent115 (by simp) (by simp) (by simp) (by simp) (by simp) (by simp) ?_
   refine .st (mk 74 [] [(5, .ptr 12 0 0), (8, .ref 54 0 l58.length), (47, .fn (.methodOf 184 "") [.ptr 12 0 0]), (48, .fn (.methodOf 189 "") [.agg [.s61 r84.2.row, .i r84.2.run, .ls61 r84.2.rest]])] [(12, some (.box [.si r84.1.by_.Columns, .sb r84.1.by_.Descending, .ref 5242 0 r84.1.l.length])), (54, R57 l58), (5242, R189 r84.1.l)]) ?_
   refine .rr 3 ?_
   refine .tt [(5,.ptr 12 0 0),(8,.ref 54 0 l58.length),(9,.ptr 9 0 0)] [(9,some (.box [.s61 r84.2.row,.i r84.2.run,.ls61 r84.2.rest])),(12,some (.box [.si r84.1.by_.Columns,.sb r84.1.by_.Descending,.ref 5242 0 r84.1.l.length])),(54,R57 l58),(5242,R189 r84.1.l)] (.nil (.seqR ?_))
   replace h := bsome h;obtain ⟨l85,hl85,h⟩ := h
   obtain ⟨hl85a,hl85⟩ := appL_some hl85
   subst hl85
   try simp only [List.length_append,List.length_cons,List.length_nil,Nat.zero_add,Nat.mul_one] at hl85a
   refine .runK [53] 6 fun K k => ?_;simp [hl85a];refine k _ _ ?_;clear k K
   refine .tt [(5,.ptr 12 0 0),(8,.ref 54 0 ((l58 ++ [r84.2.row]).length)),(9,.ptr 9 0 0)] [(9,some (.box [.s61 r84.2.row,.i r84.2.run,.ls61 r84.2.rest])),(12,some (.box [.si r84.1.by_.Columns,.sb r84.1.by_.Descending,.ref 5242 0 r84.1.l.length])),(54,R57 (l58 ++ [r84.2.row])),(5242,R189 r84.1.l)] (.nil (.seqR ?_))
   refine .rr 4 ?_
   refine .tt [(5,.ptr 12 0 0),(8,.ref 54 0 ((l58 ++ [r84.2.row]).length)),(9,.ptr 9 0 0),(58,.b (decide ((r84.2.rest.length : Int) > 0)))] [(9,some (.box [.s61 r84.2.row,.i r84.2.run,.ls61 r84.2.rest])),(12,some (.box [.si r84.1.by_.Columns,.sb r84.1.by_.Descending,.ref 5242 0 r84.1.l.length])),(54,R57 (l58 ++ [r84.2.row])),(5242,R189 r84.1.l)] (.nil ?_)
   replace h := isome h;rcases h with ⟨c86,h⟩ | ⟨c86,h⟩
   ·have c86_ : decide ((r84.2.rest.length : Int) > 0) = true := decide_eq_true c86
    refine .condT rfl c86_ ?_
    replace h := bsome h;obtain ⟨x87,hx87,h⟩ := h
    obtain ⟨hx87,hx87b,hx87c⟩ := idx_someN (n := 0) hx87
    replace h := bsome h;obtain ⟨n88,gn88,h⟩ := h
    obtain ⟨hn88a,hn88⟩ := natI_some gn88
    clear gn88
    replace h := lsome h;obtain ⟨l89,gl89,h⟩ := h
    have hl89 : ((r84.2.rest.map (cL cS61)).drop n88) = l89.map (cL cS61) := by rw [← gl89];simp
    clear gl89
    refine .regionT 13 (by kernel_rfl) (by kernel_rfl) fun K k => ?_;simp [hx87,hn88,hn88a,hl89];refine k _ _ ?_;clear k K
    refine .tt [(5, .ptr 12 0 0), (8, .ref 54 0 ((l58 ++ [r84.2.row]).length)), (60, .fn (.methodOf 184 "") [.ptr 12 0 0]), (71, .fn (.methodOf 189 "") [.agg [.s61 x87, .i r84.2.run, .ls61 l89]])] [(12, some (.box [.si r84.1.by_.Columns, .sb r84.1.by_.Descending, .ref 5242 0 r84.1.l.length])), (54, R57 (l58 ++ [r84.2.row])), (5242, R189 r84.1.l)] ?_
    replace h := bsome h;obtain ⟨r90,hr90,h⟩ := h
    refine .callF (p116 N r84.1 (S189.mk x87 r84.2.run l89) r90 hr90) [(12,1000),(5242,25002)] [12] [(1000,12),(25002,5242)] [(12,(.box [.si r90.by_.Columns,.sb r90.by_.Descending,.ref 5242 0 r90.l.length])),(5242,(.arr 189 3 (r90.l.map cS189)))] (.tup []) (by simp) rfl (by simp <;> rfl) (by simp) (by simp) (by simp) (by simp) (by simp) ent116 (by simp) (by simp) (by simp) (by simp) (by simp) (by simp) ?_
    refine .st (mk 74 [] [(5, .ptr 12 0 0), (8, .ref 54 0 ((l58 ++ [r84.2.row]).length)), (60, .fn (.methodOf 184 "") [.ptr 12 0 0]), (71, .fn (.methodOf 189 "") [.agg [.s61 x87, .i r84.2.run, .ls61 l89]]), (72, .tup [])] [(12, some (.box [.si r90.by_.Columns, .sb r90.by_.Descending, .ref 5242 0 r90.l.length])), (54, R57 (l58 ++ [r84.2.row])), (5242, R189 r90.l)]) (.nil ?_)
    cases h
    refine blockQ.normal (PostI.next ?_)
    exact Sub.tt
   have c86_ : decide ((r84.2.rest.length : Int) > 0) = false := decide_eq_false c86
   refine .condF rfl c86_ ?_
   refine .skip ?_
   cases h
   refine blockQ.normal (PostI.next ?_)
   exact Sub.tt
  have c83_ : decide (r82 > 0) = false := decide_eq_false c83
  refine .condF rfl c83_ ?_
  refine .exit ?_
  cases h
  refine thenQ_ps ?_
  refine PostI.os ?_
  rintro rfl
  refine blockQ.hit (PostN.next ?_)
  exact Sub.tt
 rintro l81 h
 refine .seqR ?_
 refine .rr 2 ?_
 refine .tt [(4,.ref 54 0 l81.length)] [(54,R57 l81)] (.nil ?_)
 refine .sub (.freeze 54 rfl) ?_
 refine .st (mk 74 [] [(4,.ls61 l81)] []) (.ret ?_)
 cases h
 exact FinC.rs
def d39 (_ : Nat) (a0 : (List S61)) : Option (List S61) := if a0.length * 32 ≤ Rp.reach then some a0 else none
theorem p39 (N : Nat) (a0 : (List S61)) (r : (List S61)) (h : d39 N a0 = some r) : FunO Tryz.prog 39 [.s61 a0] (.ref 0 0 r.length) (.arr 61 3 (r.map cS61)) := by
 obtain ⟨hz,h⟩ := gsome h
 cases h
 refine FunO.enter 8 [(0,.s61 a0)] Tryz.func39 rfl (of_decide_eq_true rfl) rfl rfl ?_
 refine .goR [] 1 fun K k => ?_;simp;refine k _ ?_;clear k K
 refine .seq (.seqR ?_)
 refine .rr 1 ?_
 refine .eqNilE (es := a0.map cS61) (by simp) rfl ty57 rfl (by simp) (by simp) fun b hb => ?_
 refine .nil ?_
 cases b with
 | true =>
  have he : a0 = [] := by
   cases a0 with
   | nil => rfl
   | cons x xs => exact absurd (hb (by simp)) (by simp)
  subst he
  refine .condK fun K1 K2 k1 k2 => ?_;simp;refine k1 ?_;clear k1 k2 K1 K2
  refine .goR [] 1 fun K k => ?_;simp;refine k _ ?_;clear k K
  refine .sub (.nilOwn (t := 2) (id := 902) (T := 61) (n := 3) rfl rfl (by decide)) ?_
  refine .st (mk 8 [] [(2,.ref 902 0 0)] [(902,some (.arr 61 3 []))]) (.ret ?_)
  exact thenQ_pass (by simp) (FinO.ret (.ref 902 0 0) 902 (by simp) (by simp) (by simp) (by simp) rfl)
 | false =>
  refine .condK fun K1 K2 k1 k2 => ?_;simp;refine k2 ?_;clear k1 k2 K1 K2
  refine .skip (thenQ_normal ?_)
  refine .goR [] 4 fun K k => ?_;simp [hz];refine k _ ?_;clear k K
  refine .tt [(2,.ref 5 0 a0.length)] [(5,R61 a0)] (.ret ?_)
  exact FinO.ret (.ref 5 0 a0.length) 5 (by simp) (by simp) (by simp) (by simp) rfl
end Go.Proofs.YtimkkjiplioohaaGreatDoor
