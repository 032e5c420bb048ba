/- Functions of the program as functional programs; the code computes them. -/
import Derived.Test.YtmgddgcniacnbaaGreatDoorCa9
namespace Go.Proofs.YtmgddgcniacnbaaGreatDoor
set_option maxRecDepth 100000
set_option maxHeartbeats 4000000
open Go.Ab Go.Rp
attribute [-simp] List.all_eq_true Array.all_toList Array.all_eq_true
def d75 (N : Nat) (a0 : S122) (a1 : S34) (a2 : (List (List S53))) : Option ((List S53) × Int) :=
 if (a1.Kind == 1) then (
  (d69 N a0.s.Tables (fun b0 => d109 N b0 a1)).bind fun r2 =>
  if r2 < 0 then (
   some (([] : List S53),4)
  ) else
  (idx a0.s.Tables r2).bind fun x4 =>
  (d110 N x4.Columns).bind fun r6 =>
  some (r6,0)
 ) else
 if (a1.Kind == 2) then (
  (idx a2 0).bind fun x8 =>
  (idx a1.Exprs 0).bind fun x9 =>
  (d111 N a0 x8 x9).bind fun r10 =>
  some (x8,r10)
 ) else
 Option.bind (α := Bool) (
  if (a1.Kind == 4) then (
   some true
  ) else
  some (a1.Kind == 5)
 ) fun (v12 : Bool) =>
 if v12 = true then (
  (idx a2 0).bind fun x15 =>
  (d110 N x15).bind fun r16 =>
  (idx a2 1).bind fun x17 =>
  Option.bind (α := List S53) (
   iterN (σ := ((List S53) × Int)) (ρ := List S53) (fun ((l25,v26) : ((List S53) × Int)) =>
    if v26 < (x17.length : Int) then (
     (idx x17 v26).bind fun x47 =>
     Option.bind (α := Bool) (
      if x47.Nullable = true then (
       some true
      ) else
      some (a1.Kind == 5)
     ) fun (v50 : Bool) =>
     (appL 32 l25 [(S53.mk x47.Name x47.Kind v50)]).bind fun _l52 =>
     (chkI (v26 + 1)).bind fun v53 =>
     some (.inl ((l25 ++ [(S53.mk x47.Name x47.Kind v50)]),v53))
    ) else
    some (.inr l25)
   ) N (r16,0)
  ) fun (l45 : List S53) =>
  (idx a1.Exprs 0).bind fun x54 =>
  (d111 N a0 l45 x54).bind fun r55 =>
  some (l45,r55)
 ) else
 Option.bind (α := Bool) (
  if (a1.Kind == 6) then (
   some true
  ) else
  some (a1.Kind == 7)
 ) fun (v57 : Bool) =>
 if v57 = true then (
  (idx a2 0).bind fun x60 =>
  (idx a2 1).bind fun x61 =>
  (d112 N a1.Kind x60 x61).bind fun r62 =>
  some (r62.1,r62.2)
 ) else
 Option.bind (α := Bool) (
  if (a1.Kind == 3) then (
   some true
  ) else
  some (a1.Kind == 8)
 ) fun (v64 : Bool) =>
 if v64 = true then (
  (idx a2 0).bind fun x67 =>
  (d113 N a0 a1 x67).bind fun r68 =>
  some (r68.1,r68.2)
 ) else
 if (a1.Kind == 9) then (
  bindO (β := Unit) (ρ := ((List S53) × Int)) (
   iterN (σ := Int) (ρ := (Out Unit ((List S53) × Int))) (fun (v76 : Int) =>
    if v76 < (a1.Exprs.length : Int) then (
     (idx a1.Exprs v76).bind fun x93 =>
     (idx a2 0).bind fun x95 =>
     (d114 N x95 a0.vars x93).bind fun r96 =>
     if (r96.2.2 != 0) then (
      some (.inr (.ret (([] : List S53),r96.2.2)))
     ) else
     (chkI (v76 + 1)).bind fun v98 =>
     some (.inl v98)
    ) else
    some (.inr (.go ()))
   ) N 0
  ) fun (_ : Unit) =>
  (idx a2 0).bind fun x99 =>
  some (x99,0)
 ) else
 (idx a2 0).bind fun x100 =>
 some (x100,0)
theorem p75 (N : Nat) (a0 : S122) (a1 : S34) (a2 : (List (List S53))) (r : ((List S53) × Int)) (h : d75 N a0 a1 a2 = some r) : FunC Tryz.prog 75 [.agg (k122 a0),.agg (k34 a1),.ls53 a2] (.tup [.s53 r.1,.i r.2]) := by
 unfold d75 at h
 refine FunC.enter 138 [(0,.agg (k122 a0)),(1,.agg (k34 a1)),(2,.ls53 a2)] (by simp) Tryz.func75 rfl (of_decide_eq_true rfl) rfl rfl ?_
 refine .seqR ?_
 refine .rr 4 ?_
 refine .nil (.seq (.seqR ?_))
 refine .rr 2 ?_
 refine .nil (.block (.seqR ?_))
 refine .rr 2 ?_
 refine .nil ?_
 replace h := isome h;rcases h with ⟨c1,h⟩ | ⟨c1,h⟩
 ·refine .condT rfl c1 ?_
  refine .seqR ?_
  refine .rr 4 ?_
  refine .tt [(3,.ptr 3 0 0),(23,.s56 a0.s.Tables),(24,.fn (.func 109) [.ptr 4 0 0])] (H9 a0 a1) ?_
  replace h := bsome h;obtain ⟨r2,hr2,h⟩ := h
  refine .callL (d := 25) (p69 N a0.s.Tables 109 [.pim [.lit (.int .i64 a1.Kind),.lit (.string a1.Table),.sl (a1.Names.map cS),.sl (a1.Exprs.map cS76),.sl (a1.Aggregates.map cS79),.sl (a1.Descending.map cB),.lit (.int .i64 a1.Count),.lit (.int .i64 a1.Offset),.sl (a1.Inputs.map cS34)]] (fun b0 => d109 N b0 a1) ent109 (fun b0 r h => p109 N b0 a1 r h) r2 hr2) (by simp) rfl rfl (by simp <;> rfl) (by simp <;> rfl) ent69 (by simp <;> rfl) ?_
  refine .rr 1 ?_
  refine .nil (.seq (.seqR ?_))
  refine .rr 2 ?_
  refine .nil ?_
  replace h := isome h;rcases h with ⟨c3,h⟩ | ⟨c3,h⟩
  ·refine .condT rfl (decide_eq_true c3) ?_
   refine .seqR ?_
   refine .rr 2 ?_
   refine .tt [(6,.z),(7,.i 4)] [] (.nil ?_)
   refine .sub (.wk 6 rfl) ?_
   refine .st (mk 138 [] [(6,.s53 ([] : List S53)),(7,.i 4)] []) (.ret ?_)
   cases h
   refine thenQ_ps ?_
   refine blockQ.ret ?_
   refine thenQ_ps ?_
   exact FinC.rs
  refine .condF rfl (decide_eq_false c3) ?_
  refine .skip (thenQ_normal (.seqR ?_))
  replace h := xsome h;obtain ⟨x4,k5,hx4k,hx4,hx4a,hx4b,h⟩ := h
  refine .rk 7 fun K k => ?_;simp [hx4,hx4k,hx4a];refine k ?_
  refine .tt [(34,.s53 x4.Columns)] [] ?_
  replace h := bsome h;obtain ⟨r6,hr6,h⟩ := h
  refine .callO (d := 35) (p110 N x4.Columns r6 hr6) (by simp) rfl rfl (by simp <;> rfl) (by simp <;> rfl) ent110 (by simp) ⟨by simp,by simp⟩ ?_
  refine .rr 2 ?_
  refine .tt [(6,.ref 35 0 r6.length),(7,.i 0)] [(35,R53 r6)] (.nil ?_)
  refine .sub (.freeze 35 rfl) ?_
  refine .st (mk 138 [] [(6,.s53 r6),(7,.i 0)] []) (.ret ?_)
  cases h
  refine blockQ.ret ?_
  refine thenQ_ps ?_
  exact FinC.rs
 refine .condF rfl (Bool.eq_false_iff.2 c1) ?_
 refine .seqR ?_
 refine .rr 2 ?_
 refine .nil ?_
 replace h := isome h;rcases h with ⟨c7,h⟩ | ⟨c7,h⟩
 ·refine .condT rfl c7 ?_
  refine .seqQ (by kernel_rfl) (by kernel_rfl) ?_
  replace h := bsome h;obtain ⟨x8,hx8,h⟩ := h
  obtain ⟨hx8,hx8b,hx8c⟩ := idx_someN (n := 0) hx8
  replace h := bsome h;obtain ⟨x9,hx9,h⟩ := h
  obtain ⟨hx9,hx9b,hx9c⟩ := idx_someN (n := 0) hx9
  refine .rq 11 fun K k => ?_;simp [hx8,hx9];refine k ?_
  refine .tt [(40,.s53 x8),(41,.agg (k122 a0)),(44,.s53 x8),(48,.agg (k76 x9))] [] ?_
  replace h := bsome h;obtain ⟨r10,hr10,h⟩ := h
  refine .callL (d := 49) (p111 N a0 x8 x9 r10 hr10) (by simp) rfl rfl (by simp <;> rfl) (by simp <;> rfl) ent111 (by simp <;> rfl) ?_
  refine .rq 2 fun K k => ?_;simp;refine k ?_
  refine .nil (.ret ?_)
  cases h
  refine blockQ.ret ?_
  refine thenQ_ps ?_
  exact FinC.rs
 refine .condF rfl (Bool.eq_false_iff.2 c7) ?_
 refine .seq (.seqR ?_)
 refine .rr 2 ?_
 refine .tt (L85 a2 a1.Kind ++ [(50,.b (a1.Kind == 4))]) (H9 a0 a1) (.nil ?_)
 refine .lastN (fun (v12 : Bool) => mk 138 [] (L85 a2 a1.Kind ++ [(50,.b v12)]) (H9 a0 a1)) h ?_ ?_ <;> clear h
 ·intro o h
  replace h := isome h;rcases h with ⟨c13,h⟩ | ⟨c13,h⟩
  ·have c13_ := c13
   refine .condT rfl c13_ ?_
   refine .sub (.bool 50 rfl c13_) ?_
   refine .st (mk 138 [] (L85 a2 a1.Kind ++ [(50,.b true)]) (H9 a0 a1)) (.skip ?_)
   cases h
   refine PostN.next ?_
   exact Sub.tt
  have c13_ := Bool.eq_false_iff.2 c13
  refine .condF rfl c13_ ?_
  refine .sub (.bool 50 rfl c13_) ?_
  refine .region ?_
  refine .rr 2 ?_
  refine .nil ?_
  cases h
  refine PostN.next ?_
  exact Sub.tt
 rintro v12 h
 refine thenQ_normal ?_
 replace h := isome h;rcases h with ⟨c14,h⟩ | ⟨c14,h⟩
 ·refine .condT rfl c14 ?_
  refine .seqR ?_
  replace h := bsome h;obtain ⟨x15,hx15,h⟩ := h
  obtain ⟨hx15,hx15b,hx15c⟩ := idx_someN (n := 0) hx15
  refine .rk 3 fun K k => ?_;simp [hx15];refine k ?_
  refine .tt (L84 a2 ++ [(55,.s53 x15)]) (H9 a0 a1) ?_
  replace h := bsome h;obtain ⟨r16,hr16,h⟩ := h
  refine .callO (d := 56) (p110 N x15 r16 hr16) (by simp) rfl rfl (by simp <;> rfl) (by simp <;> rfl) ent110 (by simp) ⟨by simp,by simp⟩ ?_
  refine .rr 1 ?_
  refine .tt (L84 a2 ++ [(9,.ref 56 0 r16.length)]) (H39 a0 a1 r16) (.nil (.seq (.seqR ?_)))
  replace h := bsome h;obtain ⟨x17,hx17,h⟩ := h
  obtain ⟨hx17,hx17b,hx17c⟩ := idx_someN (n := 1) hx17
  refine .rk 5 fun K k => ?_;simp [hx17];refine k ?_
  refine .tt (L86 r16.length x17 x17.length ++ [(61,.i 0)]) (H39 a0 a1 r16) (.nil ?_)
  refine .lastN (fun (l45 : List S53) => mk 138 [] [(3,.ptr 3 0 0),(4,.ptr 4 0 0),(9,.ref 56 0 l45.length)] (H39 a0 a1 l45)) h ?_ ?_ <;> clear h
  ·intro o h
   refine .block ?_
   refine .iter (fun ((l25,v26) : ((List S53) × Int)) => mk 138 [] (L86 l25.length x17 x17.length ++ [(61,.i v26)]) (H39 a0 a1 l25)) h Sub.tt ?_
   clear h
   rintro ⟨l25,v26⟩ x h
   dsimp only at h ⊢
   refine .seqR ?_
   refine .rr 1 ?_
   refine .nil (.seq ?_)
   replace h := isome h;rcases h with ⟨c46,h⟩ | ⟨c46,h⟩
   ·refine .condT rfl (decide_eq_true c46) ?_
    refine .skip (thenQ_normal (.seq (.block (.seqR ?_))))
    replace h := xsome h;obtain ⟨x47,k48,hx47k,hx47,hx47a,hx47b,h⟩ := h
    refine .rk 4 fun K k => ?_;simp [hx47,hx47k,hx47a];refine k ?_
    refine .tt (L87 l25.length x17 x17.length v26) (H51 a0 a1 x47 l25) (.nil ?_)
    replace h := bsome h;obtain ⟨v50,hj,h⟩ := h
    refine .cutR (mk 138 [] (L87 l25.length x17 x17.length v26) [(3,some (.box (k122 a0))),(4,some (.box (k34 a1))),(11,some (.box [.s x47.Name,.i x47.Kind,.b v50])),(56,R53 l25)]) ?_ ?_
    ·clear h;have h := hj;clear hj
     refine .rr 3 ?_
     replace h := isome h;rcases h with ⟨c51,h⟩ | ⟨c51,h⟩
     ·refine .sub (.bool 67 rfl c51) ?_
      refine .rr 6 ?_
      cases h
      exact .nil .tt
     refine .sub (.bool 67 rfl (Bool.eq_false_iff.2 c51)) ?_
     refine .rr 6 ?_
     cases h
     exact .nil .tt
    clear hj
    refine .region ?_
    replace h := bsome h;obtain ⟨l52,hl52,h⟩ := h
    obtain ⟨hl52a,hl52⟩ := appL_some hl52
    subst hl52
    try simp only [List.length_cons,List.length_nil,Nat.zero_add] at hl52a
    refine .runK [75] 5 fun K k => ?_;simp [hl52a];refine k _ _ ?_;clear k K
    refine .tt [(3,.ptr 3 0 0),(4,.ptr 4 0 0),(9,.ref 56 0 ((l25 ++ [(S53.mk x47.Name x47.Kind v50)]).length)),(59,.s53 x17),(60,.i (x17.length : Int)),(61,.i v26)] [(3,some (.box (k122 a0))),(4,some (.box (k34 a1))),(56,R53 (l25 ++ [(S53.mk x47.Name x47.Kind v50)]))] (.nil (blockQ.normal (thenQ_normal (.region ?_))))
    replace h := csome h;obtain ⟨v53,hv53,h⟩ := h
    refine .rk 2 fun K k => ?_;simp [hv53];refine k ?_
    refine .nil ?_
    cases h
    refine PostI.next ?_
    exact Sub.tt
   refine .condF rfl (decide_eq_false c46) ?_
   refine .exit ?_
   cases h
   refine thenQ_ps ?_
   refine PostI.os ?_
   rintro rfl
   refine blockQ.hit (PostN.next ?_)
   exact Sub.tt
  rintro l45 h
  refine thenQ_normal ?_
  refine .seqQ (by kernel_rfl) (by kernel_rfl) ?_
  replace h := bsome h;obtain ⟨x54,hx54,h⟩ := h
  obtain ⟨hx54,hx54b,hx54c⟩ := idx_someN (n := 0) hx54
  refine .rq 7 fun K k => ?_;simp [hx54];refine k ?_
  refine .tt [(78,.ref 56 0 l45.length),(79,.agg (k122 a0)),(80,.ref 56 0 l45.length),(84,.agg (k76 x54))] [(56,R53 l45)] ?_
  replace h := bsome h;obtain ⟨r55,hr55,h⟩ := h
  refine .callL (d := 85) (p111 N a0 l45 x54 r55 hr55) (by simp) rfl rfl (by simp <;> rfl) (by simp <;> rfl) ent111 (by simp <;> rfl) ?_
  refine .rq 2 fun K k => ?_;simp;refine k ?_
  refine .tt [(6,.ref 56 0 l45.length),(7,.i r55)] [(56,R53 l45)] (.nil ?_)
  refine .sub (.freeze 56 rfl) ?_
  refine .st (mk 138 [] [(6,.s53 l45),(7,.i r55)] []) (.ret ?_)
  cases h
  refine blockQ.ret ?_
  refine thenQ_ps ?_
  exact FinC.rs
 refine .condF rfl (Bool.eq_false_iff.2 c14) ?_
 refine .seq (.seqR ?_)
 refine .rr 2 ?_
 refine .tt (L85 a2 a1.Kind ++ [(86,.b (a1.Kind == 6))]) (H9 a0 a1) (.nil ?_)
 refine .lastN (fun (v57 : Bool) => mk 138 [] (L85 a2 a1.Kind ++ [(86,.b v57)]) (H9 a0 a1)) h ?_ ?_ <;> clear h
 ·intro o h
  replace h := isome h;rcases h with ⟨c58,h⟩ | ⟨c58,h⟩
  ·have c58_ := c58
   refine .condT rfl c58_ ?_
   refine .sub (.bool 86 rfl c58_) ?_
   refine .st (mk 138 [] (L85 a2 a1.Kind ++ [(86,.b true)]) (H9 a0 a1)) (.skip ?_)
   cases h
   refine PostN.next ?_
   exact Sub.tt
  have c58_ := Bool.eq_false_iff.2 c58
  refine .condF rfl c58_ ?_
  refine .sub (.bool 86 rfl c58_) ?_
  refine .region ?_
  refine .rr 2 ?_
  refine .nil ?_
  cases h
  refine PostN.next ?_
  exact Sub.tt
 rintro v57 h
 refine thenQ_normal ?_
 replace h := isome h;rcases h with ⟨c59,h⟩ | ⟨c59,h⟩
 ·refine .condT rfl c59 ?_
  replace h := bsome h;obtain ⟨x60,hx60,h⟩ := h
  obtain ⟨hx60,hx60b,hx60c⟩ := idx_someN (n := 0) hx60
  replace h := bsome h;obtain ⟨x61,hx61,h⟩ := h
  obtain ⟨hx61,hx61b,hx61c⟩ := idx_someN (n := 1) hx61
  replace h := bsome h;obtain ⟨r62,hr62,h⟩ := h
  refine .seqAnyS [[],[0],[],[2],[2,3],[],[5],[5,6],[0,1,2,3,4,5,6,7],[0,1,2,3,4,5,6,7,8],[0,1,2,3,4,5,6,7,8],[0,1,2,3,4,5,6,7,8,9,10],[0,1,2,3,4,5,6,7,8,9,10,11]] (fun (b : Nat → Bool) => mk 138 [] [(2,.ls53 a2),(4,.ptr 4 0 0),(6,(if b 11 then .s53 r62.1 else .junk)),(7,(if b 12 then .i r62.2 else .junk)),(89,(if b 0 then .ptr 4 0 0 else .junk)),(90,(if b 1 then .i a1.Kind else .junk)),(91,(if b 2 then .ls53 a2 else .junk)),(92,(if b 3 then .d (.pim [.sl (x60.map cS53)]) else .junk)),(93,(if b 4 then .s53 x60 else .junk)),(94,(if b 5 then .ls53 a2 else .junk)),(95,(if b 6 then .d (.pim [.sl (x61.map cS53)]) else .junk)),(96,(if b 7 then .s53 x61 else .junk)),(97,(if b 8 then .tup [.s53 r62.1,.i r62.2] else .junk)),(98,(if b 9 then .s53 r62.1 else .junk)),(99,(if b 10 then .i r62.2 else .junk))] [(4,some (.box (k34 a1)))]) (mk 138 [] [(6,.s53 r62.1),(7,.i r62.2)] []) (by kernel_rfl) (by kernel_rfl) Sub.tt (Steps.cons ?_ (Steps.cons ?_ (Steps.cons ?_ (Steps.cons ?_ (Steps.cons ?_ (Steps.cons ?_ (Steps.cons ?_ (Steps.cons ?_ (Steps.cons ?_ (Steps.cons ?_ (Steps.cons ?_ (Steps.cons ?_ (Steps.cons ?_ (Steps.nil)))))))))))))) ?_ ?_
  iterate 8
   ·intro b h0 ha hd
    have T := fct h0 ha hd;simp at T
    refine .rk 1 fun K k => ?_;simp [T,hx60,hx61];refine k ?_
    exact .nil .tT
  ·intro b h0 ha hd
   have T := fct h0 ha hd;simp at T
   simp only [T,if_true,if_false,Bool.false_eq_true]
   refine .callC (d := 97) (p112 N a1.Kind x60 x61 r62 hr62) (by simp) rfl rfl (by simp <;> rfl) (by simp <;> rfl) ent112 (by simp) (.inl ⟨by simp,by simp⟩) ?_
   exact .nil (by simp [T];exact Sub.tT)
  iterate 4
   ·intro b h0 ha hd
    have T := fct h0 ha hd;simp at T
    refine .rk 1 fun K k => ?_;simp [T];refine k ?_
    exact .nil .tT
  ·intro b hb
   have T := FA_of (n := 13) hb;simp at T
   exact Sub.tT
  skip
  refine .ret ?_
  cases h
  refine blockQ.ret ?_
  refine thenQ_ps ?_
  exact FinC.rs
 refine .condF rfl (Bool.eq_false_iff.2 c59) ?_
 refine .seq (.seqR ?_)
 refine .rr 2 ?_
 refine .tt (L85 a2 a1.Kind ++ [(100,.b (a1.Kind == 3))]) (H9 a0 a1) (.nil ?_)
 refine .lastN (fun (v64 : Bool) => mk 138 [] (L85 a2 a1.Kind ++ [(100,.b v64)]) (H9 a0 a1)) h ?_ ?_ <;> clear h
 ·intro o h
  replace h := isome h;rcases h with ⟨c65,h⟩ | ⟨c65,h⟩
  ·have c65_ := c65
   refine .condT rfl c65_ ?_
   refine .sub (.bool 100 rfl c65_) ?_
   refine .st (mk 138 [] (L85 a2 a1.Kind ++ [(100,.b true)]) (H9 a0 a1)) (.skip ?_)
   cases h
   refine PostN.next ?_
   exact Sub.tt
  have c65_ := Bool.eq_false_iff.2 c65
  refine .condF rfl c65_ ?_
  refine .sub (.bool 100 rfl c65_) ?_
  refine .region ?_
  refine .rr 2 ?_
  refine .nil ?_
  cases h
  refine PostN.next ?_
  exact Sub.tt
 rintro v64 h
 refine thenQ_normal ?_
 replace h := isome h;rcases h with ⟨c66,h⟩ | ⟨c66,h⟩
 ·refine .condT rfl c66 ?_
  replace h := bsome h;obtain ⟨x67,hx67,h⟩ := h
  obtain ⟨hx67,hx67b,hx67c⟩ := idx_someN (n := 0) hx67
  replace h := bsome h;obtain ⟨r68,hr68,h⟩ := h
  refine .seqAnyS [[],[],[],[2],[2,3],[0,1,2,3,4],[0,1,2,3,4,5],[0,1,2,3,4,5],[0,1,2,3,4,5,6,7],[0,1,2,3,4,5,6,7,8]] (fun (b : Nat → Bool) => mk 138 [] [(2,.ls53 a2),(3,.ptr 3 0 0),(4,.ptr 4 0 0),(6,(if b 8 then .s53 r68.1 else .junk)),(7,(if b 9 then .i r68.2 else .junk)),(103,(if b 0 then .agg (k122 a0) else .junk)),(104,(if b 1 then .agg (k34 a1) else .junk)),(105,(if b 2 then .ls53 a2 else .junk)),(106,(if b 3 then .d (.pim [.sl (x67.map cS53)]) else .junk)),(107,(if b 4 then .s53 x67 else .junk)),(108,(if b 5 then .tup [.s53 r68.1,.i r68.2] else .junk)),(109,(if b 6 then .s53 r68.1 else .junk)),(110,(if b 7 then .i r68.2 else .junk))] (H9 a0 a1)) (mk 138 [] [(6,.s53 r68.1),(7,.i r68.2)] []) (by kernel_rfl) (by kernel_rfl) Sub.tt (Steps.cons ?_ (Steps.cons ?_ (Steps.cons ?_ (Steps.cons ?_ (Steps.cons ?_ (Steps.cons ?_ (Steps.cons ?_ (Steps.cons ?_ (Steps.cons ?_ (Steps.cons ?_ (Steps.nil))))))))))) ?_ ?_
  iterate 5
   ·intro b h0 ha hd
    have T := fct h0 ha hd;simp at T
    refine .rk 1 fun K k => ?_;simp [T,hx67];refine k ?_
    exact .nil .tT
  ·intro b h0 ha hd
   have T := fct h0 ha hd;simp at T
   simp only [T,if_true,if_false,Bool.false_eq_true]
   refine .callC (d := 108) (p113 N a0 a1 x67 r68 hr68) (by simp) rfl rfl (by simp <;> rfl) (by simp <;> rfl) ent113 (by simp) (.inl ⟨by simp,by simp⟩) ?_
   exact .nil (by simp [T];exact Sub.tT)
  iterate 4
   ·intro b h0 ha hd
    have T := fct h0 ha hd;simp at T
    refine .rk 1 fun K k => ?_;simp [T];refine k ?_
    exact .nil .tT
  ·intro b hb
   have T := FA_of (n := 10) hb;simp at T
   exact Sub.tT
  skip
  refine .ret ?_
  cases h
  refine blockQ.ret ?_
  refine thenQ_ps ?_
  exact FinC.rs
 refine .condF rfl (Bool.eq_false_iff.2 c66) ?_
 refine .seqR ?_
 refine .rr 2 ?_
 refine .nil ?_
 replace h := isome h;rcases h with ⟨c69,h⟩ | ⟨c69,h⟩
 ·refine .condT rfl c69 ?_
  refine .seqR ?_
  refine .rr 4 ?_
  refine .tt [(2,.ls53 a2),(3,.ptr 3 0 0),(114,.s76 a1.Exprs),(115,.i (a1.Exprs.length : Int)),(116,.i 0)] (H26 a0) (.nil ?_)
  refine .lastJ (fun (_ : Unit) => mk 138 [] [(2,.ls53 a2)] []) h ?_ ?_ <;> clear h
  ·intro o h
   refine .block ?_
   refine .iter (fun (v76 : Int) => mk 138 [] (L88 a2 a1.Exprs a1.Exprs.length v76) (H26 a0)) h Sub.tt ?_
   clear h
   rintro v76 x h
   refine .seqR ?_
   refine .rr 1 ?_
   refine .nil (.seq ?_)
   replace h := isome h;rcases h with ⟨c92,h⟩ | ⟨c92,h⟩
   ·refine .condT rfl (decide_eq_true c92) ?_
    refine .skip (thenQ_normal (.seq (.block (.seqR ?_))))
    replace h := xsome h;obtain ⟨x93,k94,hx93k,hx93,hx93a,hx93b,h⟩ := h
    refine .rk 4 fun K k => ?_;simp [hx93,hx93k,hx93a];refine k ?_
    refine .tt [(2,.ls53 a2),(3,.ptr 3 0 0),(13,.ptr 13 0 0),(114,.s76 a1.Exprs),(115,.i (a1.Exprs.length : Int)),(116,.i v76)] [(3,some (.box (k122 a0))),(13,some (.box (k76 x93)))] (.nil ?_)
    refine .seqQ (by kernel_rfl) (by kernel_rfl) ?_
    replace h := bsome h;obtain ⟨x95,hx95,h⟩ := h
    obtain ⟨hx95,hx95b,hx95c⟩ := idx_someN (n := 0) hx95
    refine .rq 6 fun K k => ?_;simp [hx95];refine k ?_
    refine .tt (L88 a2 a1.Exprs a1.Exprs.length v76 ++ [(123,.s53 x95),(125,.s53 a0.vars),(126,.agg (k76 x93))]) (H26 a0) ?_
    replace h := bsome h;obtain ⟨r96,hr96,h⟩ := h
    refine .callL (d := 127) (p114 N x95 a0.vars x93 r96 hr96) (by simp) rfl rfl (by simp <;> rfl) (by simp <;> rfl) ent114 (by simp <;> rfl) ?_
    refine .rq 7 fun K k => ?_;simp;refine k ?_
    refine .nil (.seqR ?_)
    refine .rr 2 ?_
    refine .nil ?_
    replace h := isome h;rcases h with ⟨c97,h⟩ | ⟨c97,h⟩
    ·refine .condT rfl c97 ?_
     refine .seqR ?_
     refine .rr 3 ?_
     refine .tt [(6,.z),(7,.i r96.2.2)] [] (.nil ?_)
     refine .sub (.wk 6 rfl) ?_
     refine .st (mk 138 [] [(6,.s53 ([] : List S53)),(7,.i r96.2.2)] []) (.ret ?_)
     cases h
     refine blockQ.ret ?_
     refine thenQ_ps ?_
     refine PostI.os ?_
     rintro rfl
     refine blockQ.ret ?_
     refine PostJ.out (by simp) ?_
     rintro rfl
     refine blockQ.ret ?_
     refine thenQ_ps ?_
     exact FinC.rs
    refine .condF rfl (Bool.eq_false_iff.2 c97) ?_
    refine .skip (blockQ.normal (thenQ_normal (.region ?_)))
    replace h := csome h;obtain ⟨v98,hv98,h⟩ := h
    refine .rk 2 fun K k => ?_;simp [hv98];refine k ?_
    refine .nil ?_
    cases h
    refine PostI.next ?_
    exact Sub.tt
   refine .condF rfl (decide_eq_false c92) ?_
   refine .exit ?_
   cases h
   refine thenQ_ps ?_
   refine PostI.os ?_
   rintro rfl
   refine blockQ.hit (PostJ.next ?_)
   exact Sub.tt
  rintro ⟨⟩ h
  refine blockQ.normal (thenQ_normal (.seqR ?_))
  replace h := bsome h;obtain ⟨x99,hx99,h⟩ := h
  obtain ⟨hx99,hx99b,hx99c⟩ := idx_someN (n := 0) hx99
  refine .rk 5 fun K k => ?_;simp [hx99];refine k ?_
  refine .nil (.ret ?_)
  cases h
  exact FinC.rs
 refine .condF rfl (Bool.eq_false_iff.2 c69) ?_
 refine .skip (blockQ.normal (thenQ_normal (.seqR ?_)))
 replace h := bsome h;obtain ⟨x100,hx100,h⟩ := h
 obtain ⟨hx100,hx100b,hx100c⟩ := idx_someN (n := 0) hx100
 refine .rk 5 fun K k => ?_;simp [hx100];refine k ?_
 refine .nil (.ret ?_)
 cases h
 exact FinC.rs
def d77 (_N : Nat) (a0 : S53) (a1 : S53) : Option Bool :=
 some (decide (a0.Name = a1.Name))
theorem p77 (N : Nat) (a0 : S53) (a1 : S53) (r : Bool) (h : d77 N a0 a1 = some r) : FunC Tryz.prog 77 [.agg (k53 a0),.d (.pim [.lit (.string a1.Name),.lit (.int .i64 a1.Kind),.lit (.bool a1.Nullable)])] (.b r) := by
 unfold d77 at h
 refine FunC.enter 9 [(0,.agg (k53 a0)),(1,.d (.pim [.lit (.string a1.Name),.lit (.int .i64 a1.Kind),.lit (.bool a1.Nullable)]))] (by simp) Tryz.func77 rfl (of_decide_eq_true rfl) rfl rfl ?_
 refine .seqR ?_
 refine .rr 2 ?_
 refine .nil (.seqR ?_)
 refine .rr 6 ?_
 refine .nil (.ret ?_)
 cases h
 exact FinC.rs
def d76 (N : Nat) (a0 : (List S53)) (p1 : S53 → Option Bool) : Option Bool :=
 (d67 N a0 p1).bind fun r1 =>
 some (decide (r1 ≥ 0))
theorem p76 (N : Nat) (a0 : (List S53)) (g1 : Nat) (cs1 : List D) (p1 : S53 → Option Bool) (ent_1 : Rp.Enters Tryz.prog g1) (hp1 : ∀ a0 r,p1 a0 = some r → FunC Tryz.prog g1 ([.agg (k53 a0)] ++ cs1.map .d) (.b r)) (r : Bool) (h : d76 N a0 p1 = some r) : FunC Tryz.prog 76 [.s53 a0,.fg g1 cs1] (.b r) := by
 unfold d76 at h
 refine FunC.enter 9 [(0,.s53 a0),(1,.fg g1 cs1)] (by simp) Tryz.func76 rfl (of_decide_eq_true rfl) rfl rfl ?_
 refine .seqR ?_
 refine .rr 1 ?_
 refine .nil (.seqR ?_)
 refine .rr 2 ?_
 refine .tt [(5,.s53 a0),(6,.fg g1 cs1)] [] ?_
 replace h := bsome h;obtain ⟨r1,hr1,h⟩ := h
 refine .callL (d := 7) (p67 N a0 g1 cs1 p1 ent_1 hp1 r1 hr1) (by simp) rfl rfl (by simp <;> rfl) (by simp <;> rfl) ent67 (by simp <;> rfl) ?_
 refine .rr 2 ?_
 refine .nil (.ret ?_)
 cases h
 exact FinC.rs
def d51 : (N : Nat) → (a0 : S122) → (a1 : S34) → Option ((List S53) × Int)
 | 0,_,_ => none
 | N + 1,a0,a1 =>
  (d74 N a1).bind fun r1 =>
  if (!r1) = true then (
   some (([] : List S53),3)
  ) else
  bindO (β := List (List S53)) (ρ := ((List S53) × Int)) (
   iterN (σ := ((List (List S53)) × Int)) (ρ := (Out (List (List S53)) ((List S53) × Int))) (fun ((l9,v10) : ((List (List S53)) × Int)) =>
    if v10 < (a1.Inputs.length : Int) then (
     (idx a1.Inputs v10).bind fun x29 =>
     (d51 N a0 x29).bind fun r31 =>
     if (r31.2 != 0) then (
      some (.inr (.ret (([] : List S53),r31.2)))
     ) else
     (appL 24 l9 [r31.1]).bind fun _l33 =>
     (chkI (v10 + 1)).bind fun v34 =>
     some (.inl ((l9 ++ [r31.1]),v34))
    ) else
    some (.inr (.go l9))
   ) N (([] : List (List S53)),0)
  ) fun (l27 : List (List S53)) =>
  (d75 N a0 a1 l27).bind fun r35 =>
  if (r35.2 != 0) then (
   some (([] : List S53),r35.2)
  ) else
  if (r35.1.length : Int) > 20 then (
   some (([] : List S53),2)
  ) else
  bindO (β := Unit) (ρ := ((List S53) × Int)) (
   iterN (σ := Int) (ρ := (Out Unit ((List S53) × Int))) (fun (v45 : Int) =>
    if v45 < (r35.1.length : Int) then (
     (idx r35.1 v45).bind fun x64 =>
     (natI v45 r35.1.length).bind fun n66 =>
     letv (r35.1.take n66) fun l67 =>
     (d76 N l67 (fun b0 => d77 N b0 x64)).bind fun r68 =>
     if r68 = true then (
      some (.inr (.ret (([] : List S53),23)))
     ) else
     (chkI ((n66 : Int) + 1)).bind fun v70 =>
     some (.inl v70)
    ) else
    some (.inr (.go ()))
   ) N 0
  ) fun (_ : Unit) =>
  some (r35.1,0)
theorem p51 (N : Nat) : ∀ (a0 : S122) (a1 : S34) (r : ((List S53) × Int)) (_ : d51 N a0 a1 = some r),FunC Tryz.prog 51 [.agg (k122 a0),.agg (k34 a1)] (.tup [.s53 r.1,.i r.2]) := by
 induction N with
 | zero => intro a0 a1 r h;cases h
 | succ N ih =>
 intro a0 a1 r h
 unfold d51 at h
 refine FunC.enter 66 [(0,.agg (k122 a0)),(1,.agg (k34 a1))] (by simp) Tryz.func51 rfl (of_decide_eq_true rfl) rfl rfl ?_
 refine .seqR ?_
 refine .rr 4 ?_
 refine .nil (.seq (.seqR ?_))
 refine .rr 1 ?_
 refine .tt [(2,.ptr 2 0 0),(3,.ptr 3 0 0),(15,.agg (k34 a1))] (H40 a0 a1) ?_
 replace h := bsome h;obtain ⟨r1,hr1,h⟩ := h
 refine .callL (d := 16) (p74 N a1 r1 hr1) (by simp) rfl rfl (by simp <;> rfl) (by simp <;> rfl) ent74 (by simp <;> rfl) ?_
 refine .rr 1 ?_
 refine .nil ?_
 replace h := isome h;rcases h with ⟨c2,h⟩ | ⟨c2,h⟩
 ·refine .condT rfl c2 ?_
  refine .seqR ?_
  refine .rr 2 ?_
  refine .tt [(4,.z),(5,.i 3)] [] (.nil ?_)
  refine .sub (.wk 4 rfl) ?_
  refine .st (mk 66 [] [(4,.s53 ([] : List S53)),(5,.i 3)] []) (.ret ?_)
  cases h
  refine thenQ_ps ?_
  exact FinC.rs
 ·refine .condF rfl (Bool.eq_false_iff.2 c2) ?_
  refine .skip (thenQ_normal (.seqR ?_))
  refine .rr 1 ?_
  refine .nil (.seq (.seqR ?_))
  refine .rr 4 ?_
  refine .tt [(2,.ptr 2 0 0),(3,.ptr 3 0 0),(6,.z),(19,.s34 a1.Inputs),(20,.i (a1.Inputs.length : Int)),(21,.i 0)] (H40 a0 a1) (.nil ?_)
  refine .lastJ (fun (l27 : List (List S53)) => mk 66 [] (L89 l27.length) (H37 a0 a1 l27)) h ?_ ?_ <;> clear h
  ·intro o h
   refine .block ?_
   refine .iter (fun ((l9,v10) : ((List (List S53)) × Int)) => mk 66 [] (L90 l9.length a1.Inputs a1.Inputs.length v10) (H37 a0 a1 l9)) h (Sub.trans (Sub.nilOwn (t := 6) (id := 37) (T := 43) (n := 1) rfl rfl (by decide)) (by simp;exact Sub.tt)) ?_
   clear h
   rintro ⟨l9,v10⟩ x h
   dsimp only at h ⊢
   refine .seqR ?_
   refine .rr 1 ?_
   refine .nil (.seq ?_)
   replace h := isome h;rcases h with ⟨c28,h⟩ | ⟨c28,h⟩
   ·refine .condT rfl (decide_eq_true c28) ?_
    refine .skip (thenQ_normal (.seq (.block (.seqR ?_))))
    replace h := xsome h;obtain ⟨x29,k30,hx29k,hx29,hx29a,hx29b,h⟩ := h
    refine .rk 4 fun K k => ?_;simp [hx29,hx29k,hx29a];refine k ?_
    refine .nil (.seqR ?_)
    refine .rr 2 ?_
    refine .tt (L90 l9.length a1.Inputs a1.Inputs.length v10 ++ [(26,.agg (k122 a0)),(27,.agg (k34 x29))]) (H37 a0 a1 l9) ?_
    replace h := bsome h;obtain ⟨r31,hr31,h⟩ := h
    refine .callC (d := 28) (ih a0 x29 r31 hr31) (by simp) rfl rfl (by simp <;> rfl) (by simp <;> rfl) ent51 (by simp) (.inl ⟨by simp,by simp⟩) ?_
    refine .rr 5 ?_
    refine .nil (.seq (.seqR ?_))
    refine .rr 2 ?_
    refine .nil ?_
    replace h := isome h;rcases h with ⟨c32,h⟩ | ⟨c32,h⟩
    ·refine .condT rfl c32 ?_
     refine .seqR ?_
     refine .rr 3 ?_
     refine .tt [(4,.z),(5,.i r31.2)] [] (.nil ?_)
     refine .sub (.wk 4 rfl) ?_
     refine .st (mk 66 [] [(4,.s53 ([] : List S53)),(5,.i r31.2)] []) (.ret ?_)
     cases h
     refine thenQ_ps ?_
     refine blockQ.ret ?_
     refine thenQ_ps ?_
     refine PostI.os ?_
     rintro rfl
     refine blockQ.ret ?_
     refine PostJ.out (by simp) ?_
     rintro rfl
     refine thenQ_ps ?_
     exact FinC.rs
    ·refine .condF rfl (Bool.eq_false_iff.2 c32) ?_
     refine .skip (thenQ_normal (.region ?_))
     replace h := bsome h;obtain ⟨l33,hl33,h⟩ := h
     obtain ⟨hl33a,hl33⟩ := appL_some hl33
     subst hl33
     try simp only [List.length_cons,List.length_nil,Nat.zero_add] at hl33a
     refine .runK [36] 5 fun K k => ?_;simp [hl33a];refine k _ _ ?_;clear k K
     refine .tt [(2,.ptr 2 0 0),(3,.ptr 3 0 0),(6,.ref 37 0 ((l9 ++ [r31.1]).length)),(19,.s34 a1.Inputs),(20,.i (a1.Inputs.length : Int)),(21,.i v10)] [(2,some (.box (k122 a0))),(3,some (.box (k34 a1))),(37,R43 (l9 ++ [r31.1]))] (.nil (blockQ.normal (thenQ_normal (.region ?_))))
     replace h := csome h;obtain ⟨v34,hv34,h⟩ := h
     refine .rk 2 fun K k => ?_;simp [hv34];refine k ?_
     refine .nil ?_
     cases h
     refine PostI.next ?_
     exact Sub.tt
   ·refine .condF rfl (decide_eq_false c28) ?_
    refine .exit ?_
    cases h
    refine thenQ_ps ?_
    refine PostI.os ?_
    rintro rfl
    refine blockQ.hit (PostJ.next ?_)
    exact Sub.tt
  ·rintro l27 h
   refine thenQ_normal (.seqR ?_)
   refine .rr 3 ?_
   refine .tt (L91 a0.s.Tables a0.s.ForeignKeys a0.s.Constraints a0.vars a1.Kind a1.Table a1.Names a1.Exprs a1.Aggregates a1.Descending a1.Count a1.Offset a1.Inputs ++ [(42,.ref 37 0 l27.length)]) [(37,R43 l27)] ?_
   refine .sub (.freeze 37 rfl) ?_
   refine .st (mk 66 [] (L91 a0.s.Tables a0.s.ForeignKeys a0.s.Constraints a0.vars a1.Kind a1.Table a1.Names a1.Exprs a1.Aggregates a1.Descending a1.Count a1.Offset a1.Inputs ++ [(42,.ls53 l27)]) []) ?_
   replace h := bsome h;obtain ⟨r35,hr35,h⟩ := h
   refine .callC (d := 43) (p75 N a0 a1 l27 r35 hr35) (by simp) rfl rfl (by simp <;> rfl) (by simp <;> rfl) ent75 (by simp) (.inl ⟨by simp,by simp⟩) ?_
   refine .rr 5 ?_
   refine .nil (.seq (.seqR ?_))
   refine .rr 2 ?_
   refine .nil ?_
   replace h := isome h;rcases h with ⟨c36,h⟩ | ⟨c36,h⟩
   ·refine .condT rfl c36 ?_
    refine .seqR ?_
    refine .rr 3 ?_
    refine .tt [(4,.z),(5,.i r35.2)] [] (.nil ?_)
    refine .sub (.wk 4 rfl) ?_
    refine .st (mk 66 [] [(4,.s53 ([] : List S53)),(5,.i r35.2)] []) (.ret ?_)
    cases h
    refine thenQ_ps ?_
    exact FinC.rs
   ·refine .condF rfl (Bool.eq_false_iff.2 c36) ?_
    refine .skip (thenQ_normal (.seq (.seqR ?_)))
    refine .rr 3 ?_
    refine .nil ?_
    replace h := isome h;rcases h with ⟨c37,h⟩ | ⟨c37,h⟩
    ·refine .condT rfl (decide_eq_true c37) ?_
     refine .seqR ?_
     refine .rr 2 ?_
     refine .tt [(4,.z),(5,.i 2)] [] (.nil ?_)
     refine .sub (.wk 4 rfl) ?_
     refine .st (mk 66 [] [(4,.s53 ([] : List S53)),(5,.i 2)] []) (.ret ?_)
     cases h
     refine thenQ_ps ?_
     exact FinC.rs
    ·refine .condF rfl (decide_eq_false c37) ?_
     refine .skip (thenQ_normal (.seq (.seqR ?_)))
     refine .rr 3 ?_
     refine .tt (L92 r35.1 r35.1.length ++ [(54,.i 0)]) [] (.nil ?_)
     refine .lastJ (fun (_ : Unit) => mk 66 [] [(11,.s53 r35.1)] []) h ?_ ?_ <;> clear h
     ·intro o h
      refine .block ?_
      refine .iter (fun (v45 : Int) => mk 66 [] (L93 r35.1 r35.1.length v45) []) h Sub.tt ?_
      clear h
      rintro v45 x h
      refine .seqR ?_
      refine .rr 1 ?_
      refine .nil (.seq ?_)
      replace h := isome h;rcases h with ⟨c63,h⟩ | ⟨c63,h⟩
      ·refine .condT rfl (decide_eq_true c63) ?_
       refine .skip (thenQ_normal (.seq (.block (.seqR ?_))))
       replace h := xsome h;obtain ⟨x64,k65,hx64k,hx64,hx64a,hx64b,h⟩ := h
       refine .rk 6 fun K k => ?_;simp [hx64,hx64k,hx64a];refine k ?_
       refine .tt [(11,.s53 r35.1),(13,.i v45),(14,.ptr 14 0 0),(52,.s53 r35.1),(53,.i (r35.1.length : Int)),(54,.i v45)] (H61 x64) (.nil (.seqR ?_))
       replace h := bsome h;obtain ⟨n66,gn66,h⟩ := h
       obtain ⟨hn66a,hn66⟩ := natI_some gn66
       clear gn66
       subst hn66a
       replace h := lsome h;obtain ⟨l67,gl67,h⟩ := h
       have hl67 : ((r35.1.map cS53).take n66) = l67.map cS53 := by rw [← gl67];simp
       clear gl67
       refine .rk 4 fun K k => ?_;simp [hn66,hl67];refine k ?_
       refine .tt (L92 r35.1 r35.1.length ++ [(54,.i (n66 : Int)),(61,.s53 l67),(62,.fn (.func 77) [.ptr 14 0 0])]) (H61 x64) ?_
       replace h := bsome h;obtain ⟨r68,hr68,h⟩ := h
       refine .callL (d := 63) (p76 N l67 77 [.pim [.lit (.string x64.Name),.lit (.int .i64 x64.Kind),.lit (.bool x64.Nullable)]] (fun b0 => d77 N b0 x64) ent77 (fun b0 r h => p77 N b0 x64 r h) r68 hr68) (by simp) rfl rfl (by simp <;> rfl) (by simp <;> rfl) ent76 (by simp <;> rfl) ?_
       refine .st (mk 66 [] (L92 r35.1 r35.1.length ++ [(54,.i (n66 : Int)),(61,.s53 l67),(62,.fn (.func 77) [.ptr 14 0 0]),(63,.b r68)]) (H61 x64)) (.nil ?_)
       replace h := isome h;rcases h with ⟨c69,h⟩ | ⟨c69,h⟩
       ·refine .condT rfl c69 ?_
        refine .seqR ?_
        refine .rr 2 ?_
        refine .tt [(4,.z),(5,.i 23)] [] (.nil ?_)
        refine .sub (.wk 4 rfl) ?_
        refine .st (mk 66 [] [(4,.s53 ([] : List S53)),(5,.i 23)] []) (.ret ?_)
        cases h
        refine blockQ.ret ?_
        refine thenQ_ps ?_
        refine PostI.os ?_
        rintro rfl
        refine blockQ.ret ?_
        refine PostJ.out (by simp) ?_
        rintro rfl
        refine thenQ_ps ?_
        exact FinC.rs
       ·refine .condF rfl (Bool.eq_false_iff.2 c69) ?_
        refine .skip (blockQ.normal (thenQ_normal (.region ?_)))
        replace h := csome h;obtain ⟨v70,hv70,h⟩ := h
        refine .rk 2 fun K k => ?_;simp [hv70];refine k ?_
        refine .nil ?_
        cases h
        refine PostI.next ?_
        exact Sub.tt
      ·refine .condF rfl (decide_eq_false c63) ?_
       refine .exit ?_
       cases h
       refine thenQ_ps ?_
       refine PostI.os ?_
       rintro rfl
       refine blockQ.hit (PostJ.next ?_)
       exact Sub.tt
     ·rintro ⟨⟩ h
      refine thenQ_normal (.seqR ?_)
      refine .rr 3 ?_
      refine .nil (.ret ?_)
      cases h
      exact FinC.rs
end Go.Proofs.YtmgddgcniacnbaaGreatDoor
