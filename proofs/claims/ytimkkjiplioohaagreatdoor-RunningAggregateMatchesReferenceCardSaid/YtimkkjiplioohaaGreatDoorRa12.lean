/- Functions of the program as functional programs; the code computes them. -/
import Derived.Test.YtimkkjiplioohaaGreatDoorRa11
namespace Go.Proofs.YtimkkjiplioohaaGreatDoor
set_option maxRecDepth 100000
set_option maxHeartbeats 4000000
open Go.Ab Go.Rp
attribute [-simp] List.all_eq_true Array.all_toList Array.all_eq_true
def d38 (N : Nat) (a0 : (List (List S61))) (a1 : S65) (a2 : S65) (a3 : (List S75)) (a4 : Int) : Option ((List (List S61)) × Int) :=
 if (a1.Descending.length : Int) > (a1.Columns.length : Int) then (
  some (([] : List (List S61)),3)
 ) else
 (d37 N [a1.Columns,a2.Columns]).bind fun r2 =>
 (d83 N a1.Descending).bind fun r3 =>
 Option.bind (α := List Bool) (
  iterN (σ := List Bool) (ρ := List Bool) (fun (l6 : List Bool) =>
   if (l6.length : Int) < (a1.Columns.length : Int) then (
    (appL 1 l6 [false]).bind fun _l14 =>
    some (.inl (l6 ++ [false]))
   ) else
   some (.inr l6)
  ) N r3
 ) fun (l12 : List Bool) =>
 (appL 1 l12 a2.Descending).bind fun _l15 =>
 (d40 N a0 (S65.mk r2 (l12 ++ a2.Descending)) a4).bind fun r16 =>
 if (r16.2.2 != 0) then (
  some (([] : List (List S61)),r16.2.2)
 ) else
 (d69 N a0 a3).bind fun r18 =>
 if (r18 != 0) then (
  some (([] : List (List S61)),r18)
 ) else
 Option.bind (α := List (List S61)) (
  iterN (σ := ((List (List S61)) × Int × Int)) (ρ := List (List S61)) (fun ((l128,v129,v130) : ((List (List S61)) × Int × Int)) =>
   if v130 < (r16.1.length : Int) then (
    (idx r16.1 v130).bind fun x254 =>
    (idx r16.1 v129).bind fun x256 =>
    (d70 N x256 x254 a1).bind fun r258 =>
    Option.bind (α := Int) (
     if (r258 != 0) then (
      some v130
     ) else
     some v129
    ) fun (v260 : Int) =>
    (d39 N x254).bind fun r262 =>
    Option.bind (α := (Int × (List S61))) (
     iterN (σ := (Int × (List S61) × Int)) (ρ := (Int × (List S61))) (fun ((v272,l273,v274) : (Int × (List S61) × Int)) =>
      if v274 < (a3.length : Int) then (
       (idx a3 v274).bind fun x301 =>
       (chkI (v130 + 1)).bind fun v303 =>
       (natI v303 r16.1.length).bind fun n304 =>
       (natI v272 n304).bind fun n305 =>
       letv ((r16.1.take n304).drop n305) fun l306 =>
       (d72 N l306 x301).bind fun r307 =>
       (appL 32 l273 [r307]).bind fun _l308 =>
       (chkI (v274 + 1)).bind fun v309 =>
       some (.inl ((n305 : Int),(l273 ++ [r307]),v309))
      ) else
      some (.inr (v272,l273))
     ) N (v260,r262,0)
    ) fun ((v298,l299) : (Int × (List S61))) =>
    (appL 24 l128 [l299]).bind fun _l310 =>
    (chkI (v130 + 1)).bind fun v311 =>
    some (.inl ((l128 ++ [l299]),v298,v311))
   ) else
   some (.inr l128)
  ) N (([] : List (List S61)),0,0)
 ) fun (l252 : List (List S61)) =>
 some (l252,0)
theorem p38 (N : Nat) (a0 : (List (List S61))) (a1 : S65) (a2 : S65) (a3 : (List S75)) (a4 : Int) (r : ((List (List S61)) × Int)) (h : d38 N a0 a1 a2 a3 a4 = some r) : FunC Tryz.prog 38 [.ls61 a0,.agg [.si a1.Columns,.sb a1.Descending],.agg [.si a2.Columns,.sb a2.Descending],.s75 a3,.i a4] (.tup [.ls61 r.1,.i r.2]) := by
 unfold d38 at h
 refine FunC.enter 117 [(0,.ls61 a0),(1,.agg [.si a1.Columns,.sb a1.Descending]),(2,.agg [.si a2.Columns,.sb a2.Descending]),(3,.s75 a3),(4,.i a4)] (by simp) Tryz.func38 rfl (of_decide_eq_true rfl) rfl rfl ?_
 refine .seqR ?_
 refine .rr 4 ?_
 refine .tt (L55 a0 a3 a4) (H2 a1 a2) (.nil (.seq (.seqR ?_)))
 refine .rr 7 ?_
 refine .tt (L55 a0 a3 a4 ++ [(30,.b (decide ((a1.Descending.length : Int) > (a1.Columns.length : Int))))]) (H2 a1 a2) (.nil ?_)
 replace h := isome h;rcases h with ⟨c1,h⟩ | ⟨c1,h⟩
 ·have c1_ : decide ((a1.Descending.length : Int) > (a1.Columns.length : Int)) = true := decide_eq_true c1
  refine .condT rfl c1_ ?_
  refine .seqR ?_
  refine .rr 2 ?_
  refine .tt [(10,.z),(11,.i 3)] [] (.nil ?_)
  refine .sub (.wk 10 rfl) ?_
  refine .st (mk 117 [] [(10,.ls61 ([] : List (List S61))),(11,.i 3)] []) (.ret ?_)
  cases h
  refine thenQ_ps ?_
  exact FinC.rs
 have c1_ : decide ((a1.Descending.length : Int) > (a1.Columns.length : Int)) = false := decide_eq_false c1
 refine .condF rfl c1_ ?_
 refine .skip (thenQ_normal ?_)
 replace h := bsome h;obtain ⟨r2,hr2,h⟩ := h
 replace h := bsome h;obtain ⟨r3,hr3,h⟩ := h
 refine .seqAnyS [[],[0],[],[2],[0,1,2,3],[0,1,2,3,4],[],[6],[0,1,2,3,4,5,6,7],[0,1,2,3,4,5,6,7,8],[],[0,1,2,3,4,5,6,7,8,9,10]] (fun (b : Nat → Bool) => mk 117 [] [(0,.ls61 a0),(3,.s75 a3),(4,.i a4),(6,.ptr 6 0 0),(7,.ptr 7 0 0),(12,(if b 10 then .ptr 12 0 0 else .junk)),(31,(if b 0 then .ptr 6 0 0 else .junk)),(32,(if b 1 then .si a1.Columns else .junk)),(33,(if b 2 then .ptr 7 0 0 else .junk)),(34,(if b 3 then .si a2.Columns else .junk)),(35,(if b 4 then .d (.sl ([a1.Columns,a2.Columns].map (cL (cI .i64)))) else .junk)),(36,(if b 5 then .si r2 else .junk)),(37,(if b 6 then .ptr 6 0 1 else .junk)),(38,(if b 7 then .sb a1.Descending else .junk)),(39,(if b 8 then .ref 39 0 r3.length else .junk)),(40,(if b 9 then .agg [.si r2,.ref 39 0 r3.length] else .junk))] [(6,some (.box [.si a1.Columns,.sb a1.Descending])),(7,some (.box [.si a2.Columns,.sb a2.Descending])),(12,(if b 11 then some (.box [.si r2,.ref 39 0 r3.length]) else (if b 10 then some (.box [.z,.z]) else none))),(39,(if b 8 then R4 r3 else none))]) (mk 117 [] (L56 a0 a3 a4) (H35 a1 a2 r2 r3)) (by kernel_rfl) (by kernel_rfl) Sub.tt (Steps.cons ?_ (Steps.cons ?_ (Steps.cons ?_ (Steps.cons ?_ (Steps.cons ?_ (Steps.cons ?_ (Steps.cons ?_ (Steps.cons ?_ (Steps.cons ?_ (Steps.cons ?_ (Steps.cons ?_ (Steps.cons ?_ (Steps.nil))))))))))))) ?_ ?_
 iterate 4
  ·intro b h0 ha hd
   have T := fct h0 ha hd;simp at T
   refine .runK [35] 1 fun K k => ?_;simp [T];refine k _ _ ?_;clear k K
   exact .nil .tT
 ·intro b h0 ha hd
  have T := fct h0 ha hd;simp at T
  cases q10 : b 10 <;> (refine Chain.runK [35] 1 fun K k => ?_;simp [T];refine k _ _ ?_;clear k K;exact .nil (.table (by simp [T,q10]) (by simp [T,q10])))
 ·intro b h0 ha hd
  have T := fct h0 ha hd;simp at T
  simp only [T,if_true,if_false,Bool.false_eq_true]
  refine .callC (d := 36) (p37 N [a1.Columns,a2.Columns] r2 hr2) (by simp) rfl rfl (by simp <;> rfl) (by simp <;> rfl) ent37 (by simp) (.inl ⟨by simp,by simp⟩) ?_
  cases q10 : b 10 <;> exact Chain.nil (by simp [T,q10];exact Sub.table (by simp) (by simp))
 iterate 2
  ·intro b h0 ha hd
   have T := fct h0 ha hd;simp at T
   refine .runK [35] 1 fun K k => ?_;simp [T];refine k _ _ ?_;clear k K
   exact .nil .tT
 ·intro b h0 ha hd
  have T := fct h0 ha hd;simp at T
  simp only [T,if_true,if_false,Bool.false_eq_true]
  refine .callO (d := 39) (p83 N a1.Descending r3 hr3) (by simp) rfl rfl (by simp <;> rfl) (by simp <;> rfl) ent83 (by simp) ⟨by simp,by simp⟩ ?_
  cases q10 : b 10 <;> exact Chain.nil (by simp [T,q10];exact Sub.table (by simp) (by simp))
 ·intro b h0 ha hd
  have T := fct h0 ha hd;simp at T
  refine .runK [35] 1 fun K k => ?_;simp [T];refine k _ _ ?_;clear k K
  exact .nil .tT
 ·intro b h0 ha hd
  have T := fct h0 ha hd;simp at T
  cases q8 : b 8 <;> (refine Chain.runK [35] 1 fun K k => ?_;simp [T];refine k _ _ ?_;clear k K;exact .nil (.table (by simp [q8]) (by simp [T,q8])))
 ·intro b h0 ha hd
  have T := fct h0 ha hd;simp at T
  refine .runK [35] 1 fun K k => ?_;simp [T];refine k _ _ ?_;clear k K
  exact .nil .tT
 ·intro b hb
  have T := FA_of (n := 12) hb;simp at T
  exact Sub.tT
 skip
 refine .seqN (fun (l12 : List Bool) => mk 117 [] (L56 a0 a3 a4) (H35 a1 a2 r2 l12)) h ?_ ?_ <;> clear h
 ·intro o h
  refine .block ?_
  refine .iter (fun (l6 : List Bool) => mk 117 [] (L56 a0 a3 a4) (H35 a1 a2 r2 l6)) h Sub.tt ?_
  clear h
  rintro l6 x h
  refine .seq (.seqR ?_)
  refine .rr 7 ?_
  refine .tt (L56 a0 a3 a4 ++ [(47,.b (decide ((l6.length : Int) < (a1.Columns.length : Int))))]) (H35 a1 a2 r2 l6) (.nil ?_)
  replace h := isome h;rcases h with ⟨c13,h⟩ | ⟨c13,h⟩
  ·have c13_ : decide ((l6.length : Int) < (a1.Columns.length : Int)) = true := decide_eq_true c13
   refine .condT rfl c13_ ?_
   refine .skip (thenQ_normal (.block (.region ?_)))
   replace h := bsome h;obtain ⟨l14,hl14,h⟩ := h
   obtain ⟨hl14a,hl14⟩ := appL_some hl14
   subst hl14
   try simp only [List.length_cons,List.length_nil,Nat.zero_add,Nat.mul_one] at hl14a
   refine .runK [50] 6 fun K k => ?_;simp [hl14a];refine k _ _ ?_;clear k K
   refine .tt (L56 a0 a3 a4) [(6,some (.box [.si a1.Columns,.sb a1.Descending])),(7,some (.box [.si a2.Columns,.sb a2.Descending])),(12,some (.box [.si r2,.ref 39 0 ((l6 ++ [false]).length)])),(39,R4 (l6 ++ [false]))] (.nil ?_)
   cases h
   refine blockQ.normal (PostI.next ?_)
   exact Sub.tt
  have c13_ : decide ((l6.length : Int) < (a1.Columns.length : Int)) = false := decide_eq_false c13
  refine .condF rfl c13_ ?_
  refine .exit ?_
  cases h
  refine thenQ_ps ?_
  refine PostI.os ?_
  rintro rfl
  refine blockQ.hit (PostN.next ?_)
  exact Sub.tt
 rintro l12 h
 refine .seqR ?_
 replace h := bsome h;obtain ⟨l15,hl15,h⟩ := h
 obtain ⟨hl15a,hl15⟩ := appL_some hl15
 subst hl15
 try simp only [Nat.mul_one] at hl15a
 refine .rk 7 fun K k => ?_;simp [hl15a];refine k ?_
 refine .tt [(0,.ls61 a0),(3,.s75 a3),(4,.i a4),(6,.ptr 6 0 0),(12,.ptr 12 0 0)] [(6,some (.box [.si a1.Columns,.sb a1.Descending])),(12,some (.box [.si r2,.ref 39 0 ((l12 ++ a2.Descending).length)])),(39,R4 (l12 ++ a2.Descending))] (.nil (.seqR ?_))
 refine .rr 3 ?_
 refine .tt (L57 a0 a3 ++ [(61,.agg [.si r2,.ref 39 0 ((l12 ++ a2.Descending).length)]),(62,.i a4)]) [(6,some (.box [.si a1.Columns,.sb a1.Descending])),(39,R4 (l12 ++ a2.Descending))] ?_
 refine .sub (.freeze 39 rfl) ?_
 refine .st (mk 117 [] (L57 a0 a3 ++ [(61,.agg [.si r2,.sb (l12 ++ a2.Descending)]),(62,.i a4)]) (H13 a1)) ?_
 replace h := bsome h;obtain ⟨r16,hr16,h⟩ := h
 refine .callC (d := 63) (p40 N a0 (S65.mk r2 (l12 ++ a2.Descending)) a4 r16 hr16) (by simp) rfl rfl (by simp <;> rfl) (by simp <;> rfl) ent40 (by simp) (.inl ⟨by simp,by simp⟩) ?_
 refine .st (mk 117 [] (L57 a0 a3 ++ [(61,.agg [.si r2,.sb (l12 ++ a2.Descending)]),(62,.i a4),(63,.tup [.ls61 r16.1,.i r16.2.1,.i r16.2.2])]) (H13 a1)) ?_
 refine .rr 7 ?_
 refine .tt [(0,.ls61 a0),(3,.s75 a3),(6,.ptr 6 0 0),(13,.ls61 r16.1),(15,.i r16.2.2)] (H13 a1) (.nil (.seq (.seqR ?_)))
 refine .rr 2 ?_
 refine .tt [(0,.ls61 a0),(3,.s75 a3),(6,.ptr 6 0 0),(13,.ls61 r16.1),(15,.i r16.2.2),(68,.b (r16.2.2 != 0))] (H13 a1) (.nil ?_)
 replace h := isome h;rcases h with ⟨c17,h⟩ | ⟨c17,h⟩
 ·have c17_ : (r16.2.2 != 0) = true := c17
  refine .condT rfl c17_ ?_
  refine .seqR ?_
  refine .rr 3 ?_
  refine .tt [(10,.z),(11,.i r16.2.2)] [] (.nil ?_)
  refine .sub (.wk 10 rfl) ?_
  refine .st (mk 117 [] [(10,.ls61 ([] : List (List S61))),(11,.i r16.2.2)] []) (.ret ?_)
  cases h
  refine thenQ_ps ?_
  exact FinC.rs
 have c17_ : (r16.2.2 != 0) = false := Bool.eq_false_iff.2 c17
 refine .condF rfl c17_ ?_
 refine .skip (thenQ_normal (.seq (.seqR ?_)))
 refine .rr 2 ?_
 refine .tt (L58 a3 r16.1 ++ [(70,.ls61 a0),(71,.s75 a3)]) (H13 a1) ?_
 replace h := bsome h;obtain ⟨r18,hr18,h⟩ := h
 refine .callL (d := 72) (p69 N a0 a3 r18 hr18) (by simp) rfl rfl (by simp <;> rfl) (by simp <;> rfl) ent69 (by simp <;> rfl) ?_
 refine .st (mk 117 [] (L58 a3 r16.1 ++ [(70,.ls61 a0),(71,.s75 a3),(72,.i r18)]) (H13 a1)) ?_
 refine .rr 1 ?_
 refine .tt (L58 a3 r16.1 ++ [(16,.i r18)]) (H13 a1) (.nil (.seqR ?_))
 refine .rr 2 ?_
 refine .tt (L58 a3 r16.1 ++ [(16,.i r18),(74,.b (r18 != 0))]) (H13 a1) (.nil ?_)
 replace h := isome h;rcases h with ⟨c19,h⟩ | ⟨c19,h⟩
 ·have c19_ : (r18 != 0) = true := c19
  refine .condT rfl c19_ ?_
  refine .seqR ?_
  refine .rr 3 ?_
  refine .tt [(10,.z),(11,.i r18)] [] (.nil ?_)
  refine .sub (.wk 10 rfl) ?_
  refine .st (mk 117 [] [(10,.ls61 ([] : List (List S61))),(11,.i r18)] []) (.ret ?_)
  cases h
  refine thenQ_ps ?_
  exact FinC.rs
 have c19_ : (r18 != 0) = false := Bool.eq_false_iff.2 c19
 refine .condF rfl c19_ ?_
 refine .skip (thenQ_normal (.seqR ?_))
 refine .rr 1 ?_
 refine .tt (L59 a3 r16.1) (H13 a1) (.nil (.seqR ?_))
 refine .rr 1 ?_
 refine .tt (L59 a3 r16.1 ++ [(18,.i 0)]) (H13 a1) (.nil (.seq (.seqR ?_)))
 refine .rr 3 ?_
 refine .tt (L59 a3 r16.1 ++ [(18,.i 0),(76,.ls61 r16.1),(77,.i (r16.1.length : Int)),(78,.i 0)]) (H13 a1) (.nil ?_)
 refine .lastN (fun (l252 : List (List S61)) => mk 117 [] [(17,.ref 114 0 l252.length)] [(114,R57 l252)]) h ?_ ?_ <;> clear h
 ·intro o h
  refine .block ?_
  refine .iter (fun ((l128,v129,v130) : ((List (List S61)) × Int × Int)) => mk 117 [] (L60 a3 r16.1 l128.length v129 ++ [(76,.ls61 r16.1),(77,.i (r16.1.length : Int)),(78,.i v130)]) (H15 a1 l128)) h (Sub.trans (Sub.nilOwn (t := 17) (id := 114) (T := 57) (n := 1) rfl rfl (by decide)) (by simp;exact Sub.tt)) ?_
  clear h
  rintro ⟨l128,v129,v130⟩ x h
  dsimp only at h ⊢
  refine .seqR ?_
  refine .rr 1 ?_
  refine .tt (L60 a3 r16.1 l128.length v129 ++ [(76,.ls61 r16.1),(77,.i (r16.1.length : Int)),(78,.i v130),(79,.b (decide (v130 < (r16.1.length : Int))))]) (H15 a1 l128) (.nil (.seq ?_))
  replace h := isome h;rcases h with ⟨c253,h⟩ | ⟨c253,h⟩
  ·have c253_ : decide (v130 < (r16.1.length : Int)) = true := decide_eq_true c253
   refine .condT rfl c253_ ?_
   refine .skip (thenQ_normal (.seq (.block (.seqR ?_))))
   replace h := xsome h;obtain ⟨x254,k255,hx254k,hx254,hx254a,hx254b,h⟩ := h
   refine .rk 5 fun K k => ?_;simp [hx254,hx254k,hx254a];refine k ?_
   refine .tt (L61 a3 r16.1 l128.length v129 v130 x254 r16.1.length) (H15 a1 l128) (.nil (.seq ?_))
   refine .seqQ (by kernel_rfl) (by kernel_rfl) ?_
   replace h := xsome h;obtain ⟨x256,k257,hx256k,hx256,hx256a,hx256b,h⟩ := h
   refine .rq 6 fun K k => ?_;simp [hx256,hx256k,hx256a];refine k ?_
   refine .tt (L61 a3 r16.1 l128.length v129 v130 x254 r16.1.length ++ [(86,.s61 x256),(87,.s61 x254),(88,.agg [.si a1.Columns,.sb a1.Descending])]) (H15 a1 l128) ?_
   replace h := bsome h;obtain ⟨r258,hr258,h⟩ := h
   refine .callL (d := 89) (p70 N x256 x254 a1 r258 hr258) (by simp) rfl rfl (by simp <;> rfl) (by simp <;> rfl) ent70 (by simp <;> rfl) ?_
   refine .st (mk 117 [] (L61 a3 r16.1 l128.length v129 v130 x254 r16.1.length ++ [(86,.s61 x256),(87,.s61 x254),(88,.agg [.si a1.Columns,.sb a1.Descending]),(89,.i r258)]) (H15 a1 l128)) ?_
   refine .rq 1 fun K k => ?_;simp;refine k ?_
   refine .tt (L61 a3 r16.1 l128.length v129 v130 x254 r16.1.length ++ [(90,.b (r258 != 0))]) (H15 a1 l128) (.nil ?_)
   refine .lastN (fun (v260 : Int) => mk 117 [] (L61 a3 r16.1 l128.length v260 v130 x254 r16.1.length) (H15 a1 l128)) h ?_ ?_ <;> clear h
   ·intro o h
    replace h := isome h;rcases h with ⟨c261,h⟩ | ⟨c261,h⟩
    ·have c261_ : (r258 != 0) = true := c261
     refine .condT rfl c261_ ?_
     refine .region ?_
     refine .rr 2 ?_
     refine .tt (L60 a3 r16.1 l128.length v130 ++ [(19,.i v130),(20,.s61 x254),(76,.ls61 r16.1),(77,.i (r16.1.length : Int)),(78,.i v130)]) (H15 a1 l128) (.nil ?_)
     cases h
     refine PostN.next ?_
     exact Sub.tt
    have c261_ : (r258 != 0) = false := Bool.eq_false_iff.2 c261
    refine .condF rfl c261_ ?_
    refine .skip ?_
    cases h
    refine PostN.next ?_
    exact Sub.tt
   rintro v260 h
   refine thenQ_normal (.seqR ?_)
   refine .rr 1 ?_
   refine .tt (L60 a3 r16.1 l128.length v260 ++ [(19,.i v130),(76,.ls61 r16.1),(77,.i (r16.1.length : Int)),(78,.i v130),(92,.s61 x254)]) (H15 a1 l128) ?_
   replace h := bsome h;obtain ⟨r262,hr262,h⟩ := h
   refine .callO (d := 93) (p39 N x254 r262 hr262) (by simp) rfl rfl (by simp <;> rfl) (by simp <;> rfl) ent39 (by simp) ⟨by simp,by simp⟩ ?_
   refine .st (mk 117 [] (L60 a3 r16.1 l128.length v260 ++ [(19,.i v130),(76,.ls61 r16.1),(77,.i (r16.1.length : Int)),(78,.i v130),(92,.s61 x254),(93,.ref 93 0 r262.length)]) (H20 a1 r262 l128)) ?_
   refine .rr 1 ?_
   refine .tt (L60 a3 r16.1 l128.length v260 ++ [(19,.i v130),(21,.ref 93 0 r262.length),(76,.ls61 r16.1),(77,.i (r16.1.length : Int)),(78,.i v130)]) (H20 a1 r262 l128) (.nil (.seq (.seqR ?_)))
   refine .rr 3 ?_
   refine .tt (L62 a3 r16.1 l128.length v260 v130 r262.length r16.1.length a3.length ++ [(96,.i 0)]) (H20 a1 r262 l128) (.nil ?_)
   refine .lastN (fun ((v298,l299) : (Int × (List S61))) => mk 117 [] (L60 a3 r16.1 l128.length v298 ++ [(21,.ref 93 0 l299.length),(76,.ls61 r16.1),(77,.i (r16.1.length : Int)),(78,.i v130)]) (H20 a1 l299 l128)) h ?_ ?_ <;> clear h
   ·intro o h
    refine .block ?_
    refine .iter (fun ((v272,l273,v274) : (Int × (List S61) × Int)) => mk 117 [] (L62 a3 r16.1 l128.length v272 v130 l273.length r16.1.length a3.length ++ [(96,.i v274)]) (H20 a1 l273 l128)) h Sub.tt ?_
    clear h
    rintro ⟨v272,l273,v274⟩ x h
    dsimp only at h ⊢
    refine .seqR ?_
    refine .rr 1 ?_
    refine .tt (L62 a3 r16.1 l128.length v272 v130 l273.length r16.1.length a3.length ++ [(96,.i v274),(97,.b (decide (v274 < (a3.length : Int))))]) (H20 a1 l273 l128) (.nil (.seq ?_))
    replace h := isome h;rcases h with ⟨c300,h⟩ | ⟨c300,h⟩
    ·have c300_ : decide (v274 < (a3.length : Int)) = true := decide_eq_true c300
     refine .condT rfl c300_ ?_
     refine .skip (thenQ_normal (.seq (.block (.seqR ?_))))
     replace h := xsome h;obtain ⟨x301,k302,hx301k,hx301,hx301a,hx301b,h⟩ := h
     refine .rk 4 fun K k => ?_;simp [hx301,hx301k,hx301a];refine k ?_
     refine .tt (L60 a3 r16.1 l128.length v272 ++ [(19,.i v130),(21,.ref 93 0 l273.length),(23,.ptr 23 0 0),(76,.ls61 r16.1),(77,.i (r16.1.length : Int)),(78,.i v130),(94,.s75 a3),(95,.i (a3.length : Int)),(96,.i v274)]) [(6,some (.box [.si a1.Columns,.sb a1.Descending])),(23,some (.box [.s x301.Function,.i x301.Column])),(93,R61 l273),(114,R57 l128)] (.nil ?_)
     replace h := csome h;obtain ⟨v303,hv303,h⟩ := h
     replace h := bsome h;obtain ⟨n304,gn304,h⟩ := h
     obtain ⟨hn304a,hn304⟩ := natI_some gn304
     clear gn304
     subst hn304a
     replace h := bsome h;obtain ⟨n305,gn305,h⟩ := h
     obtain ⟨hn305a,hn305⟩ := natI_some gn305
     clear gn305
     subst hn305a
     replace h := lsome h;obtain ⟨l306,gl306,h⟩ := h
     have hl306 : (((r16.1.map (cL cS61)).take n304).drop n305) = l306.map (cL cS61) := by rw [← gl306];simp
     clear gl306
     replace h := bsome h;obtain ⟨r307,hr307,h⟩ := h
     replace h := bsome h;obtain ⟨l308,hl308,h⟩ := h
     obtain ⟨hl308a,hl308⟩ := appL_some hl308
     subst hl308
     try simp only [List.length_cons,List.length_nil,Nat.zero_add] at hl308a
     refine .lastAnyS [[],[],[],[],[3],[1,2,3,4],[],[1,2,3,4,5,6],[1,2,3,4,5,6,7],[0,1,2,3,4,5,6,7,8],[0,1,2,3,4,5,6,7,8,9]] (fun (b : Nat → Bool) => mk 117 [] [(3,.s75 a3),(6,.ptr 6 0 0),(13,.ls61 r16.1),(17,.ref 114 0 l128.length),(18,.i (n305 : Int)),(19,.i v130),(21,(if b 10 then .ref 93 0 ((l273 ++ [r307]).length) else (if b 9 then .junk else .ref 93 0 l273.length))),(23,.ptr 23 0 0),(76,.ls61 r16.1),(77,.i (r16.1.length : Int)),(78,.i v130),(94,.s75 a3),(95,.i (a3.length : Int)),(96,.i v274),(100,(if b 9 then .junk else (if b 0 then .ref 93 0 l273.length else .junk))),(101,(if b 1 then .ls61 r16.1 else .junk)),(102,(if b 2 then .i (n305 : Int) else .junk)),(103,(if b 3 then .i v130 else .junk)),(104,(if b 4 then .i (n304 : Int) else .junk)),(105,(if b 5 then .ls61 l306 else .junk)),(106,(if b 6 then .agg [.s x301.Function,.i x301.Column] else .junk)),(107,(if b 7 then .agg [.i r307.Kind,.i r307.Int,.s r307.Text] else .junk)),(108,(if b 8 then .d (.sl ([r307].map cS61)) else .junk)),(109,(if b 9 then .ref 93 0 ((l273 ++ [r307]).length) else .junk))] [(6,some (.box [.si a1.Columns,.sb a1.Descending])),(23,some (.box [.s x301.Function,.i x301.Column])),(93,(if b 9 then R61 (l273 ++ [r307]) else R61 l273)),(114,R57 l128)]) (mk 117 [] (L58 a3 r16.1 ++ [(17,.ref 114 0 l128.length),(18,.i (n305 : Int)),(19,.i v130),(21,.ref 93 0 ((l273 ++ [r307]).length)),(76,.ls61 r16.1),(77,.i (r16.1.length : Int)),(78,.i v130),(94,.s75 a3),(95,.i (a3.length : Int)),(96,.i v274)]) [(6,some (.box [.si a1.Columns,.sb a1.Descending])),(93,R61 (l273 ++ [r307])),(114,R57 l128)]) (by kernel_rfl) (by kernel_rfl) Sub.tt (Steps.cons ?_ (Steps.cons ?_ (Steps.cons ?_ (Steps.cons ?_ (Steps.cons ?_ (Steps.cons ?_ (Steps.cons ?_ (Steps.cons ?_ (Steps.cons ?_ (Steps.cons ?_ (Steps.cons ?_ (Steps.nil)))))))))))) ?_ ?_
     iterate 7
      ·intro b h0 ha hd
       have T := fct h0 ha hd;simp at T
       refine .runK [108] 1 fun K k => ?_;simp [T,hv303,hn304,hn305,hl306];refine k _ _ ?_;clear k K
       exact .nil .tT
     ·intro b h0 ha hd
      have T := fct h0 ha hd;simp at T
      simp only [T,if_true,if_false,Bool.false_eq_true]
      refine .callC (d := 107) (p72 N l306 x301 r307 hr307) (by simp) rfl rfl (by simp <;> rfl) (by simp <;> rfl) ent72 (by simp) (.inl ⟨by simp,by simp⟩) ?_
      exact .nil (by simp [T];exact Sub.tT)
     ·intro b h0 ha hd
      have T := fct h0 ha hd;simp at T
      refine .runK [108] 1 fun K k => ?_;simp [T];refine k _ _ ?_;clear k K
      exact .nil .tT
     iterate 2
      ·intro b h0 ha hd
       have T := fct h0 ha hd;simp at T
       refine .runK [108] 1 fun K k => ?_;simp [T,hl308a];refine k _ _ ?_;clear k K
       exact .nil .tT
     ·intro b hb
      have T := FA_of (n := 11) hb;simp at T
      exact Sub.tT
     skip
     refine blockQ.normal (thenQ_normal (.region ?_))
     replace h := csome h;obtain ⟨v309,hv309,h⟩ := h
     refine .rk 2 fun K k => ?_;simp [hv309];refine k ?_
     refine .tt (L58 a3 r16.1 ++ [(17,.ref 114 0 l128.length),(18,.i (n305 : Int)),(19,.i v130),(21,.ref 93 0 ((l273 ++ [r307]).length)),(76,.ls61 r16.1),(77,.i (r16.1.length : Int)),(78,.i v130),(94,.s75 a3),(95,.i (a3.length : Int)),(96,.i v309)]) [(6,some (.box [.si a1.Columns,.sb a1.Descending])),(93,R61 (l273 ++ [r307])),(114,R57 l128)] (.nil ?_)
     cases h
     refine PostI.next ?_
     exact Sub.tt
    have c300_ : decide (v274 < (a3.length : Int)) = false := decide_eq_false c300
    refine .condF rfl c300_ ?_
    refine .exit ?_
    cases h
    refine thenQ_ps ?_
    refine PostI.os ?_
    rintro rfl
    refine blockQ.hit (PostN.next ?_)
    exact Sub.tt
   rintro ⟨v298,l299⟩ h
   dsimp only at h ⊢
   refine thenQ_normal (.region ?_)
   refine .runK [113] 2 fun K k => ?_;simp;refine k _ _ ?_;clear k K
   refine .tt (L58 a3 r16.1 ++ [(18,.i v298),(76,.ls61 r16.1),(77,.i (r16.1.length : Int)),(78,.i v130),(111,.ref 114 0 l128.length),(112,.ref 93 0 l299.length)]) (H20 a1 l299 l128) ?_
   refine .sub (.freeze 93 rfl) ?_
   refine .st (mk 117 [] (L58 a3 r16.1 ++ [(18,.i v298),(76,.ls61 r16.1),(77,.i (r16.1.length : Int)),(78,.i v130),(111,.ref 114 0 l128.length),(112,.s61 l299)]) (H15 a1 l128)) ?_
   replace h := bsome h;obtain ⟨l310,hl310,h⟩ := h
   obtain ⟨hl310a,hl310⟩ := appL_some hl310
   subst hl310
   try simp only [List.length_cons,List.length_nil,Nat.zero_add] at hl310a
   refine .runK [113] 3 fun K k => ?_;simp [hl310a];refine k _ _ ?_;clear k K
   refine .tt (L58 a3 r16.1 ++ [(17,.ref 114 0 ((l128 ++ [l299]).length)),(18,.i v298),(76,.ls61 r16.1),(77,.i (r16.1.length : Int)),(78,.i v130)]) [(6,some (.box [.si a1.Columns,.sb a1.Descending])),(114,R57 (l128 ++ [l299]))] (.nil (blockQ.normal (thenQ_normal (.region ?_))))
   replace h := csome h;obtain ⟨v311,hv311,h⟩ := h
   refine .rk 2 fun K k => ?_;simp [hv311];refine k ?_
   refine .tt (L58 a3 r16.1 ++ [(17,.ref 114 0 ((l128 ++ [l299]).length)),(18,.i v298),(76,.ls61 r16.1),(77,.i (r16.1.length : Int)),(78,.i v311)]) [(6,some (.box [.si a1.Columns,.sb a1.Descending])),(114,R57 (l128 ++ [l299]))] (.nil ?_)
   cases h
   refine PostI.next ?_
   exact Sub.tt
  have c253_ : decide (v130 < (r16.1.length : Int)) = false := decide_eq_false c253
  refine .condF rfl c253_ ?_
  refine .exit ?_
  cases h
  refine thenQ_ps ?_
  refine PostI.os ?_
  rintro rfl
  refine blockQ.hit (PostN.next ?_)
  exact Sub.tt
 rintro l252 h
 refine thenQ_normal (.seqR ?_)
 refine .rr 3 ?_
 refine .tt [(10,.ref 114 0 l252.length),(11,.i 0)] [(114,R57 l252)] (.nil ?_)
 refine .sub (.freeze 114 rfl) ?_
 refine .st (mk 117 [] [(10,.ls61 l252),(11,.i 0)] []) (.ret ?_)
 cases h
 exact FinC.rs
def d77 (_N : Nat) (a0 : (List S61)) (a1 : S75) : Option Bool :=
 some (decide (a1.Column ≥ (a0.length : Int)))
theorem p77 (N : Nat) (a0 : (List S61)) (a1 : S75) (r : Bool) (h : d77 N a0 a1 = some r) : FunC Tryz.prog 77 [.s61 a0,.d (.pim [.lit (.string a1.Function),.lit (.int .i64 a1.Column)])] (.b r) := by
 unfold d77 at h
 refine FunC.enter 9 [(0,.s61 a0),(1,.d (.pim [.lit (.string a1.Function),.lit (.int .i64 a1.Column)]))] (by simp) Tryz.func77 rfl (of_decide_eq_true rfl) rfl rfl ?_
 refine .seqR ?_
 refine .rr 1 ?_
 refine .tt [(0,.s61 a0),(1,.d (.pim [.lit (.string a1.Function),.lit (.int .i64 a1.Column)]))] [] (.nil (.seqR ?_))
 refine .rr 6 ?_
 refine .tt [(3,.b (decide (a1.Column ≥ (a0.length : Int))))] [] (.nil (.ret ?_))
 cases h
 exact FinC.rs
end Go.Proofs.YtimkkjiplioohaaGreatDoor
