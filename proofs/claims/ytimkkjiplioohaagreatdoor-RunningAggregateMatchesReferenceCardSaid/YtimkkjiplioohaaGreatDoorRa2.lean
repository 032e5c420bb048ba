/- Functions of the program as functional programs; the code computes them. -/
import Derived.Test.YtimkkjiplioohaaGreatDoorRa1
namespace Go.Proofs.YtimkkjiplioohaaGreatDoor
set_option maxRecDepth 100000
set_option maxHeartbeats 4000000
open Go.Ab Go.Rp
attribute [-simp] List.all_eq_true Array.all_toList Array.all_eq_true
def d287 (_N : Nat) (a0 : S187) (a1 : S189) : Option S187 :=
 (appL 56 a0.l [a1]).bind fun _l1 =>
 some (S187.mk a0.by_ (a0.l ++ [a1]))
theorem p287 (N : Nat) (a0 : S187) (a1 : S189) (r : S187) (h : d287 N a0 a1 = some r) : FunM Tryz.prog 287 [.ptr 1000 0 0, .fn (.methodOf 189 "") [.agg [.s61 a1.row, .i a1.run, .ls61 a1.rest]]] [(1000, some (.box [.si a0.by_.Columns, .sb a0.by_.Descending, .ref 25002 0 a0.l.length])), (25002, R189 a0.l)] [1000] (.tup []) ([(1000, (.box [.si r.by_.Columns, .sb r.by_.Descending, .ref 25002 0 r.l.length])), (25002, (.arr 189 3 (r.l.map cS189)))]) := by
 unfold d287 at h
 refine FunM.enter 15 [(0, .ptr 1000 0 0), (1, .fn (.methodOf 189 "") [.agg [.s61 a1.row, .i a1.run, .ls61 a1.rest]])] Tryz.func287 rfl (of_decide_eq_true rfl) rfl rfl ?_
 replace h := bsome h;obtain ⟨l1,hl1,h⟩ := h
 obtain ⟨hl1a,hl1⟩ := appL_some hl1
 subst hl1
 try simp only [List.length_cons,List.length_nil,Nat.zero_add] at hl1a
 refine .lastAnyS [[], [], [1], [1, 2], [1, 2, 3], [], [5], [5, 6], [1, 2, 3, 4, 5, 6, 7], [0, 1, 2, 3, 4, 5, 6, 7, 8], [0, 1, 2, 3, 4, 5, 6, 7, 8, 9], [0, 1, 2, 3, 4, 5, 6, 7, 8, 9, 10]] (fun (b : Nat → Bool) => mk 15 [1000] [(0, .ptr 1000 0 0), (1, .fn (.methodOf 189 "") [.agg [.s61 a1.row, .i a1.run, .ls61 a1.rest]]), (4, (if b 0 then .ptr 1000 0 0 else .junk)), (5, (if b 1 then .ptr 1000 0 0 else .junk)), (6, (if b 2 then .ptr 1000 0 0 else .junk)), (7, (if b 3 then .ptr 1000 0 2 else .junk)), (8, (if b 8 then .junk else (if b 4 then .ref 25002 0 a0.l.length else .junk))), (9, (if b 5 then .fn (.methodOf 189 "") [.agg [.s61 a1.row, .i a1.run, .ls61 a1.rest]] else .junk)), (10, (if b 6 then .agg [.s61 a1.row, .i a1.run, .ls61 a1.rest] else .junk)), (11, (if b 7 then .d (.sl ([a1].map cS189)) else .junk)), (12, (if b 8 then .ref 25002 0 ((a0.l ++ [a1]).length) else .junk)), (13, (if b 9 then .ptr 1000 0 0 else .junk)), (14, (if b 10 then .ptr 1000 0 2 else .junk))] [(1000, (if b 11 then some (.box [.si a0.by_.Columns, .sb a0.by_.Descending, .ref 25002 0 ((a0.l ++ [a1]).length)]) else (if b 8 then some (.box [.si a0.by_.Columns, .sb a0.by_.Descending, .hole]) else some (.box [.si a0.by_.Columns, .sb a0.by_.Descending, .ref 25002 0 a0.l.length])))), (25002, (if b 8 then R189 (a0.l ++ [a1]) else R189 a0.l))]) (mk 15 [1000] [] [(1000, some (.box [.si a0.by_.Columns, .sb a0.by_.Descending, .ref 25002 0 ((a0.l ++ [a1]).length)])), (25002, R189 (a0.l ++ [a1]))]) (by kernel_rfl) (by kernel_rfl) Sub.tt (Steps.cons ?_ (Steps.cons ?_ (Steps.cons ?_ (Steps.cons ?_ (Steps.cons ?_ (Steps.cons ?_ (Steps.cons ?_ (Steps.cons ?_ (Steps.cons ?_ (Steps.cons ?_ (Steps.cons ?_ (Steps.cons ?_ (Steps.nil))))))))))))) ?_ ?_
 iterate 8
  ·intro b h0 ha hd
   have T := fct h0 ha hd;simp at T
   refine .runK [11] 1 fun K k => ?_;simp [T];refine k _ _ ?_;clear k K
   exact .nil .tT
 iterate 4
  ·intro b h0 ha hd
   have T := fct h0 ha hd;simp at T
   refine .runK [11] 1 fun K k => ?_;simp [T,hl1a];refine k _ _ ?_;clear k K
   exact .nil .tT
 ·intro b hb
  have T := FA_of (n := 12) hb;simp at T
  exact Sub.tT
 skip
 cases h
 exact FinF.normal (by simp) (by simp)
def d288 (_N : Nat) (a0 : S187) (a1 : Int) (a2 : Int) : Option S187 :=
 (idx a0.l a2).bind fun x1 =>
 (idx a0.l a1).bind fun x3 =>
 letv (setI a0.l a1 x1) fun l5 =>
 (idx l5 a2).bind fun _x6 =>
 letv (setI l5 a2 x3) fun l7 =>
 some (S187.mk a0.by_ l7)
theorem p288 (N : Nat) (a0 : S187) (a1 : Int) (a2 : Int) (r : S187) (h : d288 N a0 a1 a2 = some r) : FunM Tryz.prog 288 [.ptr 1000 0 0,.i a1,.i a2] [(1000,some (.box [.si a0.by_.Columns,.sb a0.by_.Descending,.ref 25002 0 a0.l.length])),(25002,R189 a0.l)] [1000] (.tup []) ([(1000,(.box [.si r.by_.Columns,.sb r.by_.Descending,.ref 25002 0 r.l.length])),(25002,(.arr 189 3 (r.l.map cS189)))]) := by
 unfold d288 at h
 refine FunM.enter 32 [(0,.ptr 1000 0 0),(1,.i a1),(2,.i a2)] Tryz.func288 rfl (of_decide_eq_true rfl) rfl rfl ?_
 replace h := xsome h;obtain ⟨x1,k2,hx1k,hx1,hx1a,hx1b,h⟩ := h
 replace h := xsome h;obtain ⟨x3,k4,hx3k,hx3,hx3a,hx3b,h⟩ := h
 replace h := lsome h;obtain ⟨l5,gl5,h⟩ := h
 obtain ⟨hl5,hl5n⟩ := setI_some cS189 gl5 hx3k
 replace hl5 : (a0.l.map cS189).set k4 [.sl (x1.row.map cS61),.lit (.int .i64 x1.run),.sl (x1.rest.map (cL cS61))] = l5.map cS189 := hl5
 clear gl5
 replace h := bsome h;obtain ⟨x6,hx6,h⟩ := h
 obtain ⟨hx6,hx6a,hx6b⟩ := idx_some2 hx6 hx1k
 replace h := lsome h;obtain ⟨l7,gl7,h⟩ := h
 obtain ⟨hl7,hl7n⟩ := setI_some cS189 gl7 hx1k
 replace hl7 : (l5.map cS189).set k2 [.sl (x3.row.map cS61),.lit (.int .i64 x3.run),.sl (x3.rest.map (cL cS61))] = l7.map cS189 := hl7
 clear gl7
 refine .lastAnyS [[],[0],[0,1],[0,1,2],[],[],[5],[5,6],[5,6,7],[],[],[10],[10,11],[10,11,12],[],[10,11,12,13,14],[10,11,12,13,14,15],[],[17],[17,18],[17,18,19],[],[17,18,19,20,21],[17,18,19,20,21,22],[0,1,2,3,4,5,6,7,8,10,11,12,13,14,15,16,17,18,19,20,21,22,23],[0,1,2,3,4,5,6,7,8,10,11,12,13,14,15,16,17,18,19,20,21,22,23,24],[0,1,2,3,4,5,6,7,8,9,10,11,12,13,14,15,16,17,18,19,20,21,22,23,24,25],[0,1,2,3,4,5,6,7,8,9,10,11,12,13,14,15,16,17,18,19,20,21,22,23,24,25,26]] (fun (b : Nat → Bool) => mk 32 [1000] [(0,.ptr 1000 0 0),(1,.i a1),(2,.i a2),(6,(if b 0 then .ptr 1000 0 0 else .junk)),(7,(if b 1 then .ptr 1000 0 0 else .junk)),(8,(if b 2 then .ptr 1000 0 2 else .junk)),(9,(if b 27 then .ref 25002 0 l7.length else (if b 25 then .ref 25002 0 l5.length else (if b 3 then .ref 25002 0 a0.l.length else .junk)))),(10,(if b 4 then .i a1 else .junk)),(11,(if b 5 then .ptr 1000 0 0 else .junk)),(12,(if b 6 then .ptr 1000 0 0 else .junk)),(13,(if b 7 then .ptr 1000 0 2 else .junk)),(14,(if b 27 then .ref 25002 0 l7.length else (if b 25 then .ref 25002 0 l5.length else (if b 8 then .ref 25002 0 a0.l.length else .junk)))),(15,(if b 9 then .i a2 else .junk)),(16,(if b 10 then .ptr 1000 0 0 else .junk)),(17,(if b 11 then .ptr 1000 0 0 else .junk)),(18,(if b 12 then .ptr 1000 0 2 else .junk)),(19,(if b 27 then .ref 25002 0 l7.length else (if b 25 then .ref 25002 0 l5.length else (if b 13 then .ref 25002 0 a0.l.length else .junk)))),(20,(if b 14 then .i a2 else .junk)),(21,(if b 15 then .ptr 25002 k2 0 else .junk)),(22,(if b 16 then .agg [.s61 x1.row,.i x1.run,.ls61 x1.rest] else .junk)),(23,(if b 17 then .ptr 1000 0 0 else .junk)),(24,(if b 18 then .ptr 1000 0 0 else .junk)),(25,(if b 19 then .ptr 1000 0 2 else .junk)),(26,(if b 27 then .ref 25002 0 l7.length else (if b 25 then .ref 25002 0 l5.length else (if b 20 then .ref 25002 0 a0.l.length else .junk)))),(27,(if b 21 then .i a1 else .junk)),(28,(if b 22 then .ptr 25002 k4 0 else .junk)),(29,(if b 23 then .agg [.s61 x3.row,.i x3.run,.ls61 x3.rest] else .junk)),(30,(if b 24 then .ptr 25002 k4 0 else .junk)),(31,(if b 26 then .ptr 25002 k2 0 else .junk))] [(1000,(if b 27 then some (.box [.si a0.by_.Columns,.sb a0.by_.Descending,.ref 25002 0 l7.length]) else (if b 25 then some (.box [.si a0.by_.Columns,.sb a0.by_.Descending,.ref 25002 0 l5.length]) else some (.box [.si a0.by_.Columns,.sb a0.by_.Descending,.ref 25002 0 a0.l.length])))),(25002,(if b 27 then R189 l7 else (if b 25 then R189 l5 else R189 a0.l)))]) (mk 32 [1000] [] [(1000,some (.box [.si a0.by_.Columns,.sb a0.by_.Descending,.ref 25002 0 l7.length])),(25002,R189 l7)]) (by kernel_rfl) (by kernel_rfl) Sub.tt (Steps.cons ?_ (Steps.cons ?_ (Steps.cons ?_ (Steps.cons ?_ (Steps.cons ?_ (Steps.cons ?_ (Steps.cons ?_ (Steps.cons ?_ (Steps.cons ?_ (Steps.cons ?_ (Steps.cons ?_ (Steps.cons ?_ (Steps.cons ?_ (Steps.cons ?_ (Steps.cons ?_ (Steps.cons ?_ (Steps.cons ?_ (Steps.cons ?_ (Steps.cons ?_ (Steps.cons ?_ (Steps.cons ?_ (Steps.cons ?_ (Steps.cons ?_ (Steps.cons ?_ (Steps.cons ?_ (Steps.cons ?_ (Steps.cons ?_ (Steps.cons ?_ (Steps.nil))))))))))))))))))))))))))))) ?_ ?_
 iterate 14
  ·intro b h0 ha hd
   have T := fct h0 ha hd;simp at T
   refine .rk 1 fun K k => ?_;simp [T];refine k ?_
   exact .nil .tT
 iterate 2
  ·intro b h0 ha hd
   have T := fct h0 ha hd;simp at T
   refine .rk 1 fun K k => ?_;simp [T,hx1k,hx1a,hx1b];refine k ?_
   exact .nil .tT
 ·intro b h0 ha hd
  have T := fct h0 ha hd;simp at T
  refine .rk 1 fun K k => ?_;simp [T,hx1];refine k ?_
  exact .nil .tT
 iterate 4
  ·intro b h0 ha hd
   have T := fct h0 ha hd;simp at T
   refine .rk 1 fun K k => ?_;simp [T];refine k ?_
   exact .nil .tT
 iterate 2
  ·intro b h0 ha hd
   have T := fct h0 ha hd;simp at T
   refine .rk 1 fun K k => ?_;simp [T,hx3k,hx3a,hx3b];refine k ?_
   exact .nil .tT
 ·intro b h0 ha hd
  have T := fct h0 ha hd;simp at T
  refine .rk 1 fun K k => ?_;simp [T,hx3];refine k ?_
  exact .nil .tT
 iterate 4
  ·intro b h0 ha hd
   have T := fct h0 ha hd;simp at T
   refine .rk 1 fun K k => ?_;simp [T,hx3,hx3k,hx3a,hx3b,hl5,hx6,hx1k,hx6a,hx6b,hl7];refine k ?_
   exact .nil (.table (by simp [T,hl5n,hl7n]) (by simp [T,hl5n,hl7n]))
 ·intro b hb
  have T := FA_of (n := 28) hb;simp at T
  exact Sub.tT
 skip
 cases h
 exact FinF.normal (by simp) (by simp)
def d114 (_N : Nat) (a0 : S187) : Option Int :=
 some (a0.l.length : Int)
theorem p114 (N : Nat) (a0 : S187) (r : Int) (h : d114 N a0 = some r) : FunC Tryz.prog 114 [.d (.pim [.sl (a0.by_.Columns.map (cI .i64)),.sl (a0.by_.Descending.map cB),.sl (a0.l.map cS189)])] (.i r) := by
 unfold d114 at h
 refine FunC.enter 8 [(0,.d (.pim [.sl (a0.by_.Columns.map (cI .i64)),.sl (a0.by_.Descending.map cB),.sl (a0.l.map cS189)]))] (by simp) Tryz.func114 rfl (of_decide_eq_true rfl) rfl rfl ?_
 refine .seqR ?_
 refine .rr 1 ?_
 refine .tt [(0,.d (.pim [.sl (a0.by_.Columns.map (cI .i64)),.sl (a0.by_.Descending.map cB),.sl (a0.l.map cS189)]))] [] (.nil (.seqR ?_))
 refine .rr 6 ?_
 refine .tt [(2,.i (a0.l.length : Int))] [] (.nil (.ret ?_))
 cases h
 exact FinC.rs
def d98 (N : Nat) (a0 : (List (List S61))) (p1 : (List S61) → Option Bool) : Option Int :=
 bindO (β := Unit) (ρ := Int) (
  iterN (σ := Int) (ρ := (Out Unit Int)) (fun (v6 : Int) =>
   if v6 < (a0.length : Int) then (
    (idx a0 v6).bind fun x21 =>
    (p1 x21).bind fun r23 =>
    if r23 = true then (
     some (.inr (.ret v6))
    ) else
    (chkI (v6 + 1)).bind fun v25 =>
    some (.inl v25)
   ) else
   some (.inr (.go ()))
  ) N 0
 ) fun (_ : Unit) =>
 some (-1)
theorem p98 (N : Nat) (a0 : (List (List S61))) (g1 : Nat) (cs1 : List D) (p1 : (List S61) → Option Bool) (ent_1 : Rp.Enters Tryz.prog g1) (hp1 : ∀ a0 r,p1 a0 = some r → FunC Tryz.prog g1 ([.s61 a0] ++ cs1.map .d) (.b r)) (r : Int) (h : d98 N a0 p1 = some r) : FunC Tryz.prog 98 [.ls61 a0,.fg g1 cs1] (.i r) := by
 unfold d98 at h
 refine FunC.enter 19 [(0,.ls61 a0),(1,.fg g1 cs1)] (by simp) Tryz.func98 rfl (of_decide_eq_true rfl) rfl rfl ?_
 refine .seqR ?_
 refine .rr 1 ?_
 refine .tt [(0,.ls61 a0),(1,.fg g1 cs1)] [] (.nil (.seq (.seqR ?_)))
 refine .rr 3 ?_
 refine .tt [(0,.ls61 a0),(1,.fg g1 cs1),(7,.i (a0.length : Int)),(8,.i 0)] [] (.nil ?_)
 refine .lastJ (fun (_ : Unit) => mk 19 [] [] []) h ?_ ?_ <;> clear h
 ·intro o h
  refine .block ?_
  refine .iter (fun (v6 : Int) => mk 19 [] [(0,.ls61 a0),(1,.fg g1 cs1),(7,.i (a0.length : Int)),(8,.i v6)] []) h Sub.tt ?_
  clear h
  rintro v6 x h
  refine .seqR ?_
  refine .rr 1 ?_
  refine .tt [(0,.ls61 a0),(1,.fg g1 cs1),(7,.i (a0.length : Int)),(8,.i v6),(9,.b (decide (v6 < (a0.length : Int))))] [] (.nil (.seq ?_))
  replace h := isome h;rcases h with ⟨c20,h⟩ | ⟨c20,h⟩
  ·have c20_ : decide (v6 < (a0.length : Int)) = true := decide_eq_true c20
   refine .condT rfl c20_ ?_
   refine .skip (thenQ_normal (.seq (.block (.seqR ?_))))
   refine .rr 2 ?_
   refine .tt [(0,.ls61 a0),(1,.fg g1 cs1),(5,.i v6),(7,.i (a0.length : Int)),(8,.i v6)] [] (.nil (.seqR ?_))
   replace h := xsome h;obtain ⟨x21,k22,hx21k,hx21,hx21a,hx21b,h⟩ := h
   refine .rk 5 fun K k => ?_;simp [hx21,hx21k,hx21a];refine k ?_
   refine .tt [(0,.ls61 a0),(1,.fg g1 cs1),(5,.i v6),(7,.i (a0.length : Int)),(8,.i v6),(11,.fg g1 cs1),(15,.s61 x21)] [] ?_
   replace h := bsome h;obtain ⟨r23,hr23,h⟩ := h
   refine .callL (d := 16) (hp1 x21 r23 hr23) (by simp) rfl rfl (by simp <;> rfl) (by simp <;> rfl) ent_1 (by simp <;> rfl) ?_
   refine .st (mk 19 [] [(0,.ls61 a0),(1,.fg g1 cs1),(5,.i v6),(7,.i (a0.length : Int)),(8,.i v6),(11,.fg g1 cs1),(15,.s61 x21),(16,.b r23)] []) (.nil ?_)
   replace h := isome h;rcases h with ⟨c24,h⟩ | ⟨c24,h⟩
   ·have c24_ : r23 = true := c24
    refine .condT rfl c24_ ?_
    refine .seqR ?_
    refine .rr 2 ?_
    refine .tt [(4,.i v6)] [] (.nil (.ret ?_))
    cases h
    refine blockQ.ret ?_
    refine thenQ_ps ?_
    refine PostI.os ?_
    rintro rfl
    refine blockQ.ret ?_
    refine PostJ.out (by simp) ?_
    rintro rfl
    refine thenQ_ps ?_
    exact FinC.rs
   have c24_ : r23 = false := Bool.eq_false_iff.2 c24
   refine .condF rfl c24_ ?_
   refine .skip (blockQ.normal (thenQ_normal (.region ?_)))
   replace h := csome h;obtain ⟨v25,hv25,h⟩ := h
   refine .rk 2 fun K k => ?_;simp [hv25];refine k ?_
   refine .tt [(0,.ls61 a0),(1,.fg g1 cs1),(7,.i (a0.length : Int)),(8,.i v25)] [] (.nil ?_)
   cases h
   refine PostI.next ?_
   exact Sub.tt
  have c20_ : decide (v6 < (a0.length : Int)) = false := decide_eq_false c20
  refine .condF rfl c20_ ?_
  refine .exit ?_
  cases h
  refine thenQ_ps ?_
  refine PostI.os ?_
  rintro rfl
  refine blockQ.hit (PostJ.next ?_)
  exact Sub.tt
 rintro ⟨⟩ h
 refine thenQ_normal (.seqR ?_)
 refine .rr 1 ?_
 refine .tt [(4,.i (-1))] [] (.nil (.ret ?_))
 cases h
 exact FinC.rs
def d56 (N : Nat) (a0 : (List (List S61))) (p1 : (List S61) → Option Bool) : Option Bool :=
 (d98 N a0 p1).bind fun r1 =>
 some (decide (r1 ≥ 0))
theorem p56 (N : Nat) (a0 : (List (List S61))) (g1 : Nat) (cs1 : List D) (p1 : (List S61) → Option Bool) (ent_1 : Rp.Enters Tryz.prog g1) (hp1 : ∀ a0 r,p1 a0 = some r → FunC Tryz.prog g1 ([.s61 a0] ++ cs1.map .d) (.b r)) (r : Bool) (h : d56 N a0 p1 = some r) : FunC Tryz.prog 56 [.ls61 a0,.fg g1 cs1] (.b r) := by
 unfold d56 at h
 refine FunC.enter 9 [(0,.ls61 a0),(1,.fg g1 cs1)] (by simp) Tryz.func56 rfl (of_decide_eq_true rfl) rfl rfl ?_
 refine .seqR ?_
 refine .rr 1 ?_
 refine .tt [(0,.ls61 a0),(1,.fg g1 cs1)] [] (.nil (.seqR ?_))
 refine .rr 2 ?_
 refine .tt [(5,.ls61 a0),(6,.fg g1 cs1)] [] ?_
 replace h := bsome h;obtain ⟨r1,hr1,h⟩ := h
 refine .callL (d := 7) (p98 N a0 g1 cs1 p1 ent_1 hp1 r1 hr1) (by simp) rfl rfl (by simp <;> rfl) (by simp <;> rfl) ent98 (by simp <;> rfl) ?_
 refine .st (mk 9 [] [(5,.ls61 a0),(6,.fg g1 cs1),(7,.i r1)] []) ?_
 refine .rr 2 ?_
 refine .tt [(4,.b (decide (r1 ≥ 0)))] [] (.nil (.ret ?_))
 cases h
 exact FinC.rs
def d57 (_N : Nat) (a0 : (List S61)) : Option Bool :=
 some (decide ((a0.length : Int) > 10))
theorem p57 (N : Nat) (a0 : (List S61)) (r : Bool) (h : d57 N a0 = some r) : FunC Tryz.prog 57 [.s61 a0] (.b r) := by
 unfold d57 at h
 refine FunC.enter 6 [(0,.s61 a0)] (by simp) Tryz.func57 rfl (of_decide_eq_true rfl) rfl rfl ?_
 refine .seqR ?_
 refine .rr 1 ?_
 refine .tt [(0,.s61 a0)] [] (.nil (.seqR ?_))
 refine .rr 4 ?_
 refine .tt [(2,.b (decide ((a0.length : Int) > 10)))] [] (.nil (.ret ?_))
 cases h
 exact FinC.rs
def d21 (N : Nat) (a0 : (List (List (List S61)))) : Option Bool :=
 bindO (β := Unit) (ρ := Bool) (
  iterN (σ := Int) (ρ := (Out Unit Bool)) (fun (v10 : Int) =>
   if v10 < (a0.length : Int) then (
    (idx a0 v10).bind fun x33 =>
    Option.bind (α := Bool) (
     if (x33.length : Int) > 60 then (
      some true
     ) else
     (d56 N x33 (fun b0 => d57 N b0 )).bind fun r39 =>
     some r39
    ) fun (v37 : Bool) =>
    if v37 = true then (
     some (.inr (.ret true))
    ) else
    (chkI (v10 + 1)).bind fun v41 =>
    some (.inl v41)
   ) else
   some (.inr (.go ()))
  ) N 0
 ) fun (_ : Unit) =>
 some false
theorem p21 (N : Nat) (a0 : (List (List (List S61)))) (r : Bool) (h : d21 N a0 = some r) : FunC Tryz.prog 21 [.lls61 a0] (.b r) := by
 unfold d21 at h
 refine FunC.enter 19 [(0,.lls61 a0)] (by simp) Tryz.func21 rfl (of_decide_eq_true rfl) rfl rfl ?_
 refine .seqR ?_
 refine .rr 1 ?_
 refine .tt [(0,.lls61 a0)] [] (.nil (.seq (.seqR ?_)))
 refine .rr 3 ?_
 refine .tt [(5,.lls61 a0),(6,.i (a0.length : Int)),(7,.i 0)] [] (.nil ?_)
 refine .lastJ (fun (_ : Unit) => mk 19 [] [] []) h ?_ ?_ <;> clear h
 ·intro o h
  refine .block ?_
  refine .iter (fun (v10 : Int) => mk 19 [] (L8 a0 a0.length v10) []) h Sub.tt ?_
  clear h
  rintro v10 x h
  refine .seqR ?_
  refine .rr 1 ?_
  refine .tt (L8 a0 a0.length v10 ++ [(8,.b (decide (v10 < (a0.length : Int))))]) [] (.nil (.seq ?_))
  replace h := isome h;rcases h with ⟨c32,h⟩ | ⟨c32,h⟩
  ·have c32_ : decide (v10 < (a0.length : Int)) = true := decide_eq_true c32
   refine .condT rfl c32_ ?_
   refine .skip (thenQ_normal (.seq (.block (.seqR ?_))))
   replace h := xsome h;obtain ⟨x33,k34,hx33k,hx33,hx33a,hx33b,h⟩ := h
   refine .rk 3 fun K k => ?_;simp [hx33,hx33k,hx33a];refine k ?_
   refine .tt (L9 x33 a0 a0.length v10) [] (.nil ?_)
   replace h := bsome h;obtain ⟨v37,hj,h⟩ := h
   refine .cutR (mk 19 [] (L8 a0 a0.length v10 ++ [(17,.b v37)]) []) ?_ ?_
   ·clear h;have h := hj;clear hj
    refine .rr 4 ?_
    refine .tt (L9 x33 a0 a0.length v10 ++ [(14,.b (decide ((x33.length : Int) > 60)))]) [] ?_
    replace h := isome h;rcases h with ⟨c38,h⟩ | ⟨c38,h⟩
    ·have c38_ : decide ((x33.length : Int) > 60) = true := decide_eq_true c38
     refine .sub (.bool 14 rfl c38_) ?_
     refine .st (mk 19 [] (L9 x33 a0 a0.length v10 ++ [(14,.b true)]) []) ?_
     refine .rr 3 ?_
     refine .tt (L8 a0 a0.length v10 ++ [(15,.tup []),(16,.tup []),(17,.b true)]) [] ?_
     cases h
     exact .nil .tt
    have c38_ : decide ((x33.length : Int) > 60) = false := decide_eq_false c38
    refine .sub (.bool 14 rfl c38_) ?_
    refine .st (mk 19 [] (L9 x33 a0 a0.length v10 ++ [(14,.b false)]) []) ?_
    refine .rr 1 ?_
    refine .tt (L8 a0 a0.length v10 ++ [(14,.b false),(15,.ls61 x33)]) [] ?_
    replace h := bsome h;obtain ⟨r39,hr39,h⟩ := h
    refine .callL (d := 16) (FunC.argsF (args := [.ls61 x33,.d (.lit (.func (.func 57) #[] #[]))]) (p56 N x33 57 [] (fun b0 => d57 N b0 ) ent57 (fun b0 r h => p57 N b0  r h) r39 hr39) (by simp [V.wf]) rfl) (by simp) rfl rfl (by simp <;> rfl) (by simp <;> rfl) ent56 (by simp <;> rfl) ?_
    refine .st (mk 19 [] (L8 a0 a0.length v10 ++ [(14,.b false),(15,.ls61 x33),(16,.b r39)]) []) ?_
    refine .rr 1 ?_
    refine .tt (L8 a0 a0.length v10 ++ [(15,.ls61 x33),(16,.b r39),(17,.b r39)]) [] ?_
    cases h
    exact .nil .tt
   clear hj
   replace h := isome h;rcases h with ⟨c40,h⟩ | ⟨c40,h⟩
   ·have c40_ : v37 = true := c40
    refine .condT rfl c40_ ?_
    refine .seqR ?_
    refine .rr 1 ?_
    refine .tt [(2,.b true)] [] (.nil (.ret ?_))
    cases h
    refine blockQ.ret ?_
    refine thenQ_ps ?_
    refine PostI.os ?_
    rintro rfl
    refine blockQ.ret ?_
    refine PostJ.out (by simp) ?_
    rintro rfl
    refine thenQ_ps ?_
    exact FinC.rs
   have c40_ : v37 = false := Bool.eq_false_iff.2 c40
   refine .condF rfl c40_ ?_
   refine .skip (blockQ.normal (thenQ_normal (.region ?_)))
   replace h := csome h;obtain ⟨v41,hv41,h⟩ := h
   refine .rk 2 fun K k => ?_;simp [hv41];refine k ?_
   refine .tt (L8 a0 a0.length v41) [] (.nil ?_)
   cases h
   refine PostI.next ?_
   exact Sub.tt
  have c32_ : decide (v10 < (a0.length : Int)) = false := decide_eq_false c32
  refine .condF rfl c32_ ?_
  refine .exit ?_
  cases h
  refine thenQ_ps ?_
  refine PostI.os ?_
  rintro rfl
  refine blockQ.hit (PostJ.next ?_)
  exact Sub.tt
 rintro ⟨⟩ h
 refine thenQ_normal (.seqR ?_)
 refine .rr 1 ?_
 refine .tt [(2,.b false)] [] (.nil (.ret ?_))
 cases h
 exact FinC.rs
def d100 (N : Nat) (a0 : (List S61)) (p1 : S61 → Option Bool) : Option Int :=
 bindO (β := Unit) (ρ := Int) (
  iterN (σ := Int) (ρ := (Out Unit Int)) (fun (v6 : Int) =>
   if v6 < (a0.length : Int) then (
    (idx a0 v6).bind fun x21 =>
    (p1 x21).bind fun r23 =>
    if r23 = true then (
     some (.inr (.ret v6))
    ) else
    (chkI (v6 + 1)).bind fun v25 =>
    some (.inl v25)
   ) else
   some (.inr (.go ()))
  ) N 0
 ) fun (_ : Unit) =>
 some (-1)
theorem p100 (N : Nat) (a0 : (List S61)) (g1 : Nat) (cs1 : List D) (p1 : S61 → Option Bool) (ent_1 : Rp.Enters Tryz.prog g1) (hp1 : ∀ a0 r,p1 a0 = some r → FunC Tryz.prog g1 ([.agg [.i a0.Kind,.i a0.Int,.s a0.Text]] ++ cs1.map .d) (.b r)) (r : Int) (h : d100 N a0 p1 = some r) : FunC Tryz.prog 100 [.s61 a0,.fg g1 cs1] (.i r) := by
 unfold d100 at h
 refine FunC.enter 19 [(0,.s61 a0),(1,.fg g1 cs1)] (by simp) Tryz.func100 rfl (of_decide_eq_true rfl) rfl rfl ?_
 refine .seqR ?_
 refine .rr 1 ?_
 refine .tt [(0,.s61 a0),(1,.fg g1 cs1)] [] (.nil (.seq (.seqR ?_)))
 refine .rr 3 ?_
 refine .tt [(0,.s61 a0),(1,.fg g1 cs1),(7,.i (a0.length : Int)),(8,.i 0)] [] (.nil ?_)
 refine .lastJ (fun (_ : Unit) => mk 19 [] [] []) h ?_ ?_ <;> clear h
 ·intro o h
  refine .block ?_
  refine .iter (fun (v6 : Int) => mk 19 [] [(0,.s61 a0),(1,.fg g1 cs1),(7,.i (a0.length : Int)),(8,.i v6)] []) h Sub.tt ?_
  clear h
  rintro v6 x h
  refine .seqR ?_
  refine .rr 1 ?_
  refine .tt [(0,.s61 a0),(1,.fg g1 cs1),(7,.i (a0.length : Int)),(8,.i v6),(9,.b (decide (v6 < (a0.length : Int))))] [] (.nil (.seq ?_))
  replace h := isome h;rcases h with ⟨c20,h⟩ | ⟨c20,h⟩
  ·have c20_ : decide (v6 < (a0.length : Int)) = true := decide_eq_true c20
   refine .condT rfl c20_ ?_
   refine .skip (thenQ_normal (.seq (.block (.seqR ?_))))
   refine .rr 2 ?_
   refine .tt [(0,.s61 a0),(1,.fg g1 cs1),(5,.i v6),(7,.i (a0.length : Int)),(8,.i v6)] [] (.nil (.seqR ?_))
   replace h := xsome h;obtain ⟨x21,k22,hx21k,hx21,hx21a,hx21b,h⟩ := h
   refine .rk 5 fun K k => ?_;simp [hx21,hx21k,hx21a];refine k ?_
   refine .tt [(0,.s61 a0),(1,.fg g1 cs1),(5,.i v6),(7,.i (a0.length : Int)),(8,.i v6),(11,.fg g1 cs1),(15,.agg [.i x21.Kind,.i x21.Int,.s x21.Text])] [] ?_
   replace h := bsome h;obtain ⟨r23,hr23,h⟩ := h
   refine .callL (d := 16) (hp1 x21 r23 hr23) (by simp) rfl rfl (by simp <;> rfl) (by simp <;> rfl) ent_1 (by simp <;> rfl) ?_
   refine .st (mk 19 [] [(0,.s61 a0),(1,.fg g1 cs1),(5,.i v6),(7,.i (a0.length : Int)),(8,.i v6),(11,.fg g1 cs1),(15,.agg [.i x21.Kind,.i x21.Int,.s x21.Text]),(16,.b r23)] []) (.nil ?_)
   replace h := isome h;rcases h with ⟨c24,h⟩ | ⟨c24,h⟩
   ·have c24_ : r23 = true := c24
    refine .condT rfl c24_ ?_
    refine .seqR ?_
    refine .rr 2 ?_
    refine .tt [(4,.i v6)] [] (.nil (.ret ?_))
    cases h
    refine blockQ.ret ?_
    refine thenQ_ps ?_
    refine PostI.os ?_
    rintro rfl
    refine blockQ.ret ?_
    refine PostJ.out (by simp) ?_
    rintro rfl
    refine thenQ_ps ?_
    exact FinC.rs
   have c24_ : r23 = false := Bool.eq_false_iff.2 c24
   refine .condF rfl c24_ ?_
   refine .skip (blockQ.normal (thenQ_normal (.region ?_)))
   replace h := csome h;obtain ⟨v25,hv25,h⟩ := h
   refine .rk 2 fun K k => ?_;simp [hv25];refine k ?_
   refine .tt [(0,.s61 a0),(1,.fg g1 cs1),(7,.i (a0.length : Int)),(8,.i v25)] [] (.nil ?_)
   cases h
   refine PostI.next ?_
   exact Sub.tt
  have c20_ : decide (v6 < (a0.length : Int)) = false := decide_eq_false c20
  refine .condF rfl c20_ ?_
  refine .exit ?_
  cases h
  refine thenQ_ps ?_
  refine PostI.os ?_
  rintro rfl
  refine blockQ.hit (PostJ.next ?_)
  exact Sub.tt
 rintro ⟨⟩ h
 refine thenQ_normal (.seqR ?_)
 refine .rr 1 ?_
 refine .tt [(4,.i (-1))] [] (.nil (.ret ?_))
 cases h
 exact FinC.rs
end Go.Proofs.YtimkkjiplioohaaGreatDoor
