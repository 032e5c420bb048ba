/- Functions of the program as functional programs; the code computes them. -/
import Derived.Test.YtmgddgcniacnbaaGreatDoorCa8
namespace Go.Proofs.YtmgddgcniacnbaaGreatDoor
set_option maxRecDepth 100000
set_option maxHeartbeats 4000000
open Go.Ab Go.Rp
attribute [-simp] List.all_eq_true Array.all_toList Array.all_eq_true
def d114 (N : Nat) (a0 : (List S53)) (a1 : (List S53)) (a2 : S76) : Option (Int × Bool × Int) :=
 (d147 N a2).bind fun r1 =>
 Option.bind (α := Bool) (
  if r1.1 > 60 then (
   some true
  ) else
  some (decide (r1.2 > 12))
 ) fun (v3 : Bool) =>
 if v3 = true then (
  some (0,false,2)
 ) else
 (d148 N a0 a1 a2).bind fun r6 =>
 some (r6.1,r6.2.1,r6.2.2)
theorem p114 (N : Nat) (a0 : (List S53)) (a1 : (List S53)) (a2 : S76) (r : (Int × Bool × Int)) (h : d114 N a0 a1 a2 = some r) : FunC Tryz.prog 114 [.s53 a0,.s53 a1,.agg (k76 a2)] (.tup [.i r.1,.b r.2.1,.i r.2.2]) := by
 unfold d114 at h
 refine FunC.enter 29 [(0,.s53 a0),(1,.s53 a1),(2,.agg (k76 a2))] (by simp) Tryz.func114 rfl (of_decide_eq_true rfl) rfl rfl ?_
 refine .seqR ?_
 refine .rr 4 ?_
 refine .nil (.seq (.seqR ?_))
 refine .rr 1 ?_
 refine .tt (L55 a0 a1 ++ [(12,.agg (k76 a2))]) (H1 a2) ?_
 replace h := bsome h;obtain ⟨r1,hr1,h⟩ := h
 refine .callL (d := 13) (p147 N a2 r1 hr1) (by simp) rfl rfl (by simp <;> rfl) (by simp <;> rfl) ent147 (by simp <;> rfl) ?_
 refine .rr 5 ?_
 refine .tt (L55 a0 a1 ++ [(9,.i r1.1),(10,.i r1.2)]) (H1 a2) (.nil ?_)
 replace h := bsome h;obtain ⟨v3,hj,h⟩ := h
 refine .cutR (mk 29 [] (L55 a0 a1 ++ [(21,.b v3)]) (H1 a2)) ?_ ?_
 ·clear h;have h := hj;clear hj
  refine .rr 3 ?_
  replace h := isome h;rcases h with ⟨c4,h⟩ | ⟨c4,h⟩
  ·refine .sub (.bool 18 rfl (decide_eq_true c4)) ?_
   refine .rr 3 ?_
   cases h
   exact .nil .tt
  refine .sub (.bool 18 rfl (decide_eq_false c4)) ?_
  refine .rr 3 ?_
  cases h
  exact .nil .tt
 clear hj
 replace h := isome h;rcases h with ⟨c5,h⟩ | ⟨c5,h⟩
 ·refine .condT rfl c5 ?_
  refine .seqR ?_
  refine .rr 3 ?_
  refine .nil (.ret ?_)
  cases h
  refine thenQ_ps ?_
  exact FinC.rs
 refine .condF rfl (Bool.eq_false_iff.2 c5) ?_
 refine .skip (thenQ_normal (.seqR ?_))
 refine .rr 3 ?_
 refine .tt [(22,.s53 a0),(23,.s53 a1),(24,.agg (k76 a2))] [] ?_
 replace h := bsome h;obtain ⟨r6,hr6,h⟩ := h
 refine .callL (d := 25) (p148 N a0 a1 a2 r6 hr6) (by simp) rfl rfl (by simp <;> rfl) (by simp <;> rfl) ent148 (by simp <;> rfl) ?_
 refine .rr 6 ?_
 refine .nil (.ret ?_)
 cases h
 exact FinC.rs
def d111 (N : Nat) (a0 : S122) (a1 : (List S53)) (a2 : S76) : Option Int :=
 (d114 N a1 a0.vars a2).bind fun r1 =>
 Option.bind (α := Bool) (
  if (r1.2.2 == 0) then (
   if (r1.1 != 2) then (
    some (r1.1 != 0)
   ) else
   some false
  ) else
  some false
 ) fun (v4 : Bool) =>
 if v4 = true then (
  some 7
 ) else
 some r1.2.2
theorem p111 (N : Nat) (a0 : S122) (a1 : (List S53)) (a2 : S76) (r : Int) (h : d111 N a0 a1 a2 = some r) : FunC Tryz.prog 111 [.agg (k122 a0),.s53 a1,.agg (k76 a2)] (.i r) := by
 unfold d111 at h
 refine FunC.enter 30 [(0,.agg (k122 a0)),(1,.s53 a1),(2,.agg (k76 a2))] (by simp) Tryz.func111 rfl (of_decide_eq_true rfl) rfl rfl ?_
 refine .seqR ?_
 refine .rr 3 ?_
 refine .nil (.seqR ?_)
 refine .rr 4 ?_
 refine .tt [(11,.s53 a1),(13,.s53 a0.vars),(14,.agg (k76 a2))] [] ?_
 replace h := bsome h;obtain ⟨r1,hr1,h⟩ := h
 refine .callL (d := 15) (p114 N a1 a0.vars a2 r1 hr1) (by simp) rfl rfl (by simp <;> rfl) (by simp <;> rfl) ent114 (by simp <;> rfl) ?_
 refine .rr 7 ?_
 refine .tt [(7,.i r1.1),(9,.i r1.2.2)] [] (.nil (.seq ?_))
 replace h := bsome h;obtain ⟨v4,hj,h⟩ := h
 refine .cutR (mk 30 [] [(9,.i r1.2.2),(28,.b v4)] []) ?_ ?_
 ·clear h;have h := hj;clear hj
  refine .rr 3 ?_
  replace h := isome h;rcases h with ⟨c5,h⟩ | ⟨c5,h⟩
  ·refine .sub (.bool 21 rfl c5) ?_
   refine .rr 4 ?_
   replace h := isome h;rcases h with ⟨c6,h⟩ | ⟨c6,h⟩
   ·refine .sub (.bool 25 rfl c6) ?_
    refine .rr 3 ?_
    cases h
    exact .nil .tt
   refine .sub (.bool 25 rfl (Bool.eq_false_iff.2 c6)) ?_
   refine .rr 3 ?_
   cases h
   exact .nil .tt
  refine .sub (.bool 21 rfl (Bool.eq_false_iff.2 c5)) ?_
  refine .rr 7 ?_
  cases h
  exact .nil .tt
 clear hj
 replace h := isome h;rcases h with ⟨c7,h⟩ | ⟨c7,h⟩
 ·refine .condT rfl c7 ?_
  refine .seqR ?_
  refine .rr 1 ?_
  refine .nil (.ret ?_)
  cases h
  refine thenQ_ps ?_
  exact FinC.rs
 refine .condF rfl (Bool.eq_false_iff.2 c7) ?_
 refine .skip (thenQ_normal (.seqR ?_))
 refine .rr 2 ?_
 refine .nil (.ret ?_)
 cases h
 exact FinC.rs
def d112 (N : Nat) (a0 : Int) (a1 : (List S53)) (a2 : (List S53)) : Option ((List S53) × Int) :=
 if ((a1.length : Int) != (a2.length : Int)) then (
  some (([] : List S53),7)
 ) else
 (d110 N a1).bind fun r2 =>
 bindO (β := List S53) (ρ := ((List S53) × Int)) (
  iterN (σ := ((List S53) × Int)) (ρ := (Out (List S53) ((List S53) × Int))) (fun ((l25,v26) : ((List S53) × Int)) =>
   if v26 < (a1.length : Int) then (
    (idx a1 v26).bind fun x77 =>
    (idx a2 v26).bind fun x79 =>
    if (x77.Kind != x79.Kind) then (
     some (.inr (.ret (([] : List S53),7)))
    ) else
    Option.bind (α := List S53) (
     if x77.Nullable = true then (
      (idx l25 v26).bind fun x91 =>
      letv (setI l25 v26 (S53.mk x91.Name x91.Kind true)) fun l92 =>
      some l92
     ) else
     if (a0 == 6) then (
      (idx l25 v26).bind fun x94 =>
      letv (setI l25 v26 (S53.mk x94.Name x94.Kind x79.Nullable)) fun l95 =>
      some l95
     ) else
     (idx l25 v26).bind fun x96 =>
     letv (setI l25 v26 (S53.mk x96.Name x96.Kind false)) fun l97 =>
     some l97
    ) fun (l89 : List S53) =>
    (chkI (v26 + 1)).bind fun v98 =>
    some (.inl (l89,v98))
   ) else
   some (.inr (.go l25))
  ) N (r2,0)
 ) fun (l75 : List S53) =>
 some (l75,0)
theorem p112 (N : Nat) (a0 : Int) (a1 : (List S53)) (a2 : (List S53)) (r : ((List S53) × Int)) (h : d112 N a0 a1 a2 = some r) : FunC Tryz.prog 112 [.i a0,.s53 a1,.s53 a2] (.tup [.s53 r.1,.i r.2]) := by
 unfold d112 at h
 refine FunC.enter 55 [(0,.i a0),(1,.s53 a1),(2,.s53 a2)] (by simp) Tryz.func112 rfl (of_decide_eq_true rfl) rfl rfl ?_
 refine .seqR ?_
 refine .rr 2 ?_
 refine .nil (.seq (.seqR ?_))
 refine .rr 5 ?_
 refine .nil ?_
 replace h := isome h;rcases h with ⟨c1,h⟩ | ⟨c1,h⟩
 ·refine .condT rfl c1 ?_
  refine .seqR ?_
  refine .rr 2 ?_
  refine .tt [(6,.z),(7,.i 7)] [] (.nil ?_)
  refine .sub (.wk 6 rfl) ?_
  refine .st (mk 55 [] [(6,.s53 ([] : List S53)),(7,.i 7)] []) (.ret ?_)
  cases h
  refine thenQ_ps ?_
  exact FinC.rs
 refine .condF rfl (Bool.eq_false_iff.2 c1) ?_
 refine .skip (thenQ_normal (.seqR ?_))
 refine .rr 1 ?_
 refine .tt (L70 a0 a1 a2 ++ [(15,.s53 a1)]) [] ?_
 replace h := bsome h;obtain ⟨r2,hr2,h⟩ := h
 refine .callO (d := 16) (p110 N a1 r2 hr2) (by simp) rfl rfl (by simp <;> rfl) (by simp <;> rfl) ent110 (by simp) ⟨by simp,by simp⟩ ?_
 refine .rr 1 ?_
 refine .nil (.seq (.seqR ?_))
 refine .rr 3 ?_
 refine .tt (L70 a0 a1 a2 ++ [(8,.ref 16 0 r2.length),(18,.i (a1.length : Int)),(19,.i 0)]) [(16,R53 r2)] (.nil ?_)
 refine .lastJ (fun (l75 : List S53) => mk 55 [] [(8,.ref 16 0 l75.length)] [(16,R53 l75)]) h ?_ ?_ <;> clear h
 ·intro o h
  refine .block ?_
  refine .iter (fun ((l25,v26) : ((List S53) × Int)) => mk 55 [] (L71 a0 a1 a2 l25.length a1.length v26) [(16,R53 l25)]) h Sub.tt ?_
  clear h
  rintro ⟨l25,v26⟩ x h
  dsimp only at h ⊢
  refine .seqR ?_
  refine .rr 1 ?_
  refine .nil (.seq ?_)
  replace h := isome h;rcases h with ⟨c76,h⟩ | ⟨c76,h⟩
  ·refine .condT rfl (decide_eq_true c76) ?_
   refine .skip (thenQ_normal (.seq (.block (.seqR ?_))))
   refine .rr 2 ?_
   refine .tt (L70 a0 a1 a2 ++ [(8,.ref 16 0 l25.length),(9,.i v26),(18,.i (a1.length : Int)),(19,.i v26)]) [(16,R53 l25)] (.nil (.seq ?_))
   refine .seqQ (by kernel_rfl) (by kernel_rfl) ?_
   replace h := xsome h;obtain ⟨x77,k78,hx77k,hx77,hx77a,hx77b,h⟩ := h
   replace h := bsome h;obtain ⟨x79,hx79,h⟩ := h
   obtain ⟨hx79,hx79a,hx79b⟩ := idx_some2 hx79 hx77k
   refine .rq 11 fun K k => ?_;simp [hx77,hx77a,hx79,hx77k];refine k ?_
   refine .nil ?_
   replace h := isome h;rcases h with ⟨c80,h⟩ | ⟨c80,h⟩
   ·refine .condT rfl c80 ?_
    refine .seqR ?_
    refine .rr 2 ?_
    refine .tt [(6,.z),(7,.i 7)] [] (.nil ?_)
    refine .sub (.wk 6 rfl) ?_
    refine .st (mk 55 [] [(6,.s53 ([] : List S53)),(7,.i 7)] []) (.ret ?_)
    cases h
    refine thenQ_ps ?_
    refine blockQ.ret ?_
    refine thenQ_ps ?_
    refine PostI.os ?_
    rintro rfl
    refine blockQ.ret ?_
    refine PostJ.out (by simp) ?_
    rintro rfl
    refine thenQ_ps ?_
    exact FinC.rs
   refine .condF rfl (Bool.eq_false_iff.2 c80) ?_
   refine .skip (thenQ_normal ?_)
   replace h := bsome h;obtain ⟨l89,hj,h⟩ := h
   refine .region (Chain.cut (mk 55 [] (L71 a0 a1 a2 l89.length a1.length v26) [(16,R53 l89)]) ?_ fun S' hS => ?_)
   ·clear h;have h := hj;clear hj
    refine .rk 8 fun K k => ?_;simp [hx77,hx77k,hx77a];refine k ?_
    replace h := isome h;rcases h with ⟨c90,h⟩ | ⟨c90,h⟩
    ·refine .sub (.bool 40 rfl c90) ?_
     refine .st (mk 55 [] (L72 a0 a1 a2 l25.length v26 a1.length ++ [(40,.b true)]) [(16,R53 l25)]) ?_
     replace h := bsome h;obtain ⟨x91,hx91,h⟩ := h
     obtain ⟨hx91,hx91a,hx91b⟩ := idx_some2 hx91 hx77k
     replace h := lsome h;obtain ⟨l92,gl92,h⟩ := h
     obtain ⟨hl92,hl92n⟩ := setI_some cS53 gl92 hx77k
     replace hl92 : (l25.map cS53).set k78 [.lit (.string x91.Name),.lit (.int .i64 x91.Kind),.lit (.bool true)] = l92.map cS53 := hl92
     clear gl92
     refine .rk 13 fun K k => ?_;simp [hx91,hx77k,hx91a,hx91b,hl92];refine k ?_
     refine .sub (S' := mk 55 [] (L71 a0 a1 a2 l92.length a1.length v26 ++ [(41,.tup []),(42,.tup []),(43,.tup []),(44,.tup []),(45,.tup []),(46,.tup []),(47,.tup []),(48,.tup []),(49,.tup [])]) [(16,R53 l92)]) (Sub.table (by simp [hl92n]) (by simp)) ?_
     cases h
     exact .nil .tt
    refine .sub (.bool 40 rfl (Bool.eq_false_iff.2 c90)) ?_
    refine .rr 3 ?_
    replace h := isome h;rcases h with ⟨c93,h⟩ | ⟨c93,h⟩
    ·have c93_ := c93
     refine .sub (.bool 42 rfl c93_) ?_
     refine .sub (.bool 43 rfl c93_) ?_
     refine .st (mk 55 [] (L73 a0 a1 a2 l25.length v26 a1.length ++ [(42,.b true),(43,.b true)]) [(16,R53 l25)]) ?_
     replace h := bsome h;obtain ⟨x94,hx94,h⟩ := h
     obtain ⟨hx94,hx94a,hx94b⟩ := idx_some2 hx94 hx77k
     replace h := lsome h;obtain ⟨l95,gl95,h⟩ := h
     obtain ⟨hl95,hl95n⟩ := setI_some cS53 gl95 hx77k
     replace hl95 : (l25.map cS53).set k78 [.lit (.string x94.Name),.lit (.int .i64 x94.Kind),.lit (.bool x79.Nullable)] = l95.map cS53 := hl95
     clear gl95
     refine .rk 10 fun K k => ?_;simp [hx79,hx79a,hx94,hx77k,hx94b,hl95];refine k ?_
     refine .sub (S' := mk 55 [] (L71 a0 a1 a2 l95.length a1.length v26 ++ [(41,.i a0),(42,.b true),(43,.b true),(44,.s53 a2),(45,.i v26),(46,.d (.pim [.lit (.string x79.Name),.lit (.int .i64 x79.Kind),.lit (.bool x79.Nullable)])),(47,.d (.pim [.lit (.bool x79.Nullable)])),(48,.b x79.Nullable),(49,.b x79.Nullable)]) [(16,R53 l95)]) (Sub.table (by simp [hl95n]) (by simp)) ?_
     cases h
     exact .nil .tt
    have c93_ := Bool.eq_false_iff.2 c93
    refine .sub (.bool 42 rfl c93_) ?_
    refine .sub (.bool 43 rfl c93_) ?_
    refine .st (mk 55 [] (L73 a0 a1 a2 l25.length v26 a1.length ++ [(42,.b false),(43,.b false)]) [(16,R53 l25)]) ?_
    replace h := bsome h;obtain ⟨x96,hx96,h⟩ := h
    obtain ⟨hx96,hx96a,hx96b⟩ := idx_some2 hx96 hx77k
    replace h := lsome h;obtain ⟨l97,gl97,h⟩ := h
    obtain ⟨hl97,hl97n⟩ := setI_some cS53 gl97 hx77k
    replace hl97 : (l25.map cS53).set k78 [.lit (.string x96.Name),.lit (.int .i64 x96.Kind),.lit (.bool false)] = l97.map cS53 := hl97
    clear gl97
    refine .rk 10 fun K k => ?_;simp [hx96,hx77k,hx96a,hx96b,hl97];refine k ?_
    refine .sub (S' := mk 55 [] (L71 a0 a1 a2 l97.length a1.length v26 ++ [(41,.i a0),(42,.b false),(43,.b false),(44,.tup []),(45,.tup []),(46,.tup []),(47,.tup []),(48,.tup []),(49,.b false)]) [(16,R53 l97)]) (Sub.table (by simp [hl97n]) (by simp)) ?_
    cases h
    exact .nil .tt
   clear hj
   refine blockQ.normal (thenQ_normal ?_)
   refine .sub hS ?_
   refine .region ?_
   replace h := csome h;obtain ⟨v98,hv98,h⟩ := h
   refine .rk 2 fun K k => ?_;simp [hv98];refine k ?_
   refine .nil ?_
   cases h
   refine PostI.next ?_
   exact Sub.tt
  refine .condF rfl (decide_eq_false c76) ?_
  refine .exit ?_
  cases h
  refine thenQ_ps ?_
  refine PostI.os ?_
  rintro rfl
  refine blockQ.hit (PostJ.next ?_)
  exact Sub.tt
 rintro l75 h
 refine thenQ_normal (.seqR ?_)
 refine .rr 3 ?_
 refine .tt [(6,.ref 16 0 l75.length),(7,.i 0)] [(16,R53 l75)] (.nil ?_)
 refine .sub (.freeze 16 rfl) ?_
 refine .st (mk 55 [] [(6,.s53 l75),(7,.i 0)] []) (.ret ?_)
 cases h
 exact FinC.rs
def d119 (N : Nat) (a0 : (List ByteArray)) (a1 : ByteArray) : Option Bool :=
 (d136 N a0 a1).bind fun r1 =>
 some (decide (r1 ≥ 0))
theorem p119 (N : Nat) (a0 : (List ByteArray)) (a1 : ByteArray) (r : Bool) (h : d119 N a0 a1 = some r) : FunC Tryz.prog 119 [.ss a0,.s a1] (.b r) := by
 unfold d119 at h
 refine FunC.enter 9 [(0,.ss a0),(1,.s a1)] (by simp) Tryz.func119 rfl (of_decide_eq_true rfl) rfl rfl ?_
 refine .seqR ?_
 refine .rr 1 ?_
 refine .nil (.seqR ?_)
 refine .rr 2 ?_
 refine .tt [(5,.ss a0),(6,.s a1)] [] ?_
 replace h := bsome h;obtain ⟨r1,hr1,h⟩ := h
 refine .callL (d := 7) (p136 N a0 a1 r1 hr1) (by simp) rfl rfl (by simp <;> rfl) (by simp <;> rfl) ent136 (by simp <;> rfl) ?_
 refine .rr 2 ?_
 refine .nil (.ret ?_)
 cases h
 exact FinC.rs
def d146 (N : Nat) (a0 : S122) (a1 : (List S53)) (a2 : S79) : Option (Int × Int) :=
 Option.bind (α := Bool) (
  (d145 N a2.Name).bind fun r9 =>
  if (!r9) = true then (
   some true
  ) else
  letv ([(ByteArray.mk #[99,111,117,110,116]),(ByteArray.mk #[115,117,109]),(ByteArray.mk #[109,105,110]),(ByteArray.mk #[109,97,120])] : List ByteArray) fun l11 =>
  (d119 N l11 a2.Function).bind fun r12 =>
  if (!r12) = true then (
   some true
  ) else
  if (a2.Args.length : Int) > 1 then (
   some true
  ) else
  if (a2.Args.length : Int) < 1 then (
   some (!decide (a2.Function = (ByteArray.mk #[99,111,117,110,116])))
  ) else
  some false
 ) fun (v8 : Bool) =>
 if v8 = true then (
  some (0,3)
 ) else
 if ((a2.Args.length : Int) == 0) then (
  some (1,0)
 ) else
 (idx a2.Args 0).bind fun x18 =>
 (d114 N a1 a0.vars x18).bind fun r19 =>
 if (r19.2.2 != 0) then (
  some (0,r19.2.2)
 ) else
 Option.bind (α := Bool) (
  if (r19.1 == 0) then (
   some true
  ) else
  if decide (a2.Function = (ByteArray.mk #[115,117,109])) = true then (
   some (r19.1 != 1)
  ) else
  some false
 ) fun (v23 : Bool) =>
 if v23 = true then (
  some (0,7)
 ) else
 if decide (a2.Function = (ByteArray.mk #[99,111,117,110,116])) = true then (
  some (1,0)
 ) else
 some (r19.1,0)
theorem p146 (N : Nat) (a0 : S122) (a1 : (List S53)) (a2 : S79) (r : (Int × Int)) (h : d146 N a0 a1 a2 = some r) : FunC Tryz.prog 146 [.agg (k122 a0),.s53 a1,.agg (k79 a2)] (.tup [.i r.1,.i r.2]) := by
 unfold d146 at h
 refine FunC.enter 76 [(0,.agg (k122 a0)),(1,.s53 a1),(2,.agg (k79 a2))] (by simp) Tryz.func146 rfl (of_decide_eq_true rfl) rfl rfl ?_
 refine .seqR ?_
 refine .rr 4 ?_
 refine .tt (L69 a1) (H12 a0 a2) (.nil (.seq ?_))
 replace h := bsome h;obtain ⟨v8,hj,h⟩ := h
 refine .cutR (mk 76 [] (L69 a1 ++ [(38,.b v8)]) (H12 a0 a2)) ?_ ?_
 ·clear h;have h := hj;clear hj
  refine .rr 2 ?_
  refine .tt (L69 a1 ++ [(12,.s a2.Name)]) (H12 a0 a2) ?_
  replace h := bsome h;obtain ⟨r9,hr9,h⟩ := h
  refine .callL (d := 13) (p145 N a2.Name r9 hr9) (by simp) rfl rfl (by simp <;> rfl) (by simp <;> rfl) ent145 (by simp <;> rfl) ?_
  refine .rr 2 ?_
  replace h := isome h;rcases h with ⟨c10,h⟩ | ⟨c10,h⟩
  ·refine .sub (.bool 15 rfl c10) ?_
   refine .rr 23 ?_
   cases h
   exact .nil .tt
  refine .sub (.bool 15 rfl (Bool.eq_false_iff.2 c10)) ?_
  refine .rr 1 ?_
  refine .sub (.wkRow 16 rfl) ?_
  replace h := lsome h;obtain ⟨l11,hl11,h⟩ := h
  refine .sub (S' := mk 76 [] (L76 a1 l11.length) (H59 a0 a2 l11)) (by simp;subst hl11;exact Sub.table (by simp) (by simp)) ?_
  refine .rr 2 ?_
  refine .tt (L76 a1 l11.length ++ [(18,.s a2.Function)]) (H59 a0 a2 l11) ?_
  replace h := bsome h;obtain ⟨r12,hr12,h⟩ := h
  refine .callL (d := 19) (p119 N l11 a2.Function r12 hr12) (by simp) rfl rfl (by simp <;> rfl) (by simp <;> rfl) ent119 (by simp <;> rfl) ?_
  refine .rr 3 ?_
  replace h := isome h;rcases h with ⟨c13,h⟩ | ⟨c13,h⟩
  ·refine .sub (.bool 22 rfl c13) ?_
   refine .rr 16 ?_
   cases h
   exact .nil .tt
  refine .sub (.bool 22 rfl (Bool.eq_false_iff.2 c13)) ?_
  refine .rr 6 ?_
  replace h := isome h;rcases h with ⟨c14,h⟩ | ⟨c14,h⟩
  ·refine .sub (.bool 28 rfl (decide_eq_true c14)) ?_
   refine .rr 10 ?_
   cases h
   exact .nil .tt
  refine .sub (.bool 28 rfl (decide_eq_false c14)) ?_
  refine .rr 5 ?_
  replace h := isome h;rcases h with ⟨c15,h⟩ | ⟨c15,h⟩
  ·refine .sub (.bool 33 rfl (decide_eq_true c15)) ?_
   refine .rr 5 ?_
   cases h
   exact .nil .tt
  refine .sub (.bool 33 rfl (decide_eq_false c15)) ?_
  refine .rr 5 ?_
  cases h
  exact .nil .tt
 clear hj
 replace h := isome h;rcases h with ⟨c16,h⟩ | ⟨c16,h⟩
 ·refine .condT rfl c16 ?_
  refine .seqR ?_
  refine .rr 2 ?_
  refine .nil (.ret ?_)
  cases h
  refine thenQ_ps ?_
  exact FinC.rs
 refine .condF rfl (Bool.eq_false_iff.2 c16) ?_
 refine .skip (thenQ_normal (.seq (.seqR ?_)))
 refine .rr 4 ?_
 refine .nil ?_
 replace h := isome h;rcases h with ⟨c17,h⟩ | ⟨c17,h⟩
 ·refine .condT rfl c17 ?_
  refine .seqR ?_
  refine .rr 2 ?_
  refine .nil (.ret ?_)
  cases h
  refine thenQ_ps ?_
  exact FinC.rs
 refine .condF rfl (Bool.eq_false_iff.2 c17) ?_
 refine .skip (thenQ_normal ?_)
 refine .seqQ (by kernel_rfl) (by kernel_rfl) ?_
 replace h := bsome h;obtain ⟨x18,hx18,h⟩ := h
 obtain ⟨hx18,hx18b,hx18c⟩ := idx_someN (n := 0) hx18
 refine .rq 7 fun K k => ?_;simp [hx18];refine k ?_
 refine .tt [(5,.ptr 5 0 0),(44,.s53 a1),(46,.s53 a0.vars),(50,.agg (k76 x18))] (H16 a2) ?_
 replace h := bsome h;obtain ⟨r19,hr19,h⟩ := h
 refine .callL (d := 51) (p114 N a1 a0.vars x18 r19 hr19) (by simp) rfl rfl (by simp <;> rfl) (by simp <;> rfl) ent114 (by simp <;> rfl) ?_
 refine .rq 7 fun K k => ?_;simp;refine k ?_
 refine .nil (.seq (.block (.seqR ?_)))
 refine .rr 3 ?_
 refine .nil ?_
 replace h := isome h;rcases h with ⟨c20,h⟩ | ⟨c20,h⟩
 ·refine .condT rfl c20 ?_
  refine .seqR ?_
  refine .rr 3 ?_
  refine .nil (.ret ?_)
  cases h
  refine blockQ.ret ?_
  refine thenQ_ps ?_
  exact FinC.rs
 refine .condF rfl (Bool.eq_false_iff.2 c20) ?_
 replace h := bsome h;obtain ⟨v23,hj,h⟩ := h
 refine .cutR (mk 76 [] [(5,.ptr 5 0 0),(8,.i r19.1),(59,.b v23)] (H16 a2)) ?_ ?_
 ·clear h;have h := hj;clear hj
  refine .rr 3 ?_
  replace h := isome h;rcases h with ⟨c24,h⟩ | ⟨c24,h⟩
  ·refine .sub (.bool 62 rfl c24) ?_
   refine .rr 9 ?_
   cases h
   exact .nil .tt
  refine .sub (.bool 62 rfl (Bool.eq_false_iff.2 c24)) ?_
  refine .rr 4 ?_
  replace h := isome h;rcases h with ⟨c25,h⟩ | ⟨c25,h⟩
  ·refine .sub (.bool 66 rfl c25) ?_
   refine .rr 5 ?_
   cases h
   exact .nil .tt
  refine .sub (.bool 66 rfl (Bool.eq_false_iff.2 c25)) ?_
  refine .rr 5 ?_
  cases h
  exact .nil .tt
 clear hj
 replace h := isome h;rcases h with ⟨c26,h⟩ | ⟨c26,h⟩
 ·refine .condT rfl c26 ?_
  refine .seqR ?_
  refine .rr 2 ?_
  refine .nil (.ret ?_)
  cases h
  refine blockQ.ret ?_
  refine thenQ_ps ?_
  exact FinC.rs
 refine .condF rfl (Bool.eq_false_iff.2 c26) ?_
 refine .seqR ?_
 refine .rr 4 ?_
 refine .nil ?_
 replace h := isome h;rcases h with ⟨c27,h⟩ | ⟨c27,h⟩
 ·refine .condT rfl c27 ?_
  refine .seqR ?_
  refine .rr 2 ?_
  refine .nil (.ret ?_)
  cases h
  refine blockQ.ret ?_
  refine thenQ_ps ?_
  exact FinC.rs
 refine .condF rfl (Bool.eq_false_iff.2 c27) ?_
 refine .skip (blockQ.normal (thenQ_normal (.seqR ?_)))
 refine .rr 3 ?_
 refine .nil (.ret ?_)
 cases h
 exact FinC.rs
def d113 (N : Nat) (a0 : S122) (a1 : S34) (a2 : (List S53)) : Option ((List S53) × Int) :=
 bindO (β := List S53) (ρ := ((List S53) × Int)) (
  iterN (σ := ((List S53) × Int)) (ρ := (Out (List S53) ((List S53) × Int))) (fun ((l11,v12) : ((List S53) × Int)) =>
   if v12 < (a1.Exprs.length : Int) then (
    (idx a1.Exprs v12).bind fun x39 =>
    (d114 N a2 a0.vars x39).bind fun r41 =>
    (idx a1.Names v12).bind fun x42 =>
    (d145 N x42).bind fun r43 =>
    if (!r43) = true then (
     some (.inr (.ret (([] : List S53),3)))
    ) else
    if (r41.2.2 != 0) then (
     some (.inr (.ret (([] : List S53),r41.2.2)))
    ) else
    if (r41.1 == 0) then (
     some (.inr (.ret (([] : List S53),7)))
    ) else
    (appL 32 l11 [(S53.mk x42 r41.1 r41.2.1)]).bind fun _l47 =>
    (chkI (v12 + 1)).bind fun v48 =>
    some (.inl ((l11 ++ [(S53.mk x42 r41.1 r41.2.1)]),v48))
   ) else
   some (.inr (.go l11))
  ) N (([] : List S53),0)
 ) fun (l37 : List S53) =>
 bindO (β := List S53) (ρ := ((List S53) × Int)) (
  iterN (σ := ((List S53) × Int)) (ρ := (Out (List S53) ((List S53) × Int))) (fun ((l55,v56) : ((List S53) × Int)) =>
   if v56 < (a1.Aggregates.length : Int) then (
    (idx a1.Aggregates v56).bind fun x75 =>
    (d146 N a0 a2 x75).bind fun r77 =>
    if (r77.2 != 0) then (
     some (.inr (.ret (([] : List S53),r77.2)))
    ) else
    (appL 32 l55 [(S53.mk x75.Name r77.1 (!decide (x75.Function = (ByteArray.mk #[99,111,117,110,116]))))]).bind fun _l79 =>
    (chkI (v56 + 1)).bind fun v80 =>
    some (.inl ((l55 ++ [(S53.mk x75.Name r77.1 (!decide (x75.Function = (ByteArray.mk #[99,111,117,110,116]))))]),v80))
   ) else
   some (.inr (.go l55))
  ) N (l37,0)
 ) fun (l73 : List S53) =>
 some (l73,0)
theorem p113 (N : Nat) (a0 : S122) (a1 : S34) (a2 : (List S53)) (r : ((List S53) × Int)) (h : d113 N a0 a1 a2 = some r) : FunC Tryz.prog 113 [.agg (k122 a0),.agg (k34 a1),.s53 a2] (.tup [.s53 r.1,.i r.2]) := by
 unfold d113 at h
 refine FunC.enter 91 [(0,.agg (k122 a0)),(1,.agg (k34 a1)),(2,.s53 a2)] (by simp) Tryz.func113 rfl (of_decide_eq_true rfl) rfl rfl ?_
 refine .seqR ?_
 refine .rr 4 ?_
 refine .nil (.seqR ?_)
 refine .rr 1 ?_
 refine .nil (.seq (.seqR ?_))
 refine .rr 4 ?_
 refine .tt (L78 a2 ++ [(8,.z),(19,.s76 a1.Exprs),(20,.i (a1.Exprs.length : Int)),(21,.i 0)]) (H9 a0 a1) (.nil ?_)
 refine .lastJ (fun (l37 : List S53) => mk 91 [] (L79 a2 l37.length) (H24 a0 a1 l37)) h ?_ ?_ <;> clear h
 ·intro o h
  refine .block ?_
  refine .iter (fun ((l11,v12) : ((List S53) × Int)) => mk 91 [] (L79 a2 l11.length ++ [(19,.s76 a1.Exprs),(20,.i (a1.Exprs.length : Int)),(21,.i v12)]) (H24 a0 a1 l11)) h (Sub.trans (Sub.nilOwn (t := 8) (id := 60) (T := 53) (n := 3) rfl rfl (by decide)) (by simp;exact Sub.tt)) ?_
  clear h
  rintro ⟨l11,v12⟩ x h
  dsimp only at h ⊢
  refine .seqR ?_
  refine .rr 1 ?_
  refine .nil (.seq ?_)
  replace h := isome h;rcases h with ⟨c38,h⟩ | ⟨c38,h⟩
  ·refine .condT rfl (decide_eq_true c38) ?_
   refine .skip (thenQ_normal (.seq (.block (.seqR ?_))))
   replace h := xsome h;obtain ⟨x39,k40,hx39k,hx39,hx39a,hx39b,h⟩ := h
   refine .rk 6 fun K k => ?_;simp [hx39,hx39k,hx39a];refine k ?_
   refine .nil (.seqR ?_)
   refine .rr 4 ?_
   refine .tt (L80 a2 l11.length v12 ++ [(19,.s76 a1.Exprs),(20,.i (a1.Exprs.length : Int)),(21,.i v12),(27,.s53 a2),(29,.s53 a0.vars),(30,.agg (k76 x39))]) (H24 a0 a1 l11) ?_
   replace h := bsome h;obtain ⟨r41,hr41,h⟩ := h
   refine .callL (d := 31) (p114 N a2 a0.vars x39 r41 hr41) (by simp) rfl rfl (by simp <;> rfl) (by simp <;> rfl) ent114 (by simp <;> rfl) ?_
   refine .rr 7 ?_
   refine .tt (L81 a2 l11.length v12 r41.1 r41.2.1 r41.2.2 a1.Exprs a1.Exprs.length) (H24 a0 a1 l11) (.nil (.seq (.block (.seqR ?_))))
   replace h := bsome h;obtain ⟨x42,hx42,h⟩ := h
   obtain ⟨hx42,hx42a,hx42b⟩ := idx_some2 hx42 hx39k
   refine .rk 5 fun K k => ?_;simp [hx42,hx39k,hx42a];refine k ?_
   refine .tt (L81 a2 l11.length v12 r41.1 r41.2.1 r41.2.2 a1.Exprs a1.Exprs.length ++ [(40,.s x42)]) (H24 a0 a1 l11) ?_
   replace h := bsome h;obtain ⟨r43,hr43,h⟩ := h
   refine .callL (d := 41) (p145 N x42 r43 hr43) (by simp) rfl rfl (by simp <;> rfl) (by simp <;> rfl) ent145 (by simp <;> rfl) ?_
   refine .rr 2 ?_
   refine .nil ?_
   replace h := isome h;rcases h with ⟨c44,h⟩ | ⟨c44,h⟩
   ·refine .condT rfl c44 ?_
    refine .seqR ?_
    refine .rr 2 ?_
    refine .tt [(6,.z),(7,.i 3)] [] (.nil ?_)
    refine .sub (.wk 6 rfl) ?_
    refine .st (mk 91 [] [(6,.s53 ([] : List S53)),(7,.i 3)] []) (.ret ?_)
    cases h
    refine blockQ.ret ?_
    refine thenQ_ps ?_
    refine blockQ.ret ?_
    refine thenQ_ps ?_
    refine PostI.os ?_
    rintro rfl
    refine blockQ.ret ?_
    refine PostJ.out (by simp) ?_
    rintro rfl
    refine thenQ_ps ?_
    exact FinC.rs
   refine .condF rfl (Bool.eq_false_iff.2 c44) ?_
   refine .seqR ?_
   refine .rr 3 ?_
   refine .nil ?_
   replace h := isome h;rcases h with ⟨c45,h⟩ | ⟨c45,h⟩
   ·refine .condT rfl c45 ?_
    refine .seqR ?_
    refine .rr 3 ?_
    refine .tt [(6,.z),(7,.i r41.2.2)] [] (.nil ?_)
    refine .sub (.wk 6 rfl) ?_
    refine .st (mk 91 [] [(6,.s53 ([] : List S53)),(7,.i r41.2.2)] []) (.ret ?_)
    cases h
    refine blockQ.ret ?_
    refine thenQ_ps ?_
    refine blockQ.ret ?_
    refine thenQ_ps ?_
    refine PostI.os ?_
    rintro rfl
    refine blockQ.ret ?_
    refine PostJ.out (by simp) ?_
    rintro rfl
    refine thenQ_ps ?_
    exact FinC.rs
   refine .condF rfl (Bool.eq_false_iff.2 c45) ?_
   refine .seqR ?_
   refine .rr 3 ?_
   refine .nil ?_
   replace h := isome h;rcases h with ⟨c46,h⟩ | ⟨c46,h⟩
   ·refine .condT rfl c46 ?_
    refine .seqR ?_
    refine .rr 2 ?_
    refine .tt [(6,.z),(7,.i 7)] [] (.nil ?_)
    refine .sub (.wk 6 rfl) ?_
    refine .st (mk 91 [] [(6,.s53 ([] : List S53)),(7,.i 7)] []) (.ret ?_)
    cases h
    refine blockQ.ret ?_
    refine thenQ_ps ?_
    refine blockQ.ret ?_
    refine thenQ_ps ?_
    refine PostI.os ?_
    rintro rfl
    refine blockQ.ret ?_
    refine PostJ.out (by simp) ?_
    rintro rfl
    refine thenQ_ps ?_
    exact FinC.rs
   refine .condF rfl (Bool.eq_false_iff.2 c46) ?_
   refine .skip (blockQ.normal (thenQ_normal (.region ?_)))
   replace h := bsome h;obtain ⟨l47,hl47,h⟩ := h
   obtain ⟨hl47a,hl47⟩ := appL_some hl47
   subst hl47
   try simp only [List.length_cons,List.length_nil,Nat.zero_add] at hl47a
   refine .runK [59] 12 fun K k => ?_;simp [hx42,hx39k,hx42a,hl47a];refine k _ _ ?_;clear k K
   refine .tt (L78 a2 ++ [(8,.ref 60 0 ((l11 ++ [(S53.mk x42 r41.1 r41.2.1)]).length)),(19,.s76 a1.Exprs),(20,.i (a1.Exprs.length : Int)),(21,.i v12)]) [(3,some (.box (k122 a0))),(4,some (.box (k34 a1))),(60,R53 (l11 ++ [(S53.mk x42 r41.1 r41.2.1)]))] (.nil (blockQ.normal (thenQ_normal (.region ?_))))
   replace h := csome h;obtain ⟨v48,hv48,h⟩ := h
   refine .rk 2 fun K k => ?_;simp [hv48];refine k ?_
   refine .nil ?_
   cases h
   refine PostI.next ?_
   exact Sub.tt
  refine .condF rfl (decide_eq_false c38) ?_
  refine .exit ?_
  cases h
  refine thenQ_ps ?_
  refine PostI.os ?_
  rintro rfl
  refine blockQ.hit (PostJ.next ?_)
  exact Sub.tt
 rintro l37 h
 refine thenQ_normal (.seq (.seqR ?_))
 refine .rr 4 ?_
 refine .tt (L82 a2 l37.length a1.Aggregates a1.Aggregates.length ++ [(65,.i 0)]) (H60 a0 l37) (.nil ?_)
 refine .lastJ (fun (l73 : List S53) => mk 91 [] [(8,.ref 60 0 l73.length)] [(60,R53 l73)]) h ?_ ?_ <;> clear h
 ·intro o h
  refine .block ?_
  refine .iter (fun ((l55,v56) : ((List S53) × Int)) => mk 91 [] (L82 a2 l55.length a1.Aggregates a1.Aggregates.length ++ [(65,.i v56)]) (H60 a0 l55)) h Sub.tt ?_
  clear h
  rintro ⟨l55,v56⟩ x h
  dsimp only at h ⊢
  refine .seqR ?_
  refine .rr 1 ?_
  refine .nil (.seq ?_)
  replace h := isome h;rcases h with ⟨c74,h⟩ | ⟨c74,h⟩
  ·refine .condT rfl (decide_eq_true c74) ?_
   refine .skip (thenQ_normal (.seq (.block (.seqR ?_))))
   replace h := xsome h;obtain ⟨x75,k76,hx75k,hx75,hx75a,hx75b,h⟩ := h
   refine .rk 4 fun K k => ?_;simp [hx75,hx75k,hx75a];refine k ?_
   refine .nil (.seqR ?_)
   refine .rr 3 ?_
   refine .tt (L83 a2 l55.length a1.Aggregates a1.Aggregates.length v56 ++ [(70,.agg (k122 a0)),(71,.s53 a2),(72,.agg (k79 x75))]) (H46 a0 x75 l55) ?_
   replace h := bsome h;obtain ⟨r77,hr77,h⟩ := h
   refine .callL (d := 73) (p146 N a0 a2 x75 r77 hr77) (by simp) rfl rfl (by simp <;> rfl) (by simp <;> rfl) ent146 (by simp <;> rfl) ?_
   refine .rr 5 ?_
   refine .nil (.seq (.seqR ?_))
   refine .rr 2 ?_
   refine .nil ?_
   replace h := isome h;rcases h with ⟨c78,h⟩ | ⟨c78,h⟩
   ·refine .condT rfl c78 ?_
    refine .seqR ?_
    refine .rr 3 ?_
    refine .tt [(6,.z),(7,.i r77.2)] [] (.nil ?_)
    refine .sub (.wk 6 rfl) ?_
    refine .st (mk 91 [] [(6,.s53 ([] : List S53)),(7,.i r77.2)] []) (.ret ?_)
    cases h
    refine thenQ_ps ?_
    refine blockQ.ret ?_
    refine thenQ_ps ?_
    refine PostI.os ?_
    rintro rfl
    refine blockQ.ret ?_
    refine PostJ.out (by simp) ?_
    rintro rfl
    refine thenQ_ps ?_
    exact FinC.rs
   refine .condF rfl (Bool.eq_false_iff.2 c78) ?_
   refine .skip (thenQ_normal (.region ?_))
   replace h := bsome h;obtain ⟨l79,hl79,h⟩ := h
   obtain ⟨hl79a,hl79⟩ := appL_some hl79
   subst hl79
   try simp only [List.length_cons,List.length_nil,Nat.zero_add] at hl79a
   refine .runK [87] 11 fun K k => ?_;simp [hl79a];refine k _ _ ?_;clear k K
   refine .tt [(2,.s53 a2),(3,.ptr 3 0 0),(8,.ref 60 0 ((l55 ++ [(S53.mk x75.Name r77.1 (!decide (x75.Function = (ByteArray.mk #[99,111,117,110,116]))))]).length)),(63,.s79 a1.Aggregates),(64,.i (a1.Aggregates.length : Int)),(65,.i v56)] [(3,some (.box (k122 a0))),(60,R53 (l55 ++ [(S53.mk x75.Name r77.1 (!decide (x75.Function = (ByteArray.mk #[99,111,117,110,116]))))]))] (.nil (blockQ.normal (thenQ_normal (.region ?_))))
   replace h := csome h;obtain ⟨v80,hv80,h⟩ := h
   refine .rk 2 fun K k => ?_;simp [hv80];refine k ?_
   refine .nil ?_
   cases h
   refine PostI.next ?_
   exact Sub.tt
  refine .condF rfl (decide_eq_false c74) ?_
  refine .exit ?_
  cases h
  refine thenQ_ps ?_
  refine PostI.os ?_
  rintro rfl
  refine blockQ.hit (PostJ.next ?_)
  exact Sub.tt
 rintro l73 h
 refine thenQ_normal (.seqR ?_)
 refine .rr 3 ?_
 refine .tt [(6,.ref 60 0 l73.length),(7,.i 0)] [(60,R53 l73)] (.nil ?_)
 refine .sub (.freeze 60 rfl) ?_
 refine .st (mk 91 [] [(6,.s53 l73),(7,.i 0)] []) (.ret ?_)
 cases h
 exact FinC.rs
end Go.Proofs.YtmgddgcniacnbaaGreatDoor
