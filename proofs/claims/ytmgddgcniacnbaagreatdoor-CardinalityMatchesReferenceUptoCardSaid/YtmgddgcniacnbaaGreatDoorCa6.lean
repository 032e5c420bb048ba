/- Functions of the program as functional programs; the code computes them. -/
import Derived.Test.YtmgddgcniacnbaaGreatDoorCa5
namespace Go.Proofs.YtmgddgcniacnbaaGreatDoor
set_option maxRecDepth 100000
set_option maxHeartbeats 4000000
open Go.Ab Go.Rp
attribute [-simp] List.all_eq_true Array.all_toList Array.all_eq_true
def d74 (N : Nat) (a0 : S34) : Option Bool :=
 letv ([(-1),0,1,1,2,2,2,2,1,1,1] : List Int) fun l1 =>
 Option.bind (α := Bool) (
  if a0.Kind < 1 then (
   some true
  ) else
  if a0.Kind > 10 then (
   some true
  ) else
  (idx l1 a0.Kind).bind fun x9 =>
  some ((a0.Inputs.length : Int) != x9)
 ) fun (v6 : Bool) =>
 if v6 = true then (
  some false
 ) else
 Option.bind (α := Bool) (
  (d107 N ([1] : List Int) a0).bind fun r15 =>
  if (!r15) = true then (
   some (!decide (a0.Table = (ByteArray.mk #[])))
  ) else
  some false
 ) fun (v14 : Bool) =>
 Option.bind (α := Bool) (
  if v14 = true then (
   some true
  ) else
  Option.bind (α := Bool) (
   letv ([3,8] : List Int) fun l51 =>
   (d107 N l51 a0).bind fun r52 =>
   if (!r52) = true then (
    some (decide ((a0.Names.length : Int) > 0))
   ) else
   some false
  ) fun (v50 : Bool) =>
  if v50 = true then (
   some true
  ) else
  Option.bind (α := Bool) (
   (d107 N ([8] : List Int) a0).bind fun r58 =>
   if (!r58) = true then (
    some (decide ((a0.Aggregates.length : Int) > 0))
   ) else
   some false
  ) fun (v57 : Bool) =>
  if v57 = true then (
   some true
  ) else
  Option.bind (α := Bool) (
   (d107 N ([9] : List Int) a0).bind fun r64 =>
   if (!r64) = true then (
    some (decide ((a0.Descending.length : Int) > 0))
   ) else
   some false
  ) fun (v63 : Bool) =>
  if v63 = true then (
   some true
  ) else
  Option.bind (α := Bool) (
   (d107 N ([10] : List Int) a0).bind fun r71 =>
   if (!r71) = true then (
    if (a0.Count != 0) then (
     some true
    ) else
    some (a0.Offset != 0)
   ) else
   some false
  ) fun (v70 : Bool) =>
  some v70
 ) fun (v45 : Bool) =>
 if v45 = true then (
  some false
 ) else
 letv ([2,4,5] : List Int) fun l75 =>
 (d107 N l75 a0).bind fun r76 =>
 if r76 = true then (
  some ((a0.Exprs.length : Int) == 1)
 ) else
 letv ([3,8] : List Int) fun l78 =>
 (d107 N l78 a0).bind fun r79 =>
 if r79 = true then (
  Option.bind (α := Bool) (
   if ((a0.Exprs.length : Int) == (a0.Names.length : Int)) then (
    (chkI ((a0.Exprs.length : Int) + (a0.Aggregates.length : Int))).bind fun v85 =>
    some (decide (v85 > 0))
   ) else
   some false
  ) fun (v83 : Bool) =>
  some v83
 ) else
 (d107 N ([9] : List Int) a0).bind fun r86 =>
 if r86 = true then (
  Option.bind (α := Bool) (
   if ((a0.Exprs.length : Int) == (a0.Descending.length : Int)) then (
    some (decide ((a0.Exprs.length : Int) > 0))
   ) else
   some false
  ) fun (v89 : Bool) =>
  some v89
 ) else
 (d107 N ([10] : List Int) a0).bind fun r91 =>
 if r91 = true then (
  Option.bind (α := Bool) (
   if ((a0.Exprs.length : Int) == 0) then (
    if a0.Count ≥ 0 then (
     some (decide (a0.Offset ≥ 0))
    ) else
    some false
   ) else
   some false
  ) fun (v95 : Bool) =>
  some v95
 ) else
 some ((a0.Exprs.length : Int) == 0)
theorem p74 (N : Nat) (a0 : S34) (r : Bool) (h : d74 N a0 = some r) : FunC Tryz.prog 74 [.agg (k34 a0)] (.b r) := by
 unfold d74 at h
 refine FunC.enter 148 [(0,.agg (k34 a0))] (by simp) Tryz.func74 rfl (of_decide_eq_true rfl) rfl rfl ?_
 refine .seqR ?_
 refine .rr 2 ?_
 refine .nil (.seqR ?_)
 refine .rr 1 ?_
 refine .sub (.wkRow 5 rfl) ?_
 replace h := lsome h;obtain ⟨l1,hl1,h⟩ := h
 refine .sub (S' := mk 148 [] [(1,.ptr 1 0 0),(5,.ref 5 0 l1.length)] (H34 a0 l1)) (by simp;subst hl1;exact Sub.table (by simp) (by simp)) ?_
 refine .rr 1 ?_
 refine .tt [(1,.ptr 1 0 0),(3,.ref 5 0 l1.length)] (H34 a0 l1) (.nil (.seq ?_))
 replace h := bsome h;obtain ⟨v6,hj,h⟩ := h
 refine .cutQ (by kernel_rfl) (by kernel_rfl) (mk 148 [] [(1,.ptr 1 0 0),(24,.b v6)] (H2 a0)) ?_ ?_
 ·clear h;have h := hj;clear hj
  refine .rq 4 fun K k => ?_;simp;refine k ?_
  replace h := isome h;rcases h with ⟨c7,h⟩ | ⟨c7,h⟩
  ·refine .sub (.bool 9 rfl (decide_eq_true c7)) ?_
   refine .rq 15 fun K k => ?_;simp;refine k ?_
   cases h
   exact .nil .tt
  refine .sub (.bool 9 rfl (decide_eq_false c7)) ?_
  refine .rq 5 fun K k => ?_;simp;refine k ?_
  replace h := isome h;rcases h with ⟨c8,h⟩ | ⟨c8,h⟩
  ·refine .sub (.bool 14 rfl (decide_eq_true c8)) ?_
   refine .rq 10 fun K k => ?_;simp;refine k ?_
   cases h
   exact .nil .tt
  refine .sub (.bool 14 rfl (decide_eq_false c8)) ?_
  refine .st (mk 148 [] [(1,.ptr 1 0 0),(3,.ref 5 0 l1.length),(14,.b false)] (H34 a0 l1)) ?_
  replace h := xsome h;obtain ⟨x9,k10,hx9k,hx9,hx9a,hx9b,h⟩ := h
  refine .rq 10 fun K k => ?_;simp [hx9,hx9k,hx9a,hx9b];refine k ?_
  cases h
  exact .nil .tt
 clear hj
 replace h := isome h;rcases h with ⟨c11,h⟩ | ⟨c11,h⟩
 ·refine .condT rfl c11 ?_
  refine .seqR ?_
  refine .rr 1 ?_
  refine .nil (.ret ?_)
  cases h
  refine thenQ_ps ?_
  exact FinC.rs
 refine .condF rfl (Bool.eq_false_iff.2 c11) ?_
 refine .skip (thenQ_normal (.seqR ?_))
 refine .rr 2 ?_
 refine .tt [(1,.ptr 1 0 0),(4,.fn (.func 107) [.ptr 1 0 0])] (H2 a0) (.nil (.seq (.block (.seq ?_))))
 replace h := bsome h;obtain ⟨v14,hj,h⟩ := h
 refine .cutR (mk 148 [] (L46 v14) (H2 a0)) ?_ ?_
 ·clear h;have h := hj;clear hj
  refine .rr 2 ?_
  refine .tt (L47 ++ [(27,.fn (.func 107) [.ptr 1 0 0]),(28,.ref 28 0 (([1] : List Int).length))]) (H67 a0) ?_
  replace h := bsome h;obtain ⟨r15,hr15,h⟩ := h
  refine .callL (d := 29) (p107 N ([1] : List Int) a0 r15 hr15) (by simp) rfl rfl (by simp <;> rfl) (by simp <;> rfl) ent107 (by simp <;> rfl) ?_
  refine .rr 2 ?_
  replace h := isome h;rcases h with ⟨c16,h⟩ | ⟨c16,h⟩
  ·refine .sub (.bool 31 rfl c16) ?_
   refine .rr 5 ?_
   cases h
   exact .nil .tt
  refine .sub (.bool 31 rfl (Bool.eq_false_iff.2 c16)) ?_
  refine .rr 5 ?_
  cases h
  exact .nil .tt
 clear hj
 refine .lastN (fun (v45 : Bool) => mk 148 [] (L46 v45) (H2 a0)) h ?_ ?_ <;> clear h
 ·intro o h
  replace h := isome h;rcases h with ⟨c46,h⟩ | ⟨c46,h⟩
  ·have c46_ := c46
   refine .condT rfl c46_ ?_
   refine .sub (.bool 26 rfl c46_) ?_
   refine .st (mk 148 [] (L49) (H2 a0)) (.skip ?_)
   cases h
   refine PostN.next ?_
   exact Sub.tt
  have c46_ := Bool.eq_false_iff.2 c46
  refine .condF rfl c46_ ?_
  refine .sub (.bool 26 rfl c46_) ?_
  refine .st (mk 148 [] (L48) (H2 a0)) ?_
  replace h := bsome h;obtain ⟨v50,hj,h⟩ := h
  refine .cutR (mk 148 [] (L46 v50) (H2 a0)) ?_ ?_
  ·clear h;have h := hj;clear hj
   refine .rr 2 ?_
   refine .sub (.wkRow 37 rfl) ?_
   replace h := lsome h;obtain ⟨l51,hl51,h⟩ := h
   refine .sub (S' := mk 148 [] (L48 ++ [(36,.fn (.func 107) [.ptr 1 0 0]),(37,.ref 37 0 l51.length)]) (H68 a0 l51)) (by simp;subst hl51;exact Sub.table (by simp) (by simp)) ?_
   replace h := bsome h;obtain ⟨r52,hr52,h⟩ := h
   refine .callL (d := 38) (p107 N l51 a0 r52 hr52) (by simp) rfl rfl (by simp <;> rfl) (by simp <;> rfl) ent107 (by simp <;> rfl) ?_
   refine .rr 2 ?_
   replace h := isome h;rcases h with ⟨c53,h⟩ | ⟨c53,h⟩
   ·refine .sub (.bool 40 rfl c53) ?_
    refine .rr 6 ?_
    cases h
    exact .nil .tt
   refine .sub (.bool 40 rfl (Bool.eq_false_iff.2 c53)) ?_
   refine .rr 6 ?_
   cases h
   exact .nil .tt
  clear hj
  replace h := isome h;rcases h with ⟨c54,h⟩ | ⟨c54,h⟩
  ·have c54_ := c54
   refine .condT rfl c54_ ?_
   refine .sub (.bool 26 rfl c54_) ?_
   refine .st (mk 148 [] (L49) (H2 a0)) (.skip ?_)
   cases h
   refine PostN.next ?_
   exact Sub.tt
  have c54_ := Bool.eq_false_iff.2 c54
  refine .condF rfl c54_ ?_
  refine .sub (.bool 26 rfl c54_) ?_
  refine .st (mk 148 [] (L48) (H2 a0)) ?_
  replace h := bsome h;obtain ⟨v57,hj,h⟩ := h
  refine .cutR (mk 148 [] (L46 v57) (H2 a0)) ?_ ?_
  ·clear h;have h := hj;clear hj
   refine .rr 2 ?_
   refine .tt (L47 ++ [(46,.fn (.func 107) [.ptr 1 0 0]),(47,.ref 47 0 (([8] : List Int).length))]) (H69 a0) ?_
   replace h := bsome h;obtain ⟨r58,hr58,h⟩ := h
   refine .callL (d := 48) (p107 N ([8] : List Int) a0 r58 hr58) (by simp) rfl rfl (by simp <;> rfl) (by simp <;> rfl) ent107 (by simp <;> rfl) ?_
   refine .rr 2 ?_
   replace h := isome h;rcases h with ⟨c59,h⟩ | ⟨c59,h⟩
   ·refine .sub (.bool 50 rfl c59) ?_
    refine .rr 6 ?_
    cases h
    exact .nil .tt
   refine .sub (.bool 50 rfl (Bool.eq_false_iff.2 c59)) ?_
   refine .rr 6 ?_
   cases h
   exact .nil .tt
  clear hj
  replace h := isome h;rcases h with ⟨c60,h⟩ | ⟨c60,h⟩
  ·have c60_ := c60
   refine .condT rfl c60_ ?_
   refine .sub (.bool 26 rfl c60_) ?_
   refine .st (mk 148 [] (L49) (H2 a0)) (.skip ?_)
   cases h
   refine PostN.next ?_
   exact Sub.tt
  have c60_ := Bool.eq_false_iff.2 c60
  refine .condF rfl c60_ ?_
  refine .sub (.bool 26 rfl c60_) ?_
  refine .st (mk 148 [] (L48) (H2 a0)) ?_
  replace h := bsome h;obtain ⟨v63,hj,h⟩ := h
  refine .cutR (mk 148 [] (L46 v63) (H2 a0)) ?_ ?_
  ·clear h;have h := hj;clear hj
   refine .rr 2 ?_
   refine .tt (L47 ++ [(56,.fn (.func 107) [.ptr 1 0 0]),(57,.ref 57 0 (([9] : List Int).length))]) (H70 a0) ?_
   replace h := bsome h;obtain ⟨r64,hr64,h⟩ := h
   refine .callL (d := 58) (p107 N ([9] : List Int) a0 r64 hr64) (by simp) rfl rfl (by simp <;> rfl) (by simp <;> rfl) ent107 (by simp <;> rfl) ?_
   refine .rr 2 ?_
   replace h := isome h;rcases h with ⟨c65,h⟩ | ⟨c65,h⟩
   ·refine .sub (.bool 60 rfl c65) ?_
    refine .rr 6 ?_
    cases h
    exact .nil .tt
   refine .sub (.bool 60 rfl (Bool.eq_false_iff.2 c65)) ?_
   refine .rr 6 ?_
   cases h
   exact .nil .tt
  clear hj
  replace h := isome h;rcases h with ⟨c66,h⟩ | ⟨c66,h⟩
  ·have c66_ := c66
   refine .condT rfl c66_ ?_
   refine .sub (.bool 26 rfl c66_) ?_
   refine .st (mk 148 [] (L49) (H2 a0)) (.skip ?_)
   cases h
   refine PostN.next ?_
   exact Sub.tt
  have c66_ := Bool.eq_false_iff.2 c66
  refine .condF rfl c66_ ?_
  refine .sub (.bool 26 rfl c66_) ?_
  refine .st (mk 148 [] (L48) (H2 a0)) ?_
  replace h := bsome h;obtain ⟨v70,hj,h⟩ := h
  refine .region (Chain.cut (mk 148 [] (L46 v70) (H2 a0)) ?_ fun S' hS => ?_)
  ·clear h;have h := hj;clear hj
   refine .rr 2 ?_
   refine .tt (L47 ++ [(66,.fn (.func 107) [.ptr 1 0 0]),(67,.ref 67 0 (([10] : List Int).length))]) (H71 a0) ?_
   replace h := bsome h;obtain ⟨r71,hr71,h⟩ := h
   refine .callL (d := 68) (p107 N ([10] : List Int) a0 r71 hr71) (by simp) rfl rfl (by simp <;> rfl) (by simp <;> rfl) ent107 (by simp <;> rfl) ?_
   refine .rr 2 ?_
   replace h := isome h;rcases h with ⟨c72,h⟩ | ⟨c72,h⟩
   ·refine .sub (.bool 70 rfl c72) ?_
    refine .rr 4 ?_
    replace h := isome h;rcases h with ⟨c73,h⟩ | ⟨c73,h⟩
    ·refine .sub (.bool 74 rfl c73) ?_
     refine .rr 6 ?_
     cases h
     exact .nil .tt
    refine .sub (.bool 74 rfl (Bool.eq_false_iff.2 c73)) ?_
    refine .rr 6 ?_
    cases h
    exact .nil .tt
   refine .sub (.bool 70 rfl (Bool.eq_false_iff.2 c72)) ?_
   refine .rr 10 ?_
   cases h
   exact .nil .tt
  clear hj
  obtain rfl := Option.some.inj h
  refine PostN.next ?_
  exact (Sub.trans hS Sub.tt)
 rintro v45 h
 refine thenQ_normal ?_
 replace h := isome h;rcases h with ⟨c74,h⟩ | ⟨c74,h⟩
 ·refine .condT rfl c74 ?_
  refine .seqR ?_
  refine .rr 1 ?_
  refine .nil (.ret ?_)
  cases h
  refine blockQ.ret ?_
  refine thenQ_ps ?_
  exact FinC.rs
 refine .condF rfl (Bool.eq_false_iff.2 c74) ?_
 refine .seqR ?_
 refine .rr 2 ?_
 refine .sub (.wkRow 82 rfl) ?_
 replace h := lsome h;obtain ⟨l75,hl75,h⟩ := h
 refine .sub (S' := mk 148 [] (L47 ++ [(81,.fn (.func 107) [.ptr 1 0 0]),(82,.ref 82 0 l75.length)]) (H72 a0 l75)) (by simp;subst hl75;exact Sub.table (by simp) (by simp)) ?_
 replace h := bsome h;obtain ⟨r76,hr76,h⟩ := h
 refine .callL (d := 83) (p107 N l75 a0 r76 hr76) (by simp) rfl rfl (by simp <;> rfl) (by simp <;> rfl) ent107 (by simp <;> rfl) ?_
 refine .rr 1 ?_
 refine .nil ?_
 replace h := isome h;rcases h with ⟨c77,h⟩ | ⟨c77,h⟩
 ·refine .condT rfl c77 ?_
  refine .seqR ?_
  refine .rr 5 ?_
  refine .nil (.ret ?_)
  cases h
  refine blockQ.ret ?_
  refine thenQ_ps ?_
  exact FinC.rs
 refine .condF rfl (Bool.eq_false_iff.2 c77) ?_
 refine .seqR ?_
 refine .rr 2 ?_
 refine .sub (.wkRow 90 rfl) ?_
 replace h := lsome h;obtain ⟨l78,hl78,h⟩ := h
 refine .sub (S' := mk 148 [] (L47 ++ [(89,.fn (.func 107) [.ptr 1 0 0]),(90,.ref 90 0 l78.length)]) (H73 a0 l78)) (by simp;subst hl78;exact Sub.table (by simp) (by simp)) ?_
 replace h := bsome h;obtain ⟨r79,hr79,h⟩ := h
 refine .callL (d := 91) (p107 N l78 a0 r79 hr79) (by simp) rfl rfl (by simp <;> rfl) (by simp <;> rfl) ent107 (by simp <;> rfl) ?_
 refine .rr 1 ?_
 refine .nil ?_
 replace h := isome h;rcases h with ⟨c80,h⟩ | ⟨c80,h⟩
 ·refine .condT rfl c80 ?_
  replace h := bsome h;obtain ⟨v83,hj,h⟩ := h
  refine .cutR (mk 148 [] [(2,.b v83)] []) ?_ ?_
  ·clear h;have h := hj;clear hj
   refine .rr 8 ?_
   replace h := isome h;rcases h with ⟨c84,h⟩ | ⟨c84,h⟩
   ·refine .sub (.bool 99 rfl c84) ?_
    refine .st (mk 148 [] [(1,.ptr 1 0 0),(99,.b true)] (H2 a0)) ?_
    replace h := csome h;obtain ⟨v85,hv85,h⟩ := h
    refine .rk 10 fun K k => ?_;simp [hv85];refine k ?_
    cases h
    exact .nil .tt
   refine .sub (.bool 99 rfl (Bool.eq_false_iff.2 c84)) ?_
   refine .rr 10 ?_
   cases h
   exact .nil .tt
  clear hj
  refine .ret ?_
  cases h
  refine blockQ.ret ?_
  refine thenQ_ps ?_
  exact FinC.rs
 refine .condF rfl (Bool.eq_false_iff.2 c80) ?_
 refine .seqR ?_
 refine .rr 2 ?_
 refine .tt (L47 ++ [(110,.fn (.func 107) [.ptr 1 0 0]),(111,.ref 111 0 (([9] : List Int).length))]) (H74 a0) ?_
 replace h := bsome h;obtain ⟨r86,hr86,h⟩ := h
 refine .callL (d := 112) (p107 N ([9] : List Int) a0 r86 hr86) (by simp) rfl rfl (by simp <;> rfl) (by simp <;> rfl) ent107 (by simp <;> rfl) ?_
 refine .rr 1 ?_
 refine .nil ?_
 replace h := isome h;rcases h with ⟨c87,h⟩ | ⟨c87,h⟩
 ·refine .condT rfl c87 ?_
  replace h := bsome h;obtain ⟨v89,hj,h⟩ := h
  refine .cutR (mk 148 [] [(2,.b v89)] []) ?_ ?_
  ·clear h;have h := hj;clear hj
   refine .rr 8 ?_
   replace h := isome h;rcases h with ⟨c90,h⟩ | ⟨c90,h⟩
   ·refine .sub (.bool 120 rfl c90) ?_
    refine .rr 6 ?_
    cases h
    exact .nil .tt
   refine .sub (.bool 120 rfl (Bool.eq_false_iff.2 c90)) ?_
   refine .rr 6 ?_
   cases h
   exact .nil .tt
  clear hj
  refine .ret ?_
  cases h
  refine blockQ.ret ?_
  refine thenQ_ps ?_
  exact FinC.rs
 refine .condF rfl (Bool.eq_false_iff.2 c87) ?_
 refine .seqR ?_
 refine .rr 2 ?_
 refine .tt [(1,.ptr 1 0 0),(127,.fn (.func 107) [.ptr 1 0 0]),(128,.ref 128 0 (([10] : List Int).length))] (H75 a0) ?_
 replace h := bsome h;obtain ⟨r91,hr91,h⟩ := h
 refine .callL (d := 129) (p107 N ([10] : List Int) a0 r91 hr91) (by simp) rfl rfl (by simp <;> rfl) (by simp <;> rfl) ent107 (by simp <;> rfl) ?_
 refine .rr 1 ?_
 refine .nil ?_
 replace h := isome h;rcases h with ⟨c92,h⟩ | ⟨c92,h⟩
 ·refine .condT rfl c92 ?_
  replace h := bsome h;obtain ⟨v95,hj,h⟩ := h
  refine .cutR (mk 148 [] [(2,.b v95)] []) ?_ ?_
  ·clear h;have h := hj;clear hj
   refine .rr 5 ?_
   replace h := isome h;rcases h with ⟨c96,h⟩ | ⟨c96,h⟩
   ·refine .sub (.bool 134 rfl c96) ?_
    refine .rr 5 ?_
    replace h := isome h;rcases h with ⟨c97,h⟩ | ⟨c97,h⟩
    ·refine .sub (.bool 139 rfl (decide_eq_true c97)) ?_
     refine .rr 5 ?_
     cases h
     exact .nil .tt
    refine .sub (.bool 139 rfl (decide_eq_false c97)) ?_
    refine .rr 5 ?_
    cases h
    exact .nil .tt
   refine .sub (.bool 134 rfl (Bool.eq_false_iff.2 c96)) ?_
   refine .rr 10 ?_
   cases h
   exact .nil .tt
  clear hj
  refine .ret ?_
  cases h
  refine blockQ.ret ?_
  refine thenQ_ps ?_
  exact FinC.rs
 refine .condF rfl (Bool.eq_false_iff.2 c92) ?_
 refine .skip (blockQ.normal (thenQ_normal (.seqR ?_)))
 refine .rr 5 ?_
 refine .nil (.ret ?_)
 cases h
 exact FinC.rs
def d109 (_N : Nat) (a0 : S56) (a1 : S34) : Option Bool :=
 some (decide (a0.Name = a1.Table))
theorem p109 (N : Nat) (a0 : S56) (a1 : S34) (r : Bool) (h : d109 N a0 a1 = some r) : FunC Tryz.prog 109 [.agg (k56 a0),.d (.pim [.lit (.int .i64 a1.Kind),.lit (.string a1.Table),.sl (a1.Names.map cS),.sl (a1.Exprs.map cS76),.sl (a1.Aggregates.map cS79),.sl (a1.Descending.map cB),.lit (.int .i64 a1.Count),.lit (.int .i64 a1.Offset),.sl (a1.Inputs.map cS34)])] (.b r) := by
 unfold d109 at h
 refine FunC.enter 9 [(0,.agg (k56 a0)),(1,.d (.pim [.lit (.int .i64 a1.Kind),.lit (.string a1.Table),.sl (a1.Names.map cS),.sl (a1.Exprs.map cS76),.sl (a1.Aggregates.map cS79),.sl (a1.Descending.map cB),.lit (.int .i64 a1.Count),.lit (.int .i64 a1.Offset),.sl (a1.Inputs.map cS34)]))] (by simp) Tryz.func109 rfl (of_decide_eq_true rfl) rfl rfl ?_
 refine .seqR ?_
 refine .rr 2 ?_
 refine .nil (.seqR ?_)
 refine .rr 6 ?_
 refine .nil (.ret ?_)
 cases h
 exact FinC.rs
def d110 (_ : Nat) (a0 : (List S53)) : Option (List S53) := if a0.length * 32 ≤ Rp.reach then some a0 else none
theorem p110 (N : Nat) (a0 : (List S53)) (r : (List S53)) (h : d110 N a0 = some r) : FunO Tryz.prog 110 [.s53 a0] (.ref 0 0 r.length) (.arr 53 3 (r.map cS53)) := by
 obtain ⟨hz,h⟩ := gsome h
 cases h
 refine FunO.enter 8 [(0,.s53 a0)] Tryz.func110 rfl (of_decide_eq_true rfl) rfl rfl ?_
 refine .goR [] 1 fun K k => ?_;simp;refine k _ ?_;clear k K
 refine .seq (.seqR ?_)
 refine .rr 1 ?_
 refine .eqNilE (es := a0.map cS53) (by simp) rfl ty43 rfl (by simp) (by simp) fun b hb => ?_
 refine .nil ?_
 cases b with
 | true =>
  have he : a0 = [] := by
   cases a0 with
   | nil => rfl
   | cons x xs => exact absurd (hb (by simp)) (by simp)
  subst he
  refine .condK fun K1 K2 k1 k2 => ?_;simp;refine k1 ?_;clear k1 k2 K1 K2
  refine .goR [] 1 fun K k => ?_;simp;refine k _ ?_;clear k K
  refine .sub (.nilOwn (t := 2) (id := 902) (T := 53) (n := 3) rfl rfl (by decide)) ?_
  refine .st (mk 8 [] [(2,.ref 902 0 0)] [(902,some (.arr 53 3 []))]) (.ret ?_)
  exact thenQ_pass (by simp) (FinO.ret (.ref 902 0 0) 902 (by simp) (by simp) (by simp) (by simp) rfl)
 | false =>
  refine .condK fun K1 K2 k1 k2 => ?_;simp;refine k2 ?_;clear k1 k2 K1 K2
  refine .skip (thenQ_normal ?_)
  refine .goR [] 4 fun K k => ?_;simp [hz];refine k _ ?_;clear k K
  refine .tt [(2,.ref 5 0 a0.length)] [(5,R53 a0)] (.ret ?_)
  exact FinO.ret (.ref 5 0 a0.length) 5 (by simp) (by simp) (by simp) (by simp) rfl
def d147 : (N : Nat) → (a0 : S76) → Option (Int × Int)
 | 0,_ => none
 | N + 1,a0 =>
  Option.bind (α := (Int × Int)) (
   iterN (σ := (Int × Int × Int)) (ρ := (Int × Int)) (fun ((v7,v8,v9) : (Int × Int × Int)) =>
    if v9 < (a0.Args.length : Int) then (
     (idx a0.Args v9).bind fun x30 =>
     (d147 N x30).bind fun r32 =>
     (chkI (v7 + r32.1)).bind fun v33 =>
     letv (maxI v8 r32.2) fun v34 =>
     (chkI (v9 + 1)).bind fun v35 =>
     some (.inl (v33,v34,v35))
    ) else
    some (.inr (v7,v8))
   ) N (1,0,0)
  ) fun ((v27,v28) : (Int × Int)) =>
  (chkI (v28 + 1)).bind fun v36 =>
  some (v27,v36)
theorem p147 (N : Nat) : ∀ (a0 : S76) (r : (Int × Int)) (_ : d147 N a0 = some r),FunC Tryz.prog 147 [.agg (k76 a0)] (.tup [.i r.1,.i r.2]) := by
 induction N with
 | zero => intro a0 r h;cases h
 | succ N ih =>
 intro a0 r h
 unfold d147 at h
 refine FunC.enter 32 [(0,.agg (k76 a0))] (by simp) Tryz.func147 rfl (of_decide_eq_true rfl) rfl rfl ?_
 refine .seqR ?_
 refine .rr 3 ?_
 refine .nil (.seqR ?_)
 refine .rr 2 ?_
 refine .nil (.seq (.seqR ?_))
 refine .rr 4 ?_
 refine .tt [(4,.i 1),(5,.i 0),(11,.s76 a0.Args),(12,.i (a0.Args.length : Int)),(13,.i 0)] [] (.nil ?_)
 refine .lastN (fun ((v27,v28) : (Int × Int)) => mk 32 [] [(4,.i v27),(5,.i v28)] []) h ?_ ?_ <;> clear h
 ·intro o h
  refine .block ?_
  refine .iter (fun ((v7,v8,v9) : (Int × Int × Int)) => mk 32 [] (L52 v7 v8 a0.Args a0.Args.length v9) []) h Sub.tt ?_
  clear h
  rintro ⟨v7,v8,v9⟩ x h
  dsimp only at h ⊢
  refine .seqR ?_
  refine .rr 1 ?_
  refine .nil (.seq ?_)
  replace h := isome h;rcases h with ⟨c29,h⟩ | ⟨c29,h⟩
  ·refine .condT rfl (decide_eq_true c29) ?_
   refine .skip (thenQ_normal (.seq (.block (.seqR ?_))))
   replace h := xsome h;obtain ⟨x30,k31,hx30k,hx30,hx30a,hx30b,h⟩ := h
   refine .rk 4 fun K k => ?_;simp [hx30,hx30k,hx30a];refine k ?_
   refine .nil (.seqR ?_)
   refine .rr 1 ?_
   refine .tt (L52 v7 v8 a0.Args a0.Args.length v9 ++ [(18,.agg (k76 x30))]) [] ?_
   replace h := bsome h;obtain ⟨r32,hr32,h⟩ := h
   refine .callL (d := 19) (ih x30 r32 hr32) (by simp) rfl rfl (by simp <;> rfl) (by simp <;> rfl) ent147 (by simp <;> rfl) ?_
   refine .rr 5 ?_
   refine .tt [(4,.i v7),(5,.i v8),(8,.i r32.1),(9,.i r32.2),(11,.s76 a0.Args),(12,.i (a0.Args.length : Int)),(13,.i v9)] [] (.nil (.region ?_))
   replace h := csome h;obtain ⟨v33,hv33,h⟩ := h
   replace h := lsome h;obtain ⟨v34,hv34,h⟩ := h
   unfold maxI at hv34
   try simp only [Int.ofNat_lt] at hv34
   refine .rk 8 fun K k => ?_;simp [hv33,hv34];refine k ?_
   refine .tt (L52 v33 v34 a0.Args a0.Args.length v9) [] (.nil (blockQ.normal (thenQ_normal (.region ?_))))
   replace h := csome h;obtain ⟨v35,hv35,h⟩ := h
   refine .rk 2 fun K k => ?_;simp [hv35];refine k ?_
   refine .nil ?_
   cases h
   refine PostI.next ?_
   exact Sub.tt
  ·refine .condF rfl (decide_eq_false c29) ?_
   refine .exit ?_
   cases h
   refine thenQ_ps ?_
   refine PostI.os ?_
   rintro rfl
   refine blockQ.hit (PostN.next ?_)
   exact Sub.tt
 ·rintro ⟨v27,v28⟩ h
  dsimp only at h ⊢
  refine thenQ_normal (.seqR ?_)
  replace h := csome h;obtain ⟨v36,hv36,h⟩ := h
  refine .rk 5 fun K k => ?_;simp [hv36];refine k ?_
  refine .nil (.ret ?_)
  cases h
  exact FinC.rs
def d90 (_N : Nat) (a0 : S58) : Option Bool :=
 if (a0.Kind == 0) then (
  some (beqS58 a0 (S58.mk 0 0 (ByteArray.mk #[])))
 ) else
 if (a0.Kind == 1) then (
  Option.bind (α := Bool) (
   if decide (a0.Text = (ByteArray.mk #[])) = true then (
    if a0.Int ≥ (-1000000000000) then (
     some (decide (a0.Int ≤ 1000000000000))
    ) else
    some false
   ) else
   some false
  ) fun (v5 : Bool) =>
  some v5
 ) else
 if (a0.Kind == 2) then (
  Option.bind (α := Bool) (
   if decide (a0.Text = (ByteArray.mk #[])) = true then (
    if (a0.Int == 0) then (
     some true
    ) else
    some (a0.Int == 1)
   ) else
   some false
  ) fun (v11 : Bool) =>
  some v11
 ) else
 if (a0.Kind == 3) then (
  Option.bind (α := Bool) (
   if (a0.Int == 0) then (
    some (decide ((a0.Text.size : Int) ≤ 24))
   ) else
   some false
  ) fun (v16 : Bool) =>
  some v16
 ) else
 some false
theorem p90 (N : Nat) (a0 : S58) (r : Bool) (h : d90 N a0 = some r) : FunC Tryz.prog 90 [.agg (k58 a0)] (.b r) := by
 unfold d90 at h
 refine FunC.enter 51 [(0,.agg (k58 a0))] (by simp) Tryz.func90 rfl (of_decide_eq_true rfl) rfl rfl ?_
 refine .seqR ?_
 refine .rr 2 ?_
 refine .nil (.seq (.seqR ?_))
 refine .rr 2 ?_
 refine .nil (.block (.seqR ?_))
 refine .rr 2 ?_
 refine .nil ?_
 replace h := isome h;rcases h with ⟨c1,h⟩ | ⟨c1,h⟩
 ·refine .condT rfl c1 ?_
  refine .seqR ?_
  refine .rr 2 ?_
  refine .tt [(7,.agg (k58 a0)),(8,.agg [.i 0,.i 0,.s (ByteArray.mk #[])])] [] ?_
  refine .pureP (by simp) (pure_eqA false rfl rfl rfl rfl (by kernel_rfl) (eqv58 a0 (S58.mk 0 0 (ByteArray.mk #[])))) ?_
  refine .rr 1 ?_
  refine .nil (.ret ?_)
  cases h
  refine blockQ.ret ?_
  refine thenQ_ps ?_
  exact FinC.rs
 refine .condF rfl (Bool.eq_false_iff.2 c1) ?_
 refine .seqR ?_
 refine .rr 2 ?_
 refine .nil ?_
 replace h := isome h;rcases h with ⟨c2,h⟩ | ⟨c2,h⟩
 ·refine .condT rfl c2 ?_
  replace h := bsome h;obtain ⟨v5,hj,h⟩ := h
  refine .cutR (mk 51 [] [(2,.b v5)] []) ?_ ?_
  ·clear h;have h := hj;clear hj
   refine .rr 4 ?_
   replace h := isome h;rcases h with ⟨c6,h⟩ | ⟨c6,h⟩
   ·refine .sub (.bool 15 rfl c6) ?_
    refine .rr 5 ?_
    replace h := isome h;rcases h with ⟨c7,h⟩ | ⟨c7,h⟩
    ·refine .sub (.bool 20 rfl (decide_eq_true c7)) ?_
     refine .rr 5 ?_
     cases h
     exact .nil .tt
    refine .sub (.bool 20 rfl (decide_eq_false c7)) ?_
    refine .rr 5 ?_
    cases h
    exact .nil .tt
   refine .sub (.bool 15 rfl (Bool.eq_false_iff.2 c6)) ?_
   refine .rr 10 ?_
   cases h
   exact .nil .tt
  clear hj
  refine .ret ?_
  cases h
  refine blockQ.ret ?_
  refine thenQ_ps ?_
  exact FinC.rs
 refine .condF rfl (Bool.eq_false_iff.2 c2) ?_
 refine .seqR ?_
 refine .rr 2 ?_
 refine .nil ?_
 replace h := isome h;rcases h with ⟨c8,h⟩ | ⟨c8,h⟩
 ·refine .condT rfl c8 ?_
  replace h := bsome h;obtain ⟨v11,hj,h⟩ := h
  refine .cutR (mk 51 [] [(2,.b v11)] []) ?_ ?_
  ·clear h;have h := hj;clear hj
   refine .rr 4 ?_
   replace h := isome h;rcases h with ⟨c12,h⟩ | ⟨c12,h⟩
   ·refine .sub (.bool 30 rfl c12) ?_
    refine .rr 4 ?_
    replace h := isome h;rcases h with ⟨c13,h⟩ | ⟨c13,h⟩
    ·refine .sub (.bool 34 rfl c13) ?_
     refine .rr 6 ?_
     cases h
     exact .nil .tt
    refine .sub (.bool 34 rfl (Bool.eq_false_iff.2 c13)) ?_
    refine .rr 6 ?_
    cases h
    exact .nil .tt
   refine .sub (.bool 30 rfl (Bool.eq_false_iff.2 c12)) ?_
   refine .rr 10 ?_
   cases h
   exact .nil .tt
  clear hj
  refine .ret ?_
  cases h
  refine blockQ.ret ?_
  refine thenQ_ps ?_
  exact FinC.rs
 refine .condF rfl (Bool.eq_false_iff.2 c8) ?_
 refine .seqR ?_
 refine .rr 2 ?_
 refine .nil ?_
 replace h := isome h;rcases h with ⟨c14,h⟩ | ⟨c14,h⟩
 ·refine .condT rfl c14 ?_
  replace h := bsome h;obtain ⟨v16,hj,h⟩ := h
  refine .cutR (mk 51 [] [(2,.b v16)] []) ?_ ?_
  ·clear h;have h := hj;clear hj
   refine .rr 4 ?_
   replace h := isome h;rcases h with ⟨c17,h⟩ | ⟨c17,h⟩
   ·refine .sub (.bool 45 rfl c17) ?_
    refine .rr 6 ?_
    cases h
    exact .nil .tt
   refine .sub (.bool 45 rfl (Bool.eq_false_iff.2 c17)) ?_
   refine .rr 6 ?_
   cases h
   exact .nil .tt
  clear hj
  refine .ret ?_
  cases h
  refine blockQ.ret ?_
  refine thenQ_ps ?_
  exact FinC.rs
 refine .condF rfl (Bool.eq_false_iff.2 c14) ?_
 refine .skip (blockQ.normal (thenQ_normal (.seqR ?_)))
 refine .rr 1 ?_
 refine .nil (.ret ?_)
 cases h
 exact FinC.rs
def d118 (_N : Nat) (a0 : Int) : Option Bool :=
 Option.bind (α := Bool) (
  if a0 ≥ 97 then (
   if a0 ≤ 122 then (
    some true
   ) else
   if a0 ≥ 48 then (
    some (decide (a0 ≤ 57))
   ) else
   some false
  ) else
  if a0 ≥ 48 then (
   some (decide (a0 ≤ 57))
  ) else
  some false
 ) fun (v5 : Bool) =>
 some v5
theorem p118 (N : Nat) (a0 : Int) (r : Bool) (h : d118 N a0 = some r) : FunC Tryz.prog 118 [.d (.lit (.int .u8 a0))] (.b r) := by
 unfold d118 at h
 refine FunC.enter 17 [(0,.d (.lit (.int .u8 a0)))] (by simp) Tryz.func118 rfl (of_decide_eq_true rfl) rfl rfl ?_
 refine .seqR ?_
 refine .rr 1 ?_
 refine .tt [(0,.d (.lit (.int .u8 a0)))] [] (.nil ?_)
 replace h := bsome h;obtain ⟨v5,hj,h⟩ := h
 refine .cutR (mk 17 [] [(2,.b v5)] []) ?_ ?_
 ·clear h;have h := hj;clear hj
  refine .rr 3 ?_
  replace h := isome h;rcases h with ⟨c6,h⟩ | ⟨c6,h⟩
  ·refine .sub (.bool 5 rfl (decide_eq_true c6)) ?_
   refine .rr 4 ?_
   replace h := isome h;rcases h with ⟨c7,h⟩ | ⟨c7,h⟩
   ·refine .sub (.bool 9 rfl (decide_eq_true c7)) ?_
    refine .rr 8 ?_
    cases h
    exact .nil .tt
   refine .sub (.bool 9 rfl (decide_eq_false c7)) ?_
   refine .rr 3 ?_
   replace h := isome h;rcases h with ⟨c8,h⟩ | ⟨c8,h⟩
   ·refine .sub (.bool 12 rfl (decide_eq_true c8)) ?_
    refine .rr 5 ?_
    cases h
    exact .nil .tt
   refine .sub (.bool 12 rfl (decide_eq_false c8)) ?_
   refine .rr 5 ?_
   cases h
   exact .nil .tt
  refine .sub (.bool 5 rfl (decide_eq_false c6)) ?_
  refine .rr 7 ?_
  replace h := isome h;rcases h with ⟨c9,h⟩ | ⟨c9,h⟩
  ·refine .sub (.bool 12 rfl (decide_eq_true c9)) ?_
   refine .rr 5 ?_
   cases h
   exact .nil .tt
  refine .sub (.bool 12 rfl (decide_eq_false c9)) ?_
  refine .rr 5 ?_
  cases h
  exact .nil .tt
 clear hj
 refine .ret ?_
 cases h
 exact FinC.rs
def d145 (N : Nat) (a0 : ByteArray) : Option Bool :=
 Option.bind (α := Bool) (
  if (a0.size : Int) < 1 then (
   some true
  ) else
  if (a0.size : Int) > 12 then (
   some true
  ) else
  (idxB a0 0).bind fun v9 =>
  if v9 < 97 then (
   some true
  ) else
  (idxB a0 0).bind fun v11 =>
  some (decide (v11 > 122))
 ) fun (v6 : Bool) =>
 if v6 = true then (
  some false
 ) else
 bindO (β := Unit) (ρ := Bool) (
  iterN (σ := Int) (ρ := (Out Unit Bool)) (fun (v18 : Int) =>
   if v18 < (a0.size : Int) then (
    (idxB a0 v18).bind fun v31 =>
    (d118 N v31).bind fun r32 =>
    if (!r32) = true then (
     some (.inr (.ret false))
    ) else
    (chkI (v18 + 1)).bind fun v34 =>
    some (.inl v34)
   ) else
   some (.inr (.go ()))
  ) N 0
 ) fun (_ : Unit) =>
 some true
theorem p145 (N : Nat) (a0 : ByteArray) (r : Bool) (h : d145 N a0 = some r) : FunC Tryz.prog 145 [.s a0] (.b r) := by
 unfold d145 at h
 refine FunC.enter 33 [(0,.s a0)] (by simp) Tryz.func145 rfl (of_decide_eq_true rfl) rfl rfl ?_
 refine .seqR ?_
 refine .rr 1 ?_
 refine .tt [(0,.s a0)] [] (.nil (.seq ?_))
 replace h := bsome h;obtain ⟨v6,hj,h⟩ := h
 refine .cutR (mk 33 [] [(0,.s a0),(21,.b v6)] []) ?_ ?_
 ·clear h;have h := hj;clear hj
  refine .rr 4 ?_
  replace h := isome h;rcases h with ⟨c7,h⟩ | ⟨c7,h⟩
  ·refine .sub (.bool 7 rfl (decide_eq_true c7)) ?_
   refine .rr 14 ?_
   cases h
   exact .nil .tt
  refine .sub (.bool 7 rfl (decide_eq_false c7)) ?_
  refine .rr 5 ?_
  replace h := isome h;rcases h with ⟨c8,h⟩ | ⟨c8,h⟩
  ·refine .sub (.bool 12 rfl (decide_eq_true c8)) ?_
   refine .rr 9 ?_
   cases h
   exact .nil .tt
  refine .sub (.bool 12 rfl (decide_eq_false c8)) ?_
  refine .st (mk 33 [] [(0,.s a0),(12,.b false)] []) ?_
  replace h := bsome h;obtain ⟨v9,gv9,h⟩ := h
  obtain ⟨bv9,hv9a,hv9b⟩ := idxB_someN (n := 0) gv9
  refine .rk 5 fun K k => ?_;simp [hv9a,hv9b];refine k ?_
  replace h := isome h;rcases h with ⟨c10,h⟩ | ⟨c10,h⟩
  ·refine .sub (.bool 17 rfl (decide_eq_true c10)) ?_
   refine .rr 4 ?_
   cases h
   exact .nil .tt
  refine .sub (.bool 17 rfl (decide_eq_false c10)) ?_
  refine .st (mk 33 [] [(0,.s a0),(17,.b false)] []) ?_
  replace h := bsome h;obtain ⟨v11,gv11,h⟩ := h
  obtain ⟨bv11,hv11a,hv11b⟩ := idxB_someN (n := 0) gv11
  refine .rk 4 fun K k => ?_;simp [hv11a,hv11b];refine k ?_
  cases h
  exact .nil .tt
 clear hj
 replace h := isome h;rcases h with ⟨c12,h⟩ | ⟨c12,h⟩
 ·refine .condT rfl c12 ?_
  refine .seqR ?_
  refine .rr 1 ?_
  refine .nil (.ret ?_)
  cases h
  refine thenQ_ps ?_
  exact FinC.rs
 refine .condF rfl (Bool.eq_false_iff.2 c12) ?_
 refine .skip (thenQ_normal (.seq (.seqR ?_)))
 refine .rr 3 ?_
 refine .tt [(0,.s a0),(23,.i (a0.size : Int)),(24,.i 0)] [] (.nil ?_)
 refine .lastJ (fun (_ : Unit) => mk 33 [] [] []) h ?_ ?_ <;> clear h
 ·intro o h
  refine .block ?_
  refine .iter (fun (v18 : Int) => mk 33 [] (L53 a0 a0.size v18) []) h Sub.tt ?_
  clear h
  rintro v18 x h
  refine .seqR ?_
  refine .rr 1 ?_
  refine .nil (.seq ?_)
  replace h := isome h;rcases h with ⟨c30,h⟩ | ⟨c30,h⟩
  ·refine .condT rfl (decide_eq_true c30) ?_
   refine .skip (thenQ_normal (.seq (.block (.seqR ?_))))
   refine .rr 2 ?_
   refine .tt [(0,.s a0),(3,.i v18),(23,.i (a0.size : Int)),(24,.i v18)] [] (.nil (.seqR ?_))
   replace h := bsome h;obtain ⟨v31,gv31,h⟩ := h
   obtain ⟨bv31,kv31,hv31k,hv31a,hv31b,hv31c⟩ := idxB_some gv31
   refine .rk 3 fun K k => ?_;simp [hv31k,hv31a,hv31b,hv31c];refine k ?_
   refine .tt (L53 a0 a0.size v18 ++ [(29,.d (.lit (.int .u8 v31)))]) [] ?_
   replace h := bsome h;obtain ⟨r32,hr32,h⟩ := h
   refine .callL (d := 30) (p118 N v31 r32 hr32) (by simp) rfl rfl (by simp <;> rfl) (by simp <;> rfl) ent118 (by simp <;> rfl) ?_
   refine .rr 1 ?_
   refine .nil ?_
   replace h := isome h;rcases h with ⟨c33,h⟩ | ⟨c33,h⟩
   ·refine .condT rfl c33 ?_
    refine .seqR ?_
    refine .rr 1 ?_
    refine .nil (.ret ?_)
    cases h
    refine blockQ.ret ?_
    refine thenQ_ps ?_
    refine PostI.os ?_
    rintro rfl
    refine blockQ.ret ?_
    refine PostJ.out (by simp) ?_
    rintro rfl
    refine thenQ_ps ?_
    exact FinC.rs
   refine .condF rfl (Bool.eq_false_iff.2 c33) ?_
   refine .skip (blockQ.normal (thenQ_normal (.region ?_)))
   replace h := csome h;obtain ⟨v34,hv34,h⟩ := h
   refine .rk 2 fun K k => ?_;simp [hv34];refine k ?_
   refine .nil ?_
   cases h
   refine PostI.next ?_
   exact Sub.tt
  refine .condF rfl (decide_eq_false c30) ?_
  refine .exit ?_
  cases h
  refine thenQ_ps ?_
  refine PostI.os ?_
  rintro rfl
  refine blockQ.hit (PostJ.next ?_)
  exact Sub.tt
 rintro ⟨⟩ h
 refine thenQ_normal (.seqR ?_)
 refine .rr 1 ?_
 refine .nil (.ret ?_)
 cases h
 exact FinC.rs
def d185 (_N : Nat) (a0 : S53) (a1 : ByteArray) : Option Bool :=
 some (decide (a0.Name = a1))
theorem p185 (N : Nat) (a0 : S53) (a1 : ByteArray) (r : Bool) (h : d185 N a0 a1 = some r) : FunC Tryz.prog 185 [.agg (k53 a0),.d (.pim [.lit (.string a1)])] (.b r) := by
 unfold d185 at h
 refine FunC.enter 8 [(0,.agg (k53 a0)),(1,.d (.pim [.lit (.string a1)]))] (by simp) Tryz.func185 rfl (of_decide_eq_true rfl) rfl rfl ?_
 refine .seqR ?_
 refine .rr 2 ?_
 refine .nil (.seqR ?_)
 refine .rr 5 ?_
 refine .nil (.ret ?_)
 cases h
 exact FinC.rs
def d168 (N : Nat) (a0 : (List S53)) (a1 : ByteArray) : Option (S53 × Bool) :=
 (d67 N a0 (fun b0 => d185 N b0 a1)).bind fun r1 =>
 if r1 < 0 then (
  some ((S53.mk (ByteArray.mk #[]) 0 false),false)
 ) else
 (idx a0 r1).bind fun x3 =>
 some (x3,true)
theorem p168 (N : Nat) (a0 : (List S53)) (a1 : ByteArray) (r : (S53 × Bool)) (h : d168 N a0 a1 = some r) : FunC Tryz.prog 168 [.s53 a0,.s a1] (.tup [.agg (k53 r.1),.b r.2]) := by
 unfold d168 at h
 refine FunC.enter 17 [(0,.s53 a0),(1,.s a1)] (by simp) Tryz.func168 rfl (of_decide_eq_true rfl) rfl rfl ?_
 refine .seqR ?_
 refine .rr 3 ?_
 refine .nil (.seqR ?_)
 refine .rr 2 ?_
 refine .tt [(0,.s53 a0),(4,.ptr 4 0 0),(7,.s53 a0),(8,.fn (.func 185) [.ptr 3 0 0])] (H56 a1) ?_
 replace h := bsome h;obtain ⟨r1,hr1,h⟩ := h
 refine .callL (d := 9) (p67 N a0 185 [.pim [.lit (.string a1)]] (fun b0 => d185 N b0 a1) ent185 (fun b0 r h => p185 N b0 a1 r h) r1 hr1) (by simp) rfl rfl (by simp <;> rfl) (by simp <;> rfl) ent67 (by simp <;> rfl) ?_
 refine .rr 1 ?_
 refine .nil (.seq (.seqR ?_))
 refine .rr 2 ?_
 refine .nil ?_
 replace h := isome h;rcases h with ⟨c2,h⟩ | ⟨c2,h⟩
 ·refine .condT rfl (decide_eq_true c2) ?_
  refine .seqR ?_
  refine .rr 3 ?_
  refine .nil (.ret ?_)
  cases h
  refine thenQ_ps ?_
  exact FinC.rs
 refine .condF rfl (decide_eq_false c2) ?_
 refine .skip (thenQ_normal (.seqR ?_))
 replace h := xsome h;obtain ⟨x3,k4,hx3k,hx3,hx3a,hx3b,h⟩ := h
 refine .rk 6 fun K k => ?_;simp [hx3,hx3k,hx3a];refine k ?_
 refine .nil (.ret ?_)
 cases h
 exact FinC.rs
def d159 (_N : Nat)  : Option ((List ByteArray) × (List Int)) :=
 letv ([(ByteArray.mk #[43]),(ByteArray.mk #[45]),(ByteArray.mk #[42]),(ByteArray.mk #[61]),(ByteArray.mk #[60]),(ByteArray.mk #[60,61]),(ByteArray.mk #[97,110,100]),(ByteArray.mk #[111,114]),(ByteArray.mk #[110,111,116]),(ByteArray.mk #[124,124]),(ByteArray.mk #[105,115,32,110,117,108,108]),(ByteArray.mk #[108,101,110,103,116,104]),(ByteArray.mk #[105,102])] : List ByteArray) fun l1 =>
 letv ([2,2,2,2,2,2,2,2,1,2,1,1,3] : List Int) fun l2 =>
 some (l1,l2)
theorem p159 (N : Nat)  (r : ((List ByteArray) × (List Int))) (h : d159 N  = some r) : FunC Tryz.prog 159 [] (.tup [.ss r.1,.si r.2]) := by
 unfold d159 at h
 refine FunC.enter 4 [] (by simp) Tryz.func159 rfl (of_decide_eq_true rfl) rfl rfl ?_
 refine .seqR ?_
 refine .rr 2 ?_
 refine .nil (.seqR ?_)
 refine .rr 1 ?_
 refine .sub (.wkRow 2 rfl) ?_
 replace h := lsome h;obtain ⟨l1,hl1,h⟩ := h
 refine .sub (S' := mk 4 [] [(2,.ref 2 0 l1.length)] [(2,R9 l1)]) (by simp;subst hl1;exact Sub.table (by simp) (by simp)) ?_
 refine .rr 1 ?_
 refine .sub (.wkRow 3 rfl) ?_
 replace h := lsome h;obtain ⟨l2,hl2,h⟩ := h
 refine .sub (S' := mk 4 [] [(2,.ref 2 0 l1.length),(3,.ref 3 0 l2.length)] [(2,R9 l1),(3,R3 l2)]) (by simp;subst hl2;exact Sub.table (by simp) (by simp)) ?_
 refine .rr 2 ?_
 refine .tt [(0,.ref 2 0 l1.length),(1,.ref 3 0 l2.length)] [(2,R9 l1),(3,R3 l2)] (.nil ?_)
 refine .sub (.freeze 2 rfl) ?_
 refine .st (mk 4 [] [(0,.ss l1),(1,.ref 3 0 l2.length)] [(3,R3 l2)]) ?_
 refine .sub (.freeze 3 rfl) ?_
 refine .st (mk 4 [] [(0,.ss l1),(1,.si l2)] []) (.ret ?_)
 cases h
 exact FinC.rs
end Go.Proofs.YtmgddgcniacnbaaGreatDoor
