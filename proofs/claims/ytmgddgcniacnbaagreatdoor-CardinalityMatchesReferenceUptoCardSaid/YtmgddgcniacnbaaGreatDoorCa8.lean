/- Functions of the program as functional programs; the code computes them. -/
import Derived.Test.YtmgddgcniacnbaaGreatDoorCa7
namespace Go.Proofs.YtmgddgcniacnbaaGreatDoor
open Go.Ab Go.Rp
attribute [-simp] List.all_eq_true Array.all_toList Array.all_eq_true
mutual
def d148 : (N : Nat) → (a0 : (List S53)) → (a1 : (List S53)) → (a2 : S76) → Option (Int × Bool × Int)
 | 0,_,_,_ => none
 | N + 1,a0,a1,a2 =>
  Option.bind (α := Bool) (
   if (a2.Kind != 5) then (
    some (decide ((a2.Args.length : Int) > 0))
   ) else
   some false
  ) fun (v2 : Bool) =>
  if v2 = true then (
   some (0,false,3)
  ) else
  if (a2.Kind == 1) then (
   Option.bind (α := Bool) (
    (d90 N a2.Value).bind fun r10 =>
    if (!r10) = true then (
     some true
    ) else
    if (!decide (a2.Name = (ByteArray.mk #[]))) = true then (
     some true
    ) else
    some (a2.Index != 0)
   ) fun (v9 : Bool) =>
   if v9 = true then (
    some (0,false,3)
   ) else
   some (a2.Value.Kind,(a2.Value.Kind == 0),0)
  ) else
  if (a2.Kind == 3) then (
   Option.bind (α := Bool) (
    if a2.Index < 0 then (
     some true
    ) else
    if a2.Index ≥ 8 then (
     some true
    ) else
    if (!decide (a2.Name = (ByteArray.mk #[]))) = true then (
     some true
    ) else
    if a2.Value.Kind < 1 then (
     some true
    ) else
    if a2.Value.Kind > 3 then (
     some true
    ) else
    some (!beqS58 a2.Value (S58.mk a2.Value.Kind 0 (ByteArray.mk #[])))
   ) fun (v20 : Bool) =>
   if v20 = true then (
    some (0,false,3)
   ) else
   some (a2.Value.Kind,true,0)
  ) else
  Option.bind (α := Bool) (
   if (a2.Kind == 2) then (
    some true
   ) else
   some (a2.Kind == 4)
  ) fun (v28 : Bool) =>
  if v28 = true then (
   Option.bind (α := List S53) (
    if (a2.Kind == 4) then (
     some a1
    ) else
    some a0
   ) fun (l32 : List S53) =>
   Option.bind (α := Bool) (
    (d145 N a2.Name).bind fun r38 =>
    if (!r38) = true then (
     some true
    ) else
    if (a2.Index != 0) then (
     some true
    ) else
    some (!beqS58 a2.Value (S58.mk 0 0 (ByteArray.mk #[])))
   ) fun (v37 : Bool) =>
   if v37 = true then (
    some (0,false,3)
   ) else
   (d168 N l32 a2.Name).bind fun r42 =>
   if (!r42.2) = true then (
    some (0,false,23)
   ) else
   some (r42.1.Kind,r42.1.Nullable,0)
  ) else
  if (a2.Kind == 5) then (
   (d169 N a0 a1 a2).bind fun r45 =>
   some (r45.1,r45.2.1,r45.2.2)
  ) else
  some (0,false,3)
def d169 : (N : Nat) → (a0 : (List S53)) → (a1 : (List S53)) → (a2 : S76) → Option (Int × Bool × Int)
 | 0,_,_,_ => none
 | N + 1,a0,a1,a2 =>
  (d159 N ).bind fun r1 =>
  (d136 N r1.1 a2.Name).bind fun r2 =>
  Option.bind (α := Bool) (
   if r2 < 0 then (
    some true
   ) else
   (idx r1.2 r2).bind fun x10 =>
   if (x10 != (a2.Args.length : Int)) then (
    some true
   ) else
   if (a2.Index != 0) then (
    some true
   ) else
   some (!beqS58 a2.Value (S58.mk 0 0 (ByteArray.mk #[])))
  ) fun (v8 : Bool) =>
  if v8 = true then (
   some (0,false,3)
  ) else
  bindO (β := ((List Int) × Bool)) (ρ := (Int × Bool × Int)) (
   iterN (σ := ((List Int) × Bool × Int)) (ρ := (Out ((List Int) × Bool) (Int × Bool × Int))) (fun ((l22,v23,v24) : ((List Int) × Bool × Int)) =>
    if v24 < (a2.Args.length : Int) then (
     (idx a2.Args v24).bind fun x53 =>
     (d148 N a0 a1 x53).bind fun r55 =>
     if (r55.2.2 != 0) then (
      some (.inr (.ret (0,false,r55.2.2)))
     ) else
     Option.bind (α := Bool) (
      (appL 8 l22 [r55.1]).bind fun _l60 =>
      if v23 = true then (
       some true
      ) else
      some r55.2.1
     ) fun (v59 : Bool) =>
     (chkI (v24 + 1)).bind fun v62 =>
     some (.inl ((l22 ++ [r55.1]),v59,v62))
    ) else
    some (.inr (.go (l22,v23)))
   ) N (([] : List Int),false,0)
  ) fun ((l50,v51) : ((List Int) × Bool)) =>
  Option.bind (α := Bool) (
   if decide (a2.Name = (ByteArray.mk #[43])) = true then (
    some true
   ) else
   if decide (a2.Name = (ByteArray.mk #[45])) = true then (
    some true
   ) else
   some (decide (a2.Name = (ByteArray.mk #[42])))
  ) fun (v65 : Bool) =>
  if v65 = true then (
   (d186 N 1 l50).bind fun r69 =>
   (d190 N 1 true r69).bind fun r70 =>
   some (r70.1,r70.2.1,r70.2.2)
  ) else
  if decide (a2.Name = (ByteArray.mk #[124,124])) = true then (
   (d186 N 3 l50).bind fun r72 =>
   (d190 N 3 true r72).bind fun r73 =>
   some (r73.1,r73.2.1,r73.2.2)
  ) else
  if decide (a2.Name = (ByteArray.mk #[108,101,110,103,116,104])) = true then (
   (d186 N 3 l50).bind fun r75 =>
   (d190 N 1 v51 r75).bind fun r76 =>
   some (r76.1,r76.2.1,r76.2.2)
  ) else
  Option.bind (α := Bool) (
   if decide (a2.Name = (ByteArray.mk #[97,110,100])) = true then (
    some true
   ) else
   if decide (a2.Name = (ByteArray.mk #[111,114])) = true then (
    some true
   ) else
   some (decide (a2.Name = (ByteArray.mk #[110,111,116])))
  ) fun (v79 : Bool) =>
  if v79 = true then (
   (d186 N 2 l50).bind fun r83 =>
   (d190 N 2 v51 r83).bind fun r84 =>
   some (r84.1,r84.2.1,r84.2.2)
  ) else
  if decide (a2.Name = (ByteArray.mk #[105,115,32,110,117,108,108])) = true then (
   some (2,false,0)
  ) else
  if decide (a2.Name = (ByteArray.mk #[105,102])) = true then (
   Option.bind (α := (Int × Bool × Int)) (
    (idx l50 1).bind fun x99 =>
    (idx l50 2).bind fun x100 =>
    letv (maxI x99 x100) fun v101 =>
    (idx l50 0).bind fun x102 =>
    (d189 N x102 2).bind fun r103 =>
    if r103 = true then (
     (d189 N x99 x100).bind fun r105 =>
     (d190 N v101 v51 r105).bind fun r106 =>
     some (r106.1,r106.2.1,r106.2.2)
    ) else
    (d190 N v101 v51 false).bind fun r107 =>
    some (r107.1,r107.2.1,r107.2.2)
   ) fun ((v96,v97,v98) : (Int × Bool × Int)) =>
   some (v96,v97,v98)
  ) else
  (idx l50 0).bind fun x108 =>
  (idx l50 1).bind fun x109 =>
  (d189 N x108 x109).bind fun r110 =>
  (d190 N 2 v51 r110).bind fun r111 =>
  some (r111.1,r111.2.1,r111.2.2)
end
set_option maxRecDepth 100000 in
set_option maxHeartbeats 4000000 in
theorem pg148_169 (N : Nat) : (∀ (a0 : (List S53)) (a1 : (List S53)) (a2 : S76) (r : (Int × Bool × Int)) (_ : d148 N a0 a1 a2 = some r),FunC Tryz.prog 148 [.s53 a0,.s53 a1,.agg (k76 a2)] (.tup [.i r.1,.b r.2.1,.i r.2.2])) ∧ (∀ (a0 : (List S53)) (a1 : (List S53)) (a2 : S76) (r : (Int × Bool × Int)) (_ : d169 N a0 a1 a2 = some r),FunC Tryz.prog 169 [.s53 a0,.s53 a1,.agg (k76 a2)] (.tup [.i r.1,.b r.2.1,.i r.2.2])) := by
 induction N with
 | zero => exact ⟨(by intro a0 a1 a2 r h;cases h),(by intro a0 a1 a2 r h;cases h)⟩
 | succ N ih =>
 obtain ⟨ih148,ih169⟩ := ih
 refine ⟨?_,?_⟩
 ·intro a0 a1 a2 r h
  unfold d148 at h
  refine FunC.enter 130 [(0,.s53 a0),(1,.s53 a1),(2,.agg (k76 a2))] (by simp) Tryz.func148 rfl (of_decide_eq_true rfl) rfl rfl ?_
  refine .seqR ?_
  refine .rr 4 ?_
  refine .tt (L55 a0 a1) (H1 a2) (.nil (.seq ?_))
  replace h := bsome h;obtain ⟨v2,hj,h⟩ := h
  refine .cutR (mk 130 [] (L55 a0 a1 ++ [(20,.b v2)]) (H1 a2)) ?_ ?_
  ·clear h;have h := hj;clear hj
   refine .rr 4 ?_
   replace h := isome h;rcases h with ⟨c3,h⟩ | ⟨c3,h⟩
   ·have c3_ := c3
    refine .sub (.bool 15 rfl c3_) ?_
    refine .rr 5 ?_
    refine .tt (L55 a0 a1 ++ [(20,.b (decide ((a2.Args.length : Int) > 0)))]) (H1 a2) ?_
    cases h
    exact .nil .tt
   ·have c3_ := Bool.eq_false_iff.2 c3
    refine .sub (.bool 15 rfl c3_) ?_
    refine .rr 5 ?_
    refine .tt (L55 a0 a1 ++ [(20,.b false)]) (H1 a2) ?_
    cases h
    exact .nil .tt
  ·clear hj
   replace h := isome h;rcases h with ⟨c4,h⟩ | ⟨c4,h⟩
   ·have c4_ := c4
    refine .condT rfl c4_ ?_
    refine .seqR ?_
    refine .rr 3 ?_
    refine .tt [(6,.i 0),(7,.b false),(8,.i 3)] [] (.nil (.ret ?_))
    cases h
    refine thenQ_ps ?_
    exact FinC.rs
   ·have c4_ := Bool.eq_false_iff.2 c4
    refine .condF rfl c4_ ?_
    refine .skip (thenQ_normal (.seq (.seqR ?_)))
    refine .rr 2 ?_
    refine .tt (L56 a0 a1 a2.Kind) (H1 a2) (.nil (.block (.seqR ?_)))
    refine .rr 2 ?_
    refine .tt (L56 a0 a1 a2.Kind ++ [(23,.b (a2.Kind == 1))]) (H1 a2) (.nil ?_)
    replace h := isome h;rcases h with ⟨c5,h⟩ | ⟨c5,h⟩
    ·have c5_ := c5
     refine .condT rfl c5_ ?_
     refine .seq ?_
     replace h := bsome h;obtain ⟨v9,hj,h⟩ := h
     refine .cutR (mk 130 [] [(5,.ptr 5 0 0),(38,.b v9)] (H1 a2)) ?_ ?_
     ·clear h;have h := hj;clear hj
      refine .rr 2 ?_
      refine .tt [(5,.ptr 5 0 0),(26,.agg (k58 a2.Value))] (H1 a2) ?_
      replace h := bsome h;obtain ⟨r10,hr10,h⟩ := h
      refine .callL (d := 27) (p90 N a2.Value r10 hr10) (by simp) rfl rfl (by simp <;> rfl) (by simp <;> rfl) ent90 (by simp <;> rfl) ?_
      refine .rr 2 ?_
      replace h := isome h;rcases h with ⟨c11,h⟩ | ⟨c11,h⟩
      ·have c11_ := c11
       refine .sub (.bool 29 rfl c11_) ?_
       refine .rr 9 ?_
       refine .tt [(5,.ptr 5 0 0),(38,.b true)] (H1 a2) ?_
       cases h
       exact .nil .tt
      ·have c11_ := Bool.eq_false_iff.2 c11
       refine .sub (.bool 29 rfl c11_) ?_
       refine .rr 5 ?_
       replace h := isome h;rcases h with ⟨c12,h⟩ | ⟨c12,h⟩
       ·have c12_ := c12
        refine .sub (.bool 34 rfl c12_) ?_
        refine .rr 4 ?_
        refine .tt [(5,.ptr 5 0 0),(38,.b true)] (H1 a2) ?_
        cases h
        exact .nil .tt
       ·have c12_ := Bool.eq_false_iff.2 c12
        refine .sub (.bool 34 rfl c12_) ?_
        refine .rr 4 ?_
        refine .tt [(5,.ptr 5 0 0),(38,.b (a2.Index != 0))] (H1 a2) ?_
        cases h
        exact .nil .tt
     ·clear hj
      replace h := isome h;rcases h with ⟨c13,h⟩ | ⟨c13,h⟩
      ·have c13_ := c13
       refine .condT rfl c13_ ?_
       refine .seqR ?_
       refine .rr 3 ?_
       refine .tt [(6,.i 0),(7,.b false),(8,.i 3)] [] (.nil (.ret ?_))
       cases h
       refine thenQ_ps ?_
       refine blockQ.ret ?_
       refine thenQ_ps ?_
       exact FinC.rs
      ·have c13_ := Bool.eq_false_iff.2 c13
       refine .condF rfl c13_ ?_
       refine .skip (thenQ_normal ?_)
       refine .seqQ (by kernel_rfl) (by kernel_rfl) ?_
       refine .rq 10 fun K k => ?_;simp;refine k ?_
       refine .tt [(6,.i a2.Value.Kind),(7,.b (a2.Value.Kind == 0)),(8,.i 0)] [] (.nil (.ret ?_))
       cases h
       refine blockQ.ret ?_
       refine thenQ_ps ?_
       exact FinC.rs
    ·have c5_ := Bool.eq_false_iff.2 c5
     refine .condF rfl c5_ ?_
     refine .seqR ?_
     refine .rr 2 ?_
     refine .tt (L56 a0 a1 a2.Kind ++ [(46,.b (a2.Kind == 3))]) (H1 a2) (.nil ?_)
     replace h := isome h;rcases h with ⟨c14,h⟩ | ⟨c14,h⟩
     ·have c14_ := c14
      refine .condT rfl c14_ ?_
      refine .seq ?_
      replace h := bsome h;obtain ⟨v20,hj,h⟩ := h
      refine .cutR (mk 130 [] [(5,.ptr 5 0 0),(81,.b v20)] (H1 a2)) ?_ ?_
      ·clear h;have h := hj;clear hj
       refine .rr 4 ?_
       replace h := isome h;rcases h with ⟨c21,h⟩ | ⟨c21,h⟩
       ·have c21_ := decide_eq_true c21
        refine .sub (.bool 51 rfl c21_) ?_
        refine .rr 30 ?_
        refine .tt [(5,.ptr 5 0 0),(81,.b true)] (H1 a2) ?_
        cases h
        exact .nil .tt
       ·have c21_ := decide_eq_false c21
        refine .sub (.bool 51 rfl c21_) ?_
        refine .rr 5 ?_
        replace h := isome h;rcases h with ⟨c22,h⟩ | ⟨c22,h⟩
        ·have c22_ := decide_eq_true c22
         refine .sub (.bool 56 rfl c22_) ?_
         refine .rr 25 ?_
         refine .tt [(5,.ptr 5 0 0),(81,.b true)] (H1 a2) ?_
         cases h
         exact .nil .tt
        ·have c22_ := decide_eq_false c22
         refine .sub (.bool 56 rfl c22_) ?_
         refine .rr 5 ?_
         replace h := isome h;rcases h with ⟨c23,h⟩ | ⟨c23,h⟩
         ·have c23_ := c23
          refine .sub (.bool 61 rfl c23_) ?_
          refine .rr 20 ?_
          refine .tt [(5,.ptr 5 0 0),(81,.b true)] (H1 a2) ?_
          cases h
          exact .nil .tt
         ·have c23_ := Bool.eq_false_iff.2 c23
          refine .sub (.bool 61 rfl c23_) ?_
          refine .rr 6 ?_
          replace h := isome h;rcases h with ⟨c24,h⟩ | ⟨c24,h⟩
          ·have c24_ := decide_eq_true c24
           refine .sub (.bool 67 rfl c24_) ?_
           refine .rr 14 ?_
           refine .tt [(5,.ptr 5 0 0),(81,.b true)] (H1 a2) ?_
           cases h
           exact .nil .tt
          ·have c24_ := decide_eq_false c24
           refine .sub (.bool 67 rfl c24_) ?_
           refine .rr 6 ?_
           replace h := isome h;rcases h with ⟨c25,h⟩ | ⟨c25,h⟩
           ·have c25_ := decide_eq_true c25
            refine .sub (.bool 73 rfl c25_) ?_
            refine .rr 8 ?_
            refine .tt [(5,.ptr 5 0 0),(81,.b true)] (H1 a2) ?_
            cases h
            exact .nil .tt
           ·have c25_ := decide_eq_false c25
            refine .sub (.bool 73 rfl c25_) ?_
            refine .rr 6 ?_
            refine .tt [(5,.ptr 5 0 0),(73,.b false),(75,.agg (k58 a2.Value)),(79,.agg [.i a2.Value.Kind,.i 0,.s (ByteArray.mk #[])])] (H1 a2) ?_
            refine .pureP (by simp) (pure_eqA true rfl rfl rfl rfl (by kernel_rfl) (eqv58 a2.Value (S58.mk a2.Value.Kind 0 (ByteArray.mk #[])))) ?_
            refine .rr 1 ?_
            refine .tt [(5,.ptr 5 0 0),(81,.b (!beqS58 a2.Value (S58.mk a2.Value.Kind 0 (ByteArray.mk #[]))))] (H1 a2) ?_
            cases h
            exact .nil .tt
      ·clear hj
       replace h := isome h;rcases h with ⟨c26,h⟩ | ⟨c26,h⟩
       ·have c26_ := c26
        refine .condT rfl c26_ ?_
        refine .seqR ?_
        refine .rr 3 ?_
        refine .tt [(6,.i 0),(7,.b false),(8,.i 3)] [] (.nil (.ret ?_))
        cases h
        refine thenQ_ps ?_
        refine blockQ.ret ?_
        refine thenQ_ps ?_
        exact FinC.rs
       ·have c26_ := Bool.eq_false_iff.2 c26
        refine .condF rfl c26_ ?_
        refine .skip (thenQ_normal (.seqR ?_))
        refine .rr 6 ?_
        refine .tt [(6,.i a2.Value.Kind),(7,.b true),(8,.i 0)] [] (.nil (.ret ?_))
        cases h
        refine blockQ.ret ?_
        refine thenQ_ps ?_
        exact FinC.rs
     ·have c14_ := Bool.eq_false_iff.2 c14
      refine .condF rfl c14_ ?_
      refine .seq (.seqR ?_)
      refine .rr 2 ?_
      refine .tt (L56 a0 a1 a2.Kind ++ [(85,.b (a2.Kind == 2))]) (H1 a2) (.nil ?_)
      refine .lastN (fun (v28 : Bool) => mk 130 [] (L56 a0 a1 a2.Kind ++ [(85,.b v28)]) (H1 a2)) h ?_ ?_ <;> clear h
      ·intro o h
       replace h := isome h;rcases h with ⟨c29,h⟩ | ⟨c29,h⟩
       ·have c29_ := c29
        refine .condT rfl c29_ ?_
        refine .sub (.bool 85 rfl c29_) ?_
        refine .st (mk 130 [] (L56 a0 a1 a2.Kind ++ [(85,.b true)]) (H1 a2)) (.skip ?_)
        cases h
        refine PostN.next ?_
        exact Sub.tt
       ·have c29_ := Bool.eq_false_iff.2 c29
        refine .condF rfl c29_ ?_
        refine .sub (.bool 85 rfl c29_) ?_
        refine .region ?_
        refine .rr 2 ?_
        refine .tt (L56 a0 a1 a2.Kind ++ [(85,.b (a2.Kind == 4))]) (H1 a2) (.nil ?_)
        cases h
        refine PostN.next ?_
        exact Sub.tt
      ·rintro v28 h
       refine thenQ_normal ?_
       replace h := isome h;rcases h with ⟨c30,h⟩ | ⟨c30,h⟩
       ·have c30_ := c30
        refine .condT rfl c30_ ?_
        refine .seqR ?_
        refine .rr 2 ?_
        refine .tt [(1,.s53 a1),(5,.ptr 5 0 0),(9,.s53 a0)] (H1 a2) (.nil (.seq (.seqR ?_)))
        refine .rr 3 ?_
        refine .tt [(1,.s53 a1),(5,.ptr 5 0 0),(9,.s53 a0),(91,.b (a2.Kind == 4))] (H1 a2) (.nil ?_)
        refine .lastN (fun (l32 : List S53) => mk 130 [] [(5,.ptr 5 0 0),(9,.s53 l32)] (H1 a2)) h ?_ ?_ <;> clear h
        ·intro o h
         replace h := isome h;rcases h with ⟨c33,h⟩ | ⟨c33,h⟩
         ·have c33_ := c33
          refine .condT rfl c33_ ?_
          refine .region ?_
          refine .rr 2 ?_
          refine .tt [(5,.ptr 5 0 0),(9,.s53 a1)] (H1 a2) (.nil ?_)
          cases h
          refine PostN.next ?_
          exact Sub.tt
         ·have c33_ := Bool.eq_false_iff.2 c33
          refine .condF rfl c33_ ?_
          refine .skip ?_
          cases h
          refine PostN.next ?_
          exact Sub.tt
        ·rintro l32 h
         refine thenQ_normal (.seq ?_)
         replace h := bsome h;obtain ⟨v37,hj,h⟩ := h
         refine .cutR (mk 130 [] (L57 l32 ++ [(107,.b v37)]) (H1 a2)) ?_ ?_
         ·clear h;have h := hj;clear hj
          refine .rr 2 ?_
          refine .tt (L57 l32 ++ [(94,.s a2.Name)]) (H1 a2) ?_
          replace h := bsome h;obtain ⟨r38,hr38,h⟩ := h
          refine .callL (d := 95) (p145 N a2.Name r38 hr38) (by simp) rfl rfl (by simp <;> rfl) (by simp <;> rfl) ent145 (by simp <;> rfl) ?_
          refine .rr 2 ?_
          replace h := isome h;rcases h with ⟨c39,h⟩ | ⟨c39,h⟩
          ·have c39_ := c39
           refine .sub (.bool 97 rfl c39_) ?_
           refine .rr 10 ?_
           refine .tt (L57 l32 ++ [(107,.b true)]) (H1 a2) ?_
           cases h
           exact .nil .tt
          ·have c39_ := Bool.eq_false_iff.2 c39
           refine .sub (.bool 97 rfl c39_) ?_
           refine .rr 5 ?_
           replace h := isome h;rcases h with ⟨c40,h⟩ | ⟨c40,h⟩
           ·have c40_ := c40
            refine .sub (.bool 102 rfl c40_) ?_
            refine .rr 5 ?_
            refine .tt (L57 l32 ++ [(107,.b true)]) (H1 a2) ?_
            cases h
            exact .nil .tt
           ·have c40_ := Bool.eq_false_iff.2 c40
            refine .sub (.bool 102 rfl c40_) ?_
            refine .rr 3 ?_
            refine .tt (L57 l32 ++ [(102,.b false),(104,.agg (k58 a2.Value)),(105,.agg [.i 0,.i 0,.s (ByteArray.mk #[])])]) (H1 a2) ?_
            refine .pureP (by simp) (pure_eqA true rfl rfl rfl rfl (by kernel_rfl) (eqv58 a2.Value (S58.mk 0 0 (ByteArray.mk #[])))) ?_
            refine .rr 1 ?_
            refine .tt (L57 l32 ++ [(107,.b (!beqS58 a2.Value (S58.mk 0 0 (ByteArray.mk #[]))))]) (H1 a2) ?_
            cases h
            exact .nil .tt
         ·clear hj
          replace h := isome h;rcases h with ⟨c41,h⟩ | ⟨c41,h⟩
          ·have c41_ := c41
           refine .condT rfl c41_ ?_
           refine .seqR ?_
           refine .rr 3 ?_
           refine .tt [(6,.i 0),(7,.b false),(8,.i 3)] [] (.nil (.ret ?_))
           cases h
           refine thenQ_ps ?_
           refine blockQ.ret ?_
           refine thenQ_ps ?_
           exact FinC.rs
          ·have c41_ := Bool.eq_false_iff.2 c41
           refine .condF rfl c41_ ?_
           refine .skip (thenQ_normal (.seqR ?_))
           refine .rr 3 ?_
           refine .tt [(109,.s53 l32),(111,.s a2.Name)] [] ?_
           replace h := bsome h;obtain ⟨r42,hr42,h⟩ := h
           refine .callC (d := 112) (p168 N l32 a2.Name r42 hr42) (by simp) rfl rfl (by simp <;> rfl) (by simp <;> rfl) ent168 (by simp) (.inl ⟨by simp,by simp⟩) ?_
           refine .rr 6 ?_
           refine .tt [(10,.ptr 10 0 0),(11,.b r42.2)] (H76 r42.1) (.nil (.seq (.seqR ?_)))
           refine .rr 2 ?_
           refine .tt [(10,.ptr 10 0 0),(116,.b (!r42.2))] (H76 r42.1) (.nil ?_)
           replace h := isome h;rcases h with ⟨c43,h⟩ | ⟨c43,h⟩
           ·have c43_ := c43
            refine .condT rfl c43_ ?_
            refine .seqR ?_
            refine .rr 3 ?_
            refine .tt [(6,.i 0),(7,.b false),(8,.i 23)] [] (.nil (.ret ?_))
            cases h
            refine thenQ_ps ?_
            refine blockQ.ret ?_
            refine thenQ_ps ?_
            exact FinC.rs
           ·have c43_ := Bool.eq_false_iff.2 c43
            refine .condF rfl c43_ ?_
            refine .skip (thenQ_normal ?_)
            refine .seqQ (by kernel_rfl) (by kernel_rfl) ?_
            refine .rq 7 fun K k => ?_;simp;refine k ?_
            refine .tt [(6,.i r42.1.Kind),(7,.b r42.1.Nullable),(8,.i 0)] [] (.nil (.ret ?_))
            cases h
            refine blockQ.ret ?_
            refine thenQ_ps ?_
            exact FinC.rs
       ·have c30_ := Bool.eq_false_iff.2 c30
        refine .condF rfl c30_ ?_
        refine .seqR ?_
        refine .rr 2 ?_
        refine .tt (L55 a0 a1 ++ [(121,.b (a2.Kind == 5))]) (H1 a2) (.nil ?_)
        replace h := isome h;rcases h with ⟨c44,h⟩ | ⟨c44,h⟩
        ·have c44_ := c44
         refine .condT rfl c44_ ?_
         refine .seqR ?_
         refine .rr 3 ?_
         refine .tt [(123,.s53 a0),(124,.s53 a1),(125,.agg (k76 a2))] [] ?_
         replace h := bsome h;obtain ⟨r45,hr45,h⟩ := h
         refine .callL (d := 126) (ih169 a0 a1 a2 r45 hr45) (by simp) rfl rfl (by simp <;> rfl) (by simp <;> rfl) ent169 (by simp <;> rfl) ?_
         refine .rr 6 ?_
         refine .tt [(6,.i r45.1),(7,.b r45.2.1),(8,.i r45.2.2)] [] (.nil (.ret ?_))
         cases h
         refine blockQ.ret ?_
         refine thenQ_ps ?_
         exact FinC.rs
        ·have c44_ := Bool.eq_false_iff.2 c44
         refine .condF rfl c44_ ?_
         refine .skip (blockQ.normal (thenQ_normal (.seqR ?_)))
         refine .rr 3 ?_
         refine .tt [(6,.i 0),(7,.b false),(8,.i 3)] [] (.nil (.ret ?_))
         cases h
         exact FinC.rs
 ·intro a0 a1 a2 r h
  unfold d169 at h
  refine FunC.enter 164 [(0,.s53 a0),(1,.s53 a1),(2,.agg (k76 a2))] (by simp) Tryz.func169 rfl (of_decide_eq_true rfl) rfl rfl ?_
  refine .seqR ?_
  refine .rr 4 ?_
  refine .tt (L55 a0 a1) (H1 a2) (.nil (.seqR ?_))
  replace h := bsome h;obtain ⟨r1,hr1,h⟩ := h
  refine .callC (d := 22) (p159 N  r1 hr1) (by simp) rfl rfl (by simp <;> rfl) (by simp <;> rfl) ent159 (by simp) (.inl ⟨by simp,by simp⟩) ?_
  refine .rr 5 ?_
  refine .tt (L55 a0 a1 ++ [(9,.ss r1.1),(10,.si r1.2)]) (H1 a2) (.nil (.seqR ?_))
  refine .rr 3 ?_
  refine .tt (L55 a0 a1 ++ [(10,.si r1.2),(25,.ss r1.1),(27,.s a2.Name)]) (H1 a2) ?_
  replace h := bsome h;obtain ⟨r2,hr2,h⟩ := h
  refine .callL (d := 28) (p136 N r1.1 a2.Name r2 hr2) (by simp) rfl rfl (by simp <;> rfl) (by simp <;> rfl) ent136 (by simp <;> rfl) ?_
  refine .rr 1 ?_
  refine .tt (L58 a0 a1 r1.2 r2) (H1 a2) (.nil (.seq ?_))
  replace h := bsome h;obtain ⟨v8,hj,h⟩ := h
  refine .cutQ (by kernel_rfl) (by kernel_rfl) (mk 164 [] (L55 a0 a1 ++ [(51,.b v8)]) (H1 a2)) ?_ ?_
  ·clear h;have h := hj;clear hj
   refine .rq 3 fun K k => ?_;simp;refine k ?_
   replace h := isome h;rcases h with ⟨c9,h⟩ | ⟨c9,h⟩
   ·have c9_ := decide_eq_true c9
    refine .sub (.bool 31 rfl c9_) ?_
    refine .rq 20 fun K k => ?_;simp;refine k ?_
    refine .tt (L59 a0 a1) (H1 a2) ?_
    cases h
    exact .nil .tt
   ·have c9_ := decide_eq_false c9
    refine .sub (.bool 31 rfl c9_) ?_
    refine .st (mk 164 [] (L58 a0 a1 r1.2 r2 ++ [(31,.b false)]) (H1 a2)) ?_
    replace h := xsome h;obtain ⟨x10,k11,hx10k,hx10,hx10a,hx10b,h⟩ := h
    refine .rq 10 fun K k => ?_;simp [hx10,hx10k,hx10a];refine k ?_
    replace h := isome h;rcases h with ⟨c12,h⟩ | ⟨c12,h⟩
    ·have c12_ := c12
     refine .sub (.bool 41 rfl c12_) ?_
     refine .rq 10 fun K k => ?_;simp;refine k ?_
     refine .tt (L59 a0 a1) (H1 a2) ?_
     cases h
     exact .nil .tt
    ·have c12_ := Bool.eq_false_iff.2 c12
     refine .sub (.bool 41 rfl c12_) ?_
     refine .rq 5 fun K k => ?_;simp;refine k ?_
     replace h := isome h;rcases h with ⟨c13,h⟩ | ⟨c13,h⟩
     ·have c13_ := c13
      refine .sub (.bool 46 rfl c13_) ?_
      refine .rq 5 fun K k => ?_;simp;refine k ?_
      refine .tt (L59 a0 a1) (H1 a2) ?_
      cases h
      exact .nil .tt
     ·have c13_ := Bool.eq_false_iff.2 c13
      refine .sub (.bool 46 rfl c13_) ?_
      refine .rq 3 fun K k => ?_;simp;refine k ?_
      refine .tt (L60 a0 a1 ++ [(48,.agg (k58 a2.Value)),(49,.agg [.i 0,.i 0,.s (ByteArray.mk #[])])]) (H1 a2) ?_
      refine .pureP (by simp) (pure_eqA true rfl rfl rfl rfl (by kernel_rfl) (eqv58 a2.Value (S58.mk 0 0 (ByteArray.mk #[])))) ?_
      refine .rq 1 fun K k => ?_;simp;refine k ?_
      refine .tt (L55 a0 a1 ++ [(51,.b (!beqS58 a2.Value (S58.mk 0 0 (ByteArray.mk #[]))))]) (H1 a2) ?_
      cases h
      exact .nil .tt
  ·clear hj
   replace h := isome h;rcases h with ⟨c14,h⟩ | ⟨c14,h⟩
   ·have c14_ := c14
    refine .condT rfl c14_ ?_
    refine .seqR ?_
    refine .rr 3 ?_
    refine .tt [(6,.i 0),(7,.b false),(8,.i 3)] [] (.nil (.ret ?_))
    cases h
    refine thenQ_ps ?_
    exact FinC.rs
   ·have c14_ := Bool.eq_false_iff.2 c14
    refine .condF rfl c14_ ?_
    refine .skip (thenQ_normal (.seqR ?_))
    refine .rr 1 ?_
    refine .tt (L61 a0 a1) (H58 a2) (.nil (.seqR ?_))
    refine .rr 1 ?_
    refine .tt (L61 a0 a1 ++ [(13,.b false)]) (H58 a2) (.nil (.seq (.seqR ?_)))
    refine .rr 4 ?_
    refine .tt (L61 a0 a1 ++ [(13,.b false),(53,.s76 a2.Args),(54,.i (a2.Args.length : Int)),(55,.i 0)]) (H58 a2) (.nil ?_)
    refine .lastJ (fun ((l50,v51) : ((List Int) × Bool)) => mk 164 [] [(5,.ptr 5 0 0),(12,.ptr 12 0 0),(13,.b v51)] (H31 a2 l50)) h ?_ ?_ <;> clear h
    ·intro o h
     refine .block ?_
     refine .iter (fun ((l22,v23,v24) : ((List Int) × Bool × Int)) => mk 164 [] (L62 a0 a1 v23 a2.Args a2.Args.length v24) (H31 a2 l22)) h (Sub.trans (Sub.nilOwnBox (bid := 12) (j := 0) (id := 73) (T := 3) (n := 1) rfl rfl (by decide) rfl (by decide)) (by simp;exact Sub.tt)) ?_
     clear h
     rintro ⟨l22,v23,v24⟩ x h
     dsimp only at h ⊢
     refine .seqR ?_
     refine .rr 1 ?_
     refine .tt (L62 a0 a1 v23 a2.Args a2.Args.length v24 ++ [(56,.b (decide (v24 < (a2.Args.length : Int))))]) (H31 a2 l22) (.nil (.seq ?_))
     replace h := isome h;rcases h with ⟨c52,h⟩ | ⟨c52,h⟩
     ·have c52_ := decide_eq_true c52
      refine .condT rfl c52_ ?_
      refine .skip (thenQ_normal (.seq (.block (.seqR ?_))))
      replace h := xsome h;obtain ⟨x53,k54,hx53k,hx53,hx53a,hx53b,h⟩ := h
      refine .rk 4 fun K k => ?_;simp [hx53,hx53k,hx53a];refine k ?_
      refine .tt (L63 a0 a1 v23 ++ [(15,.ptr 15 0 0),(53,.s76 a2.Args),(54,.i (a2.Args.length : Int)),(55,.i v24)]) [(5,some (.box (k76 a2))),(12,some (.box [.ref 73 0 l22.length])),(15,some (.box (k76 x53))),(73,R3 l22)] (.nil (.seqR ?_))
      refine .rr 3 ?_
      refine .tt (L62 a0 a1 v23 a2.Args a2.Args.length v24 ++ [(60,.s53 a0),(61,.s53 a1),(62,.agg (k76 x53))]) (H31 a2 l22) ?_
      replace h := bsome h;obtain ⟨r55,hr55,h⟩ := h
      refine .callL (d := 63) (ih148 a0 a1 x53 r55 hr55) (by simp) rfl rfl (by simp <;> rfl) (by simp <;> rfl) ent148 (by simp <;> rfl) ?_
      refine .rr 7 ?_
      refine .tt (L63 a0 a1 v23 ++ [(16,.i r55.1),(17,.b r55.2.1),(18,.i r55.2.2),(53,.s76 a2.Args),(54,.i (a2.Args.length : Int)),(55,.i v24)]) (H31 a2 l22) (.nil (.seq (.seqR ?_)))
      refine .rr 2 ?_
      refine .tt (L63 a0 a1 v23 ++ [(16,.i r55.1),(17,.b r55.2.1),(18,.i r55.2.2),(53,.s76 a2.Args),(54,.i (a2.Args.length : Int)),(55,.i v24),(68,.b (r55.2.2 != 0))]) (H31 a2 l22) (.nil ?_)
      replace h := isome h;rcases h with ⟨c56,h⟩ | ⟨c56,h⟩
      ·have c56_ := c56
       refine .condT rfl c56_ ?_
       refine .seqR ?_
       refine .rr 4 ?_
       refine .tt [(6,.i 0),(7,.b false),(8,.i r55.2.2)] [] (.nil (.ret ?_))
       cases h
       refine thenQ_ps ?_
       refine blockQ.ret ?_
       refine thenQ_ps ?_
       refine PostI.os ?_
       rintro rfl
       refine blockQ.ret ?_
       refine PostJ.out (by simp) ?_
       rintro rfl
       refine thenQ_ps ?_
       exact FinC.rs
      ·have c56_ := Bool.eq_false_iff.2 c56
       refine .condF rfl c56_ ?_
       refine .skip (thenQ_normal ?_)
       replace h := bsome h;obtain ⟨v59,hj,h⟩ := h
       refine .region (Chain.cut (mk 164 [] (L62 a0 a1 v59 a2.Args a2.Args.length v24) [(5,some (.box (k76 a2))),(12,some (.box [.ref 73 0 ((l22 ++ [r55.1]).length)])),(73,R3 (l22 ++ [r55.1]))]) ?_ fun S' hS => ?_)
       ·clear h;have h := hj;clear hj
        replace h := bsome h;obtain ⟨l60,hl60,h⟩ := h
        obtain ⟨hl60a,hl60⟩ := appL_some hl60
        subst hl60
        try simp only [List.length_cons,List.length_nil,Nat.zero_add] at hl60a
        refine .runK [72] 6 fun K k => ?_;simp [hl60a];refine k _ _ ?_;clear k K
        replace h := isome h;rcases h with ⟨c61,h⟩ | ⟨c61,h⟩
        ·have c61_ := c61
         refine .sub (.bool 75 rfl c61_) ?_
         refine .runK [72] 4 fun K k => ?_;simp;refine k _ _ ?_;clear k K
         refine .tt (L61 a0 a1 ++ [(13,.b true),(53,.s76 a2.Args),(54,.i (a2.Args.length : Int)),(55,.i v24),(76,.tup [])]) [(5,some (.box (k76 a2))),(12,some (.box [.ref 73 0 ((l22 ++ [r55.1]).length)])),(73,R3 (l22 ++ [r55.1]))] ?_
         cases h
         exact .nil .tt
        ·have c61_ := Bool.eq_false_iff.2 c61
         refine .sub (.bool 75 rfl c61_) ?_
         refine .runK [72] 4 fun K k => ?_;simp;refine k _ _ ?_;clear k K
         refine .tt (L62 a0 a1 r55.2.1 a2.Args a2.Args.length v24 ++ [(76,.b r55.2.1)]) [(5,some (.box (k76 a2))),(12,some (.box [.ref 73 0 ((l22 ++ [r55.1]).length)])),(73,R3 (l22 ++ [r55.1]))] ?_
         cases h
         exact .nil .tt
       ·clear hj
        refine blockQ.normal (thenQ_normal ?_)
        refine .sub hS ?_
        refine .region ?_
        replace h := csome h;obtain ⟨v62,hv62,h⟩ := h
        refine .rk 2 fun K k => ?_;simp [hv62];refine k ?_
        refine .tt (L62 a0 a1 v59 a2.Args a2.Args.length v62) [(5,some (.box (k76 a2))),(12,some (.box [.ref 73 0 ((l22 ++ [r55.1]).length)])),(73,R3 (l22 ++ [r55.1]))] (.nil ?_)
        cases h
        refine PostI.next ?_
        exact Sub.tt
     ·have c52_ := decide_eq_false c52
      refine .condF rfl c52_ ?_
      refine .exit ?_
      cases h
      refine thenQ_ps ?_
      refine PostI.os ?_
      rintro rfl
      refine blockQ.hit (PostJ.next ?_)
      exact Sub.tt
    ·rintro ⟨l50,v51⟩ h
     dsimp only at h ⊢
     refine thenQ_normal (.seqR ?_)
     refine .rr 2 ?_
     refine .tt [(5,.ptr 5 0 0),(12,.ptr 12 0 0),(13,.b v51),(19,.fn (.func 186) [.ptr 12 0 0])] (H31 a2 l50) (.nil (.seqR ?_))
     refine .rr 1 ?_
     refine .tt [(5,.ptr 5 0 0),(12,.ptr 12 0 0),(13,.b v51),(19,.fn (.func 186) [.ptr 12 0 0]),(20,.d (.lit (.func (.func 189) #[] #[])))] (H31 a2 l50) (.nil (.seq (.seqR ?_)))
     refine .rr 2 ?_
     refine .tt (L65 v51 a2.Name) [(12,some (.box [.ref 73 0 l50.length])),(73,R3 l50)] (.nil (.block (.seq (.seqR ?_))))
     refine .rr 2 ?_
     refine .tt (L65 v51 a2.Name ++ [(82,.b (decide (a2.Name = (ByteArray.mk #[43]))))]) [(12,some (.box [.ref 73 0 l50.length])),(73,R3 l50)] (.nil ?_)
     refine .lastN (fun (v65 : Bool) => mk 164 [] (L65 v51 a2.Name ++ [(82,.b v65)]) [(12,some (.box [.ref 73 0 l50.length])),(73,R3 l50)]) h ?_ ?_ <;> clear h
     ·intro o h
      replace h := isome h;rcases h with ⟨c66,h⟩ | ⟨c66,h⟩
      ·have c66_ := c66
       refine .condT rfl c66_ ?_
       refine .sub (.bool 82 rfl c66_) ?_
       refine .st (mk 164 [] (L65 v51 a2.Name ++ [(82,.b true)]) [(12,some (.box [.ref 73 0 l50.length])),(73,R3 l50)]) (.skip ?_)
       cases h
       refine PostN.next ?_
       exact Sub.tt
      ·have c66_ := Bool.eq_false_iff.2 c66
       refine .condF rfl c66_ ?_
       refine .sub (.bool 82 rfl c66_) ?_
       refine .seqR ?_
       refine .rr 2 ?_
       refine .tt (L65 v51 a2.Name ++ [(82,.b (decide (a2.Name = (ByteArray.mk #[45]))))]) [(12,some (.box [.ref 73 0 l50.length])),(73,R3 l50)] (.nil ?_)
       replace h := isome h;rcases h with ⟨c67,h⟩ | ⟨c67,h⟩
       ·have c67_ := c67
        refine .condT rfl c67_ ?_
        refine .sub (.bool 82 rfl c67_) ?_
        refine .st (mk 164 [] (L65 v51 a2.Name ++ [(82,.b true)]) [(12,some (.box [.ref 73 0 l50.length])),(73,R3 l50)]) (.skip ?_)
        cases h
        refine PostN.next ?_
        exact Sub.tt
       ·have c67_ := Bool.eq_false_iff.2 c67
        refine .condF rfl c67_ ?_
        refine .sub (.bool 82 rfl c67_) ?_
        refine .region ?_
        refine .rr 2 ?_
        refine .tt (L65 v51 a2.Name ++ [(82,.b (decide (a2.Name = (ByteArray.mk #[42]))))]) [(12,some (.box [.ref 73 0 l50.length])),(73,R3 l50)] (.nil ?_)
        cases h
        refine PostN.next ?_
        exact Sub.tt
     ·rintro v65 h
      refine thenQ_normal ?_
      replace h := isome h;rcases h with ⟨c68,h⟩ | ⟨c68,h⟩
      ·have c68_ := c68
       refine .condT rfl c68_ ?_
       refine .seqR ?_
       refine .rr 1 ?_
       refine .tt [(86,.fn (.func 186) [.ptr 12 0 0])] [(12,some (.box [.ref 73 0 l50.length])),(73,R3 l50)] ?_
       replace h := bsome h;obtain ⟨r69,hr69,h⟩ := h
       refine .callL (d := 87) (p186 N 1 l50 r69 hr69) (by simp) rfl rfl (by simp <;> rfl) (by simp <;> rfl) ent186 (by simp <;> rfl) ?_
       refine .st (mk 164 [] [(86,.fn (.func 186) [.ptr 12 0 0]),(87,.b r69)] [(12,some (.box [.ref 73 0 l50.length])),(73,R3 l50)]) ?_
       replace h := bsome h;obtain ⟨r70,hr70,h⟩ := h
       refine .callL (d := 88) (p190 N 1 true r69 r70 hr70) (by simp) rfl rfl (by simp <;> rfl) (by simp <;> rfl) ent190 (by simp <;> rfl) ?_
       refine .rr 6 ?_
       refine .tt [(6,.i r70.1),(7,.b r70.2.1),(8,.i r70.2.2)] [] (.nil (.ret ?_))
       cases h
       refine blockQ.ret ?_
       refine thenQ_ps ?_
       exact FinC.rs
      ·have c68_ := Bool.eq_false_iff.2 c68
       refine .condF rfl c68_ ?_
       refine .seqR ?_
       refine .rr 2 ?_
       refine .tt (L65 v51 a2.Name ++ [(92,.b (decide (a2.Name = (ByteArray.mk #[124,124]))))]) [(12,some (.box [.ref 73 0 l50.length])),(73,R3 l50)] (.nil ?_)
       replace h := isome h;rcases h with ⟨c71,h⟩ | ⟨c71,h⟩
       ·have c71_ := c71
        refine .condT rfl c71_ ?_
        refine .seqR ?_
        refine .rr 1 ?_
        refine .tt [(94,.fn (.func 186) [.ptr 12 0 0])] [(12,some (.box [.ref 73 0 l50.length])),(73,R3 l50)] ?_
        replace h := bsome h;obtain ⟨r72,hr72,h⟩ := h
        refine .callL (d := 95) (p186 N 3 l50 r72 hr72) (by simp) rfl rfl (by simp <;> rfl) (by simp <;> rfl) ent186 (by simp <;> rfl) ?_
        refine .st (mk 164 [] [(94,.fn (.func 186) [.ptr 12 0 0]),(95,.b r72)] [(12,some (.box [.ref 73 0 l50.length])),(73,R3 l50)]) ?_
        replace h := bsome h;obtain ⟨r73,hr73,h⟩ := h
        refine .callL (d := 96) (p190 N 3 true r72 r73 hr73) (by simp) rfl rfl (by simp <;> rfl) (by simp <;> rfl) ent190 (by simp <;> rfl) ?_
        refine .rr 6 ?_
        refine .tt [(6,.i r73.1),(7,.b r73.2.1),(8,.i r73.2.2)] [] (.nil (.ret ?_))
        cases h
        refine blockQ.ret ?_
        refine thenQ_ps ?_
        exact FinC.rs
       ·have c71_ := Bool.eq_false_iff.2 c71
        refine .condF rfl c71_ ?_
        refine .seqR ?_
        refine .rr 2 ?_
        refine .tt (L65 v51 a2.Name ++ [(100,.b (decide (a2.Name = (ByteArray.mk #[108,101,110,103,116,104]))))]) [(12,some (.box [.ref 73 0 l50.length])),(73,R3 l50)] (.nil ?_)
        replace h := isome h;rcases h with ⟨c74,h⟩ | ⟨c74,h⟩
        ·have c74_ := c74
         refine .condT rfl c74_ ?_
         refine .seqR ?_
         refine .rr 2 ?_
         refine .tt [(102,.b v51),(103,.fn (.func 186) [.ptr 12 0 0])] [(12,some (.box [.ref 73 0 l50.length])),(73,R3 l50)] ?_
         replace h := bsome h;obtain ⟨r75,hr75,h⟩ := h
         refine .callL (d := 104) (p186 N 3 l50 r75 hr75) (by simp) rfl rfl (by simp <;> rfl) (by simp <;> rfl) ent186 (by simp <;> rfl) ?_
         refine .st (mk 164 [] [(102,.b v51),(103,.fn (.func 186) [.ptr 12 0 0]),(104,.b r75)] [(12,some (.box [.ref 73 0 l50.length])),(73,R3 l50)]) ?_
         replace h := bsome h;obtain ⟨r76,hr76,h⟩ := h
         refine .callL (d := 105) (p190 N 1 v51 r75 r76 hr76) (by simp) rfl rfl (by simp <;> rfl) (by simp <;> rfl) ent190 (by simp <;> rfl) ?_
         refine .rr 6 ?_
         refine .tt [(6,.i r76.1),(7,.b r76.2.1),(8,.i r76.2.2)] [] (.nil (.ret ?_))
         cases h
         refine blockQ.ret ?_
         refine thenQ_ps ?_
         exact FinC.rs
        ·have c74_ := Bool.eq_false_iff.2 c74
         refine .condF rfl c74_ ?_
         refine .seq (.seqR ?_)
         refine .rr 2 ?_
         refine .tt (L65 v51 a2.Name ++ [(109,.b (decide (a2.Name = (ByteArray.mk #[97,110,100]))))]) [(12,some (.box [.ref 73 0 l50.length])),(73,R3 l50)] (.nil ?_)
         refine .lastN (fun (v79 : Bool) => mk 164 [] (L65 v51 a2.Name ++ [(109,.b v79)]) [(12,some (.box [.ref 73 0 l50.length])),(73,R3 l50)]) h ?_ ?_ <;> clear h
         ·intro o h
          replace h := isome h;rcases h with ⟨c80,h⟩ | ⟨c80,h⟩
          ·have c80_ := c80
           refine .condT rfl c80_ ?_
           refine .sub (.bool 109 rfl c80_) ?_
           refine .st (mk 164 [] (L65 v51 a2.Name ++ [(109,.b true)]) [(12,some (.box [.ref 73 0 l50.length])),(73,R3 l50)]) (.skip ?_)
           cases h
           refine PostN.next ?_
           exact Sub.tt
          ·have c80_ := Bool.eq_false_iff.2 c80
           refine .condF rfl c80_ ?_
           refine .sub (.bool 109 rfl c80_) ?_
           refine .seqR ?_
           refine .rr 2 ?_
           refine .tt (L65 v51 a2.Name ++ [(109,.b (decide (a2.Name = (ByteArray.mk #[111,114]))))]) [(12,some (.box [.ref 73 0 l50.length])),(73,R3 l50)] (.nil ?_)
           replace h := isome h;rcases h with ⟨c81,h⟩ | ⟨c81,h⟩
           ·have c81_ := c81
            refine .condT rfl c81_ ?_
            refine .sub (.bool 109 rfl c81_) ?_
            refine .st (mk 164 [] (L65 v51 a2.Name ++ [(109,.b true)]) [(12,some (.box [.ref 73 0 l50.length])),(73,R3 l50)]) (.skip ?_)
            cases h
            refine PostN.next ?_
            exact Sub.tt
           ·have c81_ := Bool.eq_false_iff.2 c81
            refine .condF rfl c81_ ?_
            refine .sub (.bool 109 rfl c81_) ?_
            refine .region ?_
            refine .rr 2 ?_
            refine .tt (L65 v51 a2.Name ++ [(109,.b (decide (a2.Name = (ByteArray.mk #[110,111,116]))))]) [(12,some (.box [.ref 73 0 l50.length])),(73,R3 l50)] (.nil ?_)
            cases h
            refine PostN.next ?_
            exact Sub.tt
         ·rintro v79 h
          refine thenQ_normal ?_
          replace h := isome h;rcases h with ⟨c82,h⟩ | ⟨c82,h⟩
          ·have c82_ := c82
           refine .condT rfl c82_ ?_
           refine .seqR ?_
           refine .rr 2 ?_
           refine .tt [(113,.b v51),(114,.fn (.func 186) [.ptr 12 0 0])] [(12,some (.box [.ref 73 0 l50.length])),(73,R3 l50)] ?_
           replace h := bsome h;obtain ⟨r83,hr83,h⟩ := h
           refine .callL (d := 115) (p186 N 2 l50 r83 hr83) (by simp) rfl rfl (by simp <;> rfl) (by simp <;> rfl) ent186 (by simp <;> rfl) ?_
           refine .st (mk 164 [] [(113,.b v51),(114,.fn (.func 186) [.ptr 12 0 0]),(115,.b r83)] [(12,some (.box [.ref 73 0 l50.length])),(73,R3 l50)]) ?_
           replace h := bsome h;obtain ⟨r84,hr84,h⟩ := h
           refine .callL (d := 116) (p190 N 2 v51 r83 r84 hr84) (by simp) rfl rfl (by simp <;> rfl) (by simp <;> rfl) ent190 (by simp <;> rfl) ?_
           refine .rr 6 ?_
           refine .tt [(6,.i r84.1),(7,.b r84.2.1),(8,.i r84.2.2)] [] (.nil (.ret ?_))
           cases h
           refine blockQ.ret ?_
           refine thenQ_ps ?_
           exact FinC.rs
          ·have c82_ := Bool.eq_false_iff.2 c82
           refine .condF rfl c82_ ?_
           refine .seqR ?_
           refine .rr 2 ?_
           refine .tt [(12,.ptr 12 0 0),(13,.b v51),(20,.d (.lit (.func (.func 189) #[] #[]))),(81,.s a2.Name),(120,.b (decide (a2.Name = (ByteArray.mk #[105,115,32,110,117,108,108]))))] [(12,some (.box [.ref 73 0 l50.length])),(73,R3 l50)] (.nil ?_)
           replace h := isome h;rcases h with ⟨c85,h⟩ | ⟨c85,h⟩
           ·have c85_ := c85
            refine .condT rfl c85_ ?_
            refine .seqR ?_
            refine .rr 3 ?_
            refine .tt [(6,.i 2),(7,.b false),(8,.i 0)] [] (.nil (.ret ?_))
            cases h
            refine blockQ.ret ?_
            refine thenQ_ps ?_
            exact FinC.rs
           ·have c85_ := Bool.eq_false_iff.2 c85
            refine .condF rfl c85_ ?_
            refine .seqR ?_
            refine .rr 2 ?_
            refine .tt [(12,.ptr 12 0 0),(13,.b v51),(20,.d (.lit (.func (.func 189) #[] #[]))),(122,.b (decide (a2.Name = (ByteArray.mk #[105,102]))))] [(12,some (.box [.ref 73 0 l50.length])),(73,R3 l50)] (.nil ?_)
            replace h := isome h;rcases h with ⟨c86,h⟩ | ⟨c86,h⟩
            ·have c86_ := c86
             refine .condT rfl c86_ ?_
             replace h := bsome h;obtain ⟨⟨v96,v97,v98⟩,hj,h⟩ := h
             dsimp only at h
             refine .cutQ (by kernel_rfl) (by kernel_rfl) (mk 164 [] [(6,.i v96),(7,.b v97),(8,.i v98)] []) ?_ ?_
             ·clear h;have h := hj;clear hj
              replace h := bsome h;obtain ⟨x99,hx99,h⟩ := h
              obtain ⟨hx99,hx99b,hx99c⟩ := idx_someN (n := 1) hx99
              have hx99d : (1 : Int) < (l50.length : Int) := by omega
              replace h := bsome h;obtain ⟨x100,hx100,h⟩ := h
              obtain ⟨hx100,hx100b,hx100c⟩ := idx_someN (n := 2) hx100
              have hx100d : (2 : Int) < (l50.length : Int) := by omega
              replace h := lsome h;obtain ⟨v101,hv101,h⟩ := h
              unfold maxI at hv101
              try simp only [Int.ofNat_lt] at hv101
              replace h := bsome h;obtain ⟨x102,hx102,h⟩ := h
              obtain ⟨hx102,hx102b,hx102c⟩ := idx_someN (n := 0) hx102
              have hx102d : (0 : Int) < (l50.length : Int) := by omega
              refine .rq 12 fun K k => ?_;simp [hx99b,hx99c,hx99d,hx100b,hx100c,hx100d,hv101,hx102b,hx102c];refine k ?_
              refine .tt (L66 v101 v51 ++ [(132,.d (.lit (.func (.func 189) #[] #[]))),(135,.i x102)]) [(12,some (.box [.ref 73 0 l50.length])),(73,R3 l50)] ?_
              replace h := bsome h;obtain ⟨r103,hr103,h⟩ := h
              refine .callL (d := 136) (p189 N x102 2 r103 hr103) (by simp) rfl rfl (by simp <;> rfl) (by simp <;> rfl) ent189 (by simp <;> rfl) ?_
              refine .rq 1 fun K k => ?_;simp;refine k ?_
              replace h := isome h;rcases h with ⟨c104,h⟩ | ⟨c104,h⟩
              ·have c104_ := c104
               refine .sub (.bool 137 rfl c104_) ?_
               refine .rq 7 fun K k => ?_;simp [hx99b,hx99c,hx99d,hx100b,hx100c,hx100d];refine k ?_
               refine .tt [(130,.i v101),(131,.b v51),(137,.b true),(138,.d (.lit (.func (.func 189) #[] #[]))),(141,.i x99),(144,.i x100)] [] ?_
               replace h := bsome h;obtain ⟨r105,hr105,h⟩ := h
               refine .callL (d := 145) (p189 N x99 x100 r105 hr105) (by simp) rfl rfl (by simp <;> rfl) (by simp <;> rfl) ent189 (by simp <;> rfl) ?_
               refine .rq 1 fun K k => ?_;simp;refine k ?_
               refine .tt [(130,.i v101),(131,.b v51),(146,.b r105)] [] ?_
               replace h := bsome h;obtain ⟨r106,hr106,h⟩ := h
               refine .callL (d := 147) (p190 N v101 v51 r105 r106 hr106) (by simp) rfl rfl (by simp <;> rfl) (by simp <;> rfl) ent190 (by simp <;> rfl) ?_
               refine .rq 6 fun K k => ?_;simp;refine k ?_
               refine .tt [(6,.i r106.1),(7,.b r106.2.1),(8,.i r106.2.2)] [] ?_
               cases h
               exact .nil .tt
              ·have c104_ := Bool.eq_false_iff.2 c104
               refine .sub (.bool 137 rfl c104_) ?_
               refine .rq 9 fun K k => ?_;simp;refine k ?_
               refine .tt [(130,.i v101),(131,.b v51),(146,.b false)] [] ?_
               replace h := bsome h;obtain ⟨r107,hr107,h⟩ := h
               refine .callL (d := 147) (p190 N v101 v51 false r107 hr107) (by simp) rfl rfl (by simp <;> rfl) (by simp <;> rfl) ent190 (by simp <;> rfl) ?_
               refine .rq 6 fun K k => ?_;simp;refine k ?_
               refine .tt [(6,.i r107.1),(7,.b r107.2.1),(8,.i r107.2.2)] [] ?_
               cases h
               exact .nil .tt
             ·clear hj
              refine .ret ?_
              cases h
              refine blockQ.ret ?_
              refine thenQ_ps ?_
              exact FinC.rs
            ·have c86_ := Bool.eq_false_iff.2 c86
             refine .condF rfl c86_ ?_
             refine .skip (blockQ.normal (thenQ_normal ?_))
             refine .seqQ (by kernel_rfl) (by kernel_rfl) ?_
             replace h := bsome h;obtain ⟨x108,hx108,h⟩ := h
             obtain ⟨hx108,hx108b,hx108c⟩ := idx_someN (n := 0) hx108
             have hx108d : (0 : Int) < (l50.length : Int) := by omega
             replace h := bsome h;obtain ⟨x109,hx109,h⟩ := h
             obtain ⟨hx109,hx109b,hx109c⟩ := idx_someN (n := 1) hx109
             have hx109d : (1 : Int) < (l50.length : Int) := by omega
             refine .rq 8 fun K k => ?_;simp [hx108b,hx108c,hx109b,hx109c,hx109d];refine k ?_
             refine .tt (L67 v51 x108 x109) [] ?_
             replace h := bsome h;obtain ⟨r110,hr110,h⟩ := h
             refine .callL (d := 159) (p189 N x108 x109 r110 hr110) (by simp) rfl rfl (by simp <;> rfl) (by simp <;> rfl) ent189 (by simp <;> rfl) ?_
             refine .st (mk 164 [] (L67 v51 x108 x109 ++ [(159,.b r110)]) []) ?_
             replace h := bsome h;obtain ⟨r111,hr111,h⟩ := h
             refine .callL (d := 160) (p190 N 2 v51 r110 r111 hr111) (by simp) rfl rfl (by simp <;> rfl) (by simp <;> rfl) ent190 (by simp <;> rfl) ?_
             refine .rq 6 fun K k => ?_;simp;refine k ?_
             refine .tt [(6,.i r111.1),(7,.b r111.2.1),(8,.i r111.2.2)] [] (.nil (.ret ?_))
             cases h
             exact FinC.rs
theorem p148 (N : Nat) : ∀ (a0 : (List S53)) (a1 : (List S53)) (a2 : S76) (r : (Int × Bool × Int)) (_ : d148 N a0 a1 a2 = some r),FunC Tryz.prog 148 [.s53 a0,.s53 a1,.agg (k76 a2)] (.tup [.i r.1,.b r.2.1,.i r.2.2]) := (pg148_169 N).1
theorem p169 (N : Nat) : ∀ (a0 : (List S53)) (a1 : (List S53)) (a2 : S76) (r : (Int × Bool × Int)) (_ : d169 N a0 a1 a2 = some r),FunC Tryz.prog 169 [.s53 a0,.s53 a1,.agg (k76 a2)] (.tup [.i r.1,.b r.2.1,.i r.2.2]) := (pg148_169 N).2
end Go.Proofs.YtmgddgcniacnbaaGreatDoor
