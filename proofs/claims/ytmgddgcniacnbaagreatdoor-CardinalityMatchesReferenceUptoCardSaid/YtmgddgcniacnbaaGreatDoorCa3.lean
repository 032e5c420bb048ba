/- Functions of the program as functional programs; the code computes them. -/
import Derived.Test.YtmgddgcniacnbaaGreatDoorCa2
namespace Go.Proofs.YtmgddgcniacnbaaGreatDoor
set_option maxRecDepth 100000
set_option maxHeartbeats 4000000
open Go.Ab Go.Rp
attribute [-simp] List.all_eq_true Array.all_toList Array.all_eq_true
def d71 (N : Nat) (a0 : S58) (a1 : S58) : Option Int :=
 (d105 N a0.Kind a1.Kind).bind fun r1 =>
 if (r1 != 0) then (
  some r1
 ) else
 (d105 N a0.Int a1.Int).bind fun r3 =>
 if (r3 != 0) then (
  some r3
 ) else
 (d106 N a0.Text a1.Text).bind fun r5 =>
 some r5
theorem p71 (N : Nat) (a0 : S58) (a1 : S58) (r : Int) (h : d71 N a0 a1 = some r) : FunC Tryz.prog 71 [.agg (k58 a0),.agg (k58 a1)] (.i r) := by
 unfold d71 at h
 refine FunC.enter 28 [(0,.agg (k58 a0)),(1,.agg (k58 a1))] (by simp) Tryz.func71 rfl (of_decide_eq_true rfl) rfl rfl ?_
 refine .seqR ?_
 refine .rr 3 ?_
 refine .nil (.seq (.seqR ?_))
 refine .rr 4 ?_
 refine .tt [(2,.ptr 2 0 0),(3,.ptr 3 0 0),(8,.i a0.Kind),(10,.i a1.Kind)] (H29 a0 a1) ?_
 replace h := bsome h;obtain ⟨r1,hr1,h⟩ := h
 refine .callL (d := 11) (p105 N a0.Kind a1.Kind r1 hr1) (by simp) rfl rfl (by simp <;> rfl) (by simp <;> rfl) ent105 (by simp <;> rfl) ?_
 refine .rr 1 ?_
 refine .nil (.seqR ?_)
 refine .rr 2 ?_
 refine .nil ?_
 replace h := isome h;rcases h with ⟨c2,h⟩ | ⟨c2,h⟩
 ·refine .condT rfl c2 ?_
  refine .seqR ?_
  refine .rr 2 ?_
  refine .nil (.ret ?_)
  cases h
  refine thenQ_ps ?_
  exact FinC.rs
 refine .condF rfl (Bool.eq_false_iff.2 c2) ?_
 refine .skip (thenQ_normal (.seq (.seqR ?_)))
 refine .rr 4 ?_
 refine .tt [(2,.ptr 2 0 0),(3,.ptr 3 0 0),(16,.i a0.Int),(18,.i a1.Int)] (H29 a0 a1) ?_
 replace h := bsome h;obtain ⟨r3,hr3,h⟩ := h
 refine .callL (d := 19) (p105 N a0.Int a1.Int r3 hr3) (by simp) rfl rfl (by simp <;> rfl) (by simp <;> rfl) ent105 (by simp <;> rfl) ?_
 refine .rr 1 ?_
 refine .nil (.seqR ?_)
 refine .rr 2 ?_
 refine .nil ?_
 replace h := isome h;rcases h with ⟨c4,h⟩ | ⟨c4,h⟩
 ·refine .condT rfl c4 ?_
  refine .seqR ?_
  refine .rr 2 ?_
  refine .nil (.ret ?_)
  cases h
  refine thenQ_ps ?_
  exact FinC.rs
 refine .condF rfl (Bool.eq_false_iff.2 c4) ?_
 refine .skip (thenQ_normal (.seqR ?_))
 refine .rr 4 ?_
 refine .tt [(24,.s a0.Text),(26,.s a1.Text)] [] ?_
 replace h := bsome h;obtain ⟨r5,hr5,h⟩ := h
 refine .callL (d := 27) (p106 N a0.Text a1.Text r5 hr5) (by simp) rfl rfl (by simp <;> rfl) (by simp <;> rfl) ent106 (by simp <;> rfl) ?_
 refine .rr 1 ?_
 refine .nil (.ret ?_)
 cases h
 exact FinC.rs
def d44 (N : Nat) (a0 : S58) (a1 : ByteArray) (a2 : S58) : Option (Bool × Int) :=
 Option.bind (α := Bool) (
  if (!decide (a1 = (ByteArray.mk #[61]))) = true then (
   if (!decide (a1 = (ByteArray.mk #[60]))) = true then (
    some (!decide (a1 = (ByteArray.mk #[60,61])))
   ) else
   some false
  ) else
  some false
 ) fun (v3 : Bool) =>
 if v3 = true then (
  some (false,3)
 ) else
 Option.bind (α := Bool) (
  if (a0.Kind == 0) then (
   some true
  ) else
  some (a2.Kind == 0)
 ) fun (v8 : Bool) =>
 if v8 = true then (
  some (true,0)
 ) else
 (d71 N a0 a2).bind fun r11 =>
 Option.bind (α := Bool) (
  if (r11 == 0) then (
   if (!decide (a1 = (ByteArray.mk #[60]))) = true then (
    some true
   ) else
   if r11 < 0 then (
    some (!decide (a1 = (ByteArray.mk #[61])))
   ) else
   some false
  ) else
  if r11 < 0 then (
   some (!decide (a1 = (ByteArray.mk #[61])))
  ) else
  some false
 ) fun (v16 : Bool) =>
 some (v16,0)
theorem p44 (N : Nat) (a0 : S58) (a1 : ByteArray) (a2 : S58) (r : (Bool × Int)) (h : d44 N a0 a1 a2 = some r) : FunC Tryz.prog 44 [.agg (k58 a0),.s a1,.agg (k58 a2)] (.tup [.b r.1,.i r.2]) := by
 unfold d44 at h
 refine FunC.enter 44 [(0,.agg (k58 a0)),(1,.s a1),(2,.agg (k58 a2))] (by simp) Tryz.func44 rfl (of_decide_eq_true rfl) rfl rfl ?_
 refine .seqR ?_
 refine .rr 4 ?_
 refine .tt (L20 a1) (H15 a0 a2) (.nil (.seq ?_))
 replace h := bsome h;obtain ⟨v3,hj,h⟩ := h
 refine .cutR (mk 44 [] (L20 a1 ++ [(18,.b v3)]) (H15 a0 a2)) ?_ ?_
 ·clear h;have h := hj;clear hj
  refine .rr 3 ?_
  replace h := isome h;rcases h with ⟨c4,h⟩ | ⟨c4,h⟩
  ·refine .sub (.bool 11 rfl c4) ?_
   refine .rr 4 ?_
   replace h := isome h;rcases h with ⟨c5,h⟩ | ⟨c5,h⟩
   ·refine .sub (.bool 15 rfl c5) ?_
    refine .rr 3 ?_
    cases h
    exact .nil .tt
   refine .sub (.bool 15 rfl (Bool.eq_false_iff.2 c5)) ?_
   refine .rr 3 ?_
   cases h
   exact .nil .tt
  refine .sub (.bool 11 rfl (Bool.eq_false_iff.2 c4)) ?_
  refine .rr 7 ?_
  cases h
  exact .nil .tt
 clear hj
 replace h := isome h;rcases h with ⟨c6,h⟩ | ⟨c6,h⟩
 ·refine .condT rfl c6 ?_
  refine .seqR ?_
  refine .rr 2 ?_
  refine .nil (.ret ?_)
  cases h
  refine thenQ_ps ?_
  exact FinC.rs
 refine .condF rfl (Bool.eq_false_iff.2 c6) ?_
 refine .skip (thenQ_normal (.seq ?_))
 replace h := bsome h;obtain ⟨v8,hj,h⟩ := h
 refine .cutR (mk 44 [] (L20 a1 ++ [(26,.b v8)]) (H15 a0 a2)) ?_ ?_
 ·clear h;have h := hj;clear hj
  refine .rr 4 ?_
  replace h := isome h;rcases h with ⟨c9,h⟩ | ⟨c9,h⟩
  ·refine .sub (.bool 22 rfl c9) ?_
   refine .rr 4 ?_
   cases h
   exact .nil .tt
  refine .sub (.bool 22 rfl (Bool.eq_false_iff.2 c9)) ?_
  refine .rr 4 ?_
  cases h
  exact .nil .tt
 clear hj
 replace h := isome h;rcases h with ⟨c10,h⟩ | ⟨c10,h⟩
 ·refine .condT rfl c10 ?_
  refine .seqR ?_
  refine .rr 2 ?_
  refine .nil (.ret ?_)
  cases h
  refine thenQ_ps ?_
  exact FinC.rs
 refine .condF rfl (Bool.eq_false_iff.2 c10) ?_
 refine .skip (thenQ_normal (.seqR ?_))
 refine .rr 2 ?_
 refine .tt [(1,.s a1),(27,.agg (k58 a0)),(28,.agg (k58 a2))] [] ?_
 replace h := bsome h;obtain ⟨r11,hr11,h⟩ := h
 refine .callL (d := 29) (p71 N a0 a2 r11 hr11) (by simp) rfl rfl (by simp <;> rfl) (by simp <;> rfl) ent71 (by simp <;> rfl) ?_
 refine .rr 1 ?_
 refine .tt [(1,.s a1),(8,.i r11)] [] (.nil ?_)
 replace h := bsome h;obtain ⟨v16,hj,h⟩ := h
 refine .cutR (mk 44 [] [(6,.b v16),(7,.i 0)] []) ?_ ?_
 ·clear h;have h := hj;clear hj
  refine .rr 3 ?_
  replace h := isome h;rcases h with ⟨c17,h⟩ | ⟨c17,h⟩
  ·refine .sub (.bool 32 rfl c17) ?_
   refine .rr 4 ?_
   replace h := isome h;rcases h with ⟨c18,h⟩ | ⟨c18,h⟩
   ·refine .sub (.bool 36 rfl c18) ?_
    refine .rr 9 ?_
    cases h
    exact .nil .tt
   refine .sub (.bool 36 rfl (Bool.eq_false_iff.2 c18)) ?_
   refine .rr 3 ?_
   replace h := isome h;rcases h with ⟨c19,h⟩ | ⟨c19,h⟩
   ·refine .sub (.bool 39 rfl (decide_eq_true c19)) ?_
    refine .rr 6 ?_
    cases h
    exact .nil .tt
   refine .sub (.bool 39 rfl (decide_eq_false c19)) ?_
   refine .rr 6 ?_
   cases h
   exact .nil .tt
  refine .sub (.bool 32 rfl (Bool.eq_false_iff.2 c17)) ?_
  refine .rr 7 ?_
  replace h := isome h;rcases h with ⟨c20,h⟩ | ⟨c20,h⟩
  ·refine .sub (.bool 39 rfl (decide_eq_true c20)) ?_
   refine .rr 6 ?_
   cases h
   exact .nil .tt
  refine .sub (.bool 39 rfl (decide_eq_false c20)) ?_
  refine .rr 6 ?_
  cases h
  exact .nil .tt
 clear hj
 refine .ret ?_
 cases h
 exact FinC.rs
def d45 (_N : Nat) (a0 : S58) : Option Int :=
 if (a0.Kind == 0) then (
  Option.bind (α := Bool) (
   if (a0.Int != 0) then (
    some true
   ) else
   some (!decide (a0.Text = (ByteArray.mk #[])))
  ) fun (v3 : Bool) =>
  if v3 = true then (
   some 3
  ) else
  some 0
 ) else
 Option.bind (α := Bool) (
  if (a0.Kind == 1) then (
   some true
  ) else
  some (a0.Kind == 2)
 ) fun (v7 : Bool) =>
 if v7 = true then (
  if (!decide (a0.Text = (ByteArray.mk #[]))) = true then (
   some 3
  ) else
  Option.bind (α := Bool) (
   if (a0.Kind == 2) then (
    if (a0.Int != 0) then (
     if (a0.Int != 1) then (
      some true
     ) else
     if a0.Int < (-1000000000000) then (
      some true
     ) else
     some (decide (a0.Int > 1000000000000))
    ) else
    if a0.Int < (-1000000000000) then (
     some true
    ) else
    some (decide (a0.Int > 1000000000000))
   ) else
   if a0.Int < (-1000000000000) then (
    some true
   ) else
   some (decide (a0.Int > 1000000000000))
  ) fun (v17 : Bool) =>
  if v17 = true then (
   some 1
  ) else
  some 0
 ) else
 if (a0.Kind == 3) then (
  if (a0.Int != 0) then (
   some 3
  ) else
  if (a0.Text.size : Int) > 24 then (
   some 2
  ) else
  some 0
 ) else
 some 7
theorem p45 (N : Nat) (a0 : S58) (r : Int) (h : d45 N a0 = some r) : FunC Tryz.prog 45 [.agg (k58 a0)] (.i r) := by
 unfold d45 at h
 refine FunC.enter 53 [(0,.agg (k58 a0))] (by simp) Tryz.func45 rfl (of_decide_eq_true rfl) rfl rfl ?_
 refine .seqR ?_
 refine .rr 2 ?_
 refine .nil (.seq (.seqR ?_))
 refine .rr 2 ?_
 refine .nil (.block (.seqR ?_))
 refine .rr 2 ?_
 refine .nil ?_
 replace h := isome h;rcases h with ⟨c1,h⟩ | ⟨c1,h⟩
 ·refine .condT rfl c1 ?_
  replace h := bsome h;obtain ⟨v3,hj,h⟩ := h
  refine .cutR (mk 53 [] [(14,.b v3)] []) ?_ ?_
  ·clear h;have h := hj;clear hj
   refine .rr 4 ?_
   replace h := isome h;rcases h with ⟨c4,h⟩ | ⟨c4,h⟩
   ·refine .sub (.bool 10 rfl c4) ?_
    refine .rr 4 ?_
    cases h
    exact .nil .tt
   refine .sub (.bool 10 rfl (Bool.eq_false_iff.2 c4)) ?_
   refine .rr 4 ?_
   cases h
   exact .nil .tt
  clear hj
  replace h := isome h;rcases h with ⟨c5,h⟩ | ⟨c5,h⟩
  ·refine .condT rfl c5 ?_
   refine .seqR ?_
   refine .rr 1 ?_
   refine .nil (.ret ?_)
   cases h
   refine blockQ.ret ?_
   refine thenQ_ps ?_
   exact FinC.rs
  refine .condF rfl (Bool.eq_false_iff.2 c5) ?_
  refine .skip (blockQ.normal (thenQ_normal (.seqR ?_)))
  refine .rr 1 ?_
  refine .nil (.ret ?_)
  cases h
  exact FinC.rs
 refine .condF rfl (Bool.eq_false_iff.2 c1) ?_
 refine .seq (.seqR ?_)
 refine .rr 2 ?_
 refine .tt [(1,.ptr 1 0 0),(4,.i a0.Kind),(15,.b (a0.Kind == 1))] (H3 a0) (.nil ?_)
 refine .lastN (fun (v7 : Bool) => mk 53 [] [(1,.ptr 1 0 0),(4,.i a0.Kind),(15,.b v7)] (H3 a0)) h ?_ ?_ <;> clear h
 ·intro o h
  replace h := isome h;rcases h with ⟨c8,h⟩ | ⟨c8,h⟩
  ·have c8_ := c8
   refine .condT rfl c8_ ?_
   refine .sub (.bool 15 rfl c8_) ?_
   refine .st (mk 53 [] [(1,.ptr 1 0 0),(4,.i a0.Kind),(15,.b true)] (H3 a0)) (.skip ?_)
   cases h
   refine PostN.next ?_
   exact Sub.tt
  have c8_ := Bool.eq_false_iff.2 c8
  refine .condF rfl c8_ ?_
  refine .sub (.bool 15 rfl c8_) ?_
  refine .region ?_
  refine .rr 2 ?_
  refine .nil ?_
  cases h
  refine PostN.next ?_
  exact Sub.tt
 rintro v7 h
 refine thenQ_normal ?_
 replace h := isome h;rcases h with ⟨c9,h⟩ | ⟨c9,h⟩
 ·refine .condT rfl c9 ?_
  refine .seq (.seqR ?_)
  refine .rr 3 ?_
  refine .nil ?_
  replace h := isome h;rcases h with ⟨c10,h⟩ | ⟨c10,h⟩
  ·refine .condT rfl c10 ?_
   refine .seqR ?_
   refine .rr 1 ?_
   refine .nil (.ret ?_)
   cases h
   refine thenQ_ps ?_
   refine blockQ.ret ?_
   refine thenQ_ps ?_
   exact FinC.rs
  refine .condF rfl (Bool.eq_false_iff.2 c10) ?_
  refine .skip (thenQ_normal ?_)
  replace h := bsome h;obtain ⟨v17,hj,h⟩ := h
  refine .cutR (mk 53 [] [(43,.b v17)] []) ?_ ?_
  ·clear h;have h := hj;clear hj
   refine .rr 4 ?_
   replace h := isome h;rcases h with ⟨c18,h⟩ | ⟨c18,h⟩
   ·refine .sub (.bool 24 rfl c18) ?_
    refine .rr 5 ?_
    replace h := isome h;rcases h with ⟨c19,h⟩ | ⟨c19,h⟩
    ·refine .sub (.bool 29 rfl c19) ?_
     refine .rr 5 ?_
     replace h := isome h;rcases h with ⟨c20,h⟩ | ⟨c20,h⟩
     ·refine .sub (.bool 34 rfl c20) ?_
      refine .rr 9 ?_
      cases h
      exact .nil .tt
     refine .sub (.bool 34 rfl (Bool.eq_false_iff.2 c20)) ?_
     refine .rr 5 ?_
     replace h := isome h;rcases h with ⟨c21,h⟩ | ⟨c21,h⟩
     ·refine .sub (.bool 39 rfl (decide_eq_true c21)) ?_
      refine .rr 4 ?_
      cases h
      exact .nil .tt
     refine .sub (.bool 39 rfl (decide_eq_false c21)) ?_
     refine .rr 4 ?_
     cases h
     exact .nil .tt
    refine .sub (.bool 29 rfl (Bool.eq_false_iff.2 c19)) ?_
    refine .rr 10 ?_
    replace h := isome h;rcases h with ⟨c22,h⟩ | ⟨c22,h⟩
    ·refine .sub (.bool 39 rfl (decide_eq_true c22)) ?_
     refine .rr 4 ?_
     cases h
     exact .nil .tt
    refine .sub (.bool 39 rfl (decide_eq_false c22)) ?_
    refine .rr 4 ?_
    cases h
    exact .nil .tt
   refine .sub (.bool 24 rfl (Bool.eq_false_iff.2 c18)) ?_
   refine .rr 15 ?_
   replace h := isome h;rcases h with ⟨c23,h⟩ | ⟨c23,h⟩
   ·refine .sub (.bool 39 rfl (decide_eq_true c23)) ?_
    refine .rr 4 ?_
    cases h
    exact .nil .tt
   refine .sub (.bool 39 rfl (decide_eq_false c23)) ?_
   refine .rr 4 ?_
   cases h
   exact .nil .tt
  clear hj
  replace h := isome h;rcases h with ⟨c24,h⟩ | ⟨c24,h⟩
  ·refine .condT rfl c24 ?_
   refine .seqR ?_
   refine .rr 1 ?_
   refine .nil (.ret ?_)
   cases h
   refine blockQ.ret ?_
   refine thenQ_ps ?_
   exact FinC.rs
  refine .condF rfl (Bool.eq_false_iff.2 c24) ?_
  refine .skip (blockQ.normal (thenQ_normal (.seqR ?_)))
  refine .rr 1 ?_
  refine .nil (.ret ?_)
  cases h
  exact FinC.rs
 refine .condF rfl (Bool.eq_false_iff.2 c9) ?_
 refine .seqR ?_
 refine .rr 2 ?_
 refine .nil ?_
 replace h := isome h;rcases h with ⟨c25,h⟩ | ⟨c25,h⟩
 ·refine .condT rfl c25 ?_
  refine .seq (.seqR ?_)
  refine .rr 3 ?_
  refine .nil ?_
  replace h := isome h;rcases h with ⟨c26,h⟩ | ⟨c26,h⟩
  ·refine .condT rfl c26 ?_
   refine .seqR ?_
   refine .rr 1 ?_
   refine .nil (.ret ?_)
   cases h
   refine thenQ_ps ?_
   refine blockQ.ret ?_
   refine thenQ_ps ?_
   exact FinC.rs
  refine .condF rfl (Bool.eq_false_iff.2 c26) ?_
  refine .skip (thenQ_normal (.seqR ?_))
  refine .rr 4 ?_
  refine .nil ?_
  replace h := isome h;rcases h with ⟨c27,h⟩ | ⟨c27,h⟩
  ·refine .condT rfl (decide_eq_true c27) ?_
   refine .seqR ?_
   refine .rr 1 ?_
   refine .nil (.ret ?_)
   cases h
   refine blockQ.ret ?_
   refine thenQ_ps ?_
   exact FinC.rs
  refine .condF rfl (decide_eq_false c27) ?_
  refine .skip (blockQ.normal (thenQ_normal (.seqR ?_)))
  refine .rr 1 ?_
  refine .nil (.ret ?_)
  cases h
  exact FinC.rs
 refine .condF rfl (Bool.eq_false_iff.2 c25) ?_
 refine .seqR ?_
 refine .rr 1 ?_
 refine .nil (.ret ?_)
 cases h
 refine blockQ.ret ?_
 refine thenQ_ps ?_
 exact FinC.rs
def d24 (N : Nat) (a0 : S26) (a1 : S88) : Option Int :=
 (d41 N a0 a1.Table).bind fun r1 =>
 if (!r1.2) = true then (
  some 4
 ) else
 (idx a0.Tables r1.1).bind fun x3 =>
 (d44 N (S58.mk 0 0 (ByteArray.mk #[])) a1.Op (S58.mk 0 0 (ByteArray.mk #[]))).bind fun r5 =>
 Option.bind (α := Bool) (
  if a1.Left < 0 then (
   some true
  ) else
  if a1.Left ≥ (x3.Columns.length : Int) then (
   some true
  ) else
  if (r5.2 != 0) then (
   some true
  ) else
  if a1.Right < (-1) then (
   some true
  ) else
  if a1.Right ≥ (x3.Columns.length : Int) then (
   some true
  ) else
  if a1.Right ≥ 0 then (
   some (!beqS58 a1.Value (S58.mk 0 0 (ByteArray.mk #[])))
  ) else
  some false
 ) fun (v12 : Bool) =>
 if v12 = true then (
  some 3
 ) else
 if a1.Right ≥ 0 then (
  (idx x3.Columns a1.Left).bind fun x21 =>
  (idx x3.Columns a1.Right).bind fun x23 =>
  if (x21.Kind != x23.Kind) then (
   some 7
  ) else
  some 0
 ) else
 (idx x3.Columns a1.Left).bind fun x26 =>
 if (a1.Value.Kind != x26.Kind) then (
  some 7
 ) else
 (d45 N a1.Value).bind fun r29 =>
 some r29
theorem p24 (N : Nat) (a0 : S26) (a1 : S88) (r : Int) (h : d24 N a0 a1 = some r) : FunC Tryz.prog 24 [.agg (k26 a0),.agg (k88 a1)] (.i r) := by
 unfold d24 at h
 refine FunC.enter 99 [(0,.agg (k26 a0)),(1,.agg (k88 a1))] (by simp) Tryz.func24 rfl (of_decide_eq_true rfl) rfl rfl ?_
 refine .seqR ?_
 refine .rr 3 ?_
 refine .nil (.seqR ?_)
 refine .rr 3 ?_
 refine .tt [(2,.ptr 2 0 0),(3,.ptr 3 0 0),(11,.agg (k26 a0)),(13,.s a1.Table)] (H43 a0 a1) ?_
 replace h := bsome h;obtain ⟨r1,hr1,h⟩ := h
 refine .callL (d := 14) (p41 N a0 a1.Table r1 hr1) (by simp) rfl rfl (by simp <;> rfl) (by simp <;> rfl) ent41 (by simp <;> rfl) ?_
 refine .rr 5 ?_
 refine .nil (.seq (.seqR ?_))
 refine .rr 2 ?_
 refine .nil ?_
 replace h := isome h;rcases h with ⟨c2,h⟩ | ⟨c2,h⟩
 ·refine .condT rfl c2 ?_
  refine .seqR ?_
  refine .rr 1 ?_
  refine .nil (.ret ?_)
  cases h
  refine thenQ_ps ?_
  exact FinC.rs
 refine .condF rfl (Bool.eq_false_iff.2 c2) ?_
 refine .skip (thenQ_normal (.seqR ?_))
 replace h := xsome h;obtain ⟨x3,k4,hx3k,hx3,hx3a,hx3b,h⟩ := h
 refine .rk 7 fun K k => ?_;simp [hx3,hx3k,hx3a];refine k ?_
 refine .nil (.seqR ?_)
 refine .rr 4 ?_
 refine .tt (L21 x3.Columns ++ [(26,.agg [.i 0,.i 0,.s (ByteArray.mk #[])]),(28,.s a1.Op),(29,.agg [.i 0,.i 0,.s (ByteArray.mk #[])])]) (H5 a1) ?_
 replace h := bsome h;obtain ⟨r5,hr5,h⟩ := h
 refine .callL (d := 30) (p44 N (S58.mk 0 0 (ByteArray.mk #[])) a1.Op (S58.mk 0 0 (ByteArray.mk #[])) r5 hr5) (by simp) rfl rfl (by simp <;> rfl) (by simp <;> rfl) ent44 (by simp <;> rfl) ?_
 refine .rr 5 ?_
 refine .tt (L22 x3.Columns r5.2) (H5 a1) (.nil (.seq ?_))
 replace h := bsome h;obtain ⟨v12,hj,h⟩ := h
 refine .cutR (mk 99 [] (L21 x3.Columns ++ [(69,.b v12)]) (H5 a1)) ?_ ?_
 ·clear h;have h := hj;clear hj
  refine .rr 4 ?_
  replace h := isome h;rcases h with ⟨c13,h⟩ | ⟨c13,h⟩
  ·refine .sub (.bool 36 rfl (decide_eq_true c13)) ?_
   refine .rr 33 ?_
   cases h
   exact .nil .tt
  refine .sub (.bool 36 rfl (decide_eq_false c13)) ?_
  refine .rr 7 ?_
  replace h := isome h;rcases h with ⟨c14,h⟩ | ⟨c14,h⟩
  ·refine .sub (.bool 43 rfl (decide_eq_true c14)) ?_
   refine .rr 26 ?_
   cases h
   exact .nil .tt
  refine .sub (.bool 43 rfl (decide_eq_false c14)) ?_
  refine .rr 4 ?_
  replace h := isome h;rcases h with ⟨c15,h⟩ | ⟨c15,h⟩
  ·refine .sub (.bool 47 rfl c15) ?_
   refine .rr 22 ?_
   cases h
   exact .nil .tt
  refine .sub (.bool 47 rfl (Bool.eq_false_iff.2 c15)) ?_
  refine .rr 5 ?_
  replace h := isome h;rcases h with ⟨c16,h⟩ | ⟨c16,h⟩
  ·refine .sub (.bool 52 rfl (decide_eq_true c16)) ?_
   refine .rr 17 ?_
   cases h
   exact .nil .tt
  refine .sub (.bool 52 rfl (decide_eq_false c16)) ?_
  refine .rr 7 ?_
  replace h := isome h;rcases h with ⟨c17,h⟩ | ⟨c17,h⟩
  ·refine .sub (.bool 59 rfl (decide_eq_true c17)) ?_
   refine .rr 10 ?_
   cases h
   exact .nil .tt
  refine .sub (.bool 59 rfl (decide_eq_false c17)) ?_
  refine .rr 4 ?_
  replace h := isome h;rcases h with ⟨c18,h⟩ | ⟨c18,h⟩
  ·refine .sub (.bool 63 rfl (decide_eq_true c18)) ?_
   refine .rr 3 ?_
   refine .tt (L24 x3.Columns ++ [(65,.agg (k58 a1.Value)),(66,.agg [.i 0,.i 0,.s (ByteArray.mk #[])])]) (H5 a1) ?_
   refine .pureP (by simp) (pure_eqA true rfl rfl rfl rfl (by kernel_rfl) (eqv58 a1.Value (S58.mk 0 0 (ByteArray.mk #[])))) ?_
   refine .rr 2 ?_
   cases h
   exact .nil .tt
  refine .sub (.bool 63 rfl (decide_eq_false c18)) ?_
  refine .rr 6 ?_
  cases h
  exact .nil .tt
 clear hj
 replace h := isome h;rcases h with ⟨c19,h⟩ | ⟨c19,h⟩
 ·refine .condT rfl c19 ?_
  refine .seqR ?_
  refine .rr 1 ?_
  refine .nil (.ret ?_)
  cases h
  refine thenQ_ps ?_
  exact FinC.rs
 refine .condF rfl (Bool.eq_false_iff.2 c19) ?_
 refine .skip (thenQ_normal (.seq (.seqR ?_)))
 refine .rr 3 ?_
 refine .nil ?_
 replace h := isome h;rcases h with ⟨c20,h⟩ | ⟨c20,h⟩
 ·refine .condT rfl (decide_eq_true c20) ?_
  refine .seq ?_
  refine .seqQ (by kernel_rfl) (by kernel_rfl) ?_
  replace h := xsome h;obtain ⟨x21,k22,hx21k,hx21,hx21a,hx21b,h⟩ := h
  replace h := xsome h;obtain ⟨x23,k24,hx23k,hx23,hx23a,hx23b,h⟩ := h
  refine .rq 13 fun K k => ?_;simp [hx21,hx21k,hx21a,hx23,hx23k,hx23a];refine k ?_
  refine .nil ?_
  replace h := isome h;rcases h with ⟨c25,h⟩ | ⟨c25,h⟩
  ·refine .condT rfl c25 ?_
   refine .seqR ?_
   refine .rr 1 ?_
   refine .nil (.ret ?_)
   cases h
   refine thenQ_ps ?_
   refine thenQ_ps ?_
   exact FinC.rs
  refine .condF rfl (Bool.eq_false_iff.2 c25) ?_
  refine .skip (thenQ_normal (.seqR ?_))
  refine .rr 1 ?_
  refine .nil (.ret ?_)
  cases h
  refine thenQ_ps ?_
  exact FinC.rs
 refine .condF rfl (decide_eq_false c20) ?_
 refine .skip (thenQ_normal (.seq ?_))
 refine .seqQ (by kernel_rfl) (by kernel_rfl) ?_
 replace h := xsome h;obtain ⟨x26,k27,hx26k,hx26,hx26a,hx26b,h⟩ := h
 refine .rq 10 fun K k => ?_;simp [hx26,hx26k,hx26a];refine k ?_
 refine .nil ?_
 replace h := isome h;rcases h with ⟨c28,h⟩ | ⟨c28,h⟩
 ·refine .condT rfl c28 ?_
  refine .seqR ?_
  refine .rr 1 ?_
  refine .nil (.ret ?_)
  cases h
  refine thenQ_ps ?_
  exact FinC.rs
 refine .condF rfl (Bool.eq_false_iff.2 c28) ?_
 refine .skip (thenQ_normal (.seqR ?_))
 refine .rr 2 ?_
 refine .tt [(97,.agg (k58 a1.Value))] [] ?_
 replace h := bsome h;obtain ⟨r29,hr29,h⟩ := h
 refine .callL (d := 98) (p45 N a1.Value r29 hr29) (by simp) rfl rfl (by simp <;> rfl) (by simp <;> rfl) ent45 (by simp <;> rfl) ?_
 refine .rr 1 ?_
 refine .nil (.ret ?_)
 cases h
 exact FinC.rs
def d46 (N : Nat) (a0 : (List S88)) (a1 : S88) : Option Int :=
 bindO (β := Unit) (ρ := Int) (
  iterN (σ := Int) (ρ := (Out Unit Int)) (fun (v5 : Int) =>
   if v5 < (a0.length : Int) then (
    (idx a0 v5).bind fun x18 =>
    if (beqS88 a1 x18) = true then (
     some (.inr (.ret v5))
    ) else
    (chkI (v5 + 1)).bind fun v21 =>
    some (.inl v21)
   ) else
   some (.inr (.go ()))
  ) N 0
 ) fun (_ : Unit) =>
 some (-1)
theorem p46 (N : Nat) (a0 : (List S88)) (a1 : S88) (r : Int) (h : d46 N a0 a1 = some r) : FunC Tryz.prog 46 [.s88 a0,.agg (k88 a1)] (.i r) := by
 unfold d46 at h
 refine FunC.enter 19 [(0,.s88 a0),(1,.agg (k88 a1))] (by simp) Tryz.func46 rfl (of_decide_eq_true rfl) rfl rfl ?_
 refine .seqR ?_
 refine .rr 2 ?_
 refine .nil (.seq (.seqR ?_))
 refine .rr 3 ?_
 refine .tt [(0,.s88 a0),(3,.ptr 3 0 0),(7,.i (a0.length : Int)),(8,.i 0)] (H5 a1) (.nil ?_)
 refine .lastJ (fun (_ : Unit) => mk 19 [] [] []) h ?_ ?_ <;> clear h
 ·intro o h
  refine .block ?_
  refine .iter (fun (v5 : Int) => mk 19 [] (L25 a0 a0.length v5) (H5 a1)) h Sub.tt ?_
  clear h
  rintro v5 x h
  refine .seqR ?_
  refine .rr 1 ?_
  refine .nil (.seq ?_)
  replace h := isome h;rcases h with ⟨c17,h⟩ | ⟨c17,h⟩
  ·refine .condT rfl (decide_eq_true c17) ?_
   refine .skip (thenQ_normal (.seq (.block (.seqR ?_))))
   refine .rr 2 ?_
   refine .tt (L26 a0 v5 a0.length) (H5 a1) (.nil ?_)
   refine .seqQ (by kernel_rfl) (by kernel_rfl) ?_
   replace h := xsome h;obtain ⟨x18,k19,hx18k,hx18,hx18a,hx18b,h⟩ := h
   refine .rq 5 fun K k => ?_;simp [hx18,hx18k,hx18a];refine k ?_
   refine .tt (L26 a0 v5 a0.length ++ [(11,.agg (k88 a1)),(15,.agg (k88 x18))]) (H5 a1) ?_
   refine .pureP (by simp) (pure_eqA false rfl rfl rfl rfl (by kernel_rfl) (eqv88 a1 x18)) ?_
   refine .st (mk 19 [] (L26 a0 v5 a0.length ++ [(11,.agg (k88 a1)),(15,.agg (k88 x18)),(16,.b (beqS88 a1 x18))]) (H5 a1)) (.nil ?_)
   replace h := isome h;rcases h with ⟨c20,h⟩ | ⟨c20,h⟩
   ·refine .condT rfl c20 ?_
    refine .seqR ?_
    refine .rr 2 ?_
    refine .nil (.ret ?_)
    cases h
    refine blockQ.ret ?_
    refine thenQ_ps ?_
    refine PostI.os ?_
    rintro rfl
    refine blockQ.ret ?_
    refine PostJ.out (by simp) ?_
    rintro rfl
    refine thenQ_ps ?_
    exact FinC.rs
   refine .condF rfl (Bool.eq_false_iff.2 c20) ?_
   refine .skip (blockQ.normal (thenQ_normal (.region ?_)))
   replace h := csome h;obtain ⟨v21,hv21,h⟩ := h
   refine .rk 2 fun K k => ?_;simp [hv21];refine k ?_
   refine .nil ?_
   cases h
   refine PostI.next ?_
   exact Sub.tt
  refine .condF rfl (decide_eq_false c17) ?_
  refine .exit ?_
  cases h
  refine thenQ_ps ?_
  refine PostI.os ?_
  rintro rfl
  refine blockQ.hit (PostJ.next ?_)
  exact Sub.tt
 rintro ⟨⟩ h
 refine thenQ_normal (.seqR ?_)
 refine .rr 1 ?_
 refine .nil (.ret ?_)
 cases h
 exact FinC.rs
def d25 (N : Nat) (a0 : (List S88)) (a1 : S88) : Option Bool :=
 (d46 N a0 a1).bind fun r1 =>
 some (decide (r1 ≥ 0))
theorem p25 (N : Nat) (a0 : (List S88)) (a1 : S88) (r : Bool) (h : d25 N a0 a1 = some r) : FunC Tryz.prog 25 [.s88 a0,.agg (k88 a1)] (.b r) := by
 unfold d25 at h
 refine FunC.enter 9 [(0,.s88 a0),(1,.agg (k88 a1))] (by simp) Tryz.func25 rfl (of_decide_eq_true rfl) rfl rfl ?_
 refine .seqR ?_
 refine .rr 2 ?_
 refine .nil (.seqR ?_)
 refine .rr 2 ?_
 refine .tt [(5,.s88 a0),(6,.agg (k88 a1))] [] ?_
 replace h := bsome h;obtain ⟨r1,hr1,h⟩ := h
 refine .callL (d := 7) (p46 N a0 a1 r1 hr1) (by simp) rfl rfl (by simp <;> rfl) (by simp <;> rfl) ent46 (by simp <;> rfl) ?_
 refine .rr 2 ?_
 refine .nil (.ret ?_)
 cases h
 exact FinC.rs
end Go.Proofs.YtmgddgcniacnbaaGreatDoor
