/- Functions of the program as functional programs; the code computes them. -/
import Derived.Test.YtimkkjiplioohaaGreatDoorRa15
namespace Go.Proofs.YtimkkjiplioohaaGreatDoor
open Go.Ab Go.Rp
attribute [-simp] List.all_eq_true Array.all_toList Array.all_eq_true
def d28 (N : Nat) (a0 : (List (List S61))) (a1 : (List (List S61))) : Option Bool :=
 if ((a0.length : Int) != (a1.length : Int)) then (
  some false
 ) else
 bindO (β := Unit) (ρ := Bool) (
  iterN (σ := Int) (ρ := (Out Unit Bool)) (fun (v8 : Int) =>
   if v8 < (a0.length : Int) then (
    (idx a0 v8).bind fun x25 =>
    (idx a1 v8).bind fun x27 =>
    (d34 N x25 x27).bind fun r28 =>
    if (!r28) = true then (
     some (.inr (.ret false))
    ) else
    (chkI (v8 + 1)).bind fun v30 =>
    some (.inl v30)
   ) else
   some (.inr (.go ()))
  ) N 0
 ) fun (_ : Unit) =>
 some true
set_option maxRecDepth 100000 in
set_option maxHeartbeats 4000000 in
theorem p28 (N : Nat) (a0 : (List (List S61))) (a1 : (List (List S61))) (r : Bool) (h : d28 N a0 a1 = some r) : FunC Tryz.prog 28 [.ls61 a0,.ls61 a1] (.b r) := by
 unfold d28 at h
 refine FunC.enter 27 [(0,.ls61 a0),(1,.ls61 a1)] (by simp) Tryz.func28 rfl (of_decide_eq_true rfl) rfl rfl ?_
 refine .seqR ?_
 refine .rr 1 ?_
 refine .tt [(0,.ls61 a0),(1,.ls61 a1)] [] (.nil (.seq (.seqR ?_)))
 refine .rr 5 ?_
 refine .tt [(0,.ls61 a0),(1,.ls61 a1),(10,.b ((a0.length : Int) != (a1.length : Int)))] [] (.nil ?_)
 replace h := isome h;rcases h with ⟨c1,h⟩ | ⟨c1,h⟩
 ·have c1_ : ((a0.length : Int) != (a1.length : Int)) = true := c1
  refine .condT rfl c1_ ?_
  refine .seqR ?_
  refine .rr 1 ?_
  refine .tt [(4,.b false)] [] (.nil (.ret ?_))
  cases h
  refine thenQ_ps ?_
  exact FinC.rs
 have c1_ : ((a0.length : Int) != (a1.length : Int)) = false := Bool.eq_false_iff.2 c1
 refine .condF rfl c1_ ?_
 refine .skip (thenQ_normal (.seq (.seqR ?_)))
 refine .rr 3 ?_
 refine .tt [(0,.ls61 a0),(1,.ls61 a1),(12,.i (a0.length : Int)),(13,.i 0)] [] (.nil ?_)
 refine .lastJ (fun (_ : Unit) => mk 27 [] [] []) h ?_ ?_ <;> clear h
 ·intro o h
  refine .block ?_
  refine .iter (fun (v8 : Int) => mk 27 [] (L85 a0 a1 a0.length v8) []) h Sub.tt ?_
  clear h
  rintro v8 x h
  refine .seqR ?_
  refine .rr 1 ?_
  refine .tt (L85 a0 a1 a0.length v8 ++ [(14,.b (decide (v8 < (a0.length : Int))))]) [] (.nil (.seq ?_))
  replace h := isome h;rcases h with ⟨c24,h⟩ | ⟨c24,h⟩
  ·have c24_ : decide (v8 < (a0.length : Int)) = true := decide_eq_true c24
   refine .condT rfl c24_ ?_
   refine .skip (thenQ_normal (.seq (.block (.seqR ?_))))
   refine .rr 2 ?_
   refine .tt [(0,.ls61 a0),(1,.ls61 a1),(5,.i v8),(12,.i (a0.length : Int)),(13,.i v8)] [] (.nil ?_)
   refine .seqQ (by kernel_rfl) (by kernel_rfl) ?_
   replace h := xsome h;obtain ⟨x25,k26,hx25k,hx25,hx25a,hx25b,h⟩ := h
   replace h := bsome h;obtain ⟨x27,hx27,h⟩ := h
   obtain ⟨hx27,hx27a,hx27b⟩ := idx_some2 hx27 hx25k
   refine .rq 8 fun K k => ?_;simp [hx25,hx25a,hx27,hx25k];refine k ?_
   refine .tt (L85 a0 a1 a0.length v8 ++ [(19,.s61 x25),(23,.s61 x27)]) [] ?_
   replace h := bsome h;obtain ⟨r28,hr28,h⟩ := h
   refine .callL (d := 24) (p34 N x25 x27 r28 hr28) (by simp) rfl rfl (by simp <;> rfl) (by simp <;> rfl) ent34 (by simp <;> rfl) ?_
   refine .st (mk 27 [] (L85 a0 a1 a0.length v8 ++ [(19,.s61 x25),(23,.s61 x27),(24,.b r28)]) []) ?_
   refine .rq 1 fun K k => ?_;simp;refine k ?_
   refine .tt (L85 a0 a1 a0.length v8 ++ [(25,.b (!r28))]) [] (.nil ?_)
   replace h := isome h;rcases h with ⟨c29,h⟩ | ⟨c29,h⟩
   ·have c29_ : (!r28) = true := c29
    refine .condT rfl c29_ ?_
    refine .seqR ?_
    refine .rr 1 ?_
    refine .tt [(4,.b false)] [] (.nil (.ret ?_))
    cases h
    refine blockQ.ret ?_
    refine thenQ_ps ?_
    refine PostI.os ?_
    rintro rfl
    refine blockQ.ret ?_
    refine PostJ.out (by simp) ?_
    rintro rfl
    refine thenQ_ps ?_
    exact FinC.rs
   have c29_ : (!r28) = false := Bool.eq_false_iff.2 c29
   refine .condF rfl c29_ ?_
   refine .skip (blockQ.normal (thenQ_normal (.region ?_)))
   replace h := csome h;obtain ⟨v30,hv30,h⟩ := h
   refine .rk 2 fun K k => ?_;simp [hv30];refine k ?_
   refine .tt (L85 a0 a1 a0.length v30) [] (.nil ?_)
   cases h
   refine PostI.next ?_
   exact Sub.tt
  have c24_ : decide (v8 < (a0.length : Int)) = false := decide_eq_false c24
  refine .condF rfl c24_ ?_
  refine .exit ?_
  cases h
  refine thenQ_ps ?_
  refine PostI.os ?_
  rintro rfl
  refine blockQ.hit (PostJ.next ?_)
  exact Sub.tt
 rintro ⟨⟩ h
 refine thenQ_normal (.seqR ?_)
 refine .rr 1 ?_
 refine .tt [(4,.b true)] [] (.nil (.ret ?_))
 cases h
 exact FinC.rs
end Go.Proofs.YtimkkjiplioohaaGreatDoor
