/- Functions of the program as functional programs; the code computes them. -/
import Derived.Test.YtimkkjiplioohaaGreatDoorRa12
namespace Go.Proofs.YtimkkjiplioohaaGreatDoor
set_option maxRecDepth 100000
set_option maxHeartbeats 4000000
open Go.Ab Go.Rp
attribute [-simp] List.all_eq_true Array.all_toList Array.all_eq_true
def d75 (N : Nat) (a0 : S75) (a1 : (List (List S61))) : Option Bool :=
 letv ([(ByteArray.mk #[99,111,117,110,116]),(ByteArray.mk #[115,117,109]),(ByteArray.mk #[109,105,110]),(ByteArray.mk #[109,97,120])] : List ByteArray) fun l1 =>
 (d76 N l1 a0.Function).bind fun r2 =>
 Option.bind (α := Bool) (
  if (!r2) = true then (
   some true
  ) else
  if a0.Column < (-1) then (
   some true
  ) else
  if (a0.Column == (-1)) then (
   if (!decide (a0.Function = (ByteArray.mk #[99,111,117,110,116]))) = true then (
    some true
   ) else
   (d56 N a1 (fun b0 => d77 N b0 a0)).bind fun r14 =>
   some r14
  ) else
  (d56 N a1 (fun b0 => d77 N b0 a0)).bind fun r15 =>
  some r15
 ) fun (v9 : Bool) =>
 some v9
theorem p75 (N : Nat) (a0 : S75) (a1 : (List (List S61))) (r : Bool) (h : d75 N a0 a1 = some r) : FunC Tryz.prog 75 [.agg [.s a0.Function,.i a0.Column],.d (.pim [.sl (a1.map (cL cS61))])] (.b r) := by
 unfold d75 at h
 refine FunC.enter 31 [(0,.agg [.s a0.Function,.i a0.Column]),(1,.d (.pim [.sl (a1.map (cL cS61))]))] (by simp) Tryz.func75 rfl (of_decide_eq_true rfl) rfl rfl ?_
 refine .seqR ?_
 refine .rr 2 ?_
 refine .tt [(1,.d (.pim [.sl (a1.map (cL cS61))])),(2,.ptr 2 0 0)] (H10 a0) (.nil (.seqR ?_))
 refine .rr 1 ?_
 refine .sub (.wkRow 5 rfl) ?_
 replace h := lsome h;obtain ⟨l1,hl1,h⟩ := h
 refine .sub (S' := mk 31 [] (L63 a1 l1.length) (H39 a0 l1)) (by simp;subst hl1;exact Sub.table (by simp) (by simp)) ?_
 refine .rr 2 ?_
 refine .tt (L63 a1 l1.length ++ [(7,.s a0.Function)]) (H39 a0 l1) ?_
 replace h := bsome h;obtain ⟨r2,hr2,h⟩ := h
 refine .callL (d := 8) (p76 N l1 a0.Function r2 hr2) (by simp) rfl rfl (by simp <;> rfl) (by simp <;> rfl) ent76 (by simp <;> rfl) ?_
 refine .st (mk 31 [] (L63 a1 l1.length ++ [(7,.s a0.Function),(8,.b r2)]) (H39 a0 l1)) ?_
 refine .rr 1 ?_
 refine .tt (L64 a1 ++ [(4,.b r2)]) (H10 a0) (.nil ?_)
 replace h := bsome h;obtain ⟨v9,hj,h⟩ := h
 refine .cutR (mk 31 [] [(3,.b v9)] []) ?_ ?_
 ·clear h;have h := hj;clear hj
  refine .rr 3 ?_
  refine .tt (L64 a1 ++ [(11,.b (!r2))]) (H10 a0) ?_
  replace h := isome h;rcases h with ⟨c10,h⟩ | ⟨c10,h⟩
  ·have c10_ : (!r2) = true := c10
   refine .sub (.bool 11 rfl c10_) ?_
   refine .st (mk 31 [] (L64 a1 ++ [(11,.b true)]) (H10 a0)) ?_
   refine .rr 20 ?_
   refine .tt [(3,.b true)] [] ?_
   cases h
   exact .nil .tt
  have c10_ : (!r2) = false := Bool.eq_false_iff.2 c10
  refine .sub (.bool 11 rfl c10_) ?_
  refine .st (mk 31 [] (L64 a1 ++ [(11,.b false)]) (H10 a0)) ?_
  refine .rr 5 ?_
  refine .tt (L64 a1 ++ [(16,.b (decide (a0.Column < (-1))))]) (H10 a0) ?_
  replace h := isome h;rcases h with ⟨c11,h⟩ | ⟨c11,h⟩
  ·have c11_ : decide (a0.Column < (-1)) = true := decide_eq_true c11
   refine .sub (.bool 16 rfl c11_) ?_
   refine .st (mk 31 [] (L64 a1 ++ [(16,.b true)]) (H10 a0)) ?_
   refine .rr 15 ?_
   refine .tt [(3,.b true)] [] ?_
   cases h
   exact .nil .tt
  have c11_ : decide (a0.Column < (-1)) = false := decide_eq_false c11
  refine .sub (.bool 16 rfl c11_) ?_
  refine .st (mk 31 [] (L65 a1) (H10 a0)) ?_
  refine .rr 4 ?_
  refine .tt (L65 a1 ++ [(20,.b (a0.Column == (-1)))]) (H10 a0) ?_
  replace h := isome h;rcases h with ⟨c12,h⟩ | ⟨c12,h⟩
  ·have c12_ : (a0.Column == (-1)) = true := c12
   refine .sub (.bool 20 rfl c12_) ?_
   refine .st (mk 31 [] (L65 a1 ++ [(20,.b true)]) (H10 a0)) ?_
   refine .rr 6 ?_
   refine .tt (L64 a1 ++ [(26,.b (!decide (a0.Function = (ByteArray.mk #[99,111,117,110,116]))))]) (H10 a0) ?_
   replace h := isome h;rcases h with ⟨c13,h⟩ | ⟨c13,h⟩
   ·have c13_ : (!decide (a0.Function = (ByteArray.mk #[99,111,117,110,116]))) = true := c13
    refine .sub (.bool 26 rfl c13_) ?_
    refine .st (mk 31 [] (L64 a1 ++ [(26,.b true)]) (H10 a0)) ?_
    refine .rr 5 ?_
    refine .tt [(3,.b true)] [] ?_
    cases h
    exact .nil .tt
   have c13_ : (!decide (a0.Function = (ByteArray.mk #[99,111,117,110,116]))) = false := Bool.eq_false_iff.2 c13
   refine .sub (.bool 26 rfl c13_) ?_
   refine .st (mk 31 [] (L64 a1 ++ [(26,.b false)]) (H10 a0)) ?_
   refine .rr 2 ?_
   refine .tt (L66 a1) (H10 a0) ?_
   replace h := bsome h;obtain ⟨r14,hr14,h⟩ := h
   refine .callL (d := 29) (p56 N a1 77 [.pim [.lit (.string a0.Function),.lit (.int .i64 a0.Column)]] (fun b0 => d77 N b0 a0) ent77 (fun b0 r h => p77 N b0 a0 r h) r14 hr14) (by simp) rfl rfl (by simp <;> rfl) (by simp <;> rfl) ent56 (by simp <;> rfl) ?_
   refine .st (mk 31 [] (L66 a1 ++ [(29,.b r14)]) (H10 a0)) ?_
   refine .rr 2 ?_
   refine .tt [(3,.b r14)] [] ?_
   cases h
   exact .nil .tt
  have c12_ : (a0.Column == (-1)) = false := Bool.eq_false_iff.2 c12
  refine .sub (.bool 20 rfl c12_) ?_
  refine .st (mk 31 [] (L65 a1 ++ [(20,.b false)]) (H10 a0)) ?_
  refine .rr 8 ?_
  refine .tt (L66 a1) (H10 a0) ?_
  replace h := bsome h;obtain ⟨r15,hr15,h⟩ := h
  refine .callL (d := 29) (p56 N a1 77 [.pim [.lit (.string a0.Function),.lit (.int .i64 a0.Column)]] (fun b0 => d77 N b0 a0) ent77 (fun b0 r h => p77 N b0 a0 r h) r15 hr15) (by simp) rfl rfl (by simp <;> rfl) (by simp <;> rfl) ent56 (by simp <;> rfl) ?_
  refine .st (mk 31 [] (L66 a1 ++ [(29,.b r15)]) (H10 a0)) ?_
  refine .rr 2 ?_
  refine .tt [(3,.b r15)] [] ?_
  cases h
  exact .nil .tt
 clear hj
 refine .ret ?_
 cases h
 exact FinC.rs
def d105 (N : Nat) (a0 : (List S75)) (p1 : S75 → Option Bool) : Option Int :=
 bindO (β := Unit) (ρ := Int) (
  iterN (σ := Int) (ρ := (Out Unit Int)) (fun (v6 : Int) =>
   if v6 < (a0.length : Int) then (
    (idx a0 v6).bind fun x21 =>
    (p1 x21).bind fun r23 =>
    if r23 = true then (
     some (.inr (.ret v6))
    ) else
    (chkI (v6 + 1)).bind fun v25 =>
    some (.inl v25)
   ) else
   some (.inr (.go ()))
  ) N 0
 ) fun (_ : Unit) =>
 some (-1)
theorem p105 (N : Nat) (a0 : (List S75)) (g1 : Nat) (cs1 : List D) (p1 : S75 → Option Bool) (ent_1 : Rp.Enters Tryz.prog g1) (hp1 : ∀ a0 r,p1 a0 = some r → FunC Tryz.prog g1 ([.agg [.s a0.Function,.i a0.Column]] ++ cs1.map .d) (.b r)) (r : Int) (h : d105 N a0 p1 = some r) : FunC Tryz.prog 105 [.s75 a0,.fg g1 cs1] (.i r) := by
 unfold d105 at h
 refine FunC.enter 19 [(0,.s75 a0),(1,.fg g1 cs1)] (by simp) Tryz.func105 rfl (of_decide_eq_true rfl) rfl rfl ?_
 refine .seqR ?_
 refine .rr 1 ?_
 refine .tt [(0,.s75 a0),(1,.fg g1 cs1)] [] (.nil (.seq (.seqR ?_)))
 refine .rr 3 ?_
 refine .tt [(0,.s75 a0),(1,.fg g1 cs1),(7,.i (a0.length : Int)),(8,.i 0)] [] (.nil ?_)
 refine .lastJ (fun (_ : Unit) => mk 19 [] [] []) h ?_ ?_ <;> clear h
 ·intro o h
  refine .block ?_
  refine .iter (fun (v6 : Int) => mk 19 [] [(0,.s75 a0),(1,.fg g1 cs1),(7,.i (a0.length : Int)),(8,.i v6)] []) h Sub.tt ?_
  clear h
  rintro v6 x h
  refine .seqR ?_
  refine .rr 1 ?_
  refine .tt [(0,.s75 a0),(1,.fg g1 cs1),(7,.i (a0.length : Int)),(8,.i v6),(9,.b (decide (v6 < (a0.length : Int))))] [] (.nil (.seq ?_))
  replace h := isome h;rcases h with ⟨c20,h⟩ | ⟨c20,h⟩
  ·have c20_ : decide (v6 < (a0.length : Int)) = true := decide_eq_true c20
   refine .condT rfl c20_ ?_
   refine .skip (thenQ_normal (.seq (.block (.seqR ?_))))
   refine .rr 2 ?_
   refine .tt [(0,.s75 a0),(1,.fg g1 cs1),(5,.i v6),(7,.i (a0.length : Int)),(8,.i v6)] [] (.nil (.seqR ?_))
   replace h := xsome h;obtain ⟨x21,k22,hx21k,hx21,hx21a,hx21b,h⟩ := h
   refine .rk 5 fun K k => ?_;simp [hx21,hx21k,hx21a];refine k ?_
   refine .tt [(0,.s75 a0),(1,.fg g1 cs1),(5,.i v6),(7,.i (a0.length : Int)),(8,.i v6),(11,.fg g1 cs1),(15,.agg [.s x21.Function,.i x21.Column])] [] ?_
   replace h := bsome h;obtain ⟨r23,hr23,h⟩ := h
   refine .callL (d := 16) (hp1 x21 r23 hr23) (by simp) rfl rfl (by simp <;> rfl) (by simp <;> rfl) ent_1 (by simp <;> rfl) ?_
   refine .st (mk 19 [] [(0,.s75 a0),(1,.fg g1 cs1),(5,.i v6),(7,.i (a0.length : Int)),(8,.i v6),(11,.fg g1 cs1),(15,.agg [.s x21.Function,.i x21.Column]),(16,.b r23)] []) (.nil ?_)
   replace h := isome h;rcases h with ⟨c24,h⟩ | ⟨c24,h⟩
   ·have c24_ : r23 = true := c24
    refine .condT rfl c24_ ?_
    refine .seqR ?_
    refine .rr 2 ?_
    refine .tt [(4,.i v6)] [] (.nil (.ret ?_))
    cases h
    refine blockQ.ret ?_
    refine thenQ_ps ?_
    refine PostI.os ?_
    rintro rfl
    refine blockQ.ret ?_
    refine PostJ.out (by simp) ?_
    rintro rfl
    refine thenQ_ps ?_
    exact FinC.rs
   have c24_ : r23 = false := Bool.eq_false_iff.2 c24
   refine .condF rfl c24_ ?_
   refine .skip (blockQ.normal (thenQ_normal (.region ?_)))
   replace h := csome h;obtain ⟨v25,hv25,h⟩ := h
   refine .rk 2 fun K k => ?_;simp [hv25];refine k ?_
   refine .tt [(0,.s75 a0),(1,.fg g1 cs1),(7,.i (a0.length : Int)),(8,.i v25)] [] (.nil ?_)
   cases h
   refine PostI.next ?_
   exact Sub.tt
  have c20_ : decide (v6 < (a0.length : Int)) = false := decide_eq_false c20
  refine .condF rfl c20_ ?_
  refine .exit ?_
  cases h
  refine thenQ_ps ?_
  refine PostI.os ?_
  rintro rfl
  refine blockQ.hit (PostJ.next ?_)
  exact Sub.tt
 rintro ⟨⟩ h
 refine thenQ_normal (.seqR ?_)
 refine .rr 1 ?_
 refine .tt [(4,.i (-1))] [] (.nil (.ret ?_))
 cases h
 exact FinC.rs
def d74 (N : Nat) (a0 : (List S75)) (p1 : S75 → Option Bool) : Option Bool :=
 (d105 N a0 p1).bind fun r1 =>
 some (decide (r1 ≥ 0))
theorem p74 (N : Nat) (a0 : (List S75)) (g1 : Nat) (cs1 : List D) (p1 : S75 → Option Bool) (ent_1 : Rp.Enters Tryz.prog g1) (hp1 : ∀ a0 r,p1 a0 = some r → FunC Tryz.prog g1 ([.agg [.s a0.Function,.i a0.Column]] ++ cs1.map .d) (.b r)) (r : Bool) (h : d74 N a0 p1 = some r) : FunC Tryz.prog 74 [.s75 a0,.fg g1 cs1] (.b r) := by
 unfold d74 at h
 refine FunC.enter 9 [(0,.s75 a0),(1,.fg g1 cs1)] (by simp) Tryz.func74 rfl (of_decide_eq_true rfl) rfl rfl ?_
 refine .seqR ?_
 refine .rr 1 ?_
 refine .tt [(0,.s75 a0),(1,.fg g1 cs1)] [] (.nil (.seqR ?_))
 refine .rr 2 ?_
 refine .tt [(5,.s75 a0),(6,.fg g1 cs1)] [] ?_
 replace h := bsome h;obtain ⟨r1,hr1,h⟩ := h
 refine .callL (d := 7) (p105 N a0 g1 cs1 p1 ent_1 hp1 r1 hr1) (by simp) rfl rfl (by simp <;> rfl) (by simp <;> rfl) ent105 (by simp <;> rfl) ?_
 refine .st (mk 9 [] [(5,.s75 a0),(6,.fg g1 cs1),(7,.i r1)] []) ?_
 refine .rr 2 ?_
 refine .tt [(4,.b (decide (r1 ≥ 0)))] [] (.nil (.ret ?_))
 cases h
 exact FinC.rs
def d32 (N : Nat) (a0 : (List (List S61))) (a1 : (List S75)) : Option Bool :=
 (d74 N a1 (fun b0 => d75 N b0 a0)).bind fun r1 =>
 some (!r1)
theorem p32 (N : Nat) (a0 : (List (List S61))) (a1 : (List S75)) (r : Bool) (h : d32 N a0 a1 = some r) : FunC Tryz.prog 32 [.ls61 a0,.s75 a1] (.b r) := by
 unfold d32 at h
 refine FunC.enter 9 [(0,.ls61 a0),(1,.s75 a1)] (by simp) Tryz.func32 rfl (of_decide_eq_true rfl) rfl rfl ?_
 refine .seqR ?_
 refine .rr 2 ?_
 refine .tt [(1,.s75 a1),(2,.ptr 2 0 0)] [(2,some (.box [.ls61 a0]))] (.nil (.seqR ?_))
 refine .rr 2 ?_
 refine .tt [(5,.s75 a1),(6,.fn (.func 75) [.ptr 2 0 0])] [(2,some (.box [.ls61 a0]))] ?_
 replace h := bsome h;obtain ⟨r1,hr1,h⟩ := h
 refine .callL (d := 7) (p74 N a1 75 [.pim [.sl (a0.map (cL cS61))]] (fun b0 => d75 N b0 a0) ent75 (fun b0 r h => p75 N b0 a0 r h) r1 hr1) (by simp) rfl rfl (by simp <;> rfl) (by simp <;> rfl) ent74 (by simp <;> rfl) ?_
 refine .st (mk 9 [] [(5,.s75 a1),(6,.fn (.func 75) [.ptr 2 0 0]),(7,.b r1)] [(2,some (.box [.ls61 a0]))]) ?_
 refine .rr 2 ?_
 refine .tt [(4,.b (!r1))] [] (.nil (.ret ?_))
 cases h
 exact FinC.rs
def d35 (N : Nat) (a0 : (List S61)) (a1 : (List Int)) : Option (List S61) :=
 Option.bind (α := List S61) (
  iterN (σ := ((List S61) × Int)) (ρ := List S61) (fun ((l7,v8) : ((List S61) × Int)) =>
   if v8 < (a1.length : Int) then (
    (idx a1 v8).bind fun x27 =>
    (idx a0 x27).bind fun x29 =>
    (appL 32 l7 [x29]).bind fun _l31 =>
    (chkI (v8 + 1)).bind fun v32 =>
    some (.inl ((l7 ++ [x29]),v32))
   ) else
   some (.inr l7)
  ) N (([] : List S61),0)
 ) fun (l25 : List S61) =>
 some l25
theorem p35 (N : Nat) (a0 : (List S61)) (a1 : (List Int)) (r : (List S61)) (h : d35 N a0 a1 = some r) : FunO Tryz.prog 35 [.s61 a0,.si a1] (.ref 0 0 r.length) (.arr 61 3 (r.map cS61)) := by
 unfold d35 at h
 refine FunO.enter 24 [(0,.s61 a0),(1,.si a1)] Tryz.func35 rfl (of_decide_eq_true rfl) rfl rfl ?_
 refine .seqR ?_
 refine .rr 1 ?_
 refine .tt [(0,.s61 a0),(1,.si a1)] [] (.nil (.seqR ?_))
 refine .rr 2 ?_
 refine .tt [(0,.s61 a0),(1,.si a1),(5,.ref 8 0 (([] : List S61).length))] [(8,R61 ([] : List S61))] (.nil (.seq (.seqR ?_)))
 refine .rr 3 ?_
 refine .tt [(0,.s61 a0),(5,.ref 8 0 (([] : List S61).length)),(9,.si a1),(10,.i (a1.length : Int)),(11,.i 0)] [(8,R61 ([] : List S61))] (.nil ?_)
 refine .lastN (fun (l25 : List S61) => mk 24 [] [(5,.ref 8 0 l25.length)] [(8,R61 l25)]) h ?_ ?_ <;> clear h
 ·intro o h
  refine .block ?_
  refine .iter (fun ((l7,v8) : ((List S61) × Int)) => mk 24 [] [(0,.s61 a0),(5,.ref 8 0 l7.length),(9,.si a1),(10,.i (a1.length : Int)),(11,.i v8)] [(8,R61 l7)]) h Sub.tt ?_
  clear h
  rintro ⟨l7,v8⟩ x h
  dsimp only at h ⊢
  refine .seqR ?_
  refine .rr 1 ?_
  refine .tt [(0,.s61 a0),(5,.ref 8 0 l7.length),(9,.si a1),(10,.i (a1.length : Int)),(11,.i v8),(12,.b (decide (v8 < (a1.length : Int))))] [(8,R61 l7)] (.nil (.seq ?_))
  replace h := isome h;rcases h with ⟨c26,h⟩ | ⟨c26,h⟩
  ·have c26_ : decide (v8 < (a1.length : Int)) = true := decide_eq_true c26
   refine .condT rfl c26_ ?_
   refine .skip (thenQ_normal (.seq (.block (.seqR ?_))))
   replace h := xsome h;obtain ⟨x27,k28,hx27k,hx27,hx27a,hx27b,h⟩ := h
   refine .rk 3 fun K k => ?_;simp [hx27,hx27k,hx27a];refine k ?_
   refine .tt [(0,.s61 a0),(5,.ref 8 0 l7.length),(7,.i x27),(9,.si a1),(10,.i (a1.length : Int)),(11,.i v8)] [(8,R61 l7)] (.nil (.region ?_))
   replace h := xsome h;obtain ⟨x29,k30,hx29k,hx29,hx29a,hx29b,h⟩ := h
   replace h := bsome h;obtain ⟨l31,hl31,h⟩ := h
   obtain ⟨hl31a,hl31⟩ := appL_some hl31
   subst hl31
   try simp only [List.length_cons,List.length_nil,Nat.zero_add] at hl31a
   refine .runK [20] 8 fun K k => ?_;simp [hx29,hx29k,hx29a,hl31a];refine k _ _ ?_;clear k K
   refine .tt [(0,.s61 a0),(5,.ref 8 0 ((l7 ++ [x29]).length)),(9,.si a1),(10,.i (a1.length : Int)),(11,.i v8)] [(8,R61 (l7 ++ [x29]))] (.nil (blockQ.normal (thenQ_normal (.region ?_))))
   replace h := csome h;obtain ⟨v32,hv32,h⟩ := h
   refine .rk 2 fun K k => ?_;simp [hv32];refine k ?_
   refine .tt [(0,.s61 a0),(5,.ref 8 0 ((l7 ++ [x29]).length)),(9,.si a1),(10,.i (a1.length : Int)),(11,.i v32)] [(8,R61 (l7 ++ [x29]))] (.nil ?_)
   cases h
   refine PostI.next ?_
   exact Sub.tt
  have c26_ : decide (v8 < (a1.length : Int)) = false := decide_eq_false c26
  refine .condF rfl c26_ ?_
  refine .exit ?_
  cases h
  refine thenQ_ps ?_
  refine PostI.os ?_
  rintro rfl
  refine blockQ.hit (PostN.next ?_)
  exact Sub.tt
 rintro l25 h
 refine thenQ_normal (.seqR ?_)
 refine .rr 2 ?_
 refine .tt [(4,.ref 8 0 l25.length)] [(8,R61 l25)] (.nil (.ret ?_))
 obtain rfl := Option.some.inj h
 exact FinO.ret (.ref 8 0 l25.length) 8 (by simp) (by simp) (by simp) (by simp) rfl
def d107 (_N : Nat) (a0 : S61) (a1 : S61) : Option Bool :=
 if (a0.Kind != a1.Kind) then (
  some (decide (a0.Kind < a1.Kind))
 ) else
 if (a0.Int != a1.Int) then (
  some (decide (a0.Int < a1.Int))
 ) else
 some (Op.bytesLess a0.Text.toList a1.Text.toList)
theorem p107 (N : Nat) (a0 : S61) (a1 : S61) (r : Bool) (h : d107 N a0 a1 = some r) : FunC Tryz.prog 107 [.agg [.i a0.Kind,.i a0.Int,.s a0.Text],.agg [.i a1.Kind,.i a1.Int,.s a1.Text]] (.b r) := by
 unfold d107 at h
 refine FunC.enter 30 [(0,.agg [.i a0.Kind,.i a0.Int,.s a0.Text]),(1,.agg [.i a1.Kind,.i a1.Int,.s a1.Text])] (by simp) Tryz.func107 rfl (of_decide_eq_true rfl) rfl rfl ?_
 refine .seqR ?_
 refine .rr 3 ?_
 refine .tt [(2,.ptr 2 0 0),(3,.ptr 3 0 0)] (H24 a0 a1) (.nil (.seq (.seqR ?_)))
 refine .rr 5 ?_
 refine .tt [(2,.ptr 2 0 0),(3,.ptr 3 0 0),(9,.b (a0.Kind != a1.Kind))] (H24 a0 a1) (.nil ?_)
 replace h := isome h;rcases h with ⟨c1,h⟩ | ⟨c1,h⟩
 ·have c1_ : (a0.Kind != a1.Kind) = true := c1
  refine .condT rfl c1_ ?_
  refine .seqR ?_
  refine .rr 6 ?_
  refine .tt [(4,.b (decide (a0.Kind < a1.Kind)))] [] (.nil (.ret ?_))
  cases h
  refine thenQ_ps ?_
  exact FinC.rs
 have c1_ : (a0.Kind != a1.Kind) = false := Bool.eq_false_iff.2 c1
 refine .condF rfl c1_ ?_
 refine .skip (thenQ_normal (.seq (.seqR ?_)))
 refine .rr 5 ?_
 refine .tt [(2,.ptr 2 0 0),(3,.ptr 3 0 0),(19,.b (a0.Int != a1.Int))] (H24 a0 a1) (.nil ?_)
 replace h := isome h;rcases h with ⟨c2,h⟩ | ⟨c2,h⟩
 ·have c2_ : (a0.Int != a1.Int) = true := c2
  refine .condT rfl c2_ ?_
  refine .seqR ?_
  refine .rr 6 ?_
  refine .tt [(4,.b (decide (a0.Int < a1.Int)))] [] (.nil (.ret ?_))
  cases h
  refine thenQ_ps ?_
  exact FinC.rs
 have c2_ : (a0.Int != a1.Int) = false := Bool.eq_false_iff.2 c2
 refine .condF rfl c2_ ?_
 refine .skip (thenQ_normal (.seqR ?_))
 refine .rr 6 ?_
 refine .tt [(4,.b (Op.bytesLess a0.Text.toList a1.Text.toList))] [] (.nil (.ret ?_))
 cases h
 exact FinC.rs
def d79 (N : Nat) (a0 : (List S61)) (a1 : (List S61)) (a2 : (List Bool)) : Option Bool :=
 letv (minI (a0.length : Int) (a1.length : Int)) fun v1 =>
 bindO (β := Unit) (ρ := Bool) (
  iterN (σ := Int) (ρ := (Out Unit Bool)) (fun (v23 : Int) =>
   if v23 < v1 then (
    (idx a0 v23).bind fun x70 =>
    (idx a1 v23).bind fun x72 =>
    Option.bind (α := Bool) (
     if v23 < (a2.length : Int) then (
      (idx a2 v23).bind fun x77 =>
      some x77
     ) else
     some false
    ) fun (v75 : Bool) =>
    Option.bind (α := (Int × Int × ByteArray × Int × Int × ByteArray)) (
     if v75 = true then (
      some (x72.Kind,x72.Int,x72.Text,x70.Kind,x70.Int,x70.Text)
     ) else
     some (x70.Kind,x70.Int,x70.Text,x72.Kind,x72.Int,x72.Text)
    ) fun ((v79,v80,v81,v82,v83,v84) : (Int × Int × ByteArray × Int × Int × ByteArray)) =>
    (d107 N (S61.mk v79 v80 v81) (S61.mk v82 v83 v84)).bind fun r86 =>
    if r86 = true then (
     some (.inr (.ret true))
    ) else
    (d107 N (S61.mk v82 v83 v84) (S61.mk v79 v80 v81)).bind fun r88 =>
    if r88 = true then (
     some (.inr (.ret false))
    ) else
    (chkI (v23 + 1)).bind fun v90 =>
    some (.inl v90)
   ) else
   some (.inr (.go ()))
  ) N 0
 ) fun (_ : Unit) =>
 some false
theorem p79 (N : Nat) (a0 : (List S61)) (a1 : (List S61)) (a2 : (List Bool)) (r : Bool) (h : d79 N a0 a1 a2 = some r) : FunC Tryz.prog 79 [.s61 a0,.s61 a1,.sb a2] (.b r) := by
 unfold d79 at h
 refine FunC.enter 45 [(0,.s61 a0),(1,.s61 a1),(2,.sb a2)] (by simp) Tryz.func79 rfl (of_decide_eq_true rfl) rfl rfl ?_
 refine .seqR ?_
 refine .rr 1 ?_
 refine .tt (L1 a0 a1 ++ [(2,.sb a2)]) [] (.nil (.seq (.seqR ?_)))
 replace h := lsome h;obtain ⟨v1,hv1,h⟩ := h
 unfold minI at hv1
 try simp only [Int.ofNat_lt] at hv1
 refine .rk 6 fun K k => ?_;simp [hv1];refine k ?_
 refine .tt (L1 a0 a1 ++ [(2,.sb a2),(14,.i v1),(15,.i 0)]) [] (.nil ?_)
 refine .lastJ (fun (_ : Unit) => mk 45 [] [] []) h ?_ ?_ <;> clear h
 ·intro o h
  refine .block ?_
  refine .iter (fun (v23 : Int) => mk 45 [] (L67 a0 a1 a2 v1 v23) []) h Sub.tt ?_
  clear h
  rintro v23 x h
  refine .seqR ?_
  refine .rr 1 ?_
  refine .tt (L67 a0 a1 a2 v1 v23 ++ [(16,.b (decide (v23 < v1)))]) [] (.nil (.seq ?_))
  replace h := isome h;rcases h with ⟨c69,h⟩ | ⟨c69,h⟩
  ·have c69_ : decide (v23 < v1) = true := decide_eq_true c69
   refine .condT rfl c69_ ?_
   refine .skip (thenQ_normal (.seq (.block (.seqR ?_))))
   refine .rr 2 ?_
   refine .tt (L1 a0 a1 ++ [(2,.sb a2),(7,.i v23),(14,.i v1),(15,.i v23)]) [] (.nil ?_)
   replace h := xsome h;obtain ⟨x70,k71,hx70k,hx70,hx70a,hx70b,h⟩ := h
   replace h := bsome h;obtain ⟨x72,hx72,h⟩ := h
   obtain ⟨hx72,hx72a,hx72b⟩ := idx_some2 hx72 hx70k
   refine .seqAnyS [[],[],[0,1],[0,1,2],[],[],[4,5],[4,5,6],[],[],[0,1,2,3,8,9],[0,1,2,3,4,5,6,7,8,9,10]] (fun (b : Nat → Bool) => mk 45 [] [(0,.s61 a0),(1,.s61 a1),(2,.sb a2),(7,.i v23),(8,(if b 8 then .ptr 8 0 0 else .junk)),(9,(if b 9 then .ptr 9 0 0 else .junk)),(14,.i v1),(15,.i v23),(18,(if b 0 then .s61 a0 else .junk)),(19,(if b 1 then .i v23 else .junk)),(20,(if b 2 then .d (.pim [.lit (.int .i64 x70.Kind),.lit (.int .i64 x70.Int),.lit (.string x70.Text)]) else .junk)),(21,(if b 3 then .agg [.i x70.Kind,.i x70.Int,.s x70.Text] else .junk)),(22,(if b 4 then .s61 a1 else .junk)),(23,(if b 5 then .i v23 else .junk)),(24,(if b 6 then .d (.pim [.lit (.int .i64 x72.Kind),.lit (.int .i64 x72.Int),.lit (.string x72.Text)]) else .junk)),(25,(if b 7 then .agg [.i x72.Kind,.i x72.Int,.s x72.Text] else .junk))] [(8,(if b 10 then some (.box [.i x70.Kind,.i x70.Int,.s x70.Text]) else (if b 8 then some (.box [.i 0,.i 0,.s (ByteArray.mk #[])]) else none))),(9,(if b 11 then some (.box [.i x72.Kind,.i x72.Int,.s x72.Text]) else (if b 9 then some (.box [.i 0,.i 0,.s (ByteArray.mk #[])]) else none)))]) (mk 45 [] (L68 a0 a1 a2 v23 v1) (H16 x70 x72)) (by kernel_rfl) (by kernel_rfl) Sub.tt (Steps.cons ?_ (Steps.cons ?_ (Steps.cons ?_ (Steps.cons ?_ (Steps.cons ?_ (Steps.cons ?_ (Steps.cons ?_ (Steps.cons ?_ (Steps.cons ?_ (Steps.cons ?_ (Steps.cons ?_ (Steps.cons ?_ (Steps.nil))))))))))))) ?_ ?_
   iterate 8
    ·intro b h0 ha hd
     have T := fct h0 ha hd;simp at T
     refine .rk 1 fun K k => ?_;simp [T,hx70,hx70k,hx70a,hx72];refine k ?_
     exact .nil .tT
   ·intro b h0 ha hd
    have T := fct h0 ha hd;simp at T
    cases q9 : b 9 <;> (refine Chain.runK [] 1 fun K k => ?_;simp [T];refine k _ _ ?_;clear k K;exact .nil (.table (by simp [q9]) (by simp [T,q9])))
   ·intro b h0 ha hd
    have T := fct h0 ha hd;simp at T
    cases q8 : b 8 <;> (refine Chain.runK [] 1 fun K k => ?_;simp [T];refine k _ _ ?_;clear k K;exact .nil (.table (by simp [q8]) (by simp [T,q8])))
   iterate 2
    ·intro b h0 ha hd
     have T := fct h0 ha hd;simp at T
     refine .rk 1 fun K k => ?_;simp [T];refine k ?_
     exact .nil .tT
   ·intro b hb
    have T := FA_of (n := 12) hb;simp at T
    exact Sub.tT
   skip
   refine .seq ?_
   replace h := bsome h;obtain ⟨v75,hj,h⟩ := h
   refine .cutR (mk 45 [] (L69 a0 a1 a2 v1 v23 ++ [(35,.b v75)]) (H16 x70 x72)) ?_ ?_
   ·clear h;have h := hj;clear hj
    refine .rr 5 ?_
    refine .tt (L68 a0 a1 a2 v23 v1 ++ [(30,.b (decide (v23 < (a2.length : Int))))]) (H16 x70 x72) ?_
    replace h := isome h;rcases h with ⟨c76,h⟩ | ⟨c76,h⟩
    ·have c76_ : decide (v23 < (a2.length : Int)) = true := decide_eq_true c76
     refine .sub (.bool 30 rfl c76_) ?_
     refine .st (mk 45 [] (L68 a0 a1 a2 v23 v1 ++ [(30,.b true)]) (H16 x70 x72)) ?_
     replace h := bsome h;obtain ⟨x77,hx77,h⟩ := h
     obtain ⟨hx77,hx77a,hx77b⟩ := idx_some2 hx77 hx70k
     refine .rk 5 fun K k => ?_;simp [hx77,hx70k,hx77a];refine k ?_
     refine .tt (L69 a0 a1 a2 v1 v23 ++ [(31,.sb a2),(32,.i v23),(33,.d (.pim [.lit (.bool x77)])),(34,.b x77),(35,.b x77)]) (H16 x70 x72) ?_
     cases h
     exact .nil .tt
    have c76_ : decide (v23 < (a2.length : Int)) = false := decide_eq_false c76
    refine .sub (.bool 30 rfl c76_) ?_
    refine .st (mk 45 [] (L68 a0 a1 a2 v23 v1 ++ [(30,.b false)]) (H16 x70 x72)) ?_
    refine .rr 5 ?_
    refine .tt (L69 a0 a1 a2 v1 v23 ++ [(31,.tup []),(32,.tup []),(33,.tup []),(34,.tup []),(35,.b false)]) (H16 x70 x72) ?_
    cases h
    exact .nil .tt
   clear hj
   refine .lastN (fun ((v79,v80,v81,v82,v83,v84) : (Int × Int × ByteArray × Int × Int × ByteArray)) => mk 45 [] (L69 a0 a1 a2 v1 v23) (H40 v79 v80 v81 v82 v83 v84)) h ?_ ?_ <;> clear h
   ·intro o h
    replace h := isome h;rcases h with ⟨c85,h⟩ | ⟨c85,h⟩
    ·have c85_ : v75 = true := c85
     refine .condT rfl c85_ ?_
     refine .region ?_
     refine .rr 4 ?_
     refine .tt (L69 a0 a1 a2 v1 v23) (H16 x72 x70) (.nil ?_)
     cases h
     refine PostN.next ?_
     exact Sub.tt
    have c85_ : v75 = false := Bool.eq_false_iff.2 c85
    refine .condF rfl c85_ ?_
    refine .skip ?_
    cases h
    refine PostN.next ?_
    exact Sub.tt
   rintro ⟨v79,v80,v81,v82,v83,v84⟩ h
   dsimp only at h ⊢
   refine thenQ_normal (.seq (.seqR ?_))
   refine .rr 2 ?_
   refine .tt (L69 a0 a1 a2 v1 v23 ++ [(38,.agg [.i v79,.i v80,.s v81]),(39,.agg [.i v82,.i v83,.s v84])]) (H40 v79 v80 v81 v82 v83 v84) ?_
   replace h := bsome h;obtain ⟨r86,hr86,h⟩ := h
   refine .callL (d := 40) (p107 N (S61.mk v79 v80 v81) (S61.mk v82 v83 v84) r86 hr86) (by simp) rfl rfl (by simp <;> rfl) (by simp <;> rfl) ent107 (by simp <;> rfl) ?_
   refine .st (mk 45 [] (L69 a0 a1 a2 v1 v23 ++ [(38,.agg [.i v79,.i v80,.s v81]),(39,.agg [.i v82,.i v83,.s v84]),(40,.b r86)]) (H40 v79 v80 v81 v82 v83 v84)) (.nil ?_)
   replace h := isome h;rcases h with ⟨c87,h⟩ | ⟨c87,h⟩
   ·have c87_ : r86 = true := c87
    refine .condT rfl c87_ ?_
    refine .seqR ?_
    refine .rr 1 ?_
    refine .tt [(6,.b true)] [] (.nil (.ret ?_))
    cases h
    refine thenQ_ps ?_
    refine blockQ.ret ?_
    refine thenQ_ps ?_
    refine PostI.os ?_
    rintro rfl
    refine blockQ.ret ?_
    refine PostJ.out (by simp) ?_
    rintro rfl
    refine thenQ_ps ?_
    exact FinC.rs
   have c87_ : r86 = false := Bool.eq_false_iff.2 c87
   refine .condF rfl c87_ ?_
   refine .skip (thenQ_normal (.seqR ?_))
   refine .rr 2 ?_
   refine .tt (L67 a0 a1 a2 v1 v23 ++ [(41,.agg [.i v82,.i v83,.s v84]),(42,.agg [.i v79,.i v80,.s v81])]) [] ?_
   replace h := bsome h;obtain ⟨r88,hr88,h⟩ := h
   refine .callL (d := 43) (p107 N (S61.mk v82 v83 v84) (S61.mk v79 v80 v81) r88 hr88) (by simp) rfl rfl (by simp <;> rfl) (by simp <;> rfl) ent107 (by simp <;> rfl) ?_
   refine .st (mk 45 [] (L67 a0 a1 a2 v1 v23 ++ [(41,.agg [.i v82,.i v83,.s v84]),(42,.agg [.i v79,.i v80,.s v81]),(43,.b r88)]) []) (.nil ?_)
   replace h := isome h;rcases h with ⟨c89,h⟩ | ⟨c89,h⟩
   ·have c89_ : r88 = true := c89
    refine .condT rfl c89_ ?_
    refine .seqR ?_
    refine .rr 1 ?_
    refine .tt [(6,.b false)] [] (.nil (.ret ?_))
    cases h
    refine blockQ.ret ?_
    refine thenQ_ps ?_
    refine PostI.os ?_
    rintro rfl
    refine blockQ.ret ?_
    refine PostJ.out (by simp) ?_
    rintro rfl
    refine thenQ_ps ?_
    exact FinC.rs
   have c89_ : r88 = false := Bool.eq_false_iff.2 c89
   refine .condF rfl c89_ ?_
   refine .skip (blockQ.normal (thenQ_normal (.region ?_)))
   replace h := csome h;obtain ⟨v90,hv90,h⟩ := h
   refine .rk 2 fun K k => ?_;simp [hv90];refine k ?_
   refine .tt (L67 a0 a1 a2 v1 v90) [] (.nil ?_)
   cases h
   refine PostI.next ?_
   exact Sub.tt
  have c69_ : decide (v23 < v1) = false := decide_eq_false c69
  refine .condF rfl c69_ ?_
  refine .exit ?_
  cases h
  refine thenQ_ps ?_
  refine PostI.os ?_
  rintro rfl
  refine blockQ.hit (PostJ.next ?_)
  exact Sub.tt
 rintro ⟨⟩ h
 refine thenQ_normal (.seqR ?_)
 refine .rr 1 ?_
 refine .tt [(6,.b false)] [] (.nil (.ret ?_))
 cases h
 exact FinC.rs
def d80 (_ : Nat) (a0 : (List (List S61))) (a1 a2 : Int) : Option (List (List S61)) := delL a0 a1 a2
theorem p80 (N : Nat) (a0 : (List (List S61))) (a1 a2 : Int) (r : (List (List S61))) (h : d80 N a0 a1 a2 = some r) : FunM Tryz.prog 80 [.ref 1000 0 a0.length,.d (.lit (.int .i64 a1)),.d (.lit (.int .i64 a2))] [(1000,some (.arr 57 1 (a0.map (cL cS61))))] [] (.ref 1000 0 r.length) [(1000,.arr 57 1 (r.map (cL cS61)))] := by
 obtain ⟨i,j,rfl,rfl,hij,hj,hrl,hr⟩ := delL_some (cL cS61) h
 have hes : ∀ x ∈ a0.map (cL cS61),x.length = 1 := fun x hx => by
  obtain ⟨y,_,rfl⟩ := List.mem_map.1 hx
  rfl
 rw [hr,hrl]
 have hel : (a0.map (cL cS61)).length = a0.length := by simp
 rw [← hel] at hj hrl ⊢
 clear hel h hr hrl
 generalize a0.map (cL cS61) = es at *
 refine FunM.enter 33 [(0,.ref 1000 0 es.length),(1,.i i),(2,.i j)] Tryz.func80 rfl (of_decide_eq_true rfl) rfl rfl ?_
 refine .goR [] 1 fun K k => ?_;simp;refine k _ ?_;clear k K
 refine .seqR ?_
 refine .rr 5 ?_
 have hjn : (j : Int) ≤ es.length := by omega
 have hin : (i : Int) ≤ j := by omega
 refine .slice3 (id := 1000) (off := 0) (len := es.length) (mq := es.length) (hq := j) (lq := i) (by simp) rfl ty48 rfl ty57 rfl (by simp [bnd]) (by simp [bnd,hj]) (by simp [bnd];omega) ?_
 refine .nil ?_
 have hne : ¬ ((i : Int) = j) := by omega
 refine .seq ?_
 refine .goR [] 3 fun K k => ?_;simp;refine k _ ?_;clear k K
 refine .condK fun K1 K2 k1 k2 => ?_;simp [hne];refine k2 ?_;clear k1 k2 K1 K2
 refine .skip (thenQ_normal ?_)
 refine .goR [] 3 fun K k => ?_;simp;refine k _ ?_;clear k K
 refine .seqT 6 (by kernel_rfl) (by kernel_rfl) fun K k => ?_
 simp [show i ≤ es.length by omega,hj];refine k _ _ ?_;clear k K
 have htk : List.take (es.length - j) (es.drop j) = es.drop j := List.take_of_length_le (by simp)
 refine .cut (mk 33 [] [(0,.ref 1000 0 (i + (es.length - j))),(7,.i es.length)] [(1000,some (.arr 57 1 (es.take i ++ (es.drop j ++ es.drop (i + (es.length - j))))))]) ?_ fun S' hS => AW.sub hS ?_
 ·by_cases hje : j = es.length
  ·have hdn : es.drop j = [] := by rw [hje];simp
   refine Chain.appNo (id := 1000) (len := i) (es := es) (te := ⟨_,1,24,_⟩) (by simp) rfl rfl rfl rfl ty48 rfl ty57 rfl rfl (by simp [srcV,hje]) (by omega) (by omega) ?_
   refine .rr 1 ?_
   refine .nil ?_
   exact Sub.table (by simp [hje]) (by simp [hje])
  ·refine Chain.appIn (id := 1000) (len := i) (es := es) (ys := es.drop j) (te := ⟨_,1,24,_⟩) (by simp) rfl rfl rfl rfl ty48 rfl ty57 rfl rfl (by simp [srcV,show j + (es.length - j) ≤ es.length by omega]) (fun y hy => hes y (List.mem_of_mem_drop hy)) (by simp;omega) (by simp;omega) ?_
   refine .rr 1 ?_
   refine .nil ?_
   exact Sub.table (by simp) (by simp)
 have hl2 : (es.take i ++ (es.drop j ++ es.drop (i + (es.length - j)))).length = es.length := by simp;omega
 have hes2 : ∀ x ∈ (es.take i ++ (es.drop j ++ es.drop (i + (es.length - j)))),x.length = 1 := fun x hx => by
  rcases List.mem_append.1 hx with hx | hx
  ·exact hes x (List.mem_of_mem_take hx)
  ·rcases List.mem_append.1 hx with hx | hx
   ·exact hes x (List.mem_of_mem_drop hx)
   ·exact hes x (List.mem_of_mem_drop hx)
 have htk2 : (es.take i ++ (es.drop j ++ es.drop (i + (es.length - j)))).take (i + (es.length - j)) = es.take i ++ es.drop j := by
  rw [← List.append_assoc]
  exact List.take_left' (by simp;omega)
 generalize (es.take i ++ (es.drop j ++ es.drop (i + (es.length - j)))) = es2 at hl2 hes2 htk2 ⊢
 refine .seqR ?_
 refine .rr 4 ?_
 refine Chain.sliceX (id := 1000) (off := 0) (len := i + (es.length - j)) (es := es2) (hq := es.length) (lq := i + (es.length - j)) (te := ⟨_,1,24,_⟩) (by simp) rfl ty48 rfl ty57 rfl rfl (by omega) (by omega) (by simp [bnd,hl2]) (by simp [bnd];omega) ?_
 simp
 refine Chain.clear (id := 1000) (off := i + (es.length - j)) (len := es.length - (i + (es.length - j))) (es := es2) (te := ⟨_,1,24,_⟩) (by simp) rfl rfl rfl rfl ty48 rfl ty57 (by simp) (by simp) rfl rfl (by omega) (by omega) ?_
 simp
 refine .nil ?_
 refine .goR [] 2 fun K k => ?_;simp;refine k _ ?_;clear k K
 have hcl : ∀ zs : List (List D),List.take (i + (es.length - j)) (es.take i ++ (es.drop j ++ zs)) = es.take i ++ es.drop j := fun zs => by
  rw [← List.append_assoc]
  exact List.take_left' (by simp;omega)
 refine .sub (.cut 1000 (i + (es.length - j)) rfl) ?_
 refine .sub (S' := mk 33 [] [(6,.ref 1000 0 (i + (es.length - j)))] [(1000,some (.arr 57 1 (es.take i ++ es.drop j)))]) (by simp [htk2];exact Sub.table (by simp) (by simp [hcl])) ?_
 refine .ret ?_
 exact FinF.ret (by simp) (by simp)
end Go.Proofs.YtimkkjiplioohaaGreatDoor
