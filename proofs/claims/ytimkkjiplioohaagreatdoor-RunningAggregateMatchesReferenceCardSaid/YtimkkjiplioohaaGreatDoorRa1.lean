/- Functions of the program as functional programs; the code computes them. -/
import Derived.Test.YtimkkjiplioohaaGreatDoorRa0
import Derived.Test.YtimkkjiplioohaaGreatDoorA4
import Derived.Test.YtimkkjiplioohaaGreatDoorStI
import Derived.Test.YtimkkjiplioohaaGreatDoorStJ
namespace Go.Proofs.YtimkkjiplioohaaGreatDoor
set_option maxRecDepth 100000
set_option maxHeartbeats 4000000
open Go.Ab Go.Rp
attribute [-simp] List.all_eq_true Array.all_toList Array.all_eq_true
def d71 (N : Nat) (a0 : (List S61)) (a1 : S65) : Option (List S61) :=
 Option.bind (α := List S61) (
  iterN (σ := ((List S61) × Int)) (ρ := List S61) (fun ((l7,v8) : ((List S61) × Int)) =>
   if v8 < (a1.Columns.length : Int) then (
    (idx a1.Columns v8).bind fun x27 =>
    (idx a0 x27).bind fun x29 =>
    (appL 32 l7 [x29]).bind fun _l31 =>
    (chkI (v8 + 1)).bind fun v32 =>
    some (.inl ((l7 ++ [x29]),v32))
   ) else
   some (.inr l7)
  ) N (([] : List S61),0)
 ) fun (l25 : List S61) =>
 some l25
theorem p71 (N : Nat) (a0 : (List S61)) (a1 : S65) (r : (List S61)) (h : d71 N a0 a1 = some r) : FunO Tryz.prog 71 [.s61 a0,.agg [.si a1.Columns,.sb a1.Descending]] (.ref 0 0 r.length) (.arr 61 3 (r.map cS61)) := by
 unfold d71 at h
 refine FunO.enter 24 [(0,.s61 a0),(1,.agg [.si a1.Columns,.sb a1.Descending])] Tryz.func71 rfl (of_decide_eq_true rfl) rfl rfl ?_
 refine .seqR ?_
 refine .rr 2 ?_
 refine .tt [(0,.s61 a0),(3,.ptr 3 0 0)] (H27 a1) (.nil (.seqR ?_))
 refine .rr 1 ?_
 refine .tt [(0,.s61 a0),(3,.ptr 3 0 0),(5,.z)] (H27 a1) (.nil (.seq (.seqR ?_)))
 refine .rr 4 ?_
 refine .tt [(0,.s61 a0),(5,.z),(9,.si a1.Columns),(10,.i (a1.Columns.length : Int)),(11,.i 0)] [] (.nil ?_)
 refine .lastN (fun (l25 : List S61) => mk 24 [] [(5,.ref 21 0 l25.length)] [(21,R61 l25)]) h ?_ ?_ <;> clear h
 ·intro o h
  refine .block ?_
  refine .iter (fun ((l7,v8) : ((List S61) × Int)) => mk 24 [] [(0,.s61 a0),(5,.ref 21 0 l7.length),(9,.si a1.Columns),(10,.i (a1.Columns.length : Int)),(11,.i v8)] [(21,R61 l7)]) h (Sub.trans (Sub.nilOwn (t := 5) (id := 21) (T := 61) (n := 3) rfl rfl (by decide)) (by simp;exact Sub.tt)) ?_
  clear h
  rintro ⟨l7,v8⟩ x h
  dsimp only at h ⊢
  refine .seqR ?_
  refine .rr 1 ?_
  refine .tt [(0,.s61 a0),(5,.ref 21 0 l7.length),(9,.si a1.Columns),(10,.i (a1.Columns.length : Int)),(11,.i v8),(12,.b (decide (v8 < (a1.Columns.length : Int))))] [(21,R61 l7)] (.nil (.seq ?_))
  replace h := isome h;rcases h with ⟨c26,h⟩ | ⟨c26,h⟩
  ·have c26_ : decide (v8 < (a1.Columns.length : Int)) = true := decide_eq_true c26
   refine .condT rfl c26_ ?_
   refine .skip (thenQ_normal (.seq (.block (.seqR ?_))))
   replace h := xsome h;obtain ⟨x27,k28,hx27k,hx27,hx27a,hx27b,h⟩ := h
   refine .rk 3 fun K k => ?_;simp [hx27,hx27k,hx27a];refine k ?_
   refine .tt [(0,.s61 a0),(5,.ref 21 0 l7.length),(7,.i x27),(9,.si a1.Columns),(10,.i (a1.Columns.length : Int)),(11,.i v8)] [(21,R61 l7)] (.nil (.region ?_))
   replace h := xsome h;obtain ⟨x29,k30,hx29k,hx29,hx29a,hx29b,h⟩ := h
   replace h := bsome h;obtain ⟨l31,hl31,h⟩ := h
   obtain ⟨hl31a,hl31⟩ := appL_some hl31
   subst hl31
   try simp only [List.length_cons,List.length_nil,Nat.zero_add] at hl31a
   refine .runK [20] 8 fun K k => ?_;simp [hx29,hx29k,hx29a,hl31a];refine k _ _ ?_;clear k K
   refine .tt [(0,.s61 a0),(5,.ref 21 0 ((l7 ++ [x29]).length)),(9,.si a1.Columns),(10,.i (a1.Columns.length : Int)),(11,.i v8)] [(21,R61 (l7 ++ [x29]))] (.nil (blockQ.normal (thenQ_normal (.region ?_))))
   replace h := csome h;obtain ⟨v32,hv32,h⟩ := h
   refine .rk 2 fun K k => ?_;simp [hv32];refine k ?_
   refine .tt [(0,.s61 a0),(5,.ref 21 0 ((l7 ++ [x29]).length)),(9,.si a1.Columns),(10,.i (a1.Columns.length : Int)),(11,.i v32)] [(21,R61 (l7 ++ [x29]))] (.nil ?_)
   cases h
   refine PostI.next ?_
   exact Sub.tt
  have c26_ : decide (v8 < (a1.Columns.length : Int)) = false := decide_eq_false c26
  refine .condF rfl c26_ ?_
  refine .exit ?_
  cases h
  refine thenQ_ps ?_
  refine PostI.os ?_
  rintro rfl
  refine blockQ.hit (PostN.next ?_)
  exact Sub.tt
 rintro l25 h
 refine thenQ_normal (.seqR ?_)
 refine .rr 2 ?_
 refine .tt [(4,.ref 21 0 l25.length)] [(21,R61 l25)] (.nil (.ret ?_))
 obtain rfl := Option.some.inj h
 exact FinO.ret (.ref 21 0 l25.length) 21 (by simp) (by simp) (by simp) (by simp) rfl
def d131 (_N : Nat) (a0 : S61) (a1 : S61) : Option Bool :=
 if (a0.Kind != a1.Kind) then (
  some (decide (a0.Kind < a1.Kind))
 ) else
 if (a0.Int != a1.Int) then (
  some (decide (a0.Int < a1.Int))
 ) else
 some (Op.bytesLess a0.Text.toList a1.Text.toList)
theorem p131 (N : Nat) (a0 : S61) (a1 : S61) (r : Bool) (h : d131 N a0 a1 = some r) : FunC Tryz.prog 131 [.agg [.i a0.Kind,.i a0.Int,.s a0.Text],.agg [.i a1.Kind,.i a1.Int,.s a1.Text]] (.b r) := by
 unfold d131 at h
 refine FunC.enter 32 [(0,.agg [.i a0.Kind,.i a0.Int,.s a0.Text]),(1,.agg [.i a1.Kind,.i a1.Int,.s a1.Text])] (by simp) Tryz.func131 rfl (of_decide_eq_true rfl) rfl rfl ?_
 refine .seqR ?_
 refine .rr 3 ?_
 refine .tt [(2,.ptr 2 0 0),(3,.ptr 3 0 0)] (H24 a0 a1) (.nil (.seq (.block (.seqR ?_))))
 refine .rr 6 ?_
 refine .tt [(2,.ptr 2 0 0),(3,.ptr 3 0 0),(5,.b (a0.Kind != a1.Kind))] (H24 a0 a1) (.nil ?_)
 replace h := isome h;rcases h with ⟨c1,h⟩ | ⟨c1,h⟩
 ·have c1_ : (a0.Kind != a1.Kind) = true := c1
  refine .condT rfl c1_ ?_
  refine .seqR ?_
  refine .rr 6 ?_
  refine .tt [(4,.b (decide (a0.Kind < a1.Kind)))] [] (.nil (.ret ?_))
  cases h
  refine blockQ.ret ?_
  refine thenQ_ps ?_
  exact FinC.rs
 have c1_ : (a0.Kind != a1.Kind) = false := Bool.eq_false_iff.2 c1
 refine .condF rfl c1_ ?_
 refine .seqR ?_
 refine .rr 6 ?_
 refine .tt [(2,.ptr 2 0 0),(3,.ptr 3 0 0),(16,.b (a0.Int != a1.Int))] (H24 a0 a1) (.nil ?_)
 replace h := isome h;rcases h with ⟨c2,h⟩ | ⟨c2,h⟩
 ·have c2_ : (a0.Int != a1.Int) = true := c2
  refine .condT rfl c2_ ?_
  refine .seqR ?_
  refine .rr 6 ?_
  refine .tt [(4,.b (decide (a0.Int < a1.Int)))] [] (.nil (.ret ?_))
  cases h
  refine blockQ.ret ?_
  refine thenQ_ps ?_
  exact FinC.rs
 have c2_ : (a0.Int != a1.Int) = false := Bool.eq_false_iff.2 c2
 refine .condF rfl c2_ ?_
 refine .skip (blockQ.normal (thenQ_normal (.seqR ?_)))
 refine .rr 6 ?_
 refine .tt [(4,.b (Op.bytesLess a0.Text.toList a1.Text.toList))] [] (.nil (.ret ?_))
 cases h
 exact FinC.rs
def d102 (N : Nat) (a0 : (List S61)) (a1 : (List S61)) (a2 : (List Bool)) : Option Int :=
 bindO (β := Unit) (ρ := Int) (
  iterN (σ := Int) (ρ := (Out Unit Int)) (fun (v22 : Int) =>
   if v22 < (a0.length : Int) then (
    Option.bind (α := Bool) (
     if v22 ≥ (a1.length : Int) then (
      some true
     ) else
     (idx a0 v22).bind fun x79 =>
     (idx a1 v22).bind fun x81 =>
     some (beqS61 x79 x81)
    ) fun (v77 : Bool) =>
    if v77 = true then (
     (chkI (v22 + 1)).bind fun v83 =>
     some (.inl v83)
    ) else
    (idx a0 v22).bind fun x84 =>
    (idx a1 v22).bind fun x86 =>
    (d131 N x84 x86).bind fun r87 =>
    Option.bind (α := Bool) (
     if v22 < (a2.length : Int) then (
      (idx a2 v22).bind fun x92 =>
      some x92
     ) else
     some false
    ) fun (v90 : Bool) =>
    if v90 = true then (
     if (!r87) = true then (
      some (.inr (.ret (-1)))
     ) else
     some (.inr (.ret 1))
    ) else
    if r87 = true then (
     some (.inr (.ret (-1)))
    ) else
    some (.inr (.ret 1))
   ) else
   some (.inr (.go ()))
  ) N 0
 ) fun (_ : Unit) =>
 some 0
theorem p102 (N : Nat) (a0 : (List S61)) (a1 : (List S61)) (a2 : (List Bool)) (r : Int) (h : d102 N a0 a1 a2 = some r) : FunC Tryz.prog 102 [.s61 a0,.s61 a1,.sb a2] (.i r) := by
 unfold d102 at h
 refine FunC.enter 52 [(0,.s61 a0),(1,.s61 a1),(2,.sb a2)] (by simp) Tryz.func102 rfl (of_decide_eq_true rfl) rfl rfl ?_
 refine .seqR ?_
 refine .rr 1 ?_
 refine .tt (L1 a0 a1 ++ [(2,.sb a2)]) [] (.nil (.seq (.seqR ?_)))
 refine .rr 3 ?_
 refine .tt (L1 a0 a1 ++ [(2,.sb a2),(10,.i (a0.length : Int)),(11,.i 0)]) [] (.nil ?_)
 refine .lastJ (fun (_ : Unit) => mk 52 [] [] []) h ?_ ?_ <;> clear h
 ·intro o h
  refine .block ?_
  refine .iter (fun (v22 : Int) => mk 52 [] (L2 a0 a1 a2 a0.length v22) []) h Sub.tt ?_
  clear h
  rintro v22 x h
  refine .seqR ?_
  refine .rr 1 ?_
  refine .tt (L2 a0 a1 a2 a0.length v22 ++ [(12,.b (decide (v22 < (a0.length : Int))))]) [] (.nil (.seq ?_))
  replace h := isome h;rcases h with ⟨c72,h⟩ | ⟨c72,h⟩
  ·have c72_ : decide (v22 < (a0.length : Int)) = true := decide_eq_true c72
   refine .condT rfl c72_ ?_
   refine .skip (thenQ_normal (.seq (.block (.seqR ?_))))
   refine .rr 2 ?_
   refine .tt (L3 a0 a1 a2 v22 a0.length) [] (.nil (.seq ?_))
   replace h := bsome h;obtain ⟨v77,hj,h⟩ := h
   refine .cutQ (by kernel_rfl) (by kernel_rfl) (mk 52 [] (L3 a0 a1 a2 v22 a0.length ++ [(28,.b v77)]) []) ?_ ?_
   ·clear h;have h := hj;clear hj
    refine .rq 5 fun K k => ?_;simp;refine k ?_
    refine .tt (L3 a0 a1 a2 v22 a0.length ++ [(18,.b (decide (v22 ≥ (a1.length : Int))))]) [] ?_
    replace h := isome h;rcases h with ⟨c78,h⟩ | ⟨c78,h⟩
    ·have c78_ : decide (v22 ≥ (a1.length : Int)) = true := decide_eq_true c78
     refine .sub (.bool 18 rfl c78_) ?_
     refine .st (mk 52 [] (L3 a0 a1 a2 v22 a0.length ++ [(18,.b true)]) []) ?_
     refine .rq 10 fun K k => ?_;simp;refine k ?_
     refine .tt (L3 a0 a1 a2 v22 a0.length ++ [(19,.tup []),(20,.tup []),(21,.tup []),(22,.tup []),(23,.tup []),(24,.tup []),(25,.tup []),(26,.tup []),(27,.tup []),(28,.b true)]) [] ?_
     cases h
     exact .nil .tt
    have c78_ : decide (v22 ≥ (a1.length : Int)) = false := decide_eq_false c78
    refine .sub (.bool 18 rfl c78_) ?_
    refine .st (mk 52 [] (L4 a0 a1 a2 v22 a0.length) []) ?_
    replace h := xsome h;obtain ⟨x79,k80,hx79k,hx79,hx79a,hx79b,h⟩ := h
    replace h := bsome h;obtain ⟨x81,hx81,h⟩ := h
    obtain ⟨hx81,hx81a,hx81b⟩ := idx_some2 hx81 hx79k
    refine .rq 8 fun K k => ?_;simp [hx79,hx79a,hx81,hx79k];refine k ?_
    refine .tt (L4 a0 a1 a2 v22 a0.length ++ [(19,.s61 a0),(20,.i v22),(21,.d (.pim [.lit (.int .i64 x79.Kind),.lit (.int .i64 x79.Int),.lit (.string x79.Text)])),(22,.agg [.i x79.Kind,.i x79.Int,.s x79.Text]),(23,.s61 a1),(24,.i v22),(25,.d (.pim [.lit (.int .i64 x81.Kind),.lit (.int .i64 x81.Int),.lit (.string x81.Text)])),(26,.agg [.i x81.Kind,.i x81.Int,.s x81.Text])]) [] ?_
    refine .pureP (by simp) (pure_eqA false rfl rfl rfl rfl (by kernel_rfl) (eqv61 x79 x81)) ?_
    refine .st (mk 52 [] (L4 a0 a1 a2 v22 a0.length ++ [(19,.s61 a0),(20,.i v22),(21,.d (.pim [.lit (.int .i64 x79.Kind),.lit (.int .i64 x79.Int),.lit (.string x79.Text)])),(22,.agg [.i x79.Kind,.i x79.Int,.s x79.Text]),(23,.s61 a1),(24,.i v22),(25,.d (.pim [.lit (.int .i64 x81.Kind),.lit (.int .i64 x81.Int),.lit (.string x81.Text)])),(26,.agg [.i x81.Kind,.i x81.Int,.s x81.Text]),(27,.b (beqS61 x79 x81))]) []) ?_
    refine .rq 1 fun K k => ?_;simp;refine k ?_
    refine .tt (L3 a0 a1 a2 v22 a0.length ++ [(19,.s61 a0),(20,.i v22),(21,.d (.pim [.lit (.int .i64 x79.Kind),.lit (.int .i64 x79.Int),.lit (.string x79.Text)])),(22,.agg [.i x79.Kind,.i x79.Int,.s x79.Text]),(23,.s61 a1),(24,.i v22),(25,.d (.pim [.lit (.int .i64 x81.Kind),.lit (.int .i64 x81.Int),.lit (.string x81.Text)])),(26,.agg [.i x81.Kind,.i x81.Int,.s x81.Text]),(27,.b (beqS61 x79 x81)),(28,.b (beqS61 x79 x81))]) [] ?_
    cases h
    exact .nil .tt
   clear hj
   replace h := isome h;rcases h with ⟨c82,h⟩ | ⟨c82,h⟩
   ·have c82_ : v77 = true := c82
    refine .condT rfl c82_ ?_
    refine .exit ?_
    refine thenQ_ps ?_
    refine blockQ.hit (thenQ_normal (.region ?_))
    replace h := csome h;obtain ⟨v83,hv83,h⟩ := h
    refine .rk 2 fun K k => ?_;simp [hv83];refine k ?_
    refine .tt (L2 a0 a1 a2 a0.length v83) [] (.nil ?_)
    cases h
    refine PostI.next ?_
    exact Sub.tt
   have c82_ : v77 = false := Bool.eq_false_iff.2 c82
   refine .condF rfl c82_ ?_
   refine .skip (thenQ_normal ?_)
   refine .seqQ (by kernel_rfl) (by kernel_rfl) ?_
   replace h := xsome h;obtain ⟨x84,k85,hx84k,hx84,hx84a,hx84b,h⟩ := h
   replace h := bsome h;obtain ⟨x86,hx86,h⟩ := h
   obtain ⟨hx86,hx86a,hx86b⟩ := idx_some2 hx86 hx84k
   refine .rq 8 fun K k => ?_;simp [hx84,hx84a,hx86,hx84k];refine k ?_
   refine .tt [(2,.sb a2),(7,.i v22),(32,.agg [.i x84.Kind,.i x84.Int,.s x84.Text]),(36,.agg [.i x86.Kind,.i x86.Int,.s x86.Text])] [] ?_
   replace h := bsome h;obtain ⟨r87,hr87,h⟩ := h
   refine .callL (d := 37) (p131 N x84 x86 r87 hr87) (by simp) rfl rfl (by simp <;> rfl) (by simp <;> rfl) ent131 (by simp <;> rfl) ?_
   refine .st (mk 52 [] [(2,.sb a2),(7,.i v22),(32,.agg [.i x84.Kind,.i x84.Int,.s x84.Text]),(36,.agg [.i x86.Kind,.i x86.Int,.s x86.Text]),(37,.b r87)] []) ?_
   refine .rq 1 fun K k => ?_;simp;refine k ?_
   refine .tt [(2,.sb a2),(7,.i v22),(8,.b r87)] [] (.nil (.seq ?_))
   replace h := bsome h;obtain ⟨v90,hj,h⟩ := h
   refine .cutR (mk 52 [] [(8,.b r87),(47,.b v90)] []) ?_ ?_
   ·clear h;have h := hj;clear hj
    refine .rr 5 ?_
    refine .tt [(2,.sb a2),(7,.i v22),(8,.b r87),(42,.b (decide (v22 < (a2.length : Int))))] [] ?_
    replace h := isome h;rcases h with ⟨c91,h⟩ | ⟨c91,h⟩
    ·have c91_ : decide (v22 < (a2.length : Int)) = true := decide_eq_true c91
     refine .sub (.bool 42 rfl c91_) ?_
     refine .st (mk 52 [] [(2,.sb a2),(7,.i v22),(8,.b r87),(42,.b true)] []) ?_
     replace h := bsome h;obtain ⟨x92,hx92,h⟩ := h
     obtain ⟨hx92,hx92a,hx92b⟩ := idx_some2 hx92 hx84k
     refine .rk 5 fun K k => ?_;simp [hx92,hx84k,hx92a];refine k ?_
     refine .tt [(8,.b r87),(47,.b x92)] [] ?_
     cases h
     exact .nil .tt
    have c91_ : decide (v22 < (a2.length : Int)) = false := decide_eq_false c91
    refine .sub (.bool 42 rfl c91_) ?_
    refine .st (mk 52 [] [(2,.sb a2),(7,.i v22),(8,.b r87),(42,.b false)] []) ?_
    refine .rr 5 ?_
    refine .tt [(8,.b r87),(47,.b false)] [] ?_
    cases h
    exact .nil .tt
   clear hj
   replace h := isome h;rcases h with ⟨c93,h⟩ | ⟨c93,h⟩
   ·have c93_ : v90 = true := c93
    refine .condT rfl c93_ ?_
    refine .region ?_
    refine .rr 3 ?_
    refine .tt [(8,.b (!r87))] [] (.nil (thenQ_normal (.seq (.seqR ?_))))
    refine .rr 1 ?_
    refine .tt [(50,.b (!r87))] [] (.nil ?_)
    replace h := isome h;rcases h with ⟨c94,h⟩ | ⟨c94,h⟩
    ·have c94_ : (!r87) = true := c94
     refine .condT rfl c94_ ?_
     refine .seqR ?_
     refine .rr 1 ?_
     refine .tt [(6,.i (-1))] [] (.nil (.ret ?_))
     cases h
     refine thenQ_ps ?_
     refine blockQ.ret ?_
     refine thenQ_ps ?_
     refine PostI.os ?_
     rintro rfl
     refine blockQ.ret ?_
     refine PostJ.out (by simp) ?_
     rintro rfl
     refine thenQ_ps ?_
     exact FinC.rs
    have c94_ : (!r87) = false := Bool.eq_false_iff.2 c94
    refine .condF rfl c94_ ?_
    refine .skip (thenQ_normal (.seqR ?_))
    refine .rr 1 ?_
    refine .tt [(6,.i 1)] [] (.nil (.ret ?_))
    cases h
    refine blockQ.ret ?_
    refine thenQ_ps ?_
    refine PostI.os ?_
    rintro rfl
    refine blockQ.ret ?_
    refine PostJ.out (by simp) ?_
    rintro rfl
    refine thenQ_ps ?_
    exact FinC.rs
   have c93_ : v90 = false := Bool.eq_false_iff.2 c93
   refine .condF rfl c93_ ?_
   refine .skip (thenQ_normal (.seq (.seqR ?_)))
   refine .rr 1 ?_
   refine .tt [(50,.b r87)] [] (.nil ?_)
   replace h := isome h;rcases h with ⟨c95,h⟩ | ⟨c95,h⟩
   ·have c95_ : r87 = true := c95
    refine .condT rfl c95_ ?_
    refine .seqR ?_
    refine .rr 1 ?_
    refine .tt [(6,.i (-1))] [] (.nil (.ret ?_))
    cases h
    refine thenQ_ps ?_
    refine blockQ.ret ?_
    refine thenQ_ps ?_
    refine PostI.os ?_
    rintro rfl
    refine blockQ.ret ?_
    refine PostJ.out (by simp) ?_
    rintro rfl
    refine thenQ_ps ?_
    exact FinC.rs
   have c95_ : r87 = false := Bool.eq_false_iff.2 c95
   refine .condF rfl c95_ ?_
   refine .skip (thenQ_normal (.seqR ?_))
   refine .rr 1 ?_
   refine .tt [(6,.i 1)] [] (.nil (.ret ?_))
   cases h
   refine blockQ.ret ?_
   refine thenQ_ps ?_
   refine PostI.os ?_
   rintro rfl
   refine blockQ.ret ?_
   refine PostJ.out (by simp) ?_
   rintro rfl
   refine thenQ_ps ?_
   exact FinC.rs
  have c72_ : decide (v22 < (a0.length : Int)) = false := decide_eq_false c72
  refine .condF rfl c72_ ?_
  refine .exit ?_
  cases h
  refine thenQ_ps ?_
  refine PostI.os ?_
  rintro rfl
  refine blockQ.hit (PostJ.next ?_)
  exact Sub.tt
 rintro ⟨⟩ h
 refine thenQ_normal (.seqR ?_)
 refine .rr 1 ?_
 refine .tt [(6,.i 0)] [] (.nil (.ret ?_))
 cases h
 exact FinC.rs
def d70 (N : Nat) (a0 : (List S61)) (a1 : (List S61)) (a2 : S65) : Option Int :=
 (d71 N a0 a2).bind fun r1 =>
 (d71 N a1 a2).bind fun r2 =>
 (d102 N r1 r2 a2.Descending).bind fun r3 =>
 some r3
theorem p70 (N : Nat) (a0 : (List S61)) (a1 : (List S61)) (a2 : S65) (r : Int) (h : d70 N a0 a1 a2 = some r) : FunC Tryz.prog 70 [.s61 a0,.s61 a1,.agg [.si a2.Columns,.sb a2.Descending]] (.i r) := by
 unfold d70 at h
 refine FunC.enter 16 [(0,.s61 a0),(1,.s61 a1),(2,.agg [.si a2.Columns,.sb a2.Descending])] (by simp) Tryz.func70 rfl (of_decide_eq_true rfl) rfl rfl ?_
 refine .seqR ?_
 refine .rr 2 ?_
 refine .tt (L1 a0 a1 ++ [(5,.ptr 5 0 0)]) [(5,some (.box [.si a2.Columns,.sb a2.Descending]))] (.nil ?_)
 replace h := bsome h;obtain ⟨r1,hr1,h⟩ := h
 replace h := bsome h;obtain ⟨r2,hr2,h⟩ := h
 replace h := bsome h;obtain ⟨r3,hr3,h⟩ := h
 refine .seqAnyS [[],[],[0,1],[],[],[0,1,2,3,4],[],[6],[0,1,2,3,4,5,6,7],[0,1,2,3,4,5,6,7,8]] (fun (b : Nat → Bool) => mk 16 [] [(0,.s61 a0),(1,.s61 a1),(5,.ptr 5 0 0),(6,(if b 9 then .i r3 else .junk)),(7,(if b 0 then .s61 a0 else .junk)),(8,(if b 1 then .agg [.si a2.Columns,.sb a2.Descending] else .junk)),(9,(if b 2 then .s61 r1 else .junk)),(10,(if b 3 then .s61 a1 else .junk)),(11,(if b 4 then .agg [.si a2.Columns,.sb a2.Descending] else .junk)),(12,(if b 5 then .s61 r2 else .junk)),(13,(if b 6 then .ptr 5 0 1 else .junk)),(14,(if b 7 then .sb a2.Descending else .junk)),(15,(if b 8 then .i r3 else .junk))] [(5,some (.box [.si a2.Columns,.sb a2.Descending]))]) (mk 16 [] [(6,.i r3)] []) (by kernel_rfl) (by kernel_rfl) Sub.tt (Steps.cons ?_ (Steps.cons ?_ (Steps.cons ?_ (Steps.cons ?_ (Steps.cons ?_ (Steps.cons ?_ (Steps.cons ?_ (Steps.cons ?_ (Steps.cons ?_ (Steps.cons ?_ (Steps.nil))))))))))) ?_ ?_
 iterate 2
  ·intro b h0 ha hd
   have T := fct h0 ha hd;simp at T
   refine .rk 1 fun K k => ?_;simp [T];refine k ?_
   exact .nil .tT
 ·intro b h0 ha hd
  have T := fct h0 ha hd;simp at T
  simp only [T,if_true,if_false,Bool.false_eq_true]
  refine .callO (d := 9) (p71 N a0 a2 r1 hr1) (by simp) rfl rfl (by simp <;> rfl) (by simp <;> rfl) ent71 (by simp) ⟨by simp,by simp⟩ ?_
  simp only [mk_kill,mk_setH]
  rw [mk_put (by decide)]
  refine .sub (.freeze 9 rfl) ?_
  exact .nil (by simp [↓frz_ite,T];exact Sub.table (by simp) (by simp))
 iterate 2
  ·intro b h0 ha hd
   have T := fct h0 ha hd;simp at T
   refine .rk 1 fun K k => ?_;simp [T];refine k ?_
   exact .nil .tT
 ·intro b h0 ha hd
  have T := fct h0 ha hd;simp at T
  simp only [T,if_true,if_false,Bool.false_eq_true]
  refine .callO (d := 12) (p71 N a1 a2 r2 hr2) (by simp) rfl rfl (by simp <;> rfl) (by simp <;> rfl) ent71 (by simp) ⟨by simp,by simp⟩ ?_
  simp only [mk_kill,mk_setH]
  rw [mk_put (by decide)]
  refine .sub (.freeze 12 rfl) ?_
  exact .nil (by simp [↓frz_ite,T];exact Sub.table (by simp) (by simp))
 iterate 2
  ·intro b h0 ha hd
   have T := fct h0 ha hd;simp at T
   refine .rk 1 fun K k => ?_;simp [T];refine k ?_
   exact .nil .tT
 ·intro b h0 ha hd
  have T := fct h0 ha hd;simp at T
  simp only [T,if_true,if_false,Bool.false_eq_true]
  refine .callL (d := 15) (p102 N r1 r2 a2.Descending r3 hr3) (by simp) rfl rfl (by simp <;> rfl) (by simp <;> rfl) ent102 (by simp <;> rfl) ?_
  exact .nil (by simp [T];exact Sub.tT)
 ·intro b h0 ha hd
  have T := fct h0 ha hd;simp at T
  refine .rk 1 fun K k => ?_;simp [T];refine k ?_
  exact .nil .tT
 ·intro b hb
  have T := FA_of (n := 10) hb;simp at T
  exact Sub.tT
 skip
 refine .ret ?_
 cases h
 exact FinC.rs
def d285 (N : Nat) (a0 : S187) (a1 : Int) (a2 : Int) : Option Bool :=
 (idx a0.l a1).bind fun x1 =>
 (idx a0.l a2).bind fun x3 =>
 (d70 N x1.row x3.row a0.by_).bind fun r5 =>
 Option.bind (α := Bool) (
  if r5 < 0 then (
   some true
  ) else
  if (r5 == 0) then (
   some (decide (x1.run < x3.run))
  ) else
  some false
 ) fun (v8 : Bool) =>
 some v8
theorem p285 (N : Nat) (a0 : S187) (a1 : Int) (a2 : Int) (r : Bool) (h : d285 N a0 a1 a2 = some r) : FunC Tryz.prog 285 [.d (.pim [.sl (a0.by_.Columns.map (cI .i64)),.sl (a0.by_.Descending.map cB),.sl (a0.l.map cS189)]),.i a1,.i a2] (.b r) := by
 unfold d285 at h
 refine FunC.enter 54 [(0,.d (.pim [.sl (a0.by_.Columns.map (cI .i64)),.sl (a0.by_.Descending.map cB),.sl (a0.l.map cS189)])),(1,.i a1),(2,.i a2)] (by simp) Tryz.func285 rfl (of_decide_eq_true rfl) rfl rfl ?_
 refine .seqR ?_
 refine .rr 1 ?_
 refine .tt (L5 a0.by_.Columns a0.by_.Descending a0.l a1 a2) [] (.nil ?_)
 refine .seqQ (by kernel_rfl) (by kernel_rfl) ?_
 replace h := xsome h;obtain ⟨x1,k2,hx1k,hx1,hx1a,hx1b,h⟩ := h
 replace h := xsome h;obtain ⟨x3,k4,hx3k,hx3,hx3a,hx3b,h⟩ := h
 refine .rq 20 fun K k => ?_;simp [hx1,hx1k,hx1a,hx3,hx3k,hx3a];refine k ?_
 refine .tt (L5 a0.by_.Columns a0.by_.Descending a0.l a1 a2 ++ [(15,.s61 x1.row),(23,.s61 x3.row),(27,.agg [.si a0.by_.Columns,.sb a0.by_.Descending])]) [] ?_
 replace h := bsome h;obtain ⟨r5,hr5,h⟩ := h
 refine .callL (d := 28) (p70 N x1.row x3.row a0.by_ r5 hr5) (by simp) rfl rfl (by simp <;> rfl) (by simp <;> rfl) ent70 (by simp <;> rfl) ?_
 refine .st (mk 54 [] (L5 a0.by_.Columns a0.by_.Descending a0.l a1 a2 ++ [(15,.s61 x1.row),(23,.s61 x3.row),(27,.agg [.si a0.by_.Columns,.sb a0.by_.Descending]),(28,.i r5)]) []) ?_
 refine .rq 1 fun K k => ?_;simp;refine k ?_
 refine .tt (L6 a0.by_.Columns a0.by_.Descending a0.l a1 a2 r5) [] (.nil ?_)
 replace h := bsome h;obtain ⟨v8,hj,h⟩ := h
 refine .cutQ (by kernel_rfl) (by kernel_rfl) (mk 54 [] [(6,.b v8)] []) ?_ ?_
 ·clear h;have h := hj;clear hj
  refine .rq 3 fun K k => ?_;simp;refine k ?_
  refine .tt (L6 a0.by_.Columns a0.by_.Descending a0.l a1 a2 r5 ++ [(31,.b (decide (r5 < 0)))]) [] ?_
  replace h := isome h;rcases h with ⟨c9,h⟩ | ⟨c9,h⟩
  ·have c9_ : decide (r5 < 0) = true := decide_eq_true c9
   refine .sub (.bool 31 rfl c9_) ?_
   refine .st (mk 54 [] (L6 a0.by_.Columns a0.by_.Descending a0.l a1 a2 r5 ++ [(31,.b true)]) []) ?_
   refine .rq 23 fun K k => ?_;simp;refine k ?_
   refine .tt [(6,.b true)] [] ?_
   cases h
   exact .nil .tt
  have c9_ : decide (r5 < 0) = false := decide_eq_false c9
  refine .sub (.bool 31 rfl c9_) ?_
  refine .st (mk 54 [] (L6 a0.by_.Columns a0.by_.Descending a0.l a1 a2 r5 ++ [(31,.b false)]) []) ?_
  refine .rq 3 fun K k => ?_;simp;refine k ?_
  refine .tt (L7 a0.by_.Columns a0.by_.Descending a0.l a1 a2 ++ [(34,.b (r5 == 0))]) [] ?_
  replace h := isome h;rcases h with ⟨c10,h⟩ | ⟨c10,h⟩
  ·have c10_ : (r5 == 0) = true := c10
   refine .sub (.bool 34 rfl c10_) ?_
   refine .st (mk 54 [] (L7 a0.by_.Columns a0.by_.Descending a0.l a1 a2 ++ [(34,.b true)]) []) ?_
   refine .rq 20 fun K k => ?_;simp [hx1,hx1k,hx1a,hx3,hx3k,hx3a];refine k ?_
   refine .tt [(6,.b (decide (x1.run < x3.run)))] [] ?_
   cases h
   exact .nil .tt
  have c10_ : (r5 == 0) = false := Bool.eq_false_iff.2 c10
  refine .sub (.bool 34 rfl c10_) ?_
  refine .st (mk 54 [] (L7 a0.by_.Columns a0.by_.Descending a0.l a1 a2 ++ [(34,.b false)]) []) ?_
  refine .rq 20 fun K k => ?_;simp;refine k ?_
  refine .tt [(6,.b false)] [] ?_
  cases h
  exact .nil .tt
 clear hj
 refine .ret ?_
 cases h
 exact FinC.rs
def d286 (_N : Nat) (a0 : S187) : Option (S187 × S189) :=
 (chkI ((a0.l.length : Int) - 1)).bind fun v1 =>
 (idx a0.l v1).bind fun x2 =>
 (chkI ((a0.l.length : Int) - 1)).bind fun v4 =>
 (natI v4 a0.l.length).bind fun n5 =>
 some ((S187.mk a0.by_ (a0.l.take n5)),x2)
theorem p286 (N : Nat) (a0 : S187) (r : (S187 × S189)) (h : d286 N a0 = some r) : FunM Tryz.prog 286 [.ptr 1000 0 0] [(1000, some (.box [.si a0.by_.Columns, .sb a0.by_.Descending, .ref 25002 0 a0.l.length])), (25002, R189 a0.l)] [1000] (.fn (.methodOf 189 "") [.agg [.s61 r.2.row, .i r.2.run, .ls61 r.2.rest]]) ([(1000, (.box [.si r.1.by_.Columns, .sb r.1.by_.Descending, .ref 25002 0 r.1.l.length])), (25002, (.arr 189 3 (r.1.l.map cS189)))]) := by
 unfold d286 at h
 refine FunM.enter 32 [(0,.ptr 1000 0 0)] Tryz.func286 rfl (of_decide_eq_true rfl) rfl rfl ?_
 refine .seqR ?_
 refine .rr 1 ?_
 refine .tt [(0,.ptr 1000 0 0)] (H3 a0) (.nil ?_)
 replace h := csome h;obtain ⟨v1,hv1,h⟩ := h
 replace h := xsome h;obtain ⟨x2,k3,hx2k,hx2,hx2a,hx2b,h⟩ := h
 refine .seqAnyS [[],[0],[0,1],[0,1,2],[],[4],[4,5],[4,5,6],[4,5,6,7],[4,5,6,7,8],[0,1,2,3,4,5,6,7,8,9],[0,1,2,3,4,5,6,7,8,9,10],[],[0,1,2,3,4,5,6,7,8,9,10,11,12]] (fun (b : Nat → Bool) => mk 32 [1000] [(0,.ptr 1000 0 0),(3,(if b 12 then .ptr 3 0 0 else .junk)),(4,(if b 0 then .ptr 1000 0 0 else .junk)),(5,(if b 1 then .ptr 1000 0 0 else .junk)),(6,(if b 2 then .ptr 1000 0 2 else .junk)),(7,(if b 3 then .ref 25002 0 a0.l.length else .junk)),(8,(if b 4 then .ptr 1000 0 0 else .junk)),(9,(if b 5 then .ptr 1000 0 0 else .junk)),(10,(if b 6 then .ptr 1000 0 2 else .junk)),(11,(if b 7 then .ref 25002 0 a0.l.length else .junk)),(12,(if b 8 then .i (a0.l.length : Int) else .junk)),(13,(if b 9 then .i v1 else .junk)),(14,(if b 10 then .ptr 25002 k3 0 else .junk)),(15,(if b 11 then .agg [.s61 x2.row,.i x2.run,.ls61 x2.rest] else .junk))] [(3,(if b 13 then some (.box [.s61 x2.row,.i x2.run,.ls61 x2.rest]) else (if b 12 then some (.box [.z,.i 0,.z]) else none))),(1000,some (.box [.si a0.by_.Columns,.sb a0.by_.Descending,.ref 25002 0 a0.l.length])),(25002,R189 a0.l)]) (mk 32 [1000] [(0,.ptr 1000 0 0),(3,.ptr 3 0 0)] (H42 x2 a0)) (by kernel_rfl) (by kernel_rfl) Sub.tt (Steps.cons ?_ (Steps.cons ?_ (Steps.cons ?_ (Steps.cons ?_ (Steps.cons ?_ (Steps.cons ?_ (Steps.cons ?_ (Steps.cons ?_ (Steps.cons ?_ (Steps.cons ?_ (Steps.cons ?_ (Steps.cons ?_ (Steps.cons ?_ (Steps.cons ?_ (Steps.nil))))))))))))))) ?_ ?_
 iterate 12
  ·intro b h0 ha hd
   have T := fct h0 ha hd;simp at T
   refine .rk 1 fun K k => ?_;simp [T,hv1,hx2,hx2k,hx2a,hx2b];refine k ?_
   exact .nil .tT
 iterate 2
  ·intro b h0 ha hd
   have T := fct h0 ha hd;simp at T
   refine .rk 1 fun K k => ?_;simp [T];refine k ?_
   exact .nil .tT
 ·intro b hb
  have T := FA_of (n := 14) hb;simp at T
  exact Sub.tT
 skip
 replace h := csome h;obtain ⟨v4,hv4,h⟩ := h
 replace h := bsome h;obtain ⟨n5,gn5,h⟩ := h
 obtain ⟨hn5a,hn5⟩ := natI_some gn5
 clear gn5
 subst hn5a
 refine .seqT 14 (by kernel_rfl) (by kernel_rfl) fun K k => ?_;simp [hv4,hn5];refine k _ _ ?_;clear k K
 refine .tt [(3,.ptr 3 0 0),(27,.ref 25002 0 n5),(29,.ptr 1000 0 2)] (H42 x2 a0) ?_
 refine .rr 1 ?_
 refine .tt [(3,.ptr 3 0 0)] [(3,some (.box [.s61 x2.row,.i x2.run,.ls61 x2.rest])),(1000,some (.box [.si a0.by_.Columns,.sb a0.by_.Descending,.ref 25002 0 n5])),(25002,R189 a0.l)] (.nil (.seqR ?_))
 refine .rr 3 ?_
 refine .tt [(2, .fn (.methodOf 189 "") [.agg [.s61 x2.row, .i x2.run, .ls61 x2.rest]])] [(1000, some (.box [.si a0.by_.Columns, .sb a0.by_.Descending, .ref 25002 0 n5])), (25002, R189 a0.l)] (.nil ?_)
 refine .sub (.cut 25002 n5 rfl) ?_
 refine .sub (S' := mk 32 [1000] [(2, .fn (.methodOf 189 "") [.agg [.s61 x2.row, .i x2.run, .ls61 x2.rest]])] [(1000, some (.box [.si a0.by_.Columns, .sb a0.by_.Descending, .ref 25002 0 ((a0.l.take n5).length)])), (25002, R189 (a0.l.take n5))]) (by simp [List.map_take, Nat.min_eq_left hn5]; exact Sub.table (by simp) (by simp)) ?_
 refine .ret ?_
 cases h
 exact FinF.ret (by simp) (by simp)
end Go.Proofs.YtimkkjiplioohaaGreatDoor
