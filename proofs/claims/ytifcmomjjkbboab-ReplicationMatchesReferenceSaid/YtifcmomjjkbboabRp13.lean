/- Functions of the program as functional programs; the code computes them. -/
import Derived.Test.YtifcmomjjkbboabRp12
namespace Go.Proofs.Ytifcmomjjkbboab
open Go.Ab Go.Rp
attribute [-simp] List.all_eq_true Array.all_toList Array.all_eq_true

/-- stemma/stemlaw5.choose[[]int] -/
def d20 (_N : Nat) (a0 : (List (List Int))) (a1 : Int) : Option (List Int) :=
 if ((a0.length : Int) == 0) then (
  some ([] : List Int)
 ) else
 letv (IntKind.u64.wrap (a1)) fun v2 =>
 letv (IntKind.u64.wrap ((a0.length : Int))) fun v3 =>
 (remI v2 v3).bind fun v4 =>
 (chkI (v4)).bind fun v5 =>
 (idx a0 v5).bind fun x6 =>
 some x6
set_option maxRecDepth 100000 in
set_option maxHeartbeats 4000000 in
theorem p20 (N : Nat) (a0 : (List (List Int))) (a1 : Int) (r : (List Int)) (h : d20 N a0 a1 = some r) : FunC Try.prog 20 [.d (.sl (a0.map (cL (cI .i64)))), .i a1] (.d (.sl (r.map (cI .i64)))) := by
 unfold d20 at h
 refine FunC.enter 20 [(0, .d (.sl (a0.map (cL (cI .i64))))), (1, .i a1)] (by simp) Try.func20 rfl (of_decide_eq_true rfl) rfl rfl ?_
 refine .seqR ?_
 refine .runK [] 1 fun K k => ?_; simp; refine k _ _ ?_; clear k K
 refine .tt [(0, .d (.sl (a0.map (cL (cI .i64))))), (1, .i a1)] [] ?_
 refine .nil ?_
 refine .seqR ?_
 refine .runK [] 1 fun K k => ?_; simp; refine k _ _ ?_; clear k K
 refine .tt (L34 a0 a1) [] ?_
 refine .nil ?_
 refine .seq ?_
 refine .seqR ?_
 refine .runK [] 3 fun K k => ?_; simp; refine k _ _ ?_; clear k K
 refine .tt (L34 a0 a1 ++ [(8, .b ((a0.length : Int) == 0))]) [] ?_
 refine .nil ?_
 replace h := isome h; rcases h with ⟨c1, h⟩ | ⟨c1, h⟩
 ·have c1_ : ((a0.length : Int) == 0) = true := c1
  refine .condT (b := ((a0.length : Int) == 0)) rfl c1_ ?_
  refine .sub (.bool 8 (b := ((a0.length : Int) == 0)) rfl c1_) ?_
  refine .st (mk 20 [] (L34 a0 a1 ++ [(8, .b true)]) []) ?_
  refine .seqR ?_
  refine .runK [] 2 fun K k => ?_; simp; refine k _ _ ?_; clear k K
  refine .tt [(4, .d (.lit (.slice none 0 0)))] [] ?_
  refine .nil ?_
  refine .sub (.wk 4 rfl) ?_
  refine .st (mk 20 [] [(4, .d (.sl (([] : List Int).map (cI .i64))))] []) ?_
  refine .ret ?_
  cases h
  refine thenQ_pass (by simp) ?_
  exact FinC.ret (by simp) (by simp)
 have c1_ : ((a0.length : Int) == 0) = false := Bool.eq_false_iff.2 c1
 refine .condF (b := ((a0.length : Int) == 0)) rfl c1_ ?_
 refine .sub (.bool 8 (b := ((a0.length : Int) == 0)) rfl c1_) ?_
 refine .st (mk 20 [] (L34 a0 a1 ++ [(8, .b false)]) []) ?_
 refine .skip ?_
 refine thenQ_normal ?_
 refine .seqR ?_
 replace h := lsome h; obtain ⟨v2, hv2, h⟩ := h
 replace h := lsome h; obtain ⟨v3, hv3, h⟩ := h
 replace h := bsome h; obtain ⟨v4, hv4, h⟩ := h
 obtain ⟨hv4a, hv4⟩ := remI_some hv4
 replace h := bsome h; obtain ⟨v5, hv5, h⟩ := h
 have hv5 := chkI_some hv5
 replace h := bsome h; obtain ⟨x6, hx6, h⟩ := h
 obtain ⟨k7, hx6k, hx6, hx6a, hx6b⟩ := idx_some hx6
 refine .runK [] 11 fun K k => ?_; simp [hv2, hv3, hv4, hv4a, hv5, hx6, hx6k, hx6a]; refine k _ _ ?_; clear k K
 refine .tt [(4, .d (.sl (x6.map (cI .i64))))] [] ?_
 refine .nil ?_
 refine .ret ?_
 cases h
 exact FinC.ret (by simp) (by simp)
/-- slices.Index[[]int,int] -/
def d42 (N : Nat) (a0 : (List Int)) (a1 : Int) : Option Int :=
 bindO (β := Unit) (ρ := Int) (
  iterN (σ := Int) (ρ := (Out Unit Int)) (fun (v5 : Int) =>
   if v5 < (a0.length : Int) then (
    (idx a0 v5).bind fun x18 =>
    if (a1 == x18) then (
     some (.inr (.ret v5))
    ) else
    (chkI (v5 + 1)).bind fun v21 =>
    some (.inl v21)
   ) else
   some (.inr (.go ()))
  ) N 0
 ) fun (_ : Unit) =>
 some (-1)
set_option maxRecDepth 100000 in
set_option maxHeartbeats 4000000 in
theorem p42 (N : Nat) (a0 : (List Int)) (a1 : Int) (r : Int) (h : d42 N a0 a1 = some r) : FunC Try.prog 42 [.d (.sl (a0.map (cI .i64))), .i a1] (.i r) := by
 unfold d42 at h
 refine FunC.enter 19 [(0, .d (.sl (a0.map (cI .i64)))), (1, .i a1)] (by simp) Try.func42 rfl (of_decide_eq_true rfl) rfl rfl ?_
 refine .seqR ?_
 refine .runK [] 1 fun K k => ?_; simp; refine k _ _ ?_; clear k K
 refine .tt [(0, .d (.sl (a0.map (cI .i64)))), (1, .i a1)] [] ?_
 refine .nil ?_
 refine .seq ?_
 refine .seqR ?_
 refine .runK [] 3 fun K k => ?_; simp; refine k _ _ ?_; clear k K
 refine .tt [(0, .d (.sl (a0.map (cI .i64)))), (1, .i a1), (7, .i (a0.length : Int)), (8, .i 0)] [] ?_
 refine .nil ?_
 refine .lastJ (fun (_ : Unit) => mk 19 [] [] []) h ?_ ?_ <;> clear h
 ·intro o h
  refine .block ?_
  refine .iter (fun (v5 : Int) => mk 19 [] (L35 a0 a1 a0.length v5) []) h Sub.tt ?_
  clear h
  rintro v5 x h
  refine .seqR ?_
  refine .runK [] 1 fun K k => ?_; simp; refine k _ _ ?_; clear k K
  refine .tt (L35 a0 a1 a0.length v5 ++ [(9, .b (decide (v5 < (a0.length : Int))))]) [] ?_
  refine .nil ?_
  refine .seq ?_
  replace h := isome h; rcases h with ⟨c17, h⟩ | ⟨c17, h⟩
  ·have c17_ : decide (v5 < (a0.length : Int)) = true := decide_eq_true c17
   refine .condT (b := decide (v5 < (a0.length : Int))) rfl c17_ ?_
   refine .sub (.bool 9 (b := decide (v5 < (a0.length : Int))) rfl c17_) ?_
   refine .st (mk 19 [] (L35 a0 a1 a0.length v5 ++ [(9, .b true)]) []) ?_
   refine .skip ?_
   refine thenQ_normal ?_
   refine .seq ?_
   refine .block ?_
   refine .seqR ?_
   refine .runK [] 2 fun K k => ?_; simp; refine k _ _ ?_; clear k K
   refine .tt (L36 a0 a1 v5 a0.length) [] ?_
   refine .nil ?_
   refine .seqR ?_
   replace h := bsome h; obtain ⟨x18, hx18, h⟩ := h
   obtain ⟨k19, hx18k, hx18, hx18a, hx18b⟩ := idx_some hx18
   refine .runK [] 6 fun K k => ?_; simp [hx18, hx18k, hx18a]; refine k _ _ ?_; clear k K
   refine .tt (L36 a0 a1 v5 a0.length ++ [(16, .b (a1 == x18))]) [] ?_
   refine .nil ?_
   replace h := isome h; rcases h with ⟨c20, h⟩ | ⟨c20, h⟩
   ·have c20_ : (a1 == x18) = true := c20
    refine .condT (b := (a1 == x18)) rfl c20_ ?_
    refine .sub (.bool 16 (b := (a1 == x18)) rfl c20_) ?_
    refine .st (mk 19 [] (L36 a0 a1 v5 a0.length ++ [(16, .b true)]) []) ?_
    refine .seqR ?_
    refine .runK [] 2 fun K k => ?_; simp; refine k _ _ ?_; clear k K
    refine .tt [(4, .i v5)] [] ?_
    refine .nil ?_
    refine .ret ?_
    cases h
    refine blockQ.ret ?_
    refine thenQ_pass (by simp) ?_
    refine PostI.out (by simp) ?_
    rintro rfl
    refine blockQ.ret ?_
    refine PostJ.out (by simp) ?_
    rintro rfl
    refine thenQ_pass (by simp) ?_
    exact FinC.ret (by simp) (by simp)
   have c20_ : (a1 == x18) = false := Bool.eq_false_iff.2 c20
   refine .condF (b := (a1 == x18)) rfl c20_ ?_
   refine .sub (.bool 16 (b := (a1 == x18)) rfl c20_) ?_
   refine .st (mk 19 [] (L36 a0 a1 v5 a0.length ++ [(16, .b false)]) []) ?_
   refine .skip ?_
   refine blockQ.normal ?_
   refine thenQ_normal ?_
   refine .region ?_
   replace h := bsome h; obtain ⟨v21, hv21, h⟩ := h
   have hv21 := chkI_some hv21
   refine .runK [] 2 fun K k => ?_; simp [hv21]; refine k _ _ ?_; clear k K
   refine .tt (L35 a0 a1 a0.length v21) [] ?_
   refine .nil ?_
   cases h
   refine PostI.next ?_
   exact Sub.tt
  have c17_ : decide (v5 < (a0.length : Int)) = false := decide_eq_false c17
  refine .condF (b := decide (v5 < (a0.length : Int))) rfl c17_ ?_
  refine .sub (.bool 9 (b := decide (v5 < (a0.length : Int))) rfl c17_) ?_
  refine .st (mk 19 [] (L35 a0 a1 a0.length v5 ++ [(9, .b false)]) []) ?_
  refine .exit ?_
  cases h
  refine thenQ_pass (by simp) ?_
  refine PostI.out (by simp) ?_
  rintro rfl
  refine blockQ.hit ?_
  refine PostJ.next ?_
  exact Sub.tt
 rintro ⟨⟩ h
 refine thenQ_normal ?_
 refine .seqR ?_
 refine .runK [] 1 fun K k => ?_; simp; refine k _ _ ?_; clear k K
 refine .tt [(4, .i (-1))] [] ?_
 refine .nil ?_
 refine .ret ?_
 cases h
 exact FinC.ret (by simp) (by simp)
/-- slices.Contains[[]int,int] -/
def d32 (N : Nat) (a0 : (List Int)) (a1 : Int) : Option Bool :=
 (d42 N a0 a1).bind fun r1 =>
 some (decide (r1 ≥ 0))
set_option maxRecDepth 100000 in
set_option maxHeartbeats 4000000 in
theorem p32 (N : Nat) (a0 : (List Int)) (a1 : Int) (r : Bool) (h : d32 N a0 a1 = some r) : FunC Try.prog 32 [.d (.sl (a0.map (cI .i64))), .i a1] (.b r) := by
 unfold d32 at h
 refine FunC.enter 9 [(0, .d (.sl (a0.map (cI .i64)))), (1, .i a1)] (by simp) Try.func32 rfl (of_decide_eq_true rfl) rfl rfl ?_
 refine .seqR ?_
 refine .runK [] 1 fun K k => ?_; simp; refine k _ _ ?_; clear k K
 refine .tt [(0, .d (.sl (a0.map (cI .i64)))), (1, .i a1)] [] ?_
 refine .nil ?_
 refine .seqR ?_
 refine .runK [] 2 fun K k => ?_; simp; refine k _ _ ?_; clear k K
 refine .tt [(5, .d (.sl (a0.map (cI .i64)))), (6, .i a1)] [] ?_
 replace h := bsome h; obtain ⟨r1, hr1, h⟩ := h
 refine .callL (d := 7) (p42 N a0 a1 r1 hr1) (by simp) rfl rfl (by simp <;> rfl) (by simp <;> rfl) ent42 (by simp <;> rfl) ?_
 refine .st (mk 9 [] [(5, .d (.sl (a0.map (cI .i64)))), (6, .i a1), (7, .i r1)] []) ?_
 refine .runK [] 2 fun K k => ?_; simp; refine k _ _ ?_; clear k K
 refine .tt [(4, .b (decide (r1 ≥ 0)))] [] ?_
 refine .nil ?_
 refine .ret ?_
 cases h
 exact FinC.ret (by simp) (by simp)
/-- stemma/replication.moreUpToDate$1 -/
def d43 (_N : Nat) (a0 : (List S64)) : Option Int :=
 if ((a0.length : Int) == 0) then (
  some 0
 ) else
 (chkI ((a0.length : Int) - 1)).bind fun v2 =>
 (idx a0 v2).bind fun x3 =>
 some x3.Term
set_option maxRecDepth 100000 in
set_option maxHeartbeats 4000000 in
theorem p43 (N : Nat) (a0 : (List S64)) (r : Int) (h : d43 N a0 = some r) : FunC Try.prog 43 [.d (.sl (a0.map cS64))] (.i r) := by
 unfold d43 at h
 refine FunC.enter 13 [(0, .d (.sl (a0.map cS64)))] (by simp) Try.func43 rfl (of_decide_eq_true rfl) rfl rfl ?_
 refine .seqR ?_
 refine .runK [] 1 fun K k => ?_; simp; refine k _ _ ?_; clear k K
 refine .tt [(0, .d (.sl (a0.map cS64)))] [] ?_
 refine .nil ?_
 refine .seq ?_
 refine .seqR ?_
 refine .runK [] 3 fun K k => ?_; simp; refine k _ _ ?_; clear k K
 refine .tt [(0, .d (.sl (a0.map cS64))), (5, .b ((a0.length : Int) == 0))] [] ?_
 refine .nil ?_
 replace h := isome h; rcases h with ⟨c1, h⟩ | ⟨c1, h⟩
 ·have c1_ : ((a0.length : Int) == 0) = true := c1
  refine .condT (b := ((a0.length : Int) == 0)) rfl c1_ ?_
  refine .sub (.bool 5 (b := ((a0.length : Int) == 0)) rfl c1_) ?_
  refine .st (mk 13 [] [(0, .d (.sl (a0.map cS64))), (5, .b true)] []) ?_
  refine .seqR ?_
  refine .runK [] 1 fun K k => ?_; simp; refine k _ _ ?_; clear k K
  refine .tt [(2, .i 0)] [] ?_
  refine .nil ?_
  refine .ret ?_
  cases h
  refine thenQ_pass (by simp) ?_
  exact FinC.ret (by simp) (by simp)
 have c1_ : ((a0.length : Int) == 0) = false := Bool.eq_false_iff.2 c1
 refine .condF (b := ((a0.length : Int) == 0)) rfl c1_ ?_
 refine .sub (.bool 5 (b := ((a0.length : Int) == 0)) rfl c1_) ?_
 refine .st (mk 13 [] [(0, .d (.sl (a0.map cS64))), (5, .b false)] []) ?_
 refine .skip ?_
 refine thenQ_normal ?_
 refine .seqR ?_
 replace h := bsome h; obtain ⟨v2, hv2, h⟩ := h
 have hv2 := chkI_some hv2
 replace h := bsome h; obtain ⟨x3, hx3, h⟩ := h
 obtain ⟨k4, hx3k, hx3, hx3a, hx3b⟩ := idx_some hx3
 refine .runK [] 8 fun K k => ?_; simp [hv2, hx3, hx3k, hx3a]; refine k _ _ ?_; clear k K
 refine .tt [(2, .i x3.Term)] [] ?_
 refine .nil ?_
 refine .ret ?_
 cases h
 exact FinC.ret (by simp) (by simp)
/-- stemma/replication.moreUpToDate -/
def d33 (N : Nat) (a0 : (List S64)) (a1 : (List S64)) : Option Bool :=
 (d43 N a0).bind fun r1 =>
 (d43 N a1).bind fun r2 =>
 if (r1 != r2) then (
  some (decide (r1 > r2))
 ) else
 some (decide ((a0.length : Int) > (a1.length : Int)))
set_option maxRecDepth 100000 in
set_option maxHeartbeats 4000000 in
theorem p33 (N : Nat) (a0 : (List S64)) (a1 : (List S64)) (r : Bool) (h : d33 N a0 a1 = some r) : FunC Try.prog 33 [.d (.sl (a0.map cS64)), .d (.sl (a1.map cS64))] (.b r) := by
 unfold d33 at h
 refine FunC.enter 25 [(0, .d (.sl (a0.map cS64))), (1, .d (.sl (a1.map cS64)))] (by simp) Try.func33 rfl (of_decide_eq_true rfl) rfl rfl ?_
 refine .seqR ?_
 refine .runK [] 1 fun K k => ?_; simp; refine k _ _ ?_; clear k K
 refine .tt [(0, .d (.sl (a0.map cS64))), (1, .d (.sl (a1.map cS64)))] [] ?_
 refine .nil ?_
 refine .seqR ?_
 refine .runK [] 1 fun K k => ?_; simp; refine k _ _ ?_; clear k K
 refine .tt (L37 a0 a1) [] ?_
 refine .nil ?_
 refine .seq ?_
 refine .seqR ?_
 refine .runK [] 2 fun K k => ?_; simp; refine k _ _ ?_; clear k K
 refine .tt (L37 a0 a1 ++ [(8, .d (.lit (.func (.func 43) #[] #[]))), (9, .d (.sl (a0.map cS64)))]) [] ?_
 replace h := bsome h; obtain ⟨r1, hr1, h⟩ := h
 refine .callL (d := 10) (p43 N a0 r1 hr1) (by simp) rfl rfl (by simp <;> rfl) (by simp <;> rfl) ent43 (by simp <;> rfl) ?_
 refine .st (mk 25 [] (L37 a0 a1 ++ [(8, .d (.lit (.func (.func 43) #[] #[]))), (9, .d (.sl (a0.map cS64))), (10, .i r1)]) []) ?_
 refine .runK [] 2 fun K k => ?_; simp; refine k _ _ ?_; clear k K
 refine .tt (L38 a0 a1 ++ [(10, .i r1), (11, .d (.lit (.func (.func 43) #[] #[]))), (12, .d (.sl (a1.map cS64)))]) [] ?_
 replace h := bsome h; obtain ⟨r2, hr2, h⟩ := h
 refine .callL (d := 13) (p43 N a1 r2 hr2) (by simp) rfl rfl (by simp <;> rfl) (by simp <;> rfl) ent43 (by simp <;> rfl) ?_
 refine .st (mk 25 [] (L38 a0 a1 ++ [(10, .i r1), (11, .d (.lit (.func (.func 43) #[] #[]))), (12, .d (.sl (a1.map cS64))), (13, .i r2)]) []) ?_
 refine .runK [] 2 fun K k => ?_; simp; refine k _ _ ?_; clear k K
 refine .tt (L39 a0 a1 r1 r2) [] ?_
 refine .nil ?_
 refine .seqR ?_
 refine .runK [] 3 fun K k => ?_; simp; refine k _ _ ?_; clear k K
 refine .tt (L39 a0 a1 r1 r2 ++ [(16, .b (r1 != r2))]) [] ?_
 refine .nil ?_
 replace h := isome h; rcases h with ⟨c3, h⟩ | ⟨c3, h⟩
 ·have c3_ : (r1 != r2) = true := c3
  refine .condT (b := (r1 != r2)) rfl c3_ ?_
  refine .sub (.bool 16 (b := (r1 != r2)) rfl c3_) ?_
  refine .st (mk 25 [] (L39 a0 a1 r1 r2 ++ [(16, .b true)]) []) ?_
  refine .seqR ?_
  refine .runK [] 4 fun K k => ?_; simp; refine k _ _ ?_; clear k K
  refine .tt [(4, .b (decide (r1 > r2)))] [] ?_
  refine .nil ?_
  refine .ret ?_
  cases h
  refine thenQ_pass (by simp) ?_
  exact FinC.ret (by simp) (by simp)
 have c3_ : (r1 != r2) = false := Bool.eq_false_iff.2 c3
 refine .condF (b := (r1 != r2)) rfl c3_ ?_
 refine .sub (.bool 16 (b := (r1 != r2)) rfl c3_) ?_
 refine .st (mk 25 [] (L39 a0 a1 r1 r2 ++ [(16, .b false)]) []) ?_
 refine .skip ?_
 refine thenQ_normal ?_
 refine .seqR ?_
 refine .runK [] 6 fun K k => ?_; simp; refine k _ _ ?_; clear k K
 refine .tt [(4, .b (decide ((a0.length : Int) > (a1.length : Int))))] [] ?_
 refine .nil ?_
 refine .ret ?_
 cases h
 exact FinC.ret (by simp) (by simp)
end Go.Proofs.Ytifcmomjjkbboab
