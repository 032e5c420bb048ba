/- Functions of the program as functional programs; the code computes them. -/
import Derived.Test.YtimkkjiplioohaaGreatDoorSt0
import Derived.Test.YtimkkjiplioohaaGreatDoorStI
import Derived.Test.YtimkkjiplioohaaGreatDoorA4
namespace Go.Proofs.YtimkkjiplioohaaGreatDoor
open Go.Ab Go.Rp
attribute [-simp] List.all_eq_true Array.all_toList Array.all_eq_true

/-- stemma/extsort.key -/
def d71 (N : Nat) (a0 : (List S61)) (a1 : S65) : Option (List S61) :=
 Option.bind (α := List S61) (
  iterN (σ := ((List S61) × Int)) (ρ := List S61) (fun ((l7, v8) : ((List S61) × Int)) =>
   if v8 < (a1.Columns.length : Int) then (
    (idx a1.Columns v8).bind fun x27 =>
    (idx a0 x27).bind fun x29 =>
    (appL 32 l7 [x29]).bind fun _l31 =>
    (chkI (v8 + 1)).bind fun v32 =>
    some (.inl ((l7 ++ [x29]), v32))
   ) else
   some (.inr l7)
  ) N (([] : List S61), 0)
 ) fun (l25 : List S61) =>
 some l25
set_option maxRecDepth 100000 in
set_option maxHeartbeats 4000000 in
theorem p71 (N : Nat) (a0 : (List S61)) (a1 : S65) (r : (List S61)) (h : d71 N a0 a1 = some r) : FunC Tryz.prog 71 [.d (.sl (a0.map cS61)), .agg [.d (.sl (a1.Columns.map (cI .i64))), .d (.sl (a1.Descending.map cB))]] (.d (.sl (r.map cS61))) := by
 unfold d71 at h
 refine FunC.enter 24 [(0, .d (.sl (a0.map cS61))), (1, .agg [.d (.sl (a1.Columns.map (cI .i64))), .d (.sl (a1.Descending.map cB))])] (by simp) Tryz.func71 rfl (of_decide_eq_true rfl) rfl rfl ?_
 refine .seqR ?_
 refine .runK [] 2 fun K k => ?_; simp; refine k _ _ ?_; clear k K
 refine .tt [(0, .d (.sl (a0.map cS61))), (3, .ptr 3 0 0)] (H11 a1) ?_
 refine .nil ?_
 refine .seqR ?_
 refine .runK [] 1 fun K k => ?_; simp; refine k _ _ ?_; clear k K
 refine .tt [(0, .d (.sl (a0.map cS61))), (3, .ptr 3 0 0), (5, .d (.lit (.slice none 0 0)))] (H11 a1) ?_
 refine .nil ?_
 refine .seq ?_
 refine .seqR ?_
 refine .runK [] 4 fun K k => ?_; simp; refine k _ _ ?_; clear k K
 refine .tt [(0, .d (.sl (a0.map cS61))), (5, .d (.lit (.slice none 0 0))), (9, .d (.sl (a1.Columns.map (cI .i64)))), (10, .i (a1.Columns.length : Int)), (11, .i 0)] [] ?_
 refine .nil ?_
 refine .lastN (fun (l25 : List S61) => mk 24 [] [(5, .ref 21 0 l25.length)] [(21, R61 l25)]) h ?_ ?_ <;> clear h
 ·intro o h
  refine .block ?_
  refine .iter (fun ((l7, v8) : ((List S61) × Int)) => mk 24 [] (L1 a0 l7.length a1.Columns a1.Columns.length v8) [(21, R61 l7)]) h (Sub.trans (Sub.nilOwn (t := 5) (id := 21) (T := 61) (n := 3) rfl rfl (by decide)) (by simp; exact Sub.tt)) ?_
  clear h
  rintro ⟨l7, v8⟩ x h
  dsimp only at h ⊢
  refine .seqR ?_
  refine .runK [] 1 fun K k => ?_; simp; refine k _ _ ?_; clear k K
  refine .tt (L1 a0 l7.length a1.Columns a1.Columns.length v8 ++ [(12, .b (decide (v8 < (a1.Columns.length : Int))))]) [(21, R61 l7)] ?_
  refine .nil ?_
  refine .seq ?_
  replace h := isome h; rcases h with ⟨c26, h⟩ | ⟨c26, h⟩
  ·have c26_ : decide (v8 < (a1.Columns.length : Int)) = true := decide_eq_true c26
   refine .condT (b := decide (v8 < (a1.Columns.length : Int))) rfl c26_ ?_
   refine .sub (.bool 12 (b := decide (v8 < (a1.Columns.length : Int))) rfl c26_) ?_
   refine .st (mk 24 [] (L1 a0 l7.length a1.Columns a1.Columns.length v8 ++ [(12, .b true)]) [(21, R61 l7)]) ?_
   refine .skip ?_
   refine thenQ_normal ?_
   refine .seq ?_
   refine .block ?_
   refine .seqR ?_
   replace h := bsome h; obtain ⟨x27, hx27, h⟩ := h
   obtain ⟨k28, hx27k, hx27, hx27a, hx27b⟩ := idx_some hx27
   refine .runK [] 3 fun K k => ?_; simp [hx27, hx27k, hx27a]; refine k _ _ ?_; clear k K
   refine .tt [(0, .d (.sl (a0.map cS61))), (5, .ref 21 0 l7.length), (7, .i x27), (9, .d (.sl (a1.Columns.map (cI .i64)))), (10, .i (a1.Columns.length : Int)), (11, .i v8)] [(21, R61 l7)] ?_
   refine .nil ?_
   refine .region ?_
   replace h := bsome h; obtain ⟨x29, hx29, h⟩ := h
   obtain ⟨k30, hx29k, hx29, hx29a, hx29b⟩ := idx_some hx29
   replace h := bsome h; obtain ⟨l31, hl31, h⟩ := h
   obtain ⟨hl31a, hl31⟩ := appL_some hl31
   subst hl31
   try simp only [List.length_cons, List.length_nil, Nat.zero_add] at hl31a
   refine .runK [20] 8 fun K k => ?_; simp [hx29, hx29k, hx29a, hl31a]; refine k _ _ ?_; clear k K
   refine .tt [(0, .d (.sl (a0.map cS61))), (5, .ref 21 0 ((l7 ++ [x29]).length)), (9, .d (.sl (a1.Columns.map (cI .i64)))), (10, .i (a1.Columns.length : Int)), (11, .i v8)] [(21, R61 (l7 ++ [x29]))] ?_
   refine .nil ?_
   refine blockQ.normal ?_
   refine thenQ_normal ?_
   refine .region ?_
   replace h := bsome h; obtain ⟨v32, hv32, h⟩ := h
   have hv32 := chkI_some hv32
   refine .runK [] 2 fun K k => ?_; simp [hv32]; refine k _ _ ?_; clear k K
   refine .tt [(0, .d (.sl (a0.map cS61))), (5, .ref 21 0 ((l7 ++ [x29]).length)), (9, .d (.sl (a1.Columns.map (cI .i64)))), (10, .i (a1.Columns.length : Int)), (11, .i v32)] [(21, R61 (l7 ++ [x29]))] ?_
   refine .nil ?_
   cases h
   refine PostI.next ?_
   exact Sub.tt
  have c26_ : decide (v8 < (a1.Columns.length : Int)) = false := decide_eq_false c26
  refine .condF (b := decide (v8 < (a1.Columns.length : Int))) rfl c26_ ?_
  refine .sub (.bool 12 (b := decide (v8 < (a1.Columns.length : Int))) rfl c26_) ?_
  refine .st (mk 24 [] (L1 a0 l7.length a1.Columns a1.Columns.length v8 ++ [(12, .b false)]) [(21, R61 l7)]) ?_
  refine .exit ?_
  cases h
  refine thenQ_pass (by simp) ?_
  refine PostI.out (by simp) ?_
  rintro rfl
  refine blockQ.hit ?_
  refine PostN.next ?_
  exact Sub.tt
 rintro l25 h
 refine thenQ_normal ?_
 refine .seqR ?_
 refine .runK [] 2 fun K k => ?_; simp; refine k _ _ ?_; clear k K
 refine .tt [(4, .ref 21 0 l25.length)] [(21, R61 l25)] ?_
 refine .nil ?_
 refine .sub (.freeze 21 rfl) ?_
 refine .st (mk 24 [] [(4, .d (.sl (l25.map cS61)))] []) ?_
 refine .ret ?_
 cases h
 exact FinC.ret (by simp) (by simp)
/-- stemma/expr.Less -/
def d131 (_N : Nat) (a0 : S61) (a1 : S61) : Option Bool :=
 if (a0.Kind != a1.Kind) then (
  some (decide (a0.Kind < a1.Kind))
 ) else
 if (a0.Int != a1.Int) then (
  some (decide (a0.Int < a1.Int))
 ) else
 some (Op.bytesLess a0.Text.toList a1.Text.toList)
set_option maxRecDepth 100000 in
set_option maxHeartbeats 4000000 in
theorem p131 (N : Nat) (a0 : S61) (a1 : S61) (r : Bool) (h : d131 N a0 a1 = some r) : FunC Tryz.prog 131 [.agg [.i a0.Kind, .i a0.Int, .d (.lit (.string a0.Text))], .agg [.i a1.Kind, .i a1.Int, .d (.lit (.string a1.Text))]] (.b r) := by
 unfold d131 at h
 refine FunC.enter 32 [(0, .agg [.i a0.Kind, .i a0.Int, .d (.lit (.string a0.Text))]), (1, .agg [.i a1.Kind, .i a1.Int, .d (.lit (.string a1.Text))])] (by simp) Tryz.func131 rfl (of_decide_eq_true rfl) rfl rfl ?_
 refine .seqR ?_
 refine .runK [] 3 fun K k => ?_; simp; refine k _ _ ?_; clear k K
 refine .tt [(2, .ptr 2 0 0), (3, .ptr 3 0 0)] (H7 a0 a1) ?_
 refine .nil ?_
 refine .seq ?_
 refine .block ?_
 refine .seqR ?_
 refine .runK [] 6 fun K k => ?_; simp; refine k _ _ ?_; clear k K
 refine .tt [(2, .ptr 2 0 0), (3, .ptr 3 0 0), (5, .b (a0.Kind != a1.Kind))] (H7 a0 a1) ?_
 refine .nil ?_
 replace h := isome h; rcases h with ⟨c1, h⟩ | ⟨c1, h⟩
 ·have c1_ : (a0.Kind != a1.Kind) = true := c1
  refine .condT (b := (a0.Kind != a1.Kind)) rfl c1_ ?_
  refine .sub (.bool 5 (b := (a0.Kind != a1.Kind)) rfl c1_) ?_
  refine .st (mk 32 [] [(2, .ptr 2 0 0), (3, .ptr 3 0 0), (5, .b true)] (H7 a0 a1)) ?_
  refine .seqR ?_
  refine .runK [] 6 fun K k => ?_; simp; refine k _ _ ?_; clear k K
  refine .tt [(4, .b (decide (a0.Kind < a1.Kind)))] [] ?_
  refine .nil ?_
  refine .ret ?_
  cases h
  refine blockQ.ret ?_
  refine thenQ_pass (by simp) ?_
  exact FinC.ret (by simp) (by simp)
 have c1_ : (a0.Kind != a1.Kind) = false := Bool.eq_false_iff.2 c1
 refine .condF (b := (a0.Kind != a1.Kind)) rfl c1_ ?_
 refine .sub (.bool 5 (b := (a0.Kind != a1.Kind)) rfl c1_) ?_
 refine .st (mk 32 [] [(2, .ptr 2 0 0), (3, .ptr 3 0 0), (5, .b false)] (H7 a0 a1)) ?_
 refine .seqR ?_
 refine .runK [] 6 fun K k => ?_; simp; refine k _ _ ?_; clear k K
 refine .tt [(2, .ptr 2 0 0), (3, .ptr 3 0 0), (16, .b (a0.Int != a1.Int))] (H7 a0 a1) ?_
 refine .nil ?_
 replace h := isome h; rcases h with ⟨c2, h⟩ | ⟨c2, h⟩
 ·have c2_ : (a0.Int != a1.Int) = true := c2
  refine .condT (b := (a0.Int != a1.Int)) rfl c2_ ?_
  refine .sub (.bool 16 (b := (a0.Int != a1.Int)) rfl c2_) ?_
  refine .st (mk 32 [] [(2, .ptr 2 0 0), (3, .ptr 3 0 0), (16, .b true)] (H7 a0 a1)) ?_
  refine .seqR ?_
  refine .runK [] 6 fun K k => ?_; simp; refine k _ _ ?_; clear k K
  refine .tt [(4, .b (decide (a0.Int < a1.Int)))] [] ?_
  refine .nil ?_
  refine .ret ?_
  cases h
  refine blockQ.ret ?_
  refine thenQ_pass (by simp) ?_
  exact FinC.ret (by simp) (by simp)
 have c2_ : (a0.Int != a1.Int) = false := Bool.eq_false_iff.2 c2
 refine .condF (b := (a0.Int != a1.Int)) rfl c2_ ?_
 refine .sub (.bool 16 (b := (a0.Int != a1.Int)) rfl c2_) ?_
 refine .st (mk 32 [] [(2, .ptr 2 0 0), (3, .ptr 3 0 0), (16, .b false)] (H7 a0 a1)) ?_
 refine .skip ?_
 refine blockQ.normal ?_
 refine thenQ_normal ?_
 refine .seqR ?_
 refine .runK [] 6 fun K k => ?_; simp; refine k _ _ ?_; clear k K
 refine .tt [(4, .b (Op.bytesLess a0.Text.toList a1.Text.toList))] [] ?_
 refine .nil ?_
 refine .ret ?_
 cases h
 exact FinC.ret (by simp) (by simp)
/-- stemma/query.CompareRows -/
def d102 (N : Nat) (a0 : (List S61)) (a1 : (List S61)) (a2 : (List Bool)) : Option Int :=
 bindO (β := Unit) (ρ := Int) (
  iterN (σ := Int) (ρ := (Out Unit Int)) (fun (v22 : Int) =>
   if v22 < (a0.length : Int) then (
    Option.bind (α := Bool) (
     if v22 ≥ (a1.length : Int) then (
      some true
     ) else
     (idx a0 v22).bind fun x79 =>
     (idx a1 v22).bind fun x81 =>
     some (beqS61 x79 x81)
    ) fun (v77 : Bool) =>
    if v77 = true then (
     (chkI (v22 + 1)).bind fun v83 =>
     some (.inl v83)
    ) else
    (idx a0 v22).bind fun x84 =>
    (idx a1 v22).bind fun x86 =>
    (d131 N x84 x86).bind fun r87 =>
    Option.bind (α := Bool) (
     if v22 < (a2.length : Int) then (
      (idx a2 v22).bind fun x92 =>
      some x92
     ) else
     some false
    ) fun (v90 : Bool) =>
    if v90 = true then (
     if (!r87) = true then (
      some (.inr (.ret (-1)))
     ) else
     some (.inr (.ret 1))
    ) else
    if r87 = true then (
     some (.inr (.ret (-1)))
    ) else
    some (.inr (.ret 1))
   ) else
   some (.inr (.go ()))
  ) N 0
 ) fun (_ : Unit) =>
 some 0
set_option maxRecDepth 100000 in
set_option maxHeartbeats 4000000 in
theorem p102 (N : Nat) (a0 : (List S61)) (a1 : (List S61)) (a2 : (List Bool)) (r : Int) (h : d102 N a0 a1 a2 = some r) : FunC Tryz.prog 102 [.d (.sl (a0.map cS61)), .d (.sl (a1.map cS61)), .d (.sl (a2.map cB))] (.i r) := by
 unfold d102 at h
 refine FunC.enter 52 [(0, .d (.sl (a0.map cS61))), (1, .d (.sl (a1.map cS61))), (2, .d (.sl (a2.map cB)))] (by simp) Tryz.func102 rfl (of_decide_eq_true rfl) rfl rfl ?_
 refine .seqR ?_
 refine .runK [] 1 fun K k => ?_; simp; refine k _ _ ?_; clear k K
 refine .tt (L2 a0 a1 ++ [(2, .d (.sl (a2.map cB)))]) [] ?_
 refine .nil ?_
 refine .seq ?_
 refine .seqR ?_
 refine .runK [] 3 fun K k => ?_; simp; refine k _ _ ?_; clear k K
 refine .tt (L2 a0 a1 ++ [(2, .d (.sl (a2.map cB))), (10, .i (a0.length : Int)), (11, .i 0)]) [] ?_
 refine .nil ?_
 refine .lastJ (fun (_ : Unit) => mk 52 [] [] []) h ?_ ?_ <;> clear h
 ·intro o h
  refine .block ?_
  refine .iter (fun (v22 : Int) => mk 52 [] (L3 a0 a1 a2 a0.length v22) []) h Sub.tt ?_
  clear h
  rintro v22 x h
  refine .seqR ?_
  refine .runK [] 1 fun K k => ?_; simp; refine k _ _ ?_; clear k K
  refine .tt (L3 a0 a1 a2 a0.length v22 ++ [(12, .b (decide (v22 < (a0.length : Int))))]) [] ?_
  refine .nil ?_
  refine .seq ?_
  replace h := isome h; rcases h with ⟨c72, h⟩ | ⟨c72, h⟩
  ·have c72_ : decide (v22 < (a0.length : Int)) = true := decide_eq_true c72
   refine .condT (b := decide (v22 < (a0.length : Int))) rfl c72_ ?_
   refine .sub (.bool 12 (b := decide (v22 < (a0.length : Int))) rfl c72_) ?_
   refine .st (mk 52 [] (L3 a0 a1 a2 a0.length v22 ++ [(12, .b true)]) []) ?_
   refine .skip ?_
   refine thenQ_normal ?_
   refine .seq ?_
   refine .block ?_
   refine .seqR ?_
   refine .runK [] 2 fun K k => ?_; simp; refine k _ _ ?_; clear k K
   refine .tt (L4 a0 a1 a2 v22 a0.length) [] ?_
   refine .nil ?_
   refine .seq ?_
   replace h := bsome h; obtain ⟨v77, hj, h⟩ := h
   refine .cutQ (by kernel_rfl) (by kernel_rfl) (mk 52 [] (L4 a0 a1 a2 v22 a0.length ++ [(28, .b v77)]) []) ?_ ?_
   ·clear h; have h := hj; clear hj
    refine .runQ 5 fun K k => ?_; simp; refine k _ _ ?_; clear k K
    refine .tt (L4 a0 a1 a2 v22 a0.length ++ [(18, .b (decide (v22 ≥ (a1.length : Int))))]) [] ?_
    replace h := isome h; rcases h with ⟨c78, h⟩ | ⟨c78, h⟩
    ·have c78_ : decide (v22 ≥ (a1.length : Int)) = true := decide_eq_true c78
     refine .sub (.bool 18 (b := decide (v22 ≥ (a1.length : Int))) rfl c78_) ?_
     refine .st (mk 52 [] (L4 a0 a1 a2 v22 a0.length ++ [(18, .b true)]) []) ?_
     refine .runQ 10 fun K k => ?_; simp; refine k _ _ ?_; clear k K
     refine .tt (L4 a0 a1 a2 v22 a0.length ++ [(19, .tup []), (20, .tup []), (21, .tup []), (22, .tup []), (23, .tup []), (24, .tup []), (25, .tup []), (26, .tup []), (27, .tup []), (28, .b true)]) [] ?_
     cases h
     exact .nil .tt
    have c78_ : decide (v22 ≥ (a1.length : Int)) = false := decide_eq_false c78
    refine .sub (.bool 18 (b := decide (v22 ≥ (a1.length : Int))) rfl c78_) ?_
    refine .st (mk 52 [] (L5 a0 a1 a2 v22 a0.length) []) ?_
    replace h := bsome h; obtain ⟨x79, hx79, h⟩ := h
    obtain ⟨k80, hx79k, hx79, hx79a, hx79b⟩ := idx_some hx79
    replace h := bsome h; obtain ⟨x81, hx81, h⟩ := h
    obtain ⟨hx81, hx81a, hx81b⟩ := idx_some2 hx81 hx79k
    refine .runQ 8 fun K k => ?_; simp [hx79, hx79a, hx81, hx79k]; refine k _ _ ?_; clear k K
    refine .tt (L5 a0 a1 a2 v22 a0.length ++ [(19, .d (.sl (a0.map cS61))), (20, .i v22), (21, .d (.pim [.lit (.int .i64 x79.Kind), .lit (.int .i64 x79.Int), .lit (.string x79.Text)])), (22, .agg [.i x79.Kind, .i x79.Int, .d (.lit (.string x79.Text))]), (23, .d (.sl (a1.map cS61))), (24, .i v22), (25, .d (.pim [.lit (.int .i64 x81.Kind), .lit (.int .i64 x81.Int), .lit (.string x81.Text)])), (26, .agg [.i x81.Kind, .i x81.Int, .d (.lit (.string x81.Text))])]) [] ?_
    refine .pureP (by simp) (pure_eqA false rfl rfl rfl rfl (by kernel_rfl) (eqv61 x79 x81)) ?_
    refine .st (mk 52 [] (L5 a0 a1 a2 v22 a0.length ++ [(19, .d (.sl (a0.map cS61))), (20, .i v22), (21, .d (.pim [.lit (.int .i64 x79.Kind), .lit (.int .i64 x79.Int), .lit (.string x79.Text)])), (22, .agg [.i x79.Kind, .i x79.Int, .d (.lit (.string x79.Text))]), (23, .d (.sl (a1.map cS61))), (24, .i v22), (25, .d (.pim [.lit (.int .i64 x81.Kind), .lit (.int .i64 x81.Int), .lit (.string x81.Text)])), (26, .agg [.i x81.Kind, .i x81.Int, .d (.lit (.string x81.Text))]), (27, .b (beqS61 x79 x81))]) []) ?_
    refine .runQ 1 fun K k => ?_; simp; refine k _ _ ?_; clear k K
    refine .tt (L4 a0 a1 a2 v22 a0.length ++ [(19, .d (.sl (a0.map cS61))), (20, .i v22), (21, .d (.pim [.lit (.int .i64 x79.Kind), .lit (.int .i64 x79.Int), .lit (.string x79.Text)])), (22, .agg [.i x79.Kind, .i x79.Int, .d (.lit (.string x79.Text))]), (23, .d (.sl (a1.map cS61))), (24, .i v22), (25, .d (.pim [.lit (.int .i64 x81.Kind), .lit (.int .i64 x81.Int), .lit (.string x81.Text)])), (26, .agg [.i x81.Kind, .i x81.Int, .d (.lit (.string x81.Text))]), (27, .b (beqS61 x79 x81)), (28, .b (beqS61 x79 x81))]) [] ?_
    cases h
    exact .nil .tt
   clear hj
   replace h := isome h; rcases h with ⟨c82, h⟩ | ⟨c82, h⟩
   ·have c82_ : v77 = true := c82
    refine .condT (b := v77) rfl c82_ ?_
    refine .sub (.bool 28 (b := v77) rfl c82_) ?_
    refine .st (mk 52 [] (L4 a0 a1 a2 v22 a0.length ++ [(28, .b true)]) []) ?_
    refine .exit ?_
    refine thenQ_pass (by simp) ?_
    refine blockQ.hit ?_
    refine thenQ_normal ?_
    refine .region ?_
    replace h := bsome h; obtain ⟨v83, hv83, h⟩ := h
    have hv83 := chkI_some hv83
    refine .runK [] 2 fun K k => ?_; simp [hv83]; refine k _ _ ?_; clear k K
    refine .tt (L3 a0 a1 a2 a0.length v83) [] ?_
    refine .nil ?_
    cases h
    refine PostI.next ?_
    exact Sub.tt
   have c82_ : v77 = false := Bool.eq_false_iff.2 c82
   refine .condF (b := v77) rfl c82_ ?_
   refine .sub (.bool 28 (b := v77) rfl c82_) ?_
   refine .st (mk 52 [] (L4 a0 a1 a2 v22 a0.length ++ [(28, .b false)]) []) ?_
   refine .skip ?_
   refine thenQ_normal ?_
   refine .seqQ (by kernel_rfl) (by kernel_rfl) ?_
   replace h := bsome h; obtain ⟨x84, hx84, h⟩ := h
   obtain ⟨k85, hx84k, hx84, hx84a, hx84b⟩ := idx_some hx84
   replace h := bsome h; obtain ⟨x86, hx86, h⟩ := h
   obtain ⟨hx86, hx86a, hx86b⟩ := idx_some2 hx86 hx84k
   refine .runQ 8 fun K k => ?_; simp [hx84, hx84a, hx86, hx84k]; refine k _ _ ?_; clear k K
   refine .tt [(2, .d (.sl (a2.map cB))), (7, .i v22), (32, .agg [.i x84.Kind, .i x84.Int, .d (.lit (.string x84.Text))]), (36, .agg [.i x86.Kind, .i x86.Int, .d (.lit (.string x86.Text))])] [] ?_
   replace h := bsome h; obtain ⟨r87, hr87, h⟩ := h
   refine .callL (d := 37) (p131 N x84 x86 r87 hr87) (by simp) rfl rfl (by simp <;> rfl) (by simp <;> rfl) ent131 (by simp <;> rfl) ?_
   refine .st (mk 52 [] [(2, .d (.sl (a2.map cB))), (7, .i v22), (32, .agg [.i x84.Kind, .i x84.Int, .d (.lit (.string x84.Text))]), (36, .agg [.i x86.Kind, .i x86.Int, .d (.lit (.string x86.Text))]), (37, .b r87)] []) ?_
   refine .runQ 1 fun K k => ?_; simp; refine k _ _ ?_; clear k K
   refine .tt [(2, .d (.sl (a2.map cB))), (7, .i v22), (8, .b r87)] [] ?_
   refine .nil ?_
   refine .seq ?_
   replace h := bsome h; obtain ⟨v90, hj, h⟩ := h
   refine .cutR (mk 52 [] [(8, .b r87), (47, .b v90)] []) ?_ ?_
   ·clear h; have h := hj; clear hj
    refine .runK [] 5 fun K k => ?_; simp; refine k _ _ ?_; clear k K
    refine .tt [(2, .d (.sl (a2.map cB))), (7, .i v22), (8, .b r87), (42, .b (decide (v22 < (a2.length : Int))))] [] ?_
    replace h := isome h; rcases h with ⟨c91, h⟩ | ⟨c91, h⟩
    ·have c91_ : decide (v22 < (a2.length : Int)) = true := decide_eq_true c91
     refine .sub (.bool 42 (b := decide (v22 < (a2.length : Int))) rfl c91_) ?_
     refine .st (mk 52 [] [(2, .d (.sl (a2.map cB))), (7, .i v22), (8, .b r87), (42, .b true)] []) ?_
     replace h := bsome h; obtain ⟨x92, hx92, h⟩ := h
     obtain ⟨hx92, hx92a, hx92b⟩ := idx_some2 hx92 hx84k
     refine .runK [] 5 fun K k => ?_; simp [hx92, hx84k, hx92a]; refine k _ _ ?_; clear k K
     refine .tt [(8, .b r87), (47, .b x92)] [] ?_
     cases h
     exact .nil .tt
    have c91_ : decide (v22 < (a2.length : Int)) = false := decide_eq_false c91
    refine .sub (.bool 42 (b := decide (v22 < (a2.length : Int))) rfl c91_) ?_
    refine .st (mk 52 [] [(2, .d (.sl (a2.map cB))), (7, .i v22), (8, .b r87), (42, .b false)] []) ?_
    refine .runK [] 5 fun K k => ?_; simp; refine k _ _ ?_; clear k K
    refine .tt [(8, .b r87), (47, .b false)] [] ?_
    cases h
    exact .nil .tt
   clear hj
   replace h := isome h; rcases h with ⟨c93, h⟩ | ⟨c93, h⟩
   ·have c93_ : v90 = true := c93
    refine .condT (b := v90) rfl c93_ ?_
    refine .sub (.bool 47 (b := v90) rfl c93_) ?_
    refine .st (mk 52 [] [(8, .b r87), (47, .b true)] []) ?_
    refine .region ?_
    refine .runK [] 3 fun K k => ?_; simp; refine k _ _ ?_; clear k K
    refine .tt [(8, .b (!r87))] [] ?_
    refine .nil ?_
    refine thenQ_normal ?_
    refine .seq ?_
    refine .seqR ?_
    refine .runK [] 1 fun K k => ?_; simp; refine k _ _ ?_; clear k K
    refine .tt [(50, .b (!r87))] [] ?_
    refine .nil ?_
    replace h := isome h; rcases h with ⟨c94, h⟩ | ⟨c94, h⟩
    ·have c94_ : (!r87) = true := c94
     refine .condT (b := (!r87)) rfl c94_ ?_
     refine .sub (.bool 50 (b := (!r87)) rfl c94_) ?_
     refine .st (mk 52 [] [(50, .b true)] []) ?_
     refine .seqR ?_
     refine .runK [] 1 fun K k => ?_; simp; refine k _ _ ?_; clear k K
     refine .tt [(6, .i (-1))] [] ?_
     refine .nil ?_
     refine .ret ?_
     cases h
     refine thenQ_pass (by simp) ?_
     refine blockQ.ret ?_
     refine thenQ_pass (by simp) ?_
     refine PostI.out (by simp) ?_
     rintro rfl
     refine blockQ.ret ?_
     refine PostJ.out (by simp) ?_
     rintro rfl
     refine thenQ_pass (by simp) ?_
     exact FinC.ret (by simp) (by simp)
    have c94_ : (!r87) = false := Bool.eq_false_iff.2 c94
    refine .condF (b := (!r87)) rfl c94_ ?_
    refine .sub (.bool 50 (b := (!r87)) rfl c94_) ?_
    refine .st (mk 52 [] [(50, .b false)] []) ?_
    refine .skip ?_
    refine thenQ_normal ?_
    refine .seqR ?_
    refine .runK [] 1 fun K k => ?_; simp; refine k _ _ ?_; clear k K
    refine .tt [(6, .i 1)] [] ?_
    refine .nil ?_
    refine .ret ?_
    cases h
    refine blockQ.ret ?_
    refine thenQ_pass (by simp) ?_
    refine PostI.out (by simp) ?_
    rintro rfl
    refine blockQ.ret ?_
    refine PostJ.out (by simp) ?_
    rintro rfl
    refine thenQ_pass (by simp) ?_
    exact FinC.ret (by simp) (by simp)
   have c93_ : v90 = false := Bool.eq_false_iff.2 c93
   refine .condF (b := v90) rfl c93_ ?_
   refine .sub (.bool 47 (b := v90) rfl c93_) ?_
   refine .st (mk 52 [] [(8, .b r87), (47, .b false)] []) ?_
   refine .skip ?_
   refine thenQ_normal ?_
   refine .seq ?_
   refine .seqR ?_
   refine .runK [] 1 fun K k => ?_; simp; refine k _ _ ?_; clear k K
   refine .tt [(50, .b r87)] [] ?_
   refine .nil ?_
   replace h := isome h; rcases h with ⟨c95, h⟩ | ⟨c95, h⟩
   ·have c95_ : r87 = true := c95
    refine .condT (b := r87) rfl c95_ ?_
    refine .sub (.bool 50 (b := r87) rfl c95_) ?_
    refine .st (mk 52 [] [(50, .b true)] []) ?_
    refine .seqR ?_
    refine .runK [] 1 fun K k => ?_; simp; refine k _ _ ?_; clear k K
    refine .tt [(6, .i (-1))] [] ?_
    refine .nil ?_
    refine .ret ?_
    cases h
    refine thenQ_pass (by simp) ?_
    refine blockQ.ret ?_
    refine thenQ_pass (by simp) ?_
    refine PostI.out (by simp) ?_
    rintro rfl
    refine blockQ.ret ?_
    refine PostJ.out (by simp) ?_
    rintro rfl
    refine thenQ_pass (by simp) ?_
    exact FinC.ret (by simp) (by simp)
   have c95_ : r87 = false := Bool.eq_false_iff.2 c95
   refine .condF (b := r87) rfl c95_ ?_
   refine .sub (.bool 50 (b := r87) rfl c95_) ?_
   refine .st (mk 52 [] [(50, .b false)] []) ?_
   refine .skip ?_
   refine thenQ_normal ?_
   refine .seqR ?_
   refine .runK [] 1 fun K k => ?_; simp; refine k _ _ ?_; clear k K
   refine .tt [(6, .i 1)] [] ?_
   refine .nil ?_
   refine .ret ?_
   cases h
   refine blockQ.ret ?_
   refine thenQ_pass (by simp) ?_
   refine PostI.out (by simp) ?_
   rintro rfl
   refine blockQ.ret ?_
   refine PostJ.out (by simp) ?_
   rintro rfl
   refine thenQ_pass (by simp) ?_
   exact FinC.ret (by simp) (by simp)
  have c72_ : decide (v22 < (a0.length : Int)) = false := decide_eq_false c72
  refine .condF (b := decide (v22 < (a0.length : Int))) rfl c72_ ?_
  refine .sub (.bool 12 (b := decide (v22 < (a0.length : Int))) rfl c72_) ?_
  refine .st (mk 52 [] (L3 a0 a1 a2 a0.length v22 ++ [(12, .b false)]) []) ?_
  refine .exit ?_
  cases h
  refine thenQ_pass (by simp) ?_
  refine PostI.out (by simp) ?_
  rintro rfl
  refine blockQ.hit ?_
  refine PostJ.next ?_
  exact Sub.tt
 rintro ⟨⟩ h
 refine thenQ_normal ?_
 refine .seqR ?_
 refine .runK [] 1 fun K k => ?_; simp; refine k _ _ ?_; clear k K
 refine .tt [(6, .i 0)] [] ?_
 refine .nil ?_
 refine .ret ?_
 cases h
 exact FinC.ret (by simp) (by simp)
/-- stemma/extsort.order -/
def d70 (N : Nat) (a0 : (List S61)) (a1 : (List S61)) (a2 : S65) : Option Int :=
 (d71 N a0 a2).bind fun r1 =>
 (d71 N a1 a2).bind fun r2 =>
 (d102 N r1 r2 a2.Descending).bind fun r3 =>
 some r3
set_option maxRecDepth 100000 in
set_option maxHeartbeats 4000000 in
theorem p70 (N : Nat) (a0 : (List S61)) (a1 : (List S61)) (a2 : S65) (r : Int) (h : d70 N a0 a1 a2 = some r) : FunC Tryz.prog 70 [.d (.sl (a0.map cS61)), .d (.sl (a1.map cS61)), .agg [.d (.sl (a2.Columns.map (cI .i64))), .d (.sl (a2.Descending.map cB))]] (.i r) := by
 unfold d70 at h
 refine FunC.enter 16 [(0, .d (.sl (a0.map cS61))), (1, .d (.sl (a1.map cS61))), (2, .agg [.d (.sl (a2.Columns.map (cI .i64))), .d (.sl (a2.Descending.map cB))])] (by simp) Tryz.func70 rfl (of_decide_eq_true rfl) rfl rfl ?_
 refine .seqR ?_
 refine .runK [] 2 fun K k => ?_; simp; refine k _ _ ?_; clear k K
 refine .tt (L2 a0 a1 ++ [(5, .ptr 5 0 0)]) (H3 a2) ?_
 refine .nil ?_
 replace h := bsome h; obtain ⟨r1, hr1, h⟩ := h
 replace h := bsome h; obtain ⟨r2, hr2, h⟩ := h
 replace h := bsome h; obtain ⟨r3, hr3, h⟩ := h
 refine .seqAnyS [[], [], [0, 1], [], [], [0, 1, 2, 3, 4], [], [6], [0, 1, 2, 3, 4, 5, 6, 7], [0, 1, 2, 3, 4, 5, 6, 7, 8]] (fun (b : Nat → Bool) => mk 16 [] [(0, .d (.sl (a0.map cS61))), (1, .d (.sl (a1.map cS61))), (5, .ptr 5 0 0), (6, (if b 9 then .i r3 else .junk)), (7, (if b 0 then .d (.sl (a0.map cS61)) else .junk)), (8, (if b 1 then .agg [.d (.sl (a2.Columns.map (cI .i64))), .d (.sl (a2.Descending.map cB))] else .junk)), (9, (if b 2 then .d (.sl (r1.map cS61)) else .junk)), (10, (if b 3 then .d (.sl (a1.map cS61)) else .junk)), (11, (if b 4 then .agg [.d (.sl (a2.Columns.map (cI .i64))), .d (.sl (a2.Descending.map cB))] else .junk)), (12, (if b 5 then .d (.sl (r2.map cS61)) else .junk)), (13, (if b 6 then .ptr 5 0 1 else .junk)), (14, (if b 7 then .d (.sl (a2.Descending.map cB)) else .junk)), (15, (if b 8 then .i r3 else .junk))] (H3 a2)) (mk 16 [] [(6, .i r3)] []) (by kernel_rfl) (by kernel_rfl) Sub.tt (Steps.cons ?_ (Steps.cons ?_ (Steps.cons ?_ (Steps.cons ?_ (Steps.cons ?_ (Steps.cons ?_ (Steps.cons ?_ (Steps.cons ?_ (Steps.cons ?_ (Steps.cons ?_ (Steps.nil))))))))))) ?_ ?_
 iterate 2
  ·intro b h0 ha hd
   have T := fct h0 ha hd; simp at T
   refine .runK [] 1 fun K k => ?_; simp [T]; refine k _ _ ?_; clear k K
   exact .nil (.table (by simp [T]) (by simp))
 ·intro b h0 ha hd
  have T := fct h0 ha hd; simp at T
  simp only [T, if_true, if_false, Bool.false_eq_true]
  refine .callC (d := 9) (p71 N a0 a2 r1 hr1) (by simp) rfl rfl (by simp <;> rfl) (by simp <;> rfl) ent71 (by simp) (.inl ⟨by simp, by simp⟩) ?_
  exact .nil (by simp [T]; exact Sub.table (by simp) (by simp))
 iterate 2
  ·intro b h0 ha hd
   have T := fct h0 ha hd; simp at T
   refine .runK [] 1 fun K k => ?_; simp [T]; refine k _ _ ?_; clear k K
   exact .nil (.table (by simp [T]) (by simp))
 ·intro b h0 ha hd
  have T := fct h0 ha hd; simp at T
  simp only [T, if_true, if_false, Bool.false_eq_true]
  refine .callC (d := 12) (p71 N a1 a2 r2 hr2) (by simp) rfl rfl (by simp <;> rfl) (by simp <;> rfl) ent71 (by simp) (.inl ⟨by simp, by simp⟩) ?_
  exact .nil (by simp [T]; exact Sub.table (by simp) (by simp))
 iterate 2
  ·intro b h0 ha hd
   have T := fct h0 ha hd; simp at T
   refine .runK [] 1 fun K k => ?_; simp [T]; refine k _ _ ?_; clear k K
   exact .nil (.table (by simp [T]) (by simp))
 ·intro b h0 ha hd
  have T := fct h0 ha hd; simp at T
  simp only [T, if_true, if_false, Bool.false_eq_true]
  refine .callL (d := 15) (p102 N r1 r2 a2.Descending r3 hr3) (by simp) rfl rfl (by simp <;> rfl) (by simp <;> rfl) ent102 (by simp <;> rfl) ?_
  exact .nil (by simp [T]; exact Sub.table (by simp) (by simp))
 ·intro b h0 ha hd
  have T := fct h0 ha hd; simp at T
  refine .runK [] 1 fun K k => ?_; simp [T]; refine k _ _ ?_; clear k K
  exact .nil (.table (by simp [T]) (by simp))
 ·intro b hb
  have t0 := hb 0 (by decide)
  have t1 := hb 1 (by decide)
  have t2 := hb 2 (by decide)
  have t3 := hb 3 (by decide)
  have t4 := hb 4 (by decide)
  have t5 := hb 5 (by decide)
  have t6 := hb 6 (by decide)
  have t7 := hb 7 (by decide)
  have t8 := hb 8 (by decide)
  have t9 := hb 9 (by decide)
  exact Sub.table (by simp [t0, t1, t2, t3, t4, t5, t6, t7, t8, t9]) (by simp)
 skip
 refine .ret ?_
 cases h
 exact FinC.ret (by simp) (by simp)
/-- (*stemma/extsort.heads).Less -/
def d285 (N : Nat) (a0 : S187) (a1 : Int) (a2 : Int) : Option Bool :=
 (idx a0.l a1).bind fun x1 =>
 (idx a0.l a2).bind fun x3 =>
 (d70 N x1.row x3.row a0.by_).bind fun r5 =>
 Option.bind (α := Bool) (
  if r5 < 0 then (
   some true
  ) else
  if (r5 == 0) then (
   some (decide (x1.run < x3.run))
  ) else
  some false
 ) fun (v8 : Bool) =>
 some v8
set_option maxRecDepth 100000 in
set_option maxHeartbeats 4000000 in
theorem p285 (N : Nat) (a0 : S187) (a1 : Int) (a2 : Int) (r : Bool) (h : d285 N a0 a1 a2 = some r) : FunC Tryz.prog 285 [.d (.pim [.sl (a0.by_.Columns.map (cI .i64)), .sl (a0.by_.Descending.map cB), .sl (a0.l.map cS189)]), .i a1, .i a2] (.b r) := by
 unfold d285 at h
 refine FunC.enter 54 [(0, .d (.pim [.sl (a0.by_.Columns.map (cI .i64)), .sl (a0.by_.Descending.map cB), .sl (a0.l.map cS189)])), (1, .i a1), (2, .i a2)] (by simp) Tryz.func285 rfl (of_decide_eq_true rfl) rfl rfl ?_
 refine .seqR ?_
 refine .runK [] 1 fun K k => ?_; simp; refine k _ _ ?_; clear k K
 refine .tt (L6 a0.by_.Columns a0.by_.Descending a0.l a1 a2) [] ?_
 refine .nil ?_
 refine .seqQ (by kernel_rfl) (by kernel_rfl) ?_
 replace h := bsome h; obtain ⟨x1, hx1, h⟩ := h
 obtain ⟨k2, hx1k, hx1, hx1a, hx1b⟩ := idx_some hx1
 replace h := bsome h; obtain ⟨x3, hx3, h⟩ := h
 obtain ⟨k4, hx3k, hx3, hx3a, hx3b⟩ := idx_some hx3
 refine .runQ 20 fun K k => ?_; simp [hx1, hx1k, hx1a, hx3, hx3k, hx3a]; refine k _ _ ?_; clear k K
 refine .tt (L6 a0.by_.Columns a0.by_.Descending a0.l a1 a2 ++ [(15, .d (.sl (x1.row.map cS61))), (23, .d (.sl (x3.row.map cS61))), (27, .agg [.d (.sl (a0.by_.Columns.map (cI .i64))), .d (.sl (a0.by_.Descending.map cB))])]) [] ?_
 replace h := bsome h; obtain ⟨r5, hr5, h⟩ := h
 refine .callL (d := 28) (p70 N x1.row x3.row a0.by_ r5 hr5) (by simp) rfl rfl (by simp <;> rfl) (by simp <;> rfl) ent70 (by simp <;> rfl) ?_
 refine .st (mk 54 [] (L6 a0.by_.Columns a0.by_.Descending a0.l a1 a2 ++ [(15, .d (.sl (x1.row.map cS61))), (23, .d (.sl (x3.row.map cS61))), (27, .agg [.d (.sl (a0.by_.Columns.map (cI .i64))), .d (.sl (a0.by_.Descending.map cB))]), (28, .i r5)]) []) ?_
 refine .runQ 1 fun K k => ?_; simp; refine k _ _ ?_; clear k K
 refine .tt (L7 a0.by_.Columns a0.by_.Descending a0.l a1 a2 r5) [] ?_
 refine .nil ?_
 replace h := bsome h; obtain ⟨v8, hj, h⟩ := h
 refine .cutQ (by kernel_rfl) (by kernel_rfl) (mk 54 [] [(6, .b v8)] []) ?_ ?_
 ·clear h; have h := hj; clear hj
  refine .runQ 3 fun K k => ?_; simp; refine k _ _ ?_; clear k K
  refine .tt (L7 a0.by_.Columns a0.by_.Descending a0.l a1 a2 r5 ++ [(31, .b (decide (r5 < 0)))]) [] ?_
  replace h := isome h; rcases h with ⟨c9, h⟩ | ⟨c9, h⟩
  ·have c9_ : decide (r5 < 0) = true := decide_eq_true c9
   refine .sub (.bool 31 (b := decide (r5 < 0)) rfl c9_) ?_
   refine .st (mk 54 [] (L7 a0.by_.Columns a0.by_.Descending a0.l a1 a2 r5 ++ [(31, .b true)]) []) ?_
   refine .runQ 23 fun K k => ?_; simp; refine k _ _ ?_; clear k K
   refine .tt [(6, .b true)] [] ?_
   cases h
   exact .nil .tt
  have c9_ : decide (r5 < 0) = false := decide_eq_false c9
  refine .sub (.bool 31 (b := decide (r5 < 0)) rfl c9_) ?_
  refine .st (mk 54 [] (L7 a0.by_.Columns a0.by_.Descending a0.l a1 a2 r5 ++ [(31, .b false)]) []) ?_
  refine .runQ 3 fun K k => ?_; simp; refine k _ _ ?_; clear k K
  refine .tt (L8 a0.by_.Columns a0.by_.Descending a0.l a1 a2 ++ [(34, .b (r5 == 0))]) [] ?_
  replace h := isome h; rcases h with ⟨c10, h⟩ | ⟨c10, h⟩
  ·have c10_ : (r5 == 0) = true := c10
   refine .sub (.bool 34 (b := (r5 == 0)) rfl c10_) ?_
   refine .st (mk 54 [] (L8 a0.by_.Columns a0.by_.Descending a0.l a1 a2 ++ [(34, .b true)]) []) ?_
   refine .runQ 20 fun K k => ?_; simp [hx1, hx1k, hx1a, hx3, hx3k, hx3a]; refine k _ _ ?_; clear k K
   refine .tt [(6, .b (decide (x1.run < x3.run)))] [] ?_
   cases h
   exact .nil .tt
  have c10_ : (r5 == 0) = false := Bool.eq_false_iff.2 c10
  refine .sub (.bool 34 (b := (r5 == 0)) rfl c10_) ?_
  refine .st (mk 54 [] (L8 a0.by_.Columns a0.by_.Descending a0.l a1 a2 ++ [(34, .b false)]) []) ?_
  refine .runQ 20 fun K k => ?_; simp; refine k _ _ ?_; clear k K
  refine .tt [(6, .b false)] [] ?_
  cases h
  exact .nil .tt
 clear hj
 refine .ret ?_
 cases h
 exact FinC.ret (by simp) (by simp)
/-- (*stemma/extsort.heads).Pop -/
def d286 (_N : Nat) (a0 : S187) : Option (S187 × S189) :=
 (chkI ((a0.l.length : Int) - 1)).bind fun v1 =>
 (idx a0.l v1).bind fun x2 =>
 (chkI ((a0.l.length : Int) - 1)).bind fun v4 =>
 (natI v4 a0.l.length).bind fun n5 =>
 some ((S187.mk a0.by_ (a0.l.take n5)), x2)
set_option maxRecDepth 100000 in
set_option maxHeartbeats 4000000 in
theorem p286 (N : Nat) (a0 : S187) (r : (S187 × S189)) (h : d286 N a0 = some r) : FunM Tryz.prog 286 [.ptr 1000 0 0] [(1000, some (.box [.d (.sl (a0.by_.Columns.map (cI .i64))), .d (.sl (a0.by_.Descending.map cB)), .ref 25002 0 a0.l.length])), (25002, R189 a0.l)] [1000] (.fn (.methodOf 189 "") [.agg [.d (.sl (r.2.row.map cS61)), .i r.2.run, .d (.sl (r.2.rest.map (cL cS61)))]]) ([(1000, (.box [.d (.sl (r.1.by_.Columns.map (cI .i64))), .d (.sl (r.1.by_.Descending.map cB)), .ref 25002 0 r.1.l.length])), (25002, (.arr 189 3 (r.1.l.map cS189)))]) := by
 unfold d286 at h
 refine FunM.enter 32 [(0, .ptr 1000 0 0)] Tryz.func286 rfl (of_decide_eq_true rfl) rfl rfl ?_
 refine .seqR ?_
 refine .runK [] 1 fun K k => ?_; simp; refine k _ _ ?_; clear k K
 refine .tt [(0, .ptr 1000 0 0)] (H5 a0) ?_
 refine .nil ?_
 replace h := bsome h; obtain ⟨v1, hv1, h⟩ := h
 have hv1 := chkI_some hv1
 replace h := bsome h; obtain ⟨x2, hx2, h⟩ := h
 obtain ⟨k3, hx2k, hx2, hx2a, hx2b⟩ := idx_some hx2
 refine .seqAnyS [[], [0], [0, 1], [0, 1, 2], [], [4], [4, 5], [4, 5, 6], [4, 5, 6, 7], [4, 5, 6, 7, 8], [0, 1, 2, 3, 4, 5, 6, 7, 8, 9], [0, 1, 2, 3, 4, 5, 6, 7, 8, 9, 10], [], [0, 1, 2, 3, 4, 5, 6, 7, 8, 9, 10, 11, 12]] (fun (b : Nat → Bool) => mk 32 [1000] [(0, .ptr 1000 0 0), (3, (if b 12 then .ptr 3 0 0 else .junk)), (4, (if b 0 then .ptr 1000 0 0 else .junk)), (5, (if b 1 then .ptr 1000 0 0 else .junk)), (6, (if b 2 then .ptr 1000 0 2 else .junk)), (7, (if b 3 then .ref 25002 0 a0.l.length else .junk)), (8, (if b 4 then .ptr 1000 0 0 else .junk)), (9, (if b 5 then .ptr 1000 0 0 else .junk)), (10, (if b 6 then .ptr 1000 0 2 else .junk)), (11, (if b 7 then .ref 25002 0 a0.l.length else .junk)), (12, (if b 8 then .i (a0.l.length : Int) else .junk)), (13, (if b 9 then .i v1 else .junk)), (14, (if b 10 then .ptr 25002 k3 0 else .junk)), (15, (if b 11 then .agg [.d (.sl (x2.row.map cS61)), .i x2.run, .d (.sl (x2.rest.map (cL cS61)))] else .junk))] [(3, (if b 13 then some (.box [.d (.sl (x2.row.map cS61)), .i x2.run, .d (.sl (x2.rest.map (cL cS61)))]) else (if b 12 then some (.box [.d (.lit (.slice none 0 0)), .i 0, .d (.lit (.slice none 0 0))]) else none))), (1000, some (.box [.d (.sl (a0.by_.Columns.map (cI .i64))), .d (.sl (a0.by_.Descending.map cB)), .ref 25002 0 a0.l.length])), (25002, R189 a0.l)]) (mk 32 [1000] [(0, .ptr 1000 0 0), (3, .ptr 3 0 0)] (H17 x2 a0)) (by kernel_rfl) (by kernel_rfl) Sub.tt (Steps.cons ?_ (Steps.cons ?_ (Steps.cons ?_ (Steps.cons ?_ (Steps.cons ?_ (Steps.cons ?_ (Steps.cons ?_ (Steps.cons ?_ (Steps.cons ?_ (Steps.cons ?_ (Steps.cons ?_ (Steps.cons ?_ (Steps.cons ?_ (Steps.cons ?_ (Steps.nil))))))))))))))) ?_ ?_
 iterate 9
  ·intro b h0 ha hd
   have T := fct h0 ha hd; simp at T
   refine .runK [] 1 fun K k => ?_; simp [T]; refine k _ _ ?_; clear k K
   exact .nil (.table (by simp [T]) (by simp [T]))
 ·intro b h0 ha hd
  have T := fct h0 ha hd; simp at T
  refine .runK [] 1 fun K k => ?_; simp [T, hv1]; refine k _ _ ?_; clear k K
  exact .nil (.table (by simp [T]) (by simp [T]))
 ·intro b h0 ha hd
  have T := fct h0 ha hd; simp at T
  refine .runK [] 1 fun K k => ?_; simp [T, hx2k, hx2a, hx2b]; refine k _ _ ?_; clear k K
  exact .nil (.table (by simp [T]) (by simp [T]))
 ·intro b h0 ha hd
  have T := fct h0 ha hd; simp at T
  refine .runK [] 1 fun K k => ?_; simp [T, hx2]; refine k _ _ ?_; clear k K
  exact .nil (.table (by simp [T]) (by simp [T]))
 iterate 2
  ·intro b h0 ha hd
   have T := fct h0 ha hd; simp at T
   refine .runK [] 1 fun K k => ?_; simp [T]; refine k _ _ ?_; clear k K
   exact .nil (.table (by simp [T]) (by simp [T]))
 ·intro b hb
  have t0 := hb 0 (by decide)
  have t1 := hb 1 (by decide)
  have t2 := hb 2 (by decide)
  have t3 := hb 3 (by decide)
  have t4 := hb 4 (by decide)
  have t5 := hb 5 (by decide)
  have t6 := hb 6 (by decide)
  have t7 := hb 7 (by decide)
  have t8 := hb 8 (by decide)
  have t9 := hb 9 (by decide)
  have t10 := hb 10 (by decide)
  have t11 := hb 11 (by decide)
  have t12 := hb 12 (by decide)
  have t13 := hb 13 (by decide)
  exact Sub.table (by simp [t0, t1, t2, t3, t4, t5, t6, t7, t8, t9, t10, t11, t12]) (by simp [t13])
 skip
 replace h := bsome h; obtain ⟨v4, hv4, h⟩ := h
 have hv4 := chkI_some hv4
 replace h := bsome h; obtain ⟨n5, gn5, h⟩ := h
 obtain ⟨hn5a, hn5⟩ := natI_some gn5
 clear gn5
 subst hn5a
 refine .seqT 14 (by kernel_rfl) (by kernel_rfl) fun K k => ?_; simp [hv4, hn5]; refine k _ _ ?_; clear k K
 refine .tt [(3, .ptr 3 0 0), (27, .ref 25002 0 n5), (29, .ptr 1000 0 2)] (H17 x2 a0) ?_
 refine .runK [] 1 fun K k => ?_; simp; refine k _ _ ?_; clear k K
 refine .tt [(3, .ptr 3 0 0)] [(3, some (.box [.d (.sl (x2.row.map cS61)), .i x2.run, .d (.sl (x2.rest.map (cL cS61)))])), (1000, some (.box [.d (.sl (a0.by_.Columns.map (cI .i64))), .d (.sl (a0.by_.Descending.map cB)), .ref 25002 0 n5])), (25002, R189 a0.l)] ?_
 refine .nil ?_
 refine .seqR ?_
 refine .runK [] 3 fun K k => ?_; simp; refine k _ _ ?_; clear k K
 refine .tt [(2, .fn (.methodOf 189 "") [.agg [.d (.sl (x2.row.map cS61)), .i x2.run, .d (.sl (x2.rest.map (cL cS61)))]])] [(1000, some (.box [.d (.sl (a0.by_.Columns.map (cI .i64))), .d (.sl (a0.by_.Descending.map cB)), .ref 25002 0 n5])), (25002, R189 a0.l)] ?_
 refine .nil ?_
 refine .sub (.cut 25002 n5 rfl) ?_
 refine .sub (S' := mk 32 [1000] [(2, .fn (.methodOf 189 "") [.agg [.d (.sl (x2.row.map cS61)), .i x2.run, .d (.sl (x2.rest.map (cL cS61)))]])] [(1000, some (.box [.d (.sl (a0.by_.Columns.map (cI .i64))), .d (.sl (a0.by_.Descending.map cB)), .ref 25002 0 ((a0.l.take n5).length)])), (25002, R189 (a0.l.take n5))]) (by simp [List.map_take, Nat.min_eq_left hn5]; exact Sub.table (by simp) (by simp)) ?_
 refine .ret ?_
 cases h
 exact FinF.ret (by simp) (by simp)
end Go.Proofs.YtimkkjiplioohaaGreatDoor
