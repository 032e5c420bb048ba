/- Functions of the program as functional programs; the code computes them. -/
import Derived.Test.YtifcmomjjkbboabRp13
namespace Go.Proofs.Ytifcmomjjkbboab
open Go.Ab Go.Rp
attribute [-simp] List.all_eq_true Array.all_toList Array.all_eq_true

/-- (*stemma/replication.Cluster).Elect -/
def d19 (N : Nat) (a0 : S59) (a1 : Int) (a2 : (List Int)) : Option (S59 × Int) :=
 (d23 N a0 a1).bind fun r1 =>
 if (!r1) = true then (
  some (a0, 1)
 ) else
 bindO (β := List Int) (ρ := (S59 × Int)) (
  iterN (σ := ((List Int) × Int)) (ρ := (Out (List Int) (S59 × Int))) (fun ((l16, v17) : ((List Int) × Int)) =>
   if v17 < (a2.length : Int) then (
    (idx a2 v17).bind fun x50 =>
    (d23 N a0 x50).bind fun r52 =>
    if (!r52) = true then (
     some (.inr (.ret (a0, 1)))
    ) else
    Option.bind (α := Bool) (
     if (x50 != a1) then (
      (d32 N l16 x50).bind fun r58 =>
      some (!r58)
     ) else
     some false
    ) fun (v56 : Bool) =>
    if v56 = true then (
     (appL 8 l16 [x50]).bind fun _l60 =>
     (chkI (v17 + 1)).bind fun v61 =>
     some (.inl ((l16 ++ [x50]), v61))
    ) else
    (chkI (v17 + 1)).bind fun v62 =>
    some (.inl (l16, v62))
   ) else
   some (.inr (.go l16))
  ) N (([] : List Int), 0)
 ) fun (l48 : List Int) =>
 (chkI ((l48.length : Int) + 1)).bind fun v63 =>
 (chkI (2 * v63)).bind fun v64 =>
 if v64 ≤ (a0.servers.length : Int) then (
  some (a0, 4)
 ) else
 bindO (β := Unit) (ρ := (S59 × Int)) (
  iterN (σ := Int) (ρ := (Out Unit (S59 × Int))) (fun (v75 : Int) =>
   if v75 < (l48.length : Int) then (
    (idx l48 v75).bind fun x98 =>
    (idx a0.servers x98).bind fun x100 =>
    (idx a0.servers a1).bind fun x102 =>
    (d33 N x100.log x102.log).bind fun r104 =>
    if r104 = true then (
     some (.inr (.ret (a0, 21)))
    ) else
    (chkI (v75 + 1)).bind fun v106 =>
    some (.inl v106)
   ) else
   some (.inr (.go ()))
  ) N 0
 ) fun (_ : Unit) =>
 if (a0.leaders.length : Int) > 60 then (
  some (a0, 18)
 ) else
 (appL 8 a0.leaders [a1]).bind fun _l108 =>
 (chkI (((a0.leaders ++ [a1]).length : Int) - 1)).bind fun v109 =>
 (appL 8 l48 [a1]).bind fun _l110 =>
 letv (l48 ++ [a1]) fun l111 =>
 letv (a0.leaders ++ [a1]) fun l112 =>
 Option.bind (α := List S61) (
  iterN (σ := ((List S61) × Int)) (ρ := List S61) (fun ((l121, v122) : ((List S61) × Int)) =>
   if v122 < ((l48 ++ [a1]).length : Int) then (
    (idx l111 v122).bind fun x145 =>
    (idx l121 x145).bind fun x147 =>
    letv (setI l121 x145 (S61.mk v109 x147.commit x147.log x147.match_)) fun l151 =>
    (chkI (v122 + 1)).bind fun v152 =>
    some (.inl (l151, v152))
   ) else
   some (.inr l121)
  ) N (a0.servers, 0)
 ) fun (l143 : List S61) =>
 (idx l143 a1).bind fun x154 =>
 (mkL 8 (l143.length : Int) (0 : Int)).bind fun l158 =>
 letv (setI l143 a1 (S61.mk x154.term x154.commit x154.log l158)) fun l159 =>
 some ((S59.mk l159 l112 a0.network), 0)
set_option maxRecDepth 100000 in
set_option maxHeartbeats 4000000 in
theorem p19 (N : Nat) (a0 : S59) (a1 : Int) (a2 : (List Int)) (r : (S59 × Int)) (h : d19 N a0 a1 a2 = some r) : FunM Try.prog 19 [.ptr 1000 0 0, .i a1, .d (.sl (a2.map (cI .i64)))] [(1000, some (.box [.ref 25000 0 a0.servers.length, .ref 25001 0 a0.leaders.length, .ref 25002 0 a0.network.length])), (25000, some (.nest 61 4 [none, none, some (64, 2), some (3, 1)] (a0.servers.map cS61) [])), (25001, R3 a0.leaders), (25002, R73 a0.network)] [1000] (.i r.2) ([(1000, (.box [.ref 25000 0 r.1.servers.length, .ref 25001 0 r.1.leaders.length, .ref 25002 0 r.1.network.length])), (25000, (.nest 61 4 [none, none, some (64, 2), some (3, 1)] (r.1.servers.map cS61) [])), (25001, (.arr 3 1 (r.1.leaders.map (cI .i64)))), (25002, (.arr 73 8 (r.1.network.map cS73)))]) := by
 unfold d19 at h
 refine FunM.enter 130 [(0, .ptr 1000 0 0), (1, .i a1), (2, .d (.sl (a2.map (cI .i64))))] Try.func19 rfl (of_decide_eq_true rfl) rfl rfl ?_
 refine .seqR ?_
 refine .runK [] 1 fun K k => ?_; simp; refine k _ _ ?_; clear k K
 refine .tt (L40 a1 a2) (H1 a0) ?_
 refine .nil ?_
 refine .seq ?_
 refine .seqR ?_
 refine .runK [] 2 fun K k => ?_; simp; refine k _ _ ?_; clear k K
 refine .tt (L40 a1 a2 ++ [(15, .ptr 1000 0 0), (16, .i a1)]) (H1 a0) ?_
 replace h := bsome h; obtain ⟨r1, hr1, h⟩ := h
 refine .callL (d := 17) (p23 N a0 a1 r1 hr1) (by simp) rfl rfl (by simp <;> rfl) (by simp <;> rfl) ent23 (by simp <;> rfl) ?_
 refine .st (mk 130 [1000] (L40 a1 a2 ++ [(15, .ptr 1000 0 0), (16, .i a1), (17, .b r1)]) (H1 a0)) ?_
 refine .runK [] 1 fun K k => ?_; simp; refine k _ _ ?_; clear k K
 refine .tt (L40 a1 a2 ++ [(18, .b (!r1))]) (H1 a0) ?_
 refine .nil ?_
 replace h := isome h; rcases h with ⟨c2, h⟩ | ⟨c2, h⟩
 ·have c2_ : (!r1) = true := c2
  refine .condT (b := (!r1)) rfl c2_ ?_
  refine .sub (.bool 18 (b := (!r1)) rfl c2_) ?_
  refine .st (mk 130 [1000] (L40 a1 a2 ++ [(18, .b true)]) (H1 a0)) ?_
  refine .seqR ?_
  refine .runK [] 1 fun K k => ?_; simp; refine k _ _ ?_; clear k K
  refine .tt [(6, .i 1)] (H1 a0) ?_
  refine .nil ?_
  refine .ret ?_
  cases h
  refine thenQ_pass (by simp) ?_
  exact FinF.ret (by simp) (by simp)
 have c2_ : (!r1) = false := Bool.eq_false_iff.2 c2
 refine .condF (b := (!r1)) rfl c2_ ?_
 refine .sub (.bool 18 (b := (!r1)) rfl c2_) ?_
 refine .st (mk 130 [1000] (L40 a1 a2 ++ [(18, .b false)]) (H1 a0)) ?_
 refine .skip ?_
 refine thenQ_normal ?_
 refine .seqR ?_
 refine .runK [] 1 fun K k => ?_; simp; refine k _ _ ?_; clear k K
 refine .tt (L40 a1 a2 ++ [(7, .d (.lit (.slice none 0 0)))]) (H1 a0) ?_
 refine .nil ?_
 refine .seq ?_
 refine .seqR ?_
 refine .runK [] 3 fun K k => ?_; simp; refine k _ _ ?_; clear k K
 refine .tt [(0, .ptr 1000 0 0), (1, .i a1), (7, .d (.lit (.slice none 0 0))), (19, .d (.sl (a2.map (cI .i64)))), (20, .i (a2.length : Int)), (21, .i 0)] (H1 a0) ?_
 refine .nil ?_
 refine .lastJ (fun (l48 : List Int) => mk 130 [1000] [(0, .ptr 1000 0 0), (1, .i a1), (7, .ref 41 0 l48.length)] (H5 l48 a0)) h ?_ ?_ <;> clear h
 ·intro o h
  refine .block ?_
  refine .iter (fun ((l16, v17) : ((List Int) × Int)) => mk 130 [1000] (L41 a1 l16.length a2 a2.length v17) (H5 l16 a0)) h (Sub.trans (Sub.nilOwn (t := 7) (id := 41) (T := 3) (n := 1) rfl rfl (by decide)) (by simp; exact Sub.tt)) ?_
  clear h
  rintro ⟨l16, v17⟩ x h
  dsimp only at h ⊢
  refine .seqR ?_
  refine .runK [] 1 fun K k => ?_; simp; refine k _ _ ?_; clear k K
  refine .tt (L41 a1 l16.length a2 a2.length v17 ++ [(22, .b (decide (v17 < (a2.length : Int))))]) (H5 l16 a0) ?_
  refine .nil ?_
  refine .seq ?_
  replace h := isome h; rcases h with ⟨c49, h⟩ | ⟨c49, h⟩
  ·have c49_ : decide (v17 < (a2.length : Int)) = true := decide_eq_true c49
   refine .condT (b := decide (v17 < (a2.length : Int))) rfl c49_ ?_
   refine .sub (.bool 22 (b := decide (v17 < (a2.length : Int))) rfl c49_) ?_
   refine .st (mk 130 [1000] (L41 a1 l16.length a2 a2.length v17 ++ [(22, .b true)]) (H5 l16 a0)) ?_
   refine .skip ?_
   refine thenQ_normal ?_
   refine .seq ?_
   refine .block ?_
   refine .seqR ?_
   replace h := bsome h; obtain ⟨x50, hx50, h⟩ := h
   obtain ⟨k51, hx50k, hx50, hx50a, hx50b⟩ := idx_some hx50
   refine .runK [] 3 fun K k => ?_; simp [hx50, hx50k, hx50a]; refine k _ _ ?_; clear k K
   refine .tt (L42 a1 l16.length x50 a2 a2.length v17) (H5 l16 a0) ?_
   refine .nil ?_
   refine .seq ?_
   refine .seqR ?_
   refine .runK [] 2 fun K k => ?_; simp; refine k _ _ ?_; clear k K
   refine .tt (L42 a1 l16.length x50 a2 a2.length v17 ++ [(25, .ptr 1000 0 0), (26, .i x50)]) (H5 l16 a0) ?_
   replace h := bsome h; obtain ⟨r52, hr52, h⟩ := h
   refine .callL (d := 27) (p23 N a0 x50 r52 hr52) (by simp) rfl rfl (by simp <;> rfl) (by simp <;> rfl) ent23 (by simp <;> rfl) ?_
   refine .st (mk 130 [1000] (L42 a1 l16.length x50 a2 a2.length v17 ++ [(25, .ptr 1000 0 0), (26, .i x50), (27, .b r52)]) (H5 l16 a0)) ?_
   refine .runK [] 1 fun K k => ?_; simp; refine k _ _ ?_; clear k K
   refine .tt (L42 a1 l16.length x50 a2 a2.length v17 ++ [(28, .b (!r52))]) (H5 l16 a0) ?_
   refine .nil ?_
   replace h := isome h; rcases h with ⟨c53, h⟩ | ⟨c53, h⟩
   ·have c53_ : (!r52) = true := c53
    refine .condT (b := (!r52)) rfl c53_ ?_
    refine .sub (.bool 28 (b := (!r52)) rfl c53_) ?_
    refine .st (mk 130 [1000] (L42 a1 l16.length x50 a2 a2.length v17 ++ [(28, .b true)]) (H5 l16 a0)) ?_
    refine .seqR ?_
    refine .runK [] 1 fun K k => ?_; simp; refine k _ _ ?_; clear k K
    refine .tt [(6, .i 1)] (H1 a0) ?_
    refine .nil ?_
    refine .ret ?_
    cases h
    refine thenQ_pass (by simp) ?_
    refine blockQ.ret ?_
    refine thenQ_pass (by simp) ?_
    refine PostI.out (by simp) ?_
    rintro rfl
    refine blockQ.ret ?_
    refine PostJ.out (by simp) ?_
    rintro rfl
    refine thenQ_pass (by simp) ?_
    exact FinF.ret (by simp) (by simp)
   have c53_ : (!r52) = false := Bool.eq_false_iff.2 c53
   refine .condF (b := (!r52)) rfl c53_ ?_
   refine .sub (.bool 28 (b := (!r52)) rfl c53_) ?_
   refine .st (mk 130 [1000] (L42 a1 l16.length x50 a2 a2.length v17 ++ [(28, .b false)]) (H5 l16 a0)) ?_
   refine .skip ?_
   refine thenQ_normal ?_
   replace h := bsome h; obtain ⟨v56, hj, h⟩ := h
   refine .cutR (mk 130 [1000] (L42 a1 l16.length x50 a2 a2.length v17 ++ [(37, .b v56)]) (H5 l16 a0)) ?_ ?_
   ·clear h; have h := hj; clear hj
    refine .runK [] 4 fun K k => ?_; simp; refine k _ _ ?_; clear k K
    refine .tt (L42 a1 l16.length x50 a2 a2.length v17 ++ [(32, .b (x50 != a1))]) (H5 l16 a0) ?_
    replace h := isome h; rcases h with ⟨c57, h⟩ | ⟨c57, h⟩
    ·have c57_ : (x50 != a1) = true := c57
     refine .sub (.bool 32 (b := (x50 != a1)) rfl c57_) ?_
     refine .st (mk 130 [1000] (L43 a1 l16.length x50 a2 a2.length v17) (H5 l16 a0)) ?_
     refine .runK [] 2 fun K k => ?_; simp; refine k _ _ ?_; clear k K
     refine .tt (L43 a1 l16.length x50 a2 a2.length v17 ++ [(33, .ref 41 0 l16.length), (34, .i x50)]) (H5 l16 a0) ?_
     replace h := bsome h; obtain ⟨r58, hr58, h⟩ := h
     refine .callL (d := 35) (p32 N l16 x50 r58 hr58) (by simp) rfl rfl (by simp <;> rfl) (by simp <;> rfl) ent32 (by simp <;> rfl) ?_
     refine .st (mk 130 [1000] (L43 a1 l16.length x50 a2 a2.length v17 ++ [(33, .ref 41 0 l16.length), (34, .i x50), (35, .b r58)]) (H5 l16 a0)) ?_
     refine .runK [] 2 fun K k => ?_; simp; refine k _ _ ?_; clear k K
     refine .tt (L42 a1 l16.length x50 a2 a2.length v17 ++ [(33, .ref 41 0 l16.length), (34, .i x50), (35, .b r58), (36, .b (!r58)), (37, .b (!r58))]) (H5 l16 a0) ?_
     cases h
     exact .nil .tt
    have c57_ : (x50 != a1) = false := Bool.eq_false_iff.2 c57
    refine .sub (.bool 32 (b := (x50 != a1)) rfl c57_) ?_
    refine .st (mk 130 [1000] (L42 a1 l16.length x50 a2 a2.length v17 ++ [(32, .b false)]) (H5 l16 a0)) ?_
    refine .runK [] 5 fun K k => ?_; simp; refine k _ _ ?_; clear k K
    refine .tt (L42 a1 l16.length x50 a2 a2.length v17 ++ [(33, .tup []), (34, .tup []), (35, .tup []), (36, .tup []), (37, .b false)]) (H5 l16 a0) ?_
    cases h
    exact .nil .tt
   clear hj
   replace h := isome h; rcases h with ⟨c59, h⟩ | ⟨c59, h⟩
   ·have c59_ : v56 = true := c59
    refine .condT (b := v56) rfl c59_ ?_
    refine .sub (.bool 37 (b := v56) rfl c59_) ?_
    refine .st (mk 130 [1000] (L42 a1 l16.length x50 a2 a2.length v17 ++ [(37, .b true)]) (H5 l16 a0)) ?_
    refine .region ?_
    replace h := bsome h; obtain ⟨l60, hl60, h⟩ := h
    obtain ⟨hl60a, hl60⟩ := appL_some hl60
    subst hl60
    try simp only [List.length_cons, List.length_nil, Nat.zero_add] at hl60a
    refine .runK [40] 5 fun K k => ?_; simp [hl60a]; refine k _ _ ?_; clear k K
    refine .tt [(0, .ptr 1000 0 0), (1, .i a1), (7, .ref 41 0 ((l16 ++ [x50]).length)), (19, .d (.sl (a2.map (cI .i64)))), (20, .i (a2.length : Int)), (21, .i v17)] [(41, R3 (l16 ++ [x50])), (1000, some (.box [.ref 25000 0 a0.servers.length, .ref 25001 0 a0.leaders.length, .ref 25002 0 a0.network.length])), (25000, some (.nest 61 4 [none, none, some (64, 2), some (3, 1)] (a0.servers.map cS61) [])), (25001, R3 a0.leaders), (25002, R73 a0.network)] ?_
    refine .nil ?_
    refine blockQ.normal ?_
    refine thenQ_normal ?_
    refine .region ?_
    replace h := bsome h; obtain ⟨v61, hv61, h⟩ := h
    have hv61 := chkI_some hv61
    refine .runK [] 2 fun K k => ?_; simp [hv61]; refine k _ _ ?_; clear k K
    refine .tt [(0, .ptr 1000 0 0), (1, .i a1), (7, .ref 41 0 ((l16 ++ [x50]).length)), (19, .d (.sl (a2.map (cI .i64)))), (20, .i (a2.length : Int)), (21, .i v61)] [(41, R3 (l16 ++ [x50])), (1000, some (.box [.ref 25000 0 a0.servers.length, .ref 25001 0 a0.leaders.length, .ref 25002 0 a0.network.length])), (25000, some (.nest 61 4 [none, none, some (64, 2), some (3, 1)] (a0.servers.map cS61) [])), (25001, R3 a0.leaders), (25002, R73 a0.network)] ?_
    refine .nil ?_
    cases h
    refine PostI.next ?_
    exact Sub.tt
   have c59_ : v56 = false := Bool.eq_false_iff.2 c59
   refine .condF (b := v56) rfl c59_ ?_
   refine .sub (.bool 37 (b := v56) rfl c59_) ?_
   refine .st (mk 130 [1000] (L42 a1 l16.length x50 a2 a2.length v17 ++ [(37, .b false)]) (H5 l16 a0)) ?_
   refine .skip ?_
   refine blockQ.normal ?_
   refine thenQ_normal ?_
   refine .region ?_
   replace h := bsome h; obtain ⟨v62, hv62, h⟩ := h
   have hv62 := chkI_some hv62
   refine .runK [] 2 fun K k => ?_; simp [hv62]; refine k _ _ ?_; clear k K
   refine .tt (L41 a1 l16.length a2 a2.length v62) (H5 l16 a0) ?_
   refine .nil ?_
   cases h
   refine PostI.next ?_
   exact Sub.tt
  have c49_ : decide (v17 < (a2.length : Int)) = false := decide_eq_false c49
  refine .condF (b := decide (v17 < (a2.length : Int))) rfl c49_ ?_
  refine .sub (.bool 22 (b := decide (v17 < (a2.length : Int))) rfl c49_) ?_
  refine .st (mk 130 [1000] (L41 a1 l16.length a2 a2.length v17 ++ [(22, .b false)]) (H5 l16 a0)) ?_
  refine .exit ?_
  cases h
  refine thenQ_pass (by simp) ?_
  refine PostI.out (by simp) ?_
  rintro rfl
  refine blockQ.hit ?_
  refine PostJ.next ?_
  exact Sub.tt
 rintro l48 h
 refine thenQ_normal ?_
 refine .seq ?_
 refine .seqR ?_
 replace h := bsome h; obtain ⟨v63, hv63, h⟩ := h
 have hv63 := chkI_some hv63
 replace h := bsome h; obtain ⟨v64, hv64, h⟩ := h
 have hv64 := chkI_some hv64
 refine .runK [] 10 fun K k => ?_; simp [hv63, hv64]; refine k _ _ ?_; clear k K
 refine .tt (L44 a1 l48.length ++ [(52, .b (decide (v64 ≤ (a0.servers.length : Int))))]) (H5 l48 a0) ?_
 refine .nil ?_
 replace h := isome h; rcases h with ⟨c65, h⟩ | ⟨c65, h⟩
 ·have c65_ : decide (v64 ≤ (a0.servers.length : Int)) = true := decide_eq_true c65
  refine .condT (b := decide (v64 ≤ (a0.servers.length : Int))) rfl c65_ ?_
  refine .sub (.bool 52 (b := decide (v64 ≤ (a0.servers.length : Int))) rfl c65_) ?_
  refine .st (mk 130 [1000] (L44 a1 l48.length ++ [(52, .b true)]) (H5 l48 a0)) ?_
  refine .seqR ?_
  refine .runK [] 1 fun K k => ?_; simp; refine k _ _ ?_; clear k K
  refine .tt [(6, .i 4)] (H1 a0) ?_
  refine .nil ?_
  refine .ret ?_
  cases h
  refine thenQ_pass (by simp) ?_
  exact FinF.ret (by simp) (by simp)
 have c65_ : decide (v64 ≤ (a0.servers.length : Int)) = false := decide_eq_false c65
 refine .condF (b := decide (v64 ≤ (a0.servers.length : Int))) rfl c65_ ?_
 refine .sub (.bool 52 (b := decide (v64 ≤ (a0.servers.length : Int))) rfl c65_) ?_
 refine .st (mk 130 [1000] (L44 a1 l48.length ++ [(52, .b false)]) (H5 l48 a0)) ?_
 refine .skip ?_
 refine thenQ_normal ?_
 refine .seq ?_
 refine .seqR ?_
 refine .runK [] 3 fun K k => ?_; simp; refine k _ _ ?_; clear k K
 refine .tt (L44 a1 l48.length ++ [(53, .ref 41 0 l48.length), (54, .i (l48.length : Int)), (55, .i 0)]) (H5 l48 a0) ?_
 refine .nil ?_
 refine .lastJ (fun (_ : Unit) => mk 130 [1000] [(0, .ptr 1000 0 0), (1, .i a1), (7, .ref 41 0 l48.length)] (H5 l48 a0)) h ?_ ?_ <;> clear h
 ·intro o h
  refine .block ?_
  refine .iter (fun (v75 : Int) => mk 130 [1000] (L45 a1 l48.length v75) (H5 l48 a0)) h Sub.tt ?_
  clear h
  rintro v75 x h
  refine .seqR ?_
  refine .runK [] 1 fun K k => ?_; simp; refine k _ _ ?_; clear k K
  refine .tt (L45 a1 l48.length v75 ++ [(56, .b (decide (v75 < (l48.length : Int))))]) (H5 l48 a0) ?_
  refine .nil ?_
  refine .seq ?_
  replace h := isome h; rcases h with ⟨c97, h⟩ | ⟨c97, h⟩
  ·have c97_ : decide (v75 < (l48.length : Int)) = true := decide_eq_true c97
   refine .condT (b := decide (v75 < (l48.length : Int))) rfl c97_ ?_
   refine .sub (.bool 56 (b := decide (v75 < (l48.length : Int))) rfl c97_) ?_
   refine .st (mk 130 [1000] (L45 a1 l48.length v75 ++ [(56, .b true)]) (H5 l48 a0)) ?_
   refine .skip ?_
   refine thenQ_normal ?_
   refine .seq ?_
   refine .block ?_
   refine .seqR ?_
   replace h := bsome h; obtain ⟨x98, hx98, h⟩ := h
   obtain ⟨k99, hx98k, hx98, hx98a, hx98b⟩ := idx_some hx98
   refine .runK [] 3 fun K k => ?_; simp [hx98, hx98k, hx98a, hx98b]; refine k _ _ ?_; clear k K
   refine .tt (L46 a1 l48.length x98 v75) (H5 l48 a0) ?_
   refine .nil ?_
   replace h := bsome h; obtain ⟨x100, hx100, h⟩ := h
   obtain ⟨k101, hx100k, hx100, hx100a, hx100b⟩ := idx_some hx100
   replace h := bsome h; obtain ⟨x102, hx102, h⟩ := h
   obtain ⟨k103, hx102k, hx102, hx102a, hx102b⟩ := idx_some hx102
   replace h := bsome h; obtain ⟨r104, hr104, h⟩ := h
   refine .seqQ (by kernel_rfl) (by kernel_rfl) ?_
   refine .viewQ (mk 130 [1000] (L46 a1 l48.length x98 v75) (H5 l48 a0)) [(75, .b r104)] [59, 60, 61, 62, 63, 64, 65, 66, 67, 68, 69, 70, 71, 72, 73, 74, 75] (Sub.refl _) rfl (by simp [isLitV]) ?_ ?_
   ·refine .sub (.freezeN 25000 rfl rfl) ?_
    refine .st (mk 130 [1000] (L46 a1 l48.length x98 v75) (H33 l48 a0)) ?_
    refine .runQ 16 fun K k => ?_; simp [hx100, hx100k, hx100a, hx102, hx102k, hx102a]; refine k _ _ ?_; clear k K
    refine .tt (L45 a1 l48.length v75 ++ [(66, .d (.sl (x100.log.map cS64))), (74, .d (.sl (x102.log.map cS64)))]) (H33 l48 a0) ?_
    refine .callL (d := 75) (p33 N x100.log x102.log r104 hr104) (by simp) rfl rfl (by simp <;> rfl) (by simp <;> rfl) ent33 (by simp <;> rfl) ?_
    refine .st (mk 130 [1000] (L45 a1 l48.length v75 ++ [(66, .d (.sl (x100.log.map cS64))), (74, .d (.sl (x102.log.map cS64))), (75, .b r104)]) (H33 l48 a0)) ?_
    refine .nil ?_
    simp
   skip
   refine .sub (show Go.Ab.Sub _ (mk 130 [1000] (L45 a1 l48.length v75 ++ [(75, .b r104)]) (H5 l48 a0)) from (by simp; exact Sub.tt)) ?_
   replace h := isome h; rcases h with ⟨c105, h⟩ | ⟨c105, h⟩
   ·have c105_ : r104 = true := c105
    refine .condT (b := r104) rfl c105_ ?_
    refine .sub (.bool 75 (b := r104) rfl c105_) ?_
    refine .st (mk 130 [1000] (L45 a1 l48.length v75 ++ [(75, .b true)]) (H5 l48 a0)) ?_
    refine .seqR ?_
    refine .runK [] 1 fun K k => ?_; simp; refine k _ _ ?_; clear k K
    refine .tt [(6, .i 21)] (H1 a0) ?_
    refine .nil ?_
    refine .ret ?_
    cases h
    refine blockQ.ret ?_
    refine thenQ_pass (by simp) ?_
    refine PostI.out (by simp) ?_
    rintro rfl
    refine blockQ.ret ?_
    refine PostJ.out (by simp) ?_
    rintro rfl
    refine thenQ_pass (by simp) ?_
    exact FinF.ret (by simp) (by simp)
   have c105_ : r104 = false := Bool.eq_false_iff.2 c105
   refine .condF (b := r104) rfl c105_ ?_
   refine .sub (.bool 75 (b := r104) rfl c105_) ?_
   refine .st (mk 130 [1000] (L45 a1 l48.length v75 ++ [(75, .b false)]) (H5 l48 a0)) ?_
   refine .skip ?_
   refine blockQ.normal ?_
   refine thenQ_normal ?_
   refine .region ?_
   replace h := bsome h; obtain ⟨v106, hv106, h⟩ := h
   have hv106 := chkI_some hv106
   refine .runK [] 2 fun K k => ?_; simp [hv106]; refine k _ _ ?_; clear k K
   refine .tt (L45 a1 l48.length v106) (H5 l48 a0) ?_
   refine .nil ?_
   cases h
   refine PostI.next ?_
   exact Sub.tt
  have c97_ : decide (v75 < (l48.length : Int)) = false := decide_eq_false c97
  refine .condF (b := decide (v75 < (l48.length : Int))) rfl c97_ ?_
  refine .sub (.bool 56 (b := decide (v75 < (l48.length : Int))) rfl c97_) ?_
  refine .st (mk 130 [1000] (L45 a1 l48.length v75 ++ [(56, .b false)]) (H5 l48 a0)) ?_
  refine .exit ?_
  cases h
  refine thenQ_pass (by simp) ?_
  refine PostI.out (by simp) ?_
  rintro rfl
  refine blockQ.hit ?_
  refine PostJ.next ?_
  exact Sub.tt
 rintro ⟨⟩ h
 refine thenQ_normal ?_
 refine .seq ?_
 refine .seqR ?_
 refine .runK [] 6 fun K k => ?_; simp; refine k _ _ ?_; clear k K
 refine .tt (L44 a1 l48.length ++ [(82, .b (decide ((a0.leaders.length : Int) > 60)))]) (H5 l48 a0) ?_
 refine .nil ?_
 replace h := isome h; rcases h with ⟨c107, h⟩ | ⟨c107, h⟩
 ·have c107_ : decide ((a0.leaders.length : Int) > 60) = true := decide_eq_true c107
  refine .condT (b := decide ((a0.leaders.length : Int) > 60)) rfl c107_ ?_
  refine .sub (.bool 82 (b := decide ((a0.leaders.length : Int) > 60)) rfl c107_) ?_
  refine .st (mk 130 [1000] (L44 a1 l48.length ++ [(82, .b true)]) (H5 l48 a0)) ?_
  refine .seqR ?_
  refine .runK [] 1 fun K k => ?_; simp; refine k _ _ ?_; clear k K
  refine .tt [(6, .i 18)] (H1 a0) ?_
  refine .nil ?_
  refine .ret ?_
  cases h
  refine thenQ_pass (by simp) ?_
  exact FinF.ret (by simp) (by simp)
 have c107_ : decide ((a0.leaders.length : Int) > 60) = false := decide_eq_false c107
 refine .condF (b := decide ((a0.leaders.length : Int) > 60)) rfl c107_ ?_
 refine .sub (.bool 82 (b := decide ((a0.leaders.length : Int) > 60)) rfl c107_) ?_
 refine .st (mk 130 [1000] (L44 a1 l48.length ++ [(82, .b false)]) (H5 l48 a0)) ?_
 refine .skip ?_
 refine thenQ_normal ?_
 refine .seqR ?_
 replace h := bsome h; obtain ⟨l108, hl108, h⟩ := h
 obtain ⟨hl108a, hl108⟩ := appL_some hl108
 subst hl108
 try simp only [List.length_cons, List.length_nil, Nat.zero_add] at hl108a
 refine .runK [89] 11 fun K k => ?_; simp [hl108a]; refine k _ _ ?_; clear k K
 refine .tt [(0, .ptr 1000 0 0), (1, .i a1), (7, .ref 41 0 l48.length)] [(41, R3 l48), (1000, some (.box [.ref 25000 0 a0.servers.length, .ref 25001 0 ((a0.leaders ++ [a1]).length), .ref 25002 0 a0.network.length])), (25000, some (.nest 61 4 [none, none, some (64, 2), some (3, 1)] (a0.servers.map cS61) [])), (25001, R3 (a0.leaders ++ [a1])), (25002, R73 a0.network)] ?_
 refine .nil ?_
 refine .seqR ?_
 replace h := bsome h; obtain ⟨v109, hv109, h⟩ := h
 have hv109 := chkI_some hv109
 try simp only [List.length_append, List.length_cons, List.length_nil, Nat.zero_add, Int.natCast_add, Int.cast_ofNat_Int, Int.add_sub_cancel] at hv109
 refine .runK [] 7 fun K k => ?_; simp [hv109]; refine k _ _ ?_; clear k K
 refine .tt (L44 a1 l48.length ++ [(12, .i v109)]) [(41, R3 l48), (1000, some (.box [.ref 25000 0 a0.servers.length, .ref 25001 0 ((a0.leaders ++ [a1]).length), .ref 25002 0 a0.network.length])), (25000, some (.nest 61 4 [none, none, some (64, 2), some (3, 1)] (a0.servers.map cS61) [])), (25001, R3 (a0.leaders ++ [a1])), (25002, R73 a0.network)] ?_
 refine .nil ?_
 refine .seq ?_
 refine .seqR ?_
 replace h := bsome h; obtain ⟨l110, hl110, h⟩ := h
 obtain ⟨hl110a, hl110⟩ := appL_some hl110
 subst hl110
 try simp only [List.length_cons, List.length_nil, Nat.zero_add] at hl110a
 refine .runK [101] 6 fun K k => ?_; simp [hl110a]; refine k _ _ ?_; clear k K
 refine .tt [(0, .ptr 1000 0 0), (1, .i a1), (12, .i v109), (102, .ref 41 0 ((l48 ++ [a1]).length)), (103, .i ((l48 ++ [a1]).length : Int)), (104, .i 0)] [(41, R3 (l48 ++ [a1])), (1000, some (.box [.ref 25000 0 a0.servers.length, .ref 25001 0 ((a0.leaders ++ [a1]).length), .ref 25002 0 a0.network.length])), (25000, some (.nest 61 4 [none, none, some (64, 2), some (3, 1)] (a0.servers.map cS61) [])), (25001, R3 (a0.leaders ++ [a1])), (25002, R73 a0.network)] ?_
 refine .nil ?_
 replace h := lsome h; obtain ⟨l111, hl111, h⟩ := h
 refine .sub (S' := mk 130 [1000] (L47 a1 v109 l111.length ++ [(103, .i ((l48 ++ [a1]).length : Int)), (104, .i 0)]) [(41, R3 l111), (1000, some (.box [.ref 25000 0 a0.servers.length, .ref 25001 0 ((a0.leaders ++ [a1]).length), .ref 25002 0 a0.network.length])), (25000, some (.nest 61 4 [none, none, some (64, 2), some (3, 1)] (a0.servers.map cS61) [])), (25001, R3 (a0.leaders ++ [a1])), (25002, R73 a0.network)]) (by subst hl111; exact Sub.table (by simp) (by simp)) ?_
 replace h := lsome h; obtain ⟨l112, hl112, h⟩ := h
 refine .sub (S' := mk 130 [1000] (L47 a1 v109 l111.length ++ [(103, .i ((l48 ++ [a1]).length : Int)), (104, .i 0)]) [(41, R3 l111), (1000, some (.box [.ref 25000 0 a0.servers.length, .ref 25001 0 l112.length, .ref 25002 0 a0.network.length])), (25000, some (.nest 61 4 [none, none, some (64, 2), some (3, 1)] (a0.servers.map cS61) [])), (25001, R3 l112), (25002, R73 a0.network)]) (by subst hl112; exact Sub.table (by simp) (by simp)) ?_
 refine .lastN (fun (l143 : List S61) => mk 130 [1000] [(0, .ptr 1000 0 0), (1, .i a1)] (H34 l143 l112 a0)) h ?_ ?_ <;> clear h
 ·intro o h
  refine .block ?_
  refine .iter (fun ((l121, v122) : ((List S61) × Int)) => mk 130 [1000] (L47 a1 v109 l111.length ++ [(103, .i ((l48 ++ [a1]).length : Int)), (104, .i v122)]) (H21 l111 l121 l112 a0)) h Sub.tt ?_
  clear h
  rintro ⟨l121, v122⟩ x h
  dsimp only at h ⊢
  refine .seqR ?_
  refine .runK [] 1 fun K k => ?_; simp; refine k _ _ ?_; clear k K
  refine .tt (L47 a1 v109 l111.length ++ [(103, .i ((l48 ++ [a1]).length : Int)), (104, .i v122), (105, .b (decide (v122 < ((l48 ++ [a1]).length : Int))))]) (H21 l111 l121 l112 a0) ?_
  refine .nil ?_
  refine .seq ?_
  replace h := isome h; rcases h with ⟨c144, h⟩ | ⟨c144, h⟩
  ·have c144_ : decide (v122 < ((l48 ++ [a1]).length : Int)) = true := decide_eq_true c144
   refine .condT (b := decide (v122 < ((l48 ++ [a1]).length : Int))) rfl c144_ ?_
   refine .sub (.bool 105 (b := decide (v122 < ((l48 ++ [a1]).length : Int))) rfl c144_) ?_
   refine .st (mk 130 [1000] (L47 a1 v109 l111.length ++ [(103, .i ((l48 ++ [a1]).length : Int)), (104, .i v122), (105, .b true)]) (H21 l111 l121 l112 a0)) ?_
   refine .skip ?_
   refine thenQ_normal ?_
   refine .seq ?_
   refine .block ?_
   refine .seqR ?_
   replace h := bsome h; obtain ⟨x145, hx145, h⟩ := h
   obtain ⟨k146, hx145k, hx145, hx145a, hx145b⟩ := idx_some hx145
   refine .runK [] 3 fun K k => ?_; simp [hx145, hx145k, hx145a, hx145b]; refine k _ _ ?_; clear k K
   refine .tt [(0, .ptr 1000 0 0), (1, .i a1), (12, .i v109), (14, .i x145), (102, .ref 41 0 l111.length), (103, .i ((l48 ++ [a1]).length : Int)), (104, .i v122)] (H21 l111 l121 l112 a0) ?_
   refine .nil ?_
   refine .region ?_
   refine .runK [] 6 fun K k => ?_; simp; refine k _ _ ?_; clear k K
   refine .tt (L47 a1 v109 l111.length ++ [(103, .i ((l48 ++ [a1]).length : Int)), (104, .i v122), (111, .ref 25000 0 l121.length), (112, .i x145), (113, .i v109)]) (H21 l111 l121 l112 a0) ?_
   replace h := bsome h; obtain ⟨x147, hx147, h⟩ := h
   obtain ⟨k148, hx147k, hx147, hx147a, hx147b⟩ := idx_some hx147
   refine .sub (.open 25000 k148 [9149, 9150] (e := cS61 x147) rfl rfl (by simp [hx147]) rfl (by simp) rfl) ?_
   refine .st (mk 130 [1000] (L47 a1 v109 l111.length ++ [(103, .i ((l48 ++ [a1]).length : Int)), (104, .i v122), (111, .ref 25000 0 l121.length), (112, .i x145), (113, .i v109)]) [(41, R3 l111), (1000, some (.box [.ref 25000 0 l121.length, .ref 25001 0 l112.length, .ref 25002 0 a0.network.length])), (9149, R64 x147.log), (9150, R3 x147.match_), (25000, some (.nest 61 4 [none, none, some (64, 2), some (3, 1)] (l121.map cS61) [(k148, [.i x147.term, .i x147.commit, .ref 9149 0 x147.log.length, .ref 9150 0 x147.match_.length])])), (25001, R3 l112), (25002, R73 a0.network)]) ?_
   refine .runK [] 3 fun K k => ?_; simp [hx147k, hx147a, hx147b]; refine k _ _ ?_; clear k K
   refine .tt (L47 a1 v109 l111.length ++ [(103, .i ((l48 ++ [a1]).length : Int)), (104, .i v122)]) [(41, R3 l111), (1000, some (.box [.ref 25000 0 l121.length, .ref 25001 0 l112.length, .ref 25002 0 a0.network.length])), (9149, R64 x147.log), (9150, R3 x147.match_), (25000, some (.nest 61 4 [none, none, some (64, 2), some (3, 1)] (l121.map cS61) [(k148, [.i v109, .i x147.commit, .ref 9149 0 x147.log.length, .ref 9150 0 x147.match_.length])])), (25001, R3 l112), (25002, R73 a0.network)] ?_
   replace h := lsome h; obtain ⟨l151, gl151, h⟩ := h
   obtain ⟨hl151, hl151n⟩ := setI_some cS61 gl151 hx147k
   replace hl151 : (l121.map cS61).set k148 [.lit (.int .i64 v109), .lit (.int .i64 x147.commit), .sl (x147.log.map cS64), .sl (x147.match_.map (cI .i64))] = l151.map cS61 := hl151
   clear gl151
   refine .sub (.close 25000 k148 (e := [.lit (.int .i64 v109), .lit (.int .i64 x147.commit), .sl (x147.log.map cS64), .sl (x147.match_.map (cI .i64))]) (cs := [.d (.lit (.int .i64 v109)), .d (.lit (.int .i64 x147.commit)), .ref 9149 0 x147.log.length, .ref 9150 0 x147.match_.length]) (ks := [9149, 9150]) rfl rfl (by simp) (by decide) rfl) ?_
   refine .sub (S' := mk 130 [1000] (L47 a1 v109 l111.length ++ [(103, .i ((l48 ++ [a1]).length : Int)), (104, .i v122)]) (H21 l111 l151 l112 a0)) (by simp [hl151]; exact Sub.table (by simp) (by simp [hl151n])) ?_
   refine .nil ?_
   refine blockQ.normal ?_
   refine thenQ_normal ?_
   refine .region ?_
   replace h := bsome h; obtain ⟨v152, hv152, h⟩ := h
   have hv152 := chkI_some hv152
   refine .runK [] 2 fun K k => ?_; simp [hv152]; refine k _ _ ?_; clear k K
   refine .tt (L47 a1 v109 l111.length ++ [(103, .i ((l48 ++ [a1]).length : Int)), (104, .i v152)]) (H21 l111 l151 l112 a0) ?_
   refine .nil ?_
   cases h
   refine PostI.next ?_
   exact Sub.tt
  have c144_ : decide (v122 < ((l48 ++ [a1]).length : Int)) = false := decide_eq_false c144
  refine .condF (b := decide (v122 < ((l48 ++ [a1]).length : Int))) rfl c144_ ?_
  refine .sub (.bool 105 (b := decide (v122 < ((l48 ++ [a1]).length : Int))) rfl c144_) ?_
  refine .st (mk 130 [1000] (L47 a1 v109 l111.length ++ [(103, .i ((l48 ++ [a1]).length : Int)), (104, .i v122), (105, .b false)]) (H21 l111 l121 l112 a0)) ?_
  refine .exit ?_
  cases h
  refine thenQ_pass (by simp) ?_
  refine PostI.out (by simp) ?_
  rintro rfl
  refine blockQ.hit ?_
  refine PostN.next ?_
  exact Sub.tt
 rintro l143 h
 refine thenQ_normal ?_
 replace h := bsome h; obtain ⟨x154, hx154, h⟩ := h
 obtain ⟨k155, hx154k, hx154, hx154a, hx154b⟩ := idx_some hx154
 refine .sub (.open 25000 k155 [9156, 9157] (e := cS61 x154) rfl rfl (by simp [hx154]) rfl (by simp) rfl) ?_
 refine .st (mk 130 [1000] [(0, .ptr 1000 0 0), (1, .i a1)] [(1000, some (.box [.ref 25000 0 l143.length, .ref 25001 0 l112.length, .ref 25002 0 a0.network.length])), (9156, R64 x154.log), (9157, R3 x154.match_), (25000, some (.nest 61 4 [none, none, some (64, 2), some (3, 1)] (l143.map cS61) [(k155, [.i x154.term, .i x154.commit, .ref 9156 0 x154.log.length, .ref 9157 0 x154.match_.length])])), (25001, R3 l112), (25002, R73 a0.network)]) ?_
 replace h := bsome h; obtain ⟨l158, gl158, h⟩ := h
 obtain ⟨hl158a, hl158b, hl158c, hl158d⟩ := mkL_some (cI .i64) gl158
 clear gl158
 replace hl158c : List.replicate l158.length [.lit (.int .i64 0)] = l158.map (cI .i64) := hl158c
 refine .seqAnyS [[], [0], [0, 1], [0, 1, 2], [], [], [5], [5, 6], [5, 6, 7], [5, 6, 7, 8], [5, 6, 7, 8, 9], [0, 1, 2, 3, 4, 5, 6, 7, 8, 9, 10], [0, 1, 2, 3, 4, 5, 6, 7, 8, 9, 10, 11], [0, 1, 2, 3, 4, 5, 6, 7, 8, 9, 10, 11, 12]] (fun (b : Nat → Bool) => mk 130 [1000] [(0, .ptr 1000 0 0), (1, .i a1), (117, (if b 0 then .ptr 1000 0 0 else .junk)), (118, (if b 1 then .ptr 1000 0 0 else .junk)), (119, (if b 2 then .ptr 1000 0 0 else .junk)), (120, (if b 3 then .ref 25000 0 l143.length else .junk)), (121, (if b 4 then .i a1 else .junk)), (122, (if b 5 then .ptr 1000 0 0 else .junk)), (123, (if b 6 then .ptr 1000 0 0 else .junk)), (124, (if b 7 then .ptr 1000 0 0 else .junk)), (125, (if b 8 then .ref 25000 0 l143.length else .junk)), (126, (if b 9 then .i (l143.length : Int) else .junk)), (127, (if b 10 then .ref 127 0 l158.length else .junk)), (128, (if b 11 then .ptr 25000 k155 0 else .junk)), (129, (if b 12 then .ptr 25000 k155 3 else .junk))] [(127, (if b 10 then R3 l158 else none)), (1000, some (.box [.ref 25000 0 l143.length, .ref 25001 0 l112.length, .ref 25002 0 a0.network.length])), (9156, R64 x154.log), (9157, R3 x154.match_), (25000, (if b 13 then some (.nest 61 4 [none, none, some (64, 2), some (3, 1)] (l143.map cS61) [(k155, [.i x154.term, .i x154.commit, .ref 9156 0 x154.log.length, .ref 127 0 l158.length])]) else some (.nest 61 4 [none, none, some (64, 2), some (3, 1)] (l143.map cS61) [(k155, [.i x154.term, .i x154.commit, .ref 9156 0 x154.log.length, .ref 9157 0 x154.match_.length])]))), (25001, R3 l112), (25002, R73 a0.network)]) (mk 130 [1000] [] [(127, R3 l158), (1000, some (.box [.ref 25000 0 l143.length, .ref 25001 0 l112.length, .ref 25002 0 a0.network.length])), (9156, R64 x154.log), (25000, some (.nest 61 4 [none, none, some (64, 2), some (3, 1)] (l143.map cS61) [(k155, [.i x154.term, .i x154.commit, .ref 9156 0 x154.log.length, .ref 127 0 l158.length])])), (25001, R3 l112), (25002, R73 a0.network)]) (by kernel_rfl) (by kernel_rfl) Sub.tt (Steps.cons ?_ (Steps.cons ?_ (Steps.cons ?_ (Steps.cons ?_ (Steps.cons ?_ (Steps.cons ?_ (Steps.cons ?_ (Steps.cons ?_ (Steps.cons ?_ (Steps.cons ?_ (Steps.cons ?_ (Steps.cons ?_ (Steps.cons ?_ (Steps.cons ?_ (Steps.nil))))))))))))))) ?_ ?_
 iterate 10
  ·intro b h0 ha hd
   have T := fct h0 ha hd; simp at T
   refine .runK [] 1 fun K k => ?_; simp [T]; refine k _ _ ?_; clear k K
   exact .nil (.table (by simp [T]) (by simp [T]))
 ·intro b h0 ha hd
  have T := fct h0 ha hd; simp at T
  refine .runK [] 1 fun K k => ?_; simp [T, hl158a, hl158b, hl158c, hl158d]; refine k _ _ ?_; clear k K
  exact .nil (.table (by simp [T]) (by simp [T]))
 ·intro b h0 ha hd
  have T := fct h0 ha hd; simp at T
  refine .runK [] 1 fun K k => ?_; simp [T, hx154k, hx154a, hx154b]; refine k _ _ ?_; clear k K
  exact .nil (.table (by simp [T]) (by simp [T]))
 iterate 2
  ·intro b h0 ha hd
   have T := fct h0 ha hd; simp at T
   refine .runK [] 1 fun K k => ?_; simp [T]; refine k _ _ ?_; clear k K
   exact .nil (.table (by simp [T]) (by simp [T]))
 ·intro b hb
  have t0 := hb 0 (by decide)
  have t1 := hb 1 (by decide)
  have t2 := hb 2 (by decide)
  have t3 := hb 3 (by decide)
  have t4 := hb 4 (by decide)
  have t5 := hb 5 (by decide)
  have t6 := hb 6 (by decide)
  have t7 := hb 7 (by decide)
  have t8 := hb 8 (by decide)
  have t9 := hb 9 (by decide)
  have t10 := hb 10 (by decide)
  have t11 := hb 11 (by decide)
  have t12 := hb 12 (by decide)
  have t13 := hb 13 (by decide)
  exact Sub.table (by simp [t0, t1, t2, t3, t4, t5, t6, t7, t8, t9, t10, t11, t12]) (by simp [t10, t13])
 skip
 replace h := lsome h; obtain ⟨l159, gl159, h⟩ := h
 obtain ⟨hl159, hl159n⟩ := setI_some cS61 gl159 hx154k
 replace hl159 : (l143.map cS61).set k155 [.lit (.int .i64 x154.term), .lit (.int .i64 x154.commit), .sl (x154.log.map cS64), .sl (l158.map (cI .i64))] = l159.map cS61 := hl159
 clear gl159
 refine .sub (show Go.Ab.Sub _ (mk 130 [1000] [] (H34 l159 l112 a0)) from (Sub.trans (Sub.close 25000 k155 (e := [.lit (.int .i64 x154.term), .lit (.int .i64 x154.commit), .sl (x154.log.map cS64), .sl (l158.map (cI .i64))]) (cs := [.i x154.term, .i x154.commit, .ref 9156 0 x154.log.length, .ref 127 0 l158.length]) (ks := [9156, 127]) rfl rfl (by simp) (by decide) rfl) (by simp [hl159]; exact Sub.table (by simp) (by simp [hl159n])))) ?_
 refine .seqR ?_
 refine .runK [] 1 fun K k => ?_; simp; refine k _ _ ?_; clear k K
 refine .tt [(6, .i 0)] (H34 l159 l112 a0) ?_
 refine .nil ?_
 refine .ret ?_
 cases h
 exact FinF.ret (by simp) (by simp)
end Go.Proofs.Ytifcmomjjkbboab
