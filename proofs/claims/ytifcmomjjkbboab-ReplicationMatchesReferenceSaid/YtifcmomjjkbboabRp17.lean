/- Functions of the program as functional programs; the code computes them. -/
import Derived.Test.YtifcmomjjkbboabRp16
namespace Go.Proofs.Ytifcmomjjkbboab
open Go.Ab Go.Rp
attribute [-simp] List.all_eq_true Array.all_toList Array.all_eq_true

/-- slices.EqualFunc[[]stemma/replication.Entry,[]stemma/stemref5.LogEntry,stemma/replication.Entry,stemma/stemref5.LogEntry] -/
def d45 (N : Nat) (a0 : (List S64)) (a1 : (List S64)) (p2 : S64 → S64 → Option Bool) : Option Bool :=
 if ((a0.length : Int) != (a1.length : Int)) then (
  some false
 ) else
 bindO (β := Unit) (ρ := Bool) (
  iterN (σ := Int) (ρ := (Out Unit Bool)) (fun (v8 : Int) =>
   if v8 < (a0.length : Int) then (
    (idx a0 v8).bind fun x25 =>
    (idx a1 v8).bind fun x27 =>
    (p2 x25 x27).bind fun r28 =>
    if (!r28) = true then (
     some (.inr (.ret false))
    ) else
    (chkI (v8 + 1)).bind fun v30 =>
    some (.inl v30)
   ) else
   some (.inr (.go ()))
  ) N 0
 ) fun (_ : Unit) =>
 some true
set_option maxRecDepth 100000 in
set_option maxHeartbeats 4000000 in
theorem p45 (N : Nat) (a0 : (List S64)) (a1 : (List S64)) (g2 : Nat) (cs2 : List D) (p2 : S64 → S64 → Option Bool) (ent_2 : Rp.Enters Try.prog g2) (hp2 : ∀ a0 a1 r, p2 a0 a1 = some r → FunC Try.prog g2 ([.agg [.i a0.Term, .d (.lit (.string a0.Payload))], .agg [.i a1.Term, .d (.lit (.string a1.Payload))]] ++ cs2.map .d) (.b r)) (r : Bool) (h : d45 N a0 a1 p2 = some r) : FunC Try.prog 45 [.d (.sl (a0.map cS64)), .d (.sl (a1.map cS64)), .fn (.func g2) (cs2.map .d)] (.b r) := by
 unfold d45 at h
 refine FunC.enter 32 [(0, .d (.sl (a0.map cS64))), (1, .d (.sl (a1.map cS64))), (2, .fn (.func g2) (cs2.map .d))] (by simp) Try.func45 rfl (of_decide_eq_true rfl) rfl rfl ?_
 refine .seqR ?_
 refine .runK [] 1 fun K k => ?_; simp; refine k _ _ ?_; clear k K
 refine .tt (L38 a0 a1 ++ [(2, .fn (.func g2) (cs2.map .d))]) [] ?_
 refine .nil ?_
 refine .seq ?_
 refine .seqR ?_
 refine .runK [] 5 fun K k => ?_; simp; refine k _ _ ?_; clear k K
 refine .tt (L38 a0 a1 ++ [(2, .fn (.func g2) (cs2.map .d)), (14, .b ((a0.length : Int) != (a1.length : Int)))]) [] ?_
 refine .nil ?_
 replace h := isome h; rcases h with ⟨c1, h⟩ | ⟨c1, h⟩
 ·have c1_ : ((a0.length : Int) != (a1.length : Int)) = true := c1
  refine .condT (b := ((a0.length : Int) != (a1.length : Int))) rfl c1_ ?_
  refine .sub (.bool 14 (b := ((a0.length : Int) != (a1.length : Int))) rfl c1_) ?_
  refine .st (mk 32 [] (L38 a0 a1 ++ [(2, .fn (.func g2) (cs2.map .d)), (14, .b true)]) []) ?_
  refine .seqR ?_
  refine .runK [] 1 fun K k => ?_; simp; refine k _ _ ?_; clear k K
  refine .tt [(6, .b false)] [] ?_
  refine .nil ?_
  refine .ret ?_
  cases h
  refine thenQ_pass (by simp) ?_
  exact FinC.ret (by simp) (by simp)
 have c1_ : ((a0.length : Int) != (a1.length : Int)) = false := Bool.eq_false_iff.2 c1
 refine .condF (b := ((a0.length : Int) != (a1.length : Int))) rfl c1_ ?_
 refine .sub (.bool 14 (b := ((a0.length : Int) != (a1.length : Int))) rfl c1_) ?_
 refine .st (mk 32 [] (L38 a0 a1 ++ [(2, .fn (.func g2) (cs2.map .d)), (14, .b false)]) []) ?_
 refine .skip ?_
 refine thenQ_normal ?_
 refine .seq ?_
 refine .seqR ?_
 refine .runK [] 3 fun K k => ?_; simp; refine k _ _ ?_; clear k K
 refine .tt [(1, .d (.sl (a1.map cS64))), (2, .fn (.func g2) (cs2.map .d)), (15, .d (.sl (a0.map cS64))), (16, .i (a0.length : Int)), (17, .i 0)] [] ?_
 refine .nil ?_
 refine .lastJ (fun (_ : Unit) => mk 32 [] [] []) h ?_ ?_ <;> clear h
 ·intro o h
  refine .block ?_
  refine .iter (fun (v8 : Int) => mk 32 [] [(1, .d (.sl (a1.map cS64))), (2, .fn (.func g2) (cs2.map .d)), (15, .d (.sl (a0.map cS64))), (16, .i (a0.length : Int)), (17, .i v8)] []) h Sub.tt ?_
  clear h
  rintro v8 x h
  refine .seqR ?_
  refine .runK [] 1 fun K k => ?_; simp; refine k _ _ ?_; clear k K
  refine .tt [(1, .d (.sl (a1.map cS64))), (2, .fn (.func g2) (cs2.map .d)), (15, .d (.sl (a0.map cS64))), (16, .i (a0.length : Int)), (17, .i v8), (18, .b (decide (v8 < (a0.length : Int))))] [] ?_
  refine .nil ?_
  refine .seq ?_
  replace h := isome h; rcases h with ⟨c24, h⟩ | ⟨c24, h⟩
  ·have c24_ : decide (v8 < (a0.length : Int)) = true := decide_eq_true c24
   refine .condT (b := decide (v8 < (a0.length : Int))) rfl c24_ ?_
   refine .sub (.bool 18 (b := decide (v8 < (a0.length : Int))) rfl c24_) ?_
   refine .st (mk 32 [] [(1, .d (.sl (a1.map cS64))), (2, .fn (.func g2) (cs2.map .d)), (15, .d (.sl (a0.map cS64))), (16, .i (a0.length : Int)), (17, .i v8), (18, .b true)] []) ?_
   refine .skip ?_
   refine thenQ_normal ?_
   refine .seq ?_
   refine .block ?_
   refine .seqR ?_
   replace h := bsome h; obtain ⟨x25, hx25, h⟩ := h
   obtain ⟨k26, hx25k, hx25, hx25a, hx25b⟩ := idx_some hx25
   refine .runK [] 6 fun K k => ?_; simp [hx25, hx25k, hx25a]; refine k _ _ ?_; clear k K
   refine .tt [(1, .d (.sl (a1.map cS64))), (2, .fn (.func g2) (cs2.map .d)), (7, .i v8), (8, .ptr 8 0 0), (15, .d (.sl (a0.map cS64))), (16, .i (a0.length : Int)), (17, .i v8)] [(8, some (.box [.i x25.Term, .d (.lit (.string x25.Payload))]))] ?_
   refine .nil ?_
   refine .seqR ?_
   replace h := bsome h; obtain ⟨x27, hx27, h⟩ := h
   obtain ⟨hx27, hx27a, hx27b⟩ := idx_some2 hx27 hx25k
   refine .runK [] 6 fun K k => ?_; simp [hx27, hx25k, hx27a]; refine k _ _ ?_; clear k K
   refine .tt [(1, .d (.sl (a1.map cS64))), (2, .fn (.func g2) (cs2.map .d)), (8, .ptr 8 0 0), (9, .ptr 9 0 0), (15, .d (.sl (a0.map cS64))), (16, .i (a0.length : Int)), (17, .i v8)] [(8, some (.box [.i x25.Term, .d (.lit (.string x25.Payload))])), (9, some (.box [.i x27.Term, .d (.lit (.string x27.Payload))]))] ?_
   refine .nil ?_
   refine .seqR ?_
   refine .runK [] 3 fun K k => ?_; simp; refine k _ _ ?_; clear k K
   refine .tt [(1, .d (.sl (a1.map cS64))), (2, .fn (.func g2) (cs2.map .d)), (15, .d (.sl (a0.map cS64))), (16, .i (a0.length : Int)), (17, .i v8), (26, .fn (.func g2) (cs2.map .d)), (27, .agg [.i x25.Term, .d (.lit (.string x25.Payload))]), (28, .agg [.i x27.Term, .d (.lit (.string x27.Payload))])] [] ?_
   replace h := bsome h; obtain ⟨r28, hr28, h⟩ := h
   refine .callL (d := 29) (hp2 x25 x27 r28 hr28) (by simp) rfl rfl (by simp <;> rfl) (by simp <;> rfl) ent_2 (by simp <;> rfl) ?_
   refine .st (mk 32 [] [(1, .d (.sl (a1.map cS64))), (2, .fn (.func g2) (cs2.map .d)), (15, .d (.sl (a0.map cS64))), (16, .i (a0.length : Int)), (17, .i v8), (26, .fn (.func g2) (cs2.map .d)), (27, .agg [.i x25.Term, .d (.lit (.string x25.Payload))]), (28, .agg [.i x27.Term, .d (.lit (.string x27.Payload))]), (29, .b r28)] []) ?_
   refine .runK [] 1 fun K k => ?_; simp; refine k _ _ ?_; clear k K
   refine .tt [(1, .d (.sl (a1.map cS64))), (2, .fn (.func g2) (cs2.map .d)), (15, .d (.sl (a0.map cS64))), (16, .i (a0.length : Int)), (17, .i v8), (30, .b (!r28))] [] ?_
   refine .nil ?_
   replace h := isome h; rcases h with ⟨c29, h⟩ | ⟨c29, h⟩
   ·have c29_ : (!r28) = true := c29
    refine .condT (b := (!r28)) rfl c29_ ?_
    refine .sub (.bool 30 (b := (!r28)) rfl c29_) ?_
    refine .st (mk 32 [] [(1, .d (.sl (a1.map cS64))), (2, .fn (.func g2) (cs2.map .d)), (15, .d (.sl (a0.map cS64))), (16, .i (a0.length : Int)), (17, .i v8), (30, .b true)] []) ?_
    refine .seqR ?_
    refine .runK [] 1 fun K k => ?_; simp; refine k _ _ ?_; clear k K
    refine .tt [(6, .b false)] [] ?_
    refine .nil ?_
    refine .ret ?_
    cases h
    refine blockQ.ret ?_
    refine thenQ_pass (by simp) ?_
    refine PostI.out (by simp) ?_
    rintro rfl
    refine blockQ.ret ?_
    refine PostJ.out (by simp) ?_
    rintro rfl
    refine thenQ_pass (by simp) ?_
    exact FinC.ret (by simp) (by simp)
   have c29_ : (!r28) = false := Bool.eq_false_iff.2 c29
   refine .condF (b := (!r28)) rfl c29_ ?_
   refine .sub (.bool 30 (b := (!r28)) rfl c29_) ?_
   refine .st (mk 32 [] [(1, .d (.sl (a1.map cS64))), (2, .fn (.func g2) (cs2.map .d)), (15, .d (.sl (a0.map cS64))), (16, .i (a0.length : Int)), (17, .i v8), (30, .b false)] []) ?_
   refine .skip ?_
   refine blockQ.normal ?_
   refine thenQ_normal ?_
   refine .region ?_
   replace h := bsome h; obtain ⟨v30, hv30, h⟩ := h
   have hv30 := chkI_some hv30
   refine .runK [] 2 fun K k => ?_; simp [hv30]; refine k _ _ ?_; clear k K
   refine .tt [(1, .d (.sl (a1.map cS64))), (2, .fn (.func g2) (cs2.map .d)), (15, .d (.sl (a0.map cS64))), (16, .i (a0.length : Int)), (17, .i v30)] [] ?_
   refine .nil ?_
   cases h
   refine PostI.next ?_
   exact Sub.tt
  have c24_ : decide (v8 < (a0.length : Int)) = false := decide_eq_false c24
  refine .condF (b := decide (v8 < (a0.length : Int))) rfl c24_ ?_
  refine .sub (.bool 18 (b := decide (v8 < (a0.length : Int))) rfl c24_) ?_
  refine .st (mk 32 [] [(1, .d (.sl (a1.map cS64))), (2, .fn (.func g2) (cs2.map .d)), (15, .d (.sl (a0.map cS64))), (16, .i (a0.length : Int)), (17, .i v8), (18, .b false)] []) ?_
  refine .exit ?_
  cases h
  refine thenQ_pass (by simp) ?_
  refine PostI.out (by simp) ?_
  rintro rfl
  refine blockQ.hit ?_
  refine PostJ.next ?_
  exact Sub.tt
 rintro ⟨⟩ h
 refine thenQ_normal ?_
 refine .seqR ?_
 refine .runK [] 1 fun K k => ?_; simp; refine k _ _ ?_; clear k K
 refine .tt [(6, .b true)] [] ?_
 refine .nil ?_
 refine .ret ?_
 cases h
 exact FinC.ret (by simp) (by simp)
/-- stemma/stemlaw5.sameEntries$1 -/
def d46 (_N : Nat) (a0 : S64) (a1 : S64) : Option Bool :=
 Option.bind (α := Bool) (
  if (a0.Term == a1.Term) then (
   some (decide (a0.Payload = a1.Payload))
  ) else
  some false
 ) fun (v2 : Bool) =>
 some v2
set_option maxRecDepth 100000 in
set_option maxHeartbeats 4000000 in
theorem p46 (N : Nat) (a0 : S64) (a1 : S64) (r : Bool) (h : d46 N a0 a1 = some r) : FunC Try.prog 46 [.agg [.i a0.Term, .d (.lit (.string a0.Payload))], .agg [.i a1.Term, .d (.lit (.string a1.Payload))]] (.b r) := by
 unfold d46 at h
 refine FunC.enter 17 [(0, .agg [.i a0.Term, .d (.lit (.string a0.Payload))]), (1, .agg [.i a1.Term, .d (.lit (.string a1.Payload))])] (by simp) Try.func46 rfl (of_decide_eq_true rfl) rfl rfl ?_
 refine .seqR ?_
 refine .runK [] 3 fun K k => ?_; simp; refine k _ _ ?_; clear k K
 refine .tt [(2, .ptr 2 0 0), (3, .ptr 3 0 0)] (H27 a0 a1) ?_
 refine .nil ?_
 replace h := bsome h; obtain ⟨v2, hj, h⟩ := h
 refine .cutR (mk 17 [] [(4, .b v2)] []) ?_ ?_
 ·clear h; have h := hj; clear hj
  refine .runK [] 6 fun K k => ?_; simp; refine k _ _ ?_; clear k K
  refine .tt [(2, .ptr 2 0 0), (3, .ptr 3 0 0), (10, .b (a0.Term == a1.Term))] (H27 a0 a1) ?_
  replace h := isome h; rcases h with ⟨c3, h⟩ | ⟨c3, h⟩
  ·have c3_ : (a0.Term == a1.Term) = true := c3
   refine .sub (.bool 10 (b := (a0.Term == a1.Term)) rfl c3_) ?_
   refine .st (mk 17 [] [(2, .ptr 2 0 0), (3, .ptr 3 0 0), (10, .b true)] (H27 a0 a1)) ?_
   refine .runK [] 7 fun K k => ?_; simp; refine k _ _ ?_; clear k K
   refine .tt [(4, .b (decide (a0.Payload = a1.Payload)))] [] ?_
   cases h
   exact .nil .tt
  have c3_ : (a0.Term == a1.Term) = false := Bool.eq_false_iff.2 c3
  refine .sub (.bool 10 (b := (a0.Term == a1.Term)) rfl c3_) ?_
  refine .st (mk 17 [] [(2, .ptr 2 0 0), (3, .ptr 3 0 0), (10, .b false)] (H27 a0 a1)) ?_
  refine .runK [] 7 fun K k => ?_; simp; refine k _ _ ?_; clear k K
  refine .tt [(4, .b false)] [] ?_
  cases h
  exact .nil .tt
 clear hj
 refine .ret ?_
 cases h
 exact FinC.ret (by simp) (by simp)
/-- stemma/stemlaw5.sameEntries -/
def d35 (N : Nat) (a0 : (List S64)) (a1 : (List S64)) : Option Bool :=
 (d45 N a0 a1 (fun b0 b1 => d46 N b0 b1 )).bind fun r1 =>
 some r1
set_option maxRecDepth 100000 in
set_option maxHeartbeats 4000000 in
theorem p35 (N : Nat) (a0 : (List S64)) (a1 : (List S64)) (r : Bool) (h : d35 N a0 a1 = some r) : FunC Try.prog 35 [.d (.sl (a0.map cS64)), .d (.sl (a1.map cS64))] (.b r) := by
 unfold d35 at h
 refine FunC.enter 8 [(0, .d (.sl (a0.map cS64))), (1, .d (.sl (a1.map cS64)))] (by simp) Try.func35 rfl (of_decide_eq_true rfl) rfl rfl ?_
 refine .seqR ?_
 refine .runK [] 1 fun K k => ?_; simp; refine k _ _ ?_; clear k K
 refine .tt [(0, .d (.sl (a0.map cS64))), (1, .d (.sl (a1.map cS64)))] [] ?_
 refine .nil ?_
 refine .seqR ?_
 refine .runK [] 2 fun K k => ?_; simp; refine k _ _ ?_; clear k K
 refine .tt [(5, .d (.sl (a0.map cS64))), (6, .d (.sl (a1.map cS64)))] [] ?_
 replace h := bsome h; obtain ⟨r1, hr1, h⟩ := h
 refine .callL (d := 7) (FunC.argsF (args := [.d (.sl (a0.map cS64)), .d (.sl (a1.map cS64)), .d (.lit (.func (.func 46) #[] #[]))]) (p45 N a0 a1 46 [] (fun b0 b1 => d46 N b0 b1 ) ent46 (fun b0 b1 r h => p46 N b0 b1  r h) r1 hr1) (by simp [V.wf]) rfl) (by simp) rfl rfl (by simp <;> rfl) (by simp <;> rfl) ent45 (by simp <;> rfl) ?_
 refine .st (mk 8 [] [(5, .d (.sl (a0.map cS64))), (6, .d (.sl (a1.map cS64))), (7, .b r1)] []) ?_
 refine .runK [] 1 fun K k => ?_; simp; refine k _ _ ?_; clear k K
 refine .tt [(4, .b r1)] [] ?_
 refine .nil ?_
 refine .ret ?_
 cases h
 exact FinC.ret (by simp) (by simp)
/-- (*stemma/replication.Cluster).Leader -/
def d36 (_N : Nat) (a0 : S59) : Option (Int × Int) :=
 (chkI ((a0.leaders.length : Int) - 1)).bind fun v1 =>
 (idx a0.leaders v1).bind fun x2 =>
 some (x2, v1)
set_option maxRecDepth 100000 in
set_option maxHeartbeats 4000000 in
theorem p36 (N : Nat) (a0 : S59) (r : (Int × Int)) (h : d36 N a0 = some r) : FunC Try.prog 36 [.d (.pim [.sl (a0.servers.map cS61), .sl (a0.leaders.map (cI .i64)), .sl (a0.network.map cS73)])] (.tup [.i r.1, .i r.2]) := by
 unfold d36 at h
 refine FunC.enter 18 [(0, .d (.pim [.sl (a0.servers.map cS61), .sl (a0.leaders.map (cI .i64)), .sl (a0.network.map cS73)]))] (by simp) Try.func36 rfl (of_decide_eq_true rfl) rfl rfl ?_
 refine .seqR ?_
 refine .runK [] 2 fun K k => ?_; simp; refine k _ _ ?_; clear k K
 refine .tt [(0, .d (.pim [.sl (a0.servers.map cS61), .sl (a0.leaders.map (cI .i64)), .sl (a0.network.map cS73)]))] [] ?_
 refine .nil ?_
 refine .seqR ?_
 replace h := bsome h; obtain ⟨v1, hv1, h⟩ := h
 have hv1 := chkI_some hv1
 refine .runK [] 7 fun K k => ?_; simp [hv1]; refine k _ _ ?_; clear k K
 refine .tt [(0, .d (.pim [.sl (a0.servers.map cS61), .sl (a0.leaders.map (cI .i64)), .sl (a0.network.map cS73)])), (3, .i v1)] [] ?_
 refine .nil ?_
 refine .seqR ?_
 replace h := bsome h; obtain ⟨x2, hx2, h⟩ := h
 obtain ⟨k3, hx2k, hx2, hx2a, hx2b⟩ := idx_some hx2
 refine .runK [] 10 fun K k => ?_; simp [hx2, hx2k, hx2a]; refine k _ _ ?_; clear k K
 refine .tt [(2, .i x2), (3, .i v1)] [] ?_
 refine .nil ?_
 refine .ret ?_
 cases h
 exact FinC.ret (by simp) (by simp)
/-- (*stemma/replication.Cluster).InFlight -/
def d38 (N : Nat) (a0 : S59) : Option (S59 × (List S73)) :=
 Option.bind (α := List S73) (
  iterN (σ := ((List S73) × Int)) (ρ := List S73) (fun ((l6, v7) : ((List S73) × Int)) =>
   if v7 < (a0.network.length : Int) then (
    (idx a0.network v7).bind fun x24 =>
    (d26 N x24.Entries).bind fun r26 =>
    (appL 80 l6 [(S73.mk x24.Kind x24.From x24.To x24.Term x24.Index x24.PrevTerm x24.Commit r26)]).bind fun _l27 =>
    (chkI (v7 + 1)).bind fun v28 =>
    some (.inl ((l6 ++ [(S73.mk x24.Kind x24.From x24.To x24.Term x24.Index x24.PrevTerm x24.Commit r26)]), v28))
   ) else
   some (.inr l6)
  ) N (([] : List S73), 0)
 ) fun (l22 : List S73) =>
 some (a0, l22)
set_option maxRecDepth 100000 in
set_option maxHeartbeats 4000000 in
theorem p38 (N : Nat) (a0 : S59) (r : (S59 × (List S73))) (h : d38 N a0 = some r) : FunM Try.prog 38 [.ptr 1000 0 0] [(1000, some (.box [.ref 25000 0 a0.servers.length, .ref 25001 0 a0.leaders.length, .ref 25002 0 a0.network.length])), (25000, some (.nest 61 4 [none, none, some (64, 2), some (3, 1)] (a0.servers.map cS61) [])), (25001, R3 a0.leaders), (25002, R73 a0.network)] [1000] (.d (.sl (r.2.map cS73))) ([(1000, (.box [.ref 25000 0 r.1.servers.length, .ref 25001 0 r.1.leaders.length, .ref 25002 0 r.1.network.length])), (25000, (.nest 61 4 [none, none, some (64, 2), some (3, 1)] (r.1.servers.map cS61) [])), (25001, (.arr 3 1 (r.1.leaders.map (cI .i64)))), (25002, (.arr 73 8 (r.1.network.map cS73)))]) := by
 unfold d38 at h
 refine FunM.enter 25 [(0, .ptr 1000 0 0)] Try.func38 rfl (of_decide_eq_true rfl) rfl rfl ?_
 refine .seqR ?_
 refine .runK [] 1 fun K k => ?_; simp; refine k _ _ ?_; clear k K
 refine .tt [(0, .ptr 1000 0 0)] (H1 a0) ?_
 refine .nil ?_
 refine .seqR ?_
 refine .runK [] 1 fun K k => ?_; simp; refine k _ _ ?_; clear k K
 refine .tt [(0, .ptr 1000 0 0), (3, .d (.lit (.slice none 0 0)))] (H1 a0) ?_
 refine .nil ?_
 refine .seq ?_
 refine .seqR ?_
 refine .runK [] 6 fun K k => ?_; simp; refine k _ _ ?_; clear k K
 refine .tt [(3, .d (.lit (.slice none 0 0))), (9, .ref 25002 0 a0.network.length), (10, .i (a0.network.length : Int)), (11, .i 0)] (H1 a0) ?_
 refine .nil ?_
 refine .lastN (fun (l22 : List S73) => mk 25 [1000] [(3, .ref 22 0 l22.length)] (H22 l22 a0)) h ?_ ?_ <;> clear h
 ·intro o h
  refine .block ?_
  refine .iter (fun ((l6, v7) : ((List S73) × Int)) => mk 25 [1000] (L53 l6.length a0.network.length v7) (H22 l6 a0)) h (Sub.trans (Sub.nilOwn (t := 3) (id := 22) (T := 73) (n := 8) rfl rfl (by decide)) (by simp; exact Sub.tt)) ?_
  clear h
  rintro ⟨l6, v7⟩ x h
  dsimp only at h ⊢
  refine .seqR ?_
  refine .runK [] 1 fun K k => ?_; simp; refine k _ _ ?_; clear k K
  refine .tt (L53 l6.length a0.network.length v7 ++ [(12, .b (decide (v7 < (a0.network.length : Int))))]) (H22 l6 a0) ?_
  refine .nil ?_
  refine .seq ?_
  replace h := isome h; rcases h with ⟨c23, h⟩ | ⟨c23, h⟩
  ·have c23_ : decide (v7 < (a0.network.length : Int)) = true := decide_eq_true c23
   refine .condT (b := decide (v7 < (a0.network.length : Int))) rfl c23_ ?_
   refine .sub (.bool 12 (b := decide (v7 < (a0.network.length : Int))) rfl c23_) ?_
   refine .st (mk 25 [1000] (L53 l6.length a0.network.length v7 ++ [(12, .b true)]) (H22 l6 a0)) ?_
   refine .skip ?_
   refine thenQ_normal ?_
   refine .seq ?_
   refine .block ?_
   refine .seqR ?_
   replace h := bsome h; obtain ⟨x24, hx24, h⟩ := h
   obtain ⟨k25, hx24k, hx24, hx24a, hx24b⟩ := idx_some hx24
   refine .runK [] 4 fun K k => ?_; simp [hx24, hx24k, hx24a, hx24b]; refine k _ _ ?_; clear k K
   refine .tt (L54 l6.length a0.network.length v7) (H40 x24 l6 a0) ?_
   refine .nil ?_
   refine .seqR ?_
   refine .runK [] 2 fun K k => ?_; simp; refine k _ _ ?_; clear k K
   refine .tt (L54 l6.length a0.network.length v7 ++ [(16, .d (.sl (x24.Entries.map cS64)))]) (H40 x24 l6 a0) ?_
   replace h := bsome h; obtain ⟨r26, hr26, h⟩ := h
   refine .callO (d := 17) (p26 N x24.Entries r26 hr26) (by simp) rfl rfl (by simp <;> rfl) (by simp <;> rfl) ent26 (by simp) ⟨by simp, by simp⟩ ?_
   refine .st (mk 25 [1000] (L54 l6.length a0.network.length v7 ++ [(16, .d (.sl (x24.Entries.map cS64))), (17, .ref 17 0 r26.length)]) [(5, some (.box [.i x24.Kind, .i x24.From, .i x24.To, .i x24.Term, .i x24.Index, .i x24.PrevTerm, .i x24.Commit, .d (.sl (x24.Entries.map cS64))])), (17, R64 r26), (22, R73 l6), (1000, some (.box [.ref 25000 0 a0.servers.length, .ref 25001 0 a0.leaders.length, .ref 25002 0 a0.network.length])), (25000, some (.nest 61 4 [none, none, some (64, 2), some (3, 1)] (a0.servers.map cS61) [])), (25001, R3 a0.leaders), (25002, R73 a0.network)]) ?_
   refine .runK [] 2 fun K k => ?_; simp; refine k _ _ ?_; clear k K
   refine .tt (L54 l6.length a0.network.length v7) [(5, some (.box [.i x24.Kind, .i x24.From, .i x24.To, .i x24.Term, .i x24.Index, .i x24.PrevTerm, .i x24.Commit, .ref 17 0 r26.length])), (17, R64 r26), (22, R73 l6), (1000, some (.box [.ref 25000 0 a0.servers.length, .ref 25001 0 a0.leaders.length, .ref 25002 0 a0.network.length])), (25000, some (.nest 61 4 [none, none, some (64, 2), some (3, 1)] (a0.servers.map cS61) [])), (25001, R3 a0.leaders), (25002, R73 a0.network)] ?_
   refine .nil ?_
   refine .region ?_
   refine .runK [21] 2 fun K k => ?_; simp; refine k _ _ ?_; clear k K
   refine .tt [(9, .ref 25002 0 a0.network.length), (10, .i (a0.network.length : Int)), (11, .i v7), (19, .ref 22 0 l6.length), (20, .agg [.i x24.Kind, .i x24.From, .i x24.To, .i x24.Term, .i x24.Index, .i x24.PrevTerm, .i x24.Commit, .ref 17 0 r26.length])] [(17, R64 r26), (22, R73 l6), (1000, some (.box [.ref 25000 0 a0.servers.length, .ref 25001 0 a0.leaders.length, .ref 25002 0 a0.network.length])), (25000, some (.nest 61 4 [none, none, some (64, 2), some (3, 1)] (a0.servers.map cS61) [])), (25001, R3 a0.leaders), (25002, R73 a0.network)] ?_
   refine .sub (.freeze 17 rfl) ?_
   refine .st (mk 25 [1000] [(9, .ref 25002 0 a0.network.length), (10, .i (a0.network.length : Int)), (11, .i v7), (19, .ref 22 0 l6.length), (20, .agg [.i x24.Kind, .i x24.From, .i x24.To, .i x24.Term, .i x24.Index, .i x24.PrevTerm, .i x24.Commit, .d (.sl (r26.map cS64))])] (H22 l6 a0)) ?_
   replace h := bsome h; obtain ⟨l27, hl27, h⟩ := h
   obtain ⟨hl27a, hl27⟩ := appL_some hl27
   subst hl27
   try simp only [List.length_cons, List.length_nil, Nat.zero_add] at hl27a
   refine .runK [21] 3 fun K k => ?_; simp [hl27a]; refine k _ _ ?_; clear k K
   refine .tt [(3, .ref 22 0 ((l6 ++ [(S73.mk x24.Kind x24.From x24.To x24.Term x24.Index x24.PrevTerm x24.Commit r26)]).length)), (9, .ref 25002 0 a0.network.length), (10, .i (a0.network.length : Int)), (11, .i v7)] [(22, R73 (l6 ++ [(S73.mk x24.Kind x24.From x24.To x24.Term x24.Index x24.PrevTerm x24.Commit r26)])), (1000, some (.box [.ref 25000 0 a0.servers.length, .ref 25001 0 a0.leaders.length, .ref 25002 0 a0.network.length])), (25000, some (.nest 61 4 [none, none, some (64, 2), some (3, 1)] (a0.servers.map cS61) [])), (25001, R3 a0.leaders), (25002, R73 a0.network)] ?_
   refine .nil ?_
   refine blockQ.normal ?_
   refine thenQ_normal ?_
   refine .region ?_
   replace h := bsome h; obtain ⟨v28, hv28, h⟩ := h
   have hv28 := chkI_some hv28
   refine .runK [] 2 fun K k => ?_; simp [hv28]; refine k _ _ ?_; clear k K
   refine .tt [(3, .ref 22 0 ((l6 ++ [(S73.mk x24.Kind x24.From x24.To x24.Term x24.Index x24.PrevTerm x24.Commit r26)]).length)), (9, .ref 25002 0 a0.network.length), (10, .i (a0.network.length : Int)), (11, .i v28)] [(22, R73 (l6 ++ [(S73.mk x24.Kind x24.From x24.To x24.Term x24.Index x24.PrevTerm x24.Commit r26)])), (1000, some (.box [.ref 25000 0 a0.servers.length, .ref 25001 0 a0.leaders.length, .ref 25002 0 a0.network.length])), (25000, some (.nest 61 4 [none, none, some (64, 2), some (3, 1)] (a0.servers.map cS61) [])), (25001, R3 a0.leaders), (25002, R73 a0.network)] ?_
   refine .nil ?_
   cases h
   refine PostI.next ?_
   exact Sub.tt
  have c23_ : decide (v7 < (a0.network.length : Int)) = false := decide_eq_false c23
  refine .condF (b := decide (v7 < (a0.network.length : Int))) rfl c23_ ?_
  refine .sub (.bool 12 (b := decide (v7 < (a0.network.length : Int))) rfl c23_) ?_
  refine .st (mk 25 [1000] (L53 l6.length a0.network.length v7 ++ [(12, .b false)]) (H22 l6 a0)) ?_
  refine .exit ?_
  cases h
  refine thenQ_pass (by simp) ?_
  refine PostI.out (by simp) ?_
  rintro rfl
  refine blockQ.hit ?_
  refine PostN.next ?_
  exact Sub.tt
 rintro l22 h
 refine thenQ_normal ?_
 refine .seqR ?_
 refine .runK [] 2 fun K k => ?_; simp; refine k _ _ ?_; clear k K
 refine .tt [(2, .ref 22 0 l22.length)] (H22 l22 a0) ?_
 refine .nil ?_
 refine .sub (.freeze 22 rfl) ?_
 refine .st (mk 25 [1000] [(2, .d (.sl (l22.map cS73)))] (H1 a0)) ?_
 refine .ret ?_
 cases h
 exact FinF.ret (by simp) (by simp)
/-- slices.EqualFunc[[]stemma/replication.Message,[]stemma/stemref5.Message,stemma/replication.Message,stemma/stemref5.Message] -/
def d37 (N : Nat) (a0 : (List S73)) (a1 : (List S73)) (p2 : S73 → S73 → Option Bool) : Option Bool :=
 if ((a0.length : Int) != (a1.length : Int)) then (
  some false
 ) else
 bindO (β := Unit) (ρ := Bool) (
  iterN (σ := Int) (ρ := (Out Unit Bool)) (fun (v8 : Int) =>
   if v8 < (a0.length : Int) then (
    (idx a0 v8).bind fun x25 =>
    (idx a1 v8).bind fun x27 =>
    (p2 x25 x27).bind fun r28 =>
    if (!r28) = true then (
     some (.inr (.ret false))
    ) else
    (chkI (v8 + 1)).bind fun v30 =>
    some (.inl v30)
   ) else
   some (.inr (.go ()))
  ) N 0
 ) fun (_ : Unit) =>
 some true
set_option maxRecDepth 100000 in
set_option maxHeartbeats 4000000 in
theorem p37 (N : Nat) (a0 : (List S73)) (a1 : (List S73)) (g2 : Nat) (cs2 : List D) (p2 : S73 → S73 → Option Bool) (ent_2 : Rp.Enters Try.prog g2) (hp2 : ∀ a0 a1 r, p2 a0 a1 = some r → FunC Try.prog g2 ([.agg [.i a0.Kind, .i a0.From, .i a0.To, .i a0.Term, .i a0.Index, .i a0.PrevTerm, .i a0.Commit, .d (.sl (a0.Entries.map cS64))], .agg [.i a1.Kind, .i a1.From, .i a1.To, .i a1.Term, .i a1.Index, .i a1.PrevTerm, .i a1.Commit, .d (.sl (a1.Entries.map cS64))]] ++ cs2.map .d) (.b r)) (r : Bool) (h : d37 N a0 a1 p2 = some r) : FunC Try.prog 37 [.d (.sl (a0.map cS73)), .d (.sl (a1.map cS73)), .fn (.func g2) (cs2.map .d)] (.b r) := by
 unfold d37 at h
 refine FunC.enter 32 [(0, .d (.sl (a0.map cS73))), (1, .d (.sl (a1.map cS73))), (2, .fn (.func g2) (cs2.map .d))] (by simp) Try.func37 rfl (of_decide_eq_true rfl) rfl rfl ?_
 refine .seqR ?_
 refine .runK [] 1 fun K k => ?_; simp; refine k _ _ ?_; clear k K
 refine .tt (L55 a0 a1 ++ [(2, .fn (.func g2) (cs2.map .d))]) [] ?_
 refine .nil ?_
 refine .seq ?_
 refine .seqR ?_
 refine .runK [] 5 fun K k => ?_; simp; refine k _ _ ?_; clear k K
 refine .tt (L55 a0 a1 ++ [(2, .fn (.func g2) (cs2.map .d)), (14, .b ((a0.length : Int) != (a1.length : Int)))]) [] ?_
 refine .nil ?_
 replace h := isome h; rcases h with ⟨c1, h⟩ | ⟨c1, h⟩
 ·have c1_ : ((a0.length : Int) != (a1.length : Int)) = true := c1
  refine .condT (b := ((a0.length : Int) != (a1.length : Int))) rfl c1_ ?_
  refine .sub (.bool 14 (b := ((a0.length : Int) != (a1.length : Int))) rfl c1_) ?_
  refine .st (mk 32 [] (L55 a0 a1 ++ [(2, .fn (.func g2) (cs2.map .d)), (14, .b true)]) []) ?_
  refine .seqR ?_
  refine .runK [] 1 fun K k => ?_; simp; refine k _ _ ?_; clear k K
  refine .tt [(6, .b false)] [] ?_
  refine .nil ?_
  refine .ret ?_
  cases h
  refine thenQ_pass (by simp) ?_
  exact FinC.ret (by simp) (by simp)
 have c1_ : ((a0.length : Int) != (a1.length : Int)) = false := Bool.eq_false_iff.2 c1
 refine .condF (b := ((a0.length : Int) != (a1.length : Int))) rfl c1_ ?_
 refine .sub (.bool 14 (b := ((a0.length : Int) != (a1.length : Int))) rfl c1_) ?_
 refine .st (mk 32 [] (L55 a0 a1 ++ [(2, .fn (.func g2) (cs2.map .d)), (14, .b false)]) []) ?_
 refine .skip ?_
 refine thenQ_normal ?_
 refine .seq ?_
 refine .seqR ?_
 refine .runK [] 3 fun K k => ?_; simp; refine k _ _ ?_; clear k K
 refine .tt [(1, .d (.sl (a1.map cS73))), (2, .fn (.func g2) (cs2.map .d)), (15, .d (.sl (a0.map cS73))), (16, .i (a0.length : Int)), (17, .i 0)] [] ?_
 refine .nil ?_
 refine .lastJ (fun (_ : Unit) => mk 32 [] [] []) h ?_ ?_ <;> clear h
 ·intro o h
  refine .block ?_
  refine .iter (fun (v8 : Int) => mk 32 [] [(1, .d (.sl (a1.map cS73))), (2, .fn (.func g2) (cs2.map .d)), (15, .d (.sl (a0.map cS73))), (16, .i (a0.length : Int)), (17, .i v8)] []) h Sub.tt ?_
  clear h
  rintro v8 x h
  refine .seqR ?_
  refine .runK [] 1 fun K k => ?_; simp; refine k _ _ ?_; clear k K
  refine .tt [(1, .d (.sl (a1.map cS73))), (2, .fn (.func g2) (cs2.map .d)), (15, .d (.sl (a0.map cS73))), (16, .i (a0.length : Int)), (17, .i v8), (18, .b (decide (v8 < (a0.length : Int))))] [] ?_
  refine .nil ?_
  refine .seq ?_
  replace h := isome h; rcases h with ⟨c24, h⟩ | ⟨c24, h⟩
  ·have c24_ : decide (v8 < (a0.length : Int)) = true := decide_eq_true c24
   refine .condT (b := decide (v8 < (a0.length : Int))) rfl c24_ ?_
   refine .sub (.bool 18 (b := decide (v8 < (a0.length : Int))) rfl c24_) ?_
   refine .st (mk 32 [] [(1, .d (.sl (a1.map cS73))), (2, .fn (.func g2) (cs2.map .d)), (15, .d (.sl (a0.map cS73))), (16, .i (a0.length : Int)), (17, .i v8), (18, .b true)] []) ?_
   refine .skip ?_
   refine thenQ_normal ?_
   refine .seq ?_
   refine .block ?_
   refine .seqR ?_
   replace h := bsome h; obtain ⟨x25, hx25, h⟩ := h
   obtain ⟨k26, hx25k, hx25, hx25a, hx25b⟩ := idx_some hx25
   refine .runK [] 6 fun K k => ?_; simp [hx25, hx25k, hx25a]; refine k _ _ ?_; clear k K
   refine .tt [(1, .d (.sl (a1.map cS73))), (2, .fn (.func g2) (cs2.map .d)), (7, .i v8), (8, .ptr 8 0 0), (15, .d (.sl (a0.map cS73))), (16, .i (a0.length : Int)), (17, .i v8)] [(8, some (.box [.i x25.Kind, .i x25.From, .i x25.To, .i x25.Term, .i x25.Index, .i x25.PrevTerm, .i x25.Commit, .d (.sl (x25.Entries.map cS64))]))] ?_
   refine .nil ?_
   refine .seqR ?_
   replace h := bsome h; obtain ⟨x27, hx27, h⟩ := h
   obtain ⟨hx27, hx27a, hx27b⟩ := idx_some2 hx27 hx25k
   refine .runK [] 6 fun K k => ?_; simp [hx27, hx25k, hx27a]; refine k _ _ ?_; clear k K
   refine .tt [(1, .d (.sl (a1.map cS73))), (2, .fn (.func g2) (cs2.map .d)), (8, .ptr 8 0 0), (9, .ptr 9 0 0), (15, .d (.sl (a0.map cS73))), (16, .i (a0.length : Int)), (17, .i v8)] [(8, some (.box [.i x25.Kind, .i x25.From, .i x25.To, .i x25.Term, .i x25.Index, .i x25.PrevTerm, .i x25.Commit, .d (.sl (x25.Entries.map cS64))])), (9, some (.box [.i x27.Kind, .i x27.From, .i x27.To, .i x27.Term, .i x27.Index, .i x27.PrevTerm, .i x27.Commit, .d (.sl (x27.Entries.map cS64))]))] ?_
   refine .nil ?_
   refine .seqR ?_
   refine .runK [] 3 fun K k => ?_; simp; refine k _ _ ?_; clear k K
   refine .tt [(1, .d (.sl (a1.map cS73))), (2, .fn (.func g2) (cs2.map .d)), (15, .d (.sl (a0.map cS73))), (16, .i (a0.length : Int)), (17, .i v8), (26, .fn (.func g2) (cs2.map .d)), (27, .agg [.i x25.Kind, .i x25.From, .i x25.To, .i x25.Term, .i x25.Index, .i x25.PrevTerm, .i x25.Commit, .d (.sl (x25.Entries.map cS64))]), (28, .agg [.i x27.Kind, .i x27.From, .i x27.To, .i x27.Term, .i x27.Index, .i x27.PrevTerm, .i x27.Commit, .d (.sl (x27.Entries.map cS64))])] [] ?_
   replace h := bsome h; obtain ⟨r28, hr28, h⟩ := h
   refine .callL (d := 29) (hp2 x25 x27 r28 hr28) (by simp) rfl rfl (by simp <;> rfl) (by simp <;> rfl) ent_2 (by simp <;> rfl) ?_
   refine .st (mk 32 [] [(1, .d (.sl (a1.map cS73))), (2, .fn (.func g2) (cs2.map .d)), (15, .d (.sl (a0.map cS73))), (16, .i (a0.length : Int)), (17, .i v8), (26, .fn (.func g2) (cs2.map .d)), (27, .agg [.i x25.Kind, .i x25.From, .i x25.To, .i x25.Term, .i x25.Index, .i x25.PrevTerm, .i x25.Commit, .d (.sl (x25.Entries.map cS64))]), (28, .agg [.i x27.Kind, .i x27.From, .i x27.To, .i x27.Term, .i x27.Index, .i x27.PrevTerm, .i x27.Commit, .d (.sl (x27.Entries.map cS64))]), (29, .b r28)] []) ?_
   refine .runK [] 1 fun K k => ?_; simp; refine k _ _ ?_; clear k K
   refine .tt [(1, .d (.sl (a1.map cS73))), (2, .fn (.func g2) (cs2.map .d)), (15, .d (.sl (a0.map cS73))), (16, .i (a0.length : Int)), (17, .i v8), (30, .b (!r28))] [] ?_
   refine .nil ?_
   replace h := isome h; rcases h with ⟨c29, h⟩ | ⟨c29, h⟩
   ·have c29_ : (!r28) = true := c29
    refine .condT (b := (!r28)) rfl c29_ ?_
    refine .sub (.bool 30 (b := (!r28)) rfl c29_) ?_
    refine .st (mk 32 [] [(1, .d (.sl (a1.map cS73))), (2, .fn (.func g2) (cs2.map .d)), (15, .d (.sl (a0.map cS73))), (16, .i (a0.length : Int)), (17, .i v8), (30, .b true)] []) ?_
    refine .seqR ?_
    refine .runK [] 1 fun K k => ?_; simp; refine k _ _ ?_; clear k K
    refine .tt [(6, .b false)] [] ?_
    refine .nil ?_
    refine .ret ?_
    cases h
    refine blockQ.ret ?_
    refine thenQ_pass (by simp) ?_
    refine PostI.out (by simp) ?_
    rintro rfl
    refine blockQ.ret ?_
    refine PostJ.out (by simp) ?_
    rintro rfl
    refine thenQ_pass (by simp) ?_
    exact FinC.ret (by simp) (by simp)
   have c29_ : (!r28) = false := Bool.eq_false_iff.2 c29
   refine .condF (b := (!r28)) rfl c29_ ?_
   refine .sub (.bool 30 (b := (!r28)) rfl c29_) ?_
   refine .st (mk 32 [] [(1, .d (.sl (a1.map cS73))), (2, .fn (.func g2) (cs2.map .d)), (15, .d (.sl (a0.map cS73))), (16, .i (a0.length : Int)), (17, .i v8), (30, .b false)] []) ?_
   refine .skip ?_
   refine blockQ.normal ?_
   refine thenQ_normal ?_
   refine .region ?_
   replace h := bsome h; obtain ⟨v30, hv30, h⟩ := h
   have hv30 := chkI_some hv30
   refine .runK [] 2 fun K k => ?_; simp [hv30]; refine k _ _ ?_; clear k K
   refine .tt [(1, .d (.sl (a1.map cS73))), (2, .fn (.func g2) (cs2.map .d)), (15, .d (.sl (a0.map cS73))), (16, .i (a0.length : Int)), (17, .i v30)] [] ?_
   refine .nil ?_
   cases h
   refine PostI.next ?_
   exact Sub.tt
  have c24_ : decide (v8 < (a0.length : Int)) = false := decide_eq_false c24
  refine .condF (b := decide (v8 < (a0.length : Int))) rfl c24_ ?_
  refine .sub (.bool 18 (b := decide (v8 < (a0.length : Int))) rfl c24_) ?_
  refine .st (mk 32 [] [(1, .d (.sl (a1.map cS73))), (2, .fn (.func g2) (cs2.map .d)), (15, .d (.sl (a0.map cS73))), (16, .i (a0.length : Int)), (17, .i v8), (18, .b false)] []) ?_
  refine .exit ?_
  cases h
  refine thenQ_pass (by simp) ?_
  refine PostI.out (by simp) ?_
  rintro rfl
  refine blockQ.hit ?_
  refine PostJ.next ?_
  exact Sub.tt
 rintro ⟨⟩ h
 refine thenQ_normal ?_
 refine .seqR ?_
 refine .runK [] 1 fun K k => ?_; simp; refine k _ _ ?_; clear k K
 refine .tt [(6, .b true)] [] ?_
 refine .nil ?_
 refine .ret ?_
 cases h
 exact FinC.ret (by simp) (by simp)
end Go.Proofs.Ytifcmomjjkbboab
