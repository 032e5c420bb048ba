/- Functions of the program as functional programs; the code computes them. -/
import Derived.Test.YtdiekinmoklonacSv2
namespace Go.Proofs.Ytdiekinmoklonac
open Go.Ab Go.Rp
attribute [-simp] List.all_eq_true Array.all_toList Array.all_eq_true

/-- slices.Equal[[]stemma/savepoint.Entry,stemma/savepoint.Entry] -/
def d23 (N : Nat) (a0 : (List S30)) (a1 : (List S30)) : Option Bool :=
 if ((a0.length : Int) != (a1.length : Int)) then (
  some false
 ) else
 bindO (β := Unit) (ρ := Bool) (
  iterN (σ := Int) (ρ := (Out Unit Bool)) (fun (v7 : Int) =>
   if v7 < (a0.length : Int) then (
    (idx a0 v7).bind fun x22 =>
    (idx a1 v7).bind fun x24 =>
    if (!beqS30 x22 x24) = true then (
     some (.inr (.ret false))
    ) else
    (chkI (v7 + 1)).bind fun v26 =>
    some (.inl v26)
   ) else
   some (.inr (.go ()))
  ) N 0
 ) fun (_ : Unit) =>
 some true
set_option maxRecDepth 100000 in
set_option maxHeartbeats 4000000 in
theorem p23 (N : Nat) (a0 : (List S30)) (a1 : (List S30)) (r : Bool) (h : d23 N a0 a1 = some r) : FunC Try.prog 23 [.d (.sl (a0.map cS30)), .d (.sl (a1.map cS30))] (.d (.lit (.bool r))) := by
 unfold d23 at h
 refine FunC.enter 26 [(0, .d (.sl (a0.map cS30))), (1, .d (.sl (a1.map cS30)))] (by simp) Try.func23 rfl (of_decide_eq_true rfl) rfl rfl ?_
 refine AW.seqR ?_
 refine Chain.runK [] 1 fun K hK => ?_; simp; refine hK _ _ ?_; clear hK K
 refine Chain.sub (S' := mk 26 [] [(0, .d (.sl (a0.map cS30))), (1, .d (.sl (a1.map cS30)))] []) Sub.tt ?_
 refine Chain.nil ?_
 refine AW.seq ?_
 refine AW.seqR ?_
 refine Chain.runK [] 5 fun K hK => ?_; simp; refine hK _ _ ?_; clear hK K
 refine Chain.sub (S' := mk 26 [] [(0, .d (.sl (a0.map cS30))), (1, .d (.sl (a1.map cS30))), (10, .d (.lit (.bool ((a0.length : Int) != (a1.length : Int)))))] []) Sub.tt ?_
 refine Chain.nil ?_
 replace h := isome h; rcases h with ⟨c1, h⟩ | ⟨c1, h⟩
 ·have c1_ : ((a0.length : Int) != (a1.length : Int)) = true := c1
  refine AW.condT (b := ((a0.length : Int) != (a1.length : Int))) rfl c1_ ?_
  refine AW.sub (Sub.bool 10 (b := ((a0.length : Int) != (a1.length : Int))) rfl c1_) ?_
  refine AW.sub (S' := mk 26 [] [(0, .d (.sl (a0.map cS30))), (1, .d (.sl (a1.map cS30))), (10, .d (.lit (.bool true)))] []) (by simp; exact Sub.table (by simp) (by simp)) ?_
  refine AW.seqR ?_
  refine Chain.runK [] 1 fun K hK => ?_; simp; refine hK _ _ ?_; clear hK K
  refine Chain.sub (S' := mk 26 [] [(4, .d (.lit (.bool false)))] []) Sub.tt ?_
  refine Chain.nil ?_
  refine AW.ret ?_
  cases h
  refine thenQ_pass (by simp) ?_
  exact FinC.ret (by simp) (by simp)
 ·have c1_ : ((a0.length : Int) != (a1.length : Int)) = false := Bool.eq_false_iff.2 c1
  refine AW.condF (b := ((a0.length : Int) != (a1.length : Int))) rfl c1_ ?_
  refine AW.sub (Sub.bool 10 (b := ((a0.length : Int) != (a1.length : Int))) rfl c1_) ?_
  refine AW.sub (S' := mk 26 [] [(0, .d (.sl (a0.map cS30))), (1, .d (.sl (a1.map cS30))), (10, .d (.lit (.bool false)))] []) (by simp; exact Sub.table (by simp) (by simp)) ?_
  refine AW.skip ?_
  refine thenQ_normal ?_
  refine AW.seq ?_
  refine AW.seqR ?_
  refine Chain.runK [] 3 fun K hK => ?_; simp; refine hK _ _ ?_; clear hK K
  refine Chain.sub (S' := mk 26 [] [(0, .d (.sl (a0.map cS30))), (1, .d (.sl (a1.map cS30))), (12, .d (.lit (.int .i64 (a0.length : Int)))), (13, .d (.lit (.int .i64 0)))] []) Sub.tt ?_
  refine Chain.nil ?_
  refine AW.lastJ (fun (_ : Unit) => mk 26 [] [] []) h ?_ ?_ <;> clear h
  ·intro o h
   refine AW.block ?_
   refine AW.iter (fun (v7 : Int) => mk 26 [] [(0, .d (.sl (a0.map cS30))), (1, .d (.sl (a1.map cS30))), (12, .d (.lit (.int .i64 (a0.length : Int)))), (13, .d (.lit (.int .i64 v7)))] []) h Sub.tt ?_
   clear h
   rintro v7 x h
   refine AW.seqR ?_
   refine Chain.runK [] 1 fun K hK => ?_; simp; refine hK _ _ ?_; clear hK K
   refine Chain.sub (S' := mk 26 [] [(0, .d (.sl (a0.map cS30))), (1, .d (.sl (a1.map cS30))), (12, .d (.lit (.int .i64 (a0.length : Int)))), (13, .d (.lit (.int .i64 v7))), (14, .d (.lit (.bool (decide (v7 < (a0.length : Int))))))] []) Sub.tt ?_
   refine Chain.nil ?_
   refine AW.seq ?_
   replace h := isome h; rcases h with ⟨c21, h⟩ | ⟨c21, h⟩
   ·have c21_ : decide (v7 < (a0.length : Int)) = true := decide_eq_true c21
    refine AW.condT (b := decide (v7 < (a0.length : Int))) rfl c21_ ?_
    refine AW.sub (Sub.bool 14 (b := decide (v7 < (a0.length : Int))) rfl c21_) ?_
    refine AW.sub (S' := mk 26 [] [(0, .d (.sl (a0.map cS30))), (1, .d (.sl (a1.map cS30))), (12, .d (.lit (.int .i64 (a0.length : Int)))), (13, .d (.lit (.int .i64 v7))), (14, .d (.lit (.bool true)))] []) (by simp; exact Sub.table (by simp) (by simp)) ?_
    refine AW.skip ?_
    refine thenQ_normal ?_
    refine AW.seq ?_
    refine AW.block ?_
    refine AW.seqR ?_
    refine Chain.runK [] 2 fun K hK => ?_; simp; refine hK _ _ ?_; clear hK K
    refine Chain.sub (S' := mk 26 [] [(0, .d (.sl (a0.map cS30))), (1, .d (.sl (a1.map cS30))), (5, .d (.lit (.int .i64 v7))), (12, .d (.lit (.int .i64 (a0.length : Int)))), (13, .d (.lit (.int .i64 v7)))] []) Sub.tt ?_
    refine Chain.nil ?_
    refine AW.seqQ (by kernel_rfl) (by kernel_rfl) ?_
    replace h := bsome h; obtain ⟨x22, hx22, h⟩ := h
    obtain ⟨k23, hx22k, hx22, hx22a, hx22b⟩ := idx_some hx22
    replace h := bsome h; obtain ⟨x24, hx24, h⟩ := h
    obtain ⟨hx24, hx24a, hx24b⟩ := idx_some2 hx24 hx22k
    refine Chain.runQ 8 fun K hK => ?_; simp [hx22, hx22a, hx24, hx22k]; refine hK _ _ ?_; clear hK K
    refine Chain.sub (S' := mk 26 [] [(0, .d (.sl (a0.map cS30))), (1, .d (.sl (a1.map cS30))), (12, .d (.lit (.int .i64 (a0.length : Int)))), (13, .d (.lit (.int .i64 v7))), (19, .agg [.d (.lit (.string x22.Key)), .d (.lit (.int .i64 x22.Value))]), (23, .agg [.d (.lit (.string x24.Key)), .d (.lit (.int .i64 x24.Value))])] []) Sub.tt ?_
    refine Chain.pureP (by simp) (pure_eqA true rfl rfl rfl rfl (by kernel_rfl) (eqv30 x22 x24)) ?_
    refine Chain.sub (S' := mk 26 [] [(0, .d (.sl (a0.map cS30))), (1, .d (.sl (a1.map cS30))), (12, .d (.lit (.int .i64 (a0.length : Int)))), (13, .d (.lit (.int .i64 v7))), (19, .agg [.d (.lit (.string x22.Key)), .d (.lit (.int .i64 x22.Value))]), (23, .agg [.d (.lit (.string x24.Key)), .d (.lit (.int .i64 x24.Value))]), (24, .d (.lit (.bool (!beqS30 x22 x24))))] []) (by simp; exact Sub.table (by simp) (by simp)) ?_
    refine Chain.nil ?_
    replace h := isome h; rcases h with ⟨c25, h⟩ | ⟨c25, h⟩
    ·have c25_ : (!beqS30 x22 x24) = true := c25
     refine AW.condT (b := (!beqS30 x22 x24)) rfl c25_ ?_
     refine AW.sub (Sub.bool 24 (b := (!beqS30 x22 x24)) rfl c25_) ?_
     refine AW.sub (S' := mk 26 [] [(0, .d (.sl (a0.map cS30))), (1, .d (.sl (a1.map cS30))), (12, .d (.lit (.int .i64 (a0.length : Int)))), (13, .d (.lit (.int .i64 v7))), (19, .agg [.d (.lit (.string x22.Key)), .d (.lit (.int .i64 x22.Value))]), (23, .agg [.d (.lit (.string x24.Key)), .d (.lit (.int .i64 x24.Value))]), (24, .d (.lit (.bool true)))] []) (by simp; exact Sub.table (by simp) (by simp)) ?_
     refine AW.seqR ?_
     refine Chain.runK [] 1 fun K hK => ?_; simp; refine hK _ _ ?_; clear hK K
     refine Chain.sub (S' := mk 26 [] [(4, .d (.lit (.bool false)))] []) Sub.tt ?_
     refine Chain.nil ?_
     refine AW.ret ?_
     cases h
     refine blockQ.ret ?_
     refine thenQ_pass (by simp) ?_
     refine PostI.out (by simp) ?_
     rintro rfl
     refine blockQ.ret ?_
     refine PostJ.out (by simp) ?_
     rintro rfl
     refine thenQ_pass (by simp) ?_
     exact FinC.ret (by simp) (by simp)
    ·have c25_ : (!beqS30 x22 x24) = false := Bool.eq_false_iff.2 c25
     refine AW.condF (b := (!beqS30 x22 x24)) rfl c25_ ?_
     refine AW.sub (Sub.bool 24 (b := (!beqS30 x22 x24)) rfl c25_) ?_
     refine AW.sub (S' := mk 26 [] [(0, .d (.sl (a0.map cS30))), (1, .d (.sl (a1.map cS30))), (12, .d (.lit (.int .i64 (a0.length : Int)))), (13, .d (.lit (.int .i64 v7))), (19, .agg [.d (.lit (.string x22.Key)), .d (.lit (.int .i64 x22.Value))]), (23, .agg [.d (.lit (.string x24.Key)), .d (.lit (.int .i64 x24.Value))]), (24, .d (.lit (.bool false)))] []) (by simp; exact Sub.table (by simp) (by simp)) ?_
     refine AW.skip ?_
     refine blockQ.normal ?_
     refine thenQ_normal ?_
     refine AW.region ?_
     replace h := bsome h; obtain ⟨v26, hv26, h⟩ := h
     have hv26 := chkI_some hv26
     refine Chain.runK [] 2 fun K hK => ?_; simp [hv26]; refine hK _ _ ?_; clear hK K
     refine Chain.sub (S' := mk 26 [] [(0, .d (.sl (a0.map cS30))), (1, .d (.sl (a1.map cS30))), (12, .d (.lit (.int .i64 (a0.length : Int)))), (13, .d (.lit (.int .i64 v26)))] []) Sub.tt ?_
     refine Chain.nil ?_
     cases h
     refine PostI.next ?_
     exact Sub.tt
   ·have c21_ : decide (v7 < (a0.length : Int)) = false := decide_eq_false c21
    refine AW.condF (b := decide (v7 < (a0.length : Int))) rfl c21_ ?_
    refine AW.sub (Sub.bool 14 (b := decide (v7 < (a0.length : Int))) rfl c21_) ?_
    refine AW.sub (S' := mk 26 [] [(0, .d (.sl (a0.map cS30))), (1, .d (.sl (a1.map cS30))), (12, .d (.lit (.int .i64 (a0.length : Int)))), (13, .d (.lit (.int .i64 v7))), (14, .d (.lit (.bool false)))] []) (by simp; exact Sub.table (by simp) (by simp)) ?_
    refine AW.exit ?_
    cases h
    refine thenQ_pass (by simp) ?_
    refine PostI.out (by simp) ?_
    rintro rfl
    refine blockQ.hit ?_
    refine PostJ.next ?_
    exact Sub.tt
  ·rintro ⟨⟩ h
   refine thenQ_normal ?_
   refine AW.seqR ?_
   refine Chain.runK [] 1 fun K hK => ?_; simp; refine hK _ _ ?_; clear hK K
   refine Chain.sub (S' := mk 26 [] [(4, .d (.lit (.bool true)))] []) Sub.tt ?_
   refine Chain.nil ?_
   refine AW.ret ?_
   cases h
   exact FinC.ret (by simp) (by simp)

/-- stemma/stemlaw5.sameEntriesAs -/
def d13 (N : Nat) (a0 : S47) (a1 : (List (ByteArray × Int))) (a2 : ByteArray) : Option Bool :=
 (keysL a1).bind fun r1 =>
 Option.bind (α := List S30) (
  iterN (σ := ((List S30) × Int)) (ρ := List S30) (fun ((l7, v8) : ((List S30) × Int)) =>
   if v8 < (r1.length : Int) then (
    (idx r1 v8).bind fun x25 =>
    letv ((mget a1 x25).getD 0) fun v27 =>
    (appL 24 l7 [(S30.mk x25 v27)]).bind fun _l28 =>
    (chkI (v8 + 1)).bind fun v29 =>
    some (.inl ((l7 ++ [(S30.mk x25 v27)]), v29))
   ) else
   some (.inr l7)
  ) N (([] : List S30), 0)
 ) fun (l23 : List S30) =>
 (d22 N a0 a2).bind fun r30 =>
 letv ((mget a1 a2).getD 0) fun v31 =>
 letv (mget a1 a2).isSome fun v32 =>
 Option.bind (α := Bool) (
  if (r30.1 == v31) then (
   if ((r30.2 == 0) == v32) then (
    if v32 = true then (
     (d24 N a0).bind fun r45 =>
     (d23 N r45 l23).bind fun r46 =>
     some r46
    ) else
    if (r30.2 == 4) then (
     (d24 N a0).bind fun r48 =>
     (d23 N r48 l23).bind fun r49 =>
     some r49
    ) else
    some false
   ) else
   some false
  ) else
  some false
 ) fun (v41 : Bool) =>
 some v41
set_option maxRecDepth 100000 in
set_option maxHeartbeats 4000000 in
theorem p13 (N : Nat) (a0 : S47) (a1 : (List (ByteArray × Int))) (a2 : ByteArray) (r : Bool) (h : d13 N a0 a1 a2 = some r) : FunC Try.prog 13 [.d (.pim [.sl (a0.entries.map cS30), .sl (a0.savepoints.map (cL cS30))]), .d (.mpi .string false (a1.map (MKey.sk ∘ Prod.fst)) (a1.map ((cI .i64) ∘ Prod.snd))), .d (.lit (.string a2))] (.d (.lit (.bool r))) := by
 unfold d13 at h
 refine FunC.enter 65 [(0, .d (.pim [.sl (a0.entries.map cS30), .sl (a0.savepoints.map (cL cS30))])), (1, .d (.mpi .string false (a1.map (MKey.sk ∘ Prod.fst)) (a1.map ((cI .i64) ∘ Prod.snd)))), (2, .d (.lit (.string a2)))] (by simp) Try.func13 rfl (of_decide_eq_true rfl) rfl rfl ?_
 refine AW.seqR ?_
 refine Chain.runK [] 1 fun K hK => ?_; simp; refine hK _ _ ?_; clear hK K
 refine Chain.sub (S' := mk 65 [] [(0, .d (.pim [.sl (a0.entries.map cS30), .sl (a0.savepoints.map (cL cS30))])), (1, .d (.mpi .string false (a1.map (MKey.sk ∘ Prod.fst)) (a1.map ((cI .i64) ∘ Prod.snd)))), (2, .d (.lit (.string a2)))] []) Sub.tt ?_
 refine Chain.nil ?_
 refine AW.seqR ?_
 refine Chain.runK [] 1 fun K hK => ?_; simp; refine hK _ _ ?_; clear hK K
 refine Chain.sub (S' := mk 65 [] [(0, .d (.pim [.sl (a0.entries.map cS30), .sl (a0.savepoints.map (cL cS30))])), (1, .d (.mpi .string false (a1.map (MKey.sk ∘ Prod.fst)) (a1.map ((cI .i64) ∘ Prod.snd)))), (2, .d (.lit (.string a2))), (7, .d (.lit (.slice none 0 0)))] []) Sub.tt ?_
 refine Chain.nil ?_
 refine AW.seq ?_
 refine AW.seqR ?_
 refine Chain.runK [] 1 fun K hK => ?_; simp; refine hK _ _ ?_; clear hK K
 refine Chain.sub (S' := mk 65 [] [(0, .d (.pim [.sl (a0.entries.map cS30), .sl (a0.savepoints.map (cL cS30))])), (1, .d (.mpi .string false (a1.map (MKey.sk ∘ Prod.fst)) (a1.map ((cI .i64) ∘ Prod.snd)))), (2, .d (.lit (.string a2))), (7, .d (.lit (.slice none 0 0))), (14, .d (.mpi .string false (a1.map (MKey.sk ∘ Prod.fst)) (a1.map ((cI .i64) ∘ Prod.snd))))] []) Sub.tt ?_
 replace h := bsome h; obtain ⟨r1, hr1, h⟩ := h
 refine Chain.callC2 (d := 15) (d2 := 16) (keys_sortedL hr1) (by simp) rfl rfl (by simp <;> rfl) (by simp <;> rfl) ent21 (by simp) rfl rfl (by simp <;> rfl) rfl ent20 (by show 15 < 65; decide) (by simp) ?_ (.inl ⟨by simp, by simp⟩)
 refine Chain.sub (S' := mk 65 [] [(0, .d (.pim [.sl (a0.entries.map cS30), .sl (a0.savepoints.map (cL cS30))])), (1, .d (.mpi .string false (a1.map (MKey.sk ∘ Prod.fst)) (a1.map ((cI .i64) ∘ Prod.snd)))), (2, .d (.lit (.string a2))), (7, .d (.lit (.slice none 0 0))), (14, .d (.mpi .string false (a1.map (MKey.sk ∘ Prod.fst)) (a1.map ((cI .i64) ∘ Prod.snd)))), (16, .d (.sl (r1.map cS)))] []) (by simp; exact Sub.table (by simp) (by simp)) ?_
 refine Chain.runK [] 2 fun K hK => ?_; simp; refine hK _ _ ?_; clear hK K
 refine Chain.sub (S' := mk 65 [] [(0, .d (.pim [.sl (a0.entries.map cS30), .sl (a0.savepoints.map (cL cS30))])), (1, .d (.mpi .string false (a1.map (MKey.sk ∘ Prod.fst)) (a1.map ((cI .i64) ∘ Prod.snd)))), (2, .d (.lit (.string a2))), (7, .d (.lit (.slice none 0 0))), (16, .d (.sl (r1.map cS))), (17, .d (.lit (.int .i64 (r1.length : Int)))), (18, .d (.lit (.int .i64 0)))] []) Sub.tt ?_
 refine Chain.nil ?_
 refine AW.lastN (fun (l23 : List S30) => mk 65 [] [(0, .d (.pim [.sl (a0.entries.map cS30), .sl (a0.savepoints.map (cL cS30))])), (1, .d (.mpi .string false (a1.map (MKey.sk ∘ Prod.fst)) (a1.map ((cI .i64) ∘ Prod.snd)))), (2, .d (.lit (.string a2))), (7, .ref 29 0 l23.length)] [(29, some (.arr 30 2 (l23.map cS30)))]) h ?_ ?_ <;> clear h
 ·intro o h
  refine AW.block ?_
  refine AW.iter (fun ((l7, v8) : ((List S30) × Int)) => mk 65 [] [(0, .d (.pim [.sl (a0.entries.map cS30), .sl (a0.savepoints.map (cL cS30))])), (1, .d (.mpi .string false (a1.map (MKey.sk ∘ Prod.fst)) (a1.map ((cI .i64) ∘ Prod.snd)))), (2, .d (.lit (.string a2))), (7, .ref 29 0 l7.length), (16, .d (.sl (r1.map cS))), (17, .d (.lit (.int .i64 (r1.length : Int)))), (18, .d (.lit (.int .i64 v8)))] [(29, some (.arr 30 2 (l7.map cS30)))]) h (Sub.trans (Sub.nilOwn (t := 7) (id := 29) (T := 30) (n := 2) rfl rfl (by decide)) (by simp; exact Sub.table (by simp) (by simp))) ?_
  clear h
  rintro ⟨l7, v8⟩ x h
  dsimp only at h ⊢
  refine AW.seqR ?_
  refine Chain.runK [] 1 fun K hK => ?_; simp; refine hK _ _ ?_; clear hK K
  refine Chain.sub (S' := mk 65 [] [(0, .d (.pim [.sl (a0.entries.map cS30), .sl (a0.savepoints.map (cL cS30))])), (1, .d (.mpi .string false (a1.map (MKey.sk ∘ Prod.fst)) (a1.map ((cI .i64) ∘ Prod.snd)))), (2, .d (.lit (.string a2))), (7, .ref 29 0 l7.length), (16, .d (.sl (r1.map cS))), (17, .d (.lit (.int .i64 (r1.length : Int)))), (18, .d (.lit (.int .i64 v8))), (19, .d (.lit (.bool (decide (v8 < (r1.length : Int))))))] [(29, some (.arr 30 2 (l7.map cS30)))]) Sub.tt ?_
  refine Chain.nil ?_
  refine AW.seq ?_
  replace h := isome h; rcases h with ⟨c24, h⟩ | ⟨c24, h⟩
  ·have c24_ : decide (v8 < (r1.length : Int)) = true := decide_eq_true c24
   refine AW.condT (b := decide (v8 < (r1.length : Int))) rfl c24_ ?_
   refine AW.sub (Sub.bool 19 (b := decide (v8 < (r1.length : Int))) rfl c24_) ?_
   refine AW.sub (S' := mk 65 [] [(0, .d (.pim [.sl (a0.entries.map cS30), .sl (a0.savepoints.map (cL cS30))])), (1, .d (.mpi .string false (a1.map (MKey.sk ∘ Prod.fst)) (a1.map ((cI .i64) ∘ Prod.snd)))), (2, .d (.lit (.string a2))), (7, .ref 29 0 l7.length), (16, .d (.sl (r1.map cS))), (17, .d (.lit (.int .i64 (r1.length : Int)))), (18, .d (.lit (.int .i64 v8))), (19, .d (.lit (.bool true)))] [(29, some (.arr 30 2 (l7.map cS30)))]) (by simp; exact Sub.table (by simp) (by simp)) ?_
   refine AW.skip ?_
   refine thenQ_normal ?_
   refine AW.seq ?_
   refine AW.block ?_
   refine AW.seqR ?_
   replace h := bsome h; obtain ⟨x25, hx25, h⟩ := h
   obtain ⟨k26, hx25k, hx25, hx25a, hx25b⟩ := idx_some hx25
   refine Chain.runK [] 3 fun K hK => ?_; simp [hx25, hx25k, hx25a]; refine hK _ _ ?_; clear hK K
   refine Chain.sub (S' := mk 65 [] [(0, .d (.pim [.sl (a0.entries.map cS30), .sl (a0.savepoints.map (cL cS30))])), (1, .d (.mpi .string false (a1.map (MKey.sk ∘ Prod.fst)) (a1.map ((cI .i64) ∘ Prod.snd)))), (2, .d (.lit (.string a2))), (7, .ref 29 0 l7.length), (9, .d (.lit (.string x25))), (16, .d (.sl (r1.map cS))), (17, .d (.lit (.int .i64 (r1.length : Int)))), (18, .d (.lit (.int .i64 v8)))] [(29, some (.arr 30 2 (l7.map cS30)))]) Sub.tt ?_
   refine Chain.nil ?_
   refine AW.region ?_
   refine Chain.runK [28] 4 fun K hK => ?_; simp; refine hK _ _ ?_; clear hK K
   refine Chain.sub (S' := mk 65 [] [(0, .d (.pim [.sl (a0.entries.map cS30), .sl (a0.savepoints.map (cL cS30))])), (1, .d (.mpi .string false (a1.map (MKey.sk ∘ Prod.fst)) (a1.map ((cI .i64) ∘ Prod.snd)))), (2, .d (.lit (.string a2))), (16, .d (.sl (r1.map cS))), (17, .d (.lit (.int .i64 (r1.length : Int)))), (18, .d (.lit (.int .i64 v8))), (22, .ref 29 0 l7.length), (23, .d (.lit (.string x25))), (24, .d (.mpi .string false (a1.map (MKey.sk ∘ Prod.fst)) (a1.map ((cI .i64) ∘ Prod.snd)))), (25, .d (.lit (.string x25)))] [(29, some (.arr 30 2 (l7.map cS30)))]) Sub.tt ?_
   replace h := lsome h; obtain ⟨v27, hv27, h⟩ := h
   refine Chain.pureP (by simp) (pure_lookD (vf := (vI .i64)) (cf := (cI .i64)) (ag := false) sk_inj a1 x25 0 (fun _ => rfl) ty32 rfl ty9 ty3 rfl rfl rfl rfl rfl) ?_
   refine Chain.sub (S' := mk 65 [] [(0, .d (.pim [.sl (a0.entries.map cS30), .sl (a0.savepoints.map (cL cS30))])), (1, .d (.mpi .string false (a1.map (MKey.sk ∘ Prod.fst)) (a1.map ((cI .i64) ∘ Prod.snd)))), (2, .d (.lit (.string a2))), (16, .d (.sl (r1.map cS))), (17, .d (.lit (.int .i64 (r1.length : Int)))), (18, .d (.lit (.int .i64 v8))), (22, .ref 29 0 l7.length), (23, .d (.lit (.string x25))), (24, .d (.mpi .string false (a1.map (MKey.sk ∘ Prod.fst)) (a1.map ((cI .i64) ∘ Prod.snd)))), (25, .d (.lit (.string x25))), (26, .d (.lit (.int .i64 v27)))] [(29, some (.arr 30 2 (l7.map cS30)))]) (by simp [vI, hv27]; exact Sub.table (by simp) (by simp)) ?_
   replace h := bsome h; obtain ⟨l28, hl28, h⟩ := h
   obtain ⟨hl28a, hl28⟩ := appL_some hl28
   subst hl28
   try simp only [List.length_cons, List.length_nil, Nat.zero_add] at hl28a
   refine Chain.runK [28] 4 fun K hK => ?_; simp [hl28a]; refine hK _ _ ?_; clear hK K
   refine Chain.sub (S' := mk 65 [] [(0, .d (.pim [.sl (a0.entries.map cS30), .sl (a0.savepoints.map (cL cS30))])), (1, .d (.mpi .string false (a1.map (MKey.sk ∘ Prod.fst)) (a1.map ((cI .i64) ∘ Prod.snd)))), (2, .d (.lit (.string a2))), (7, .ref 29 0 ((l7 ++ [(S30.mk x25 v27)]).length)), (16, .d (.sl (r1.map cS))), (17, .d (.lit (.int .i64 (r1.length : Int)))), (18, .d (.lit (.int .i64 v8)))] [(29, some (.arr 30 2 ((l7 ++ [(S30.mk x25 v27)]).map cS30)))]) Sub.tt ?_
   refine Chain.nil ?_
   refine blockQ.normal ?_
   refine thenQ_normal ?_
   refine AW.region ?_
   replace h := bsome h; obtain ⟨v29, hv29, h⟩ := h
   have hv29 := chkI_some hv29
   refine Chain.runK [] 2 fun K hK => ?_; simp [hv29]; refine hK _ _ ?_; clear hK K
   refine Chain.sub (S' := mk 65 [] [(0, .d (.pim [.sl (a0.entries.map cS30), .sl (a0.savepoints.map (cL cS30))])), (1, .d (.mpi .string false (a1.map (MKey.sk ∘ Prod.fst)) (a1.map ((cI .i64) ∘ Prod.snd)))), (2, .d (.lit (.string a2))), (7, .ref 29 0 ((l7 ++ [(S30.mk x25 v27)]).length)), (16, .d (.sl (r1.map cS))), (17, .d (.lit (.int .i64 (r1.length : Int)))), (18, .d (.lit (.int .i64 v29)))] [(29, some (.arr 30 2 ((l7 ++ [(S30.mk x25 v27)]).map cS30)))]) Sub.tt ?_
   refine Chain.nil ?_
   cases h
   refine PostI.next ?_
   exact Sub.tt
  ·have c24_ : decide (v8 < (r1.length : Int)) = false := decide_eq_false c24
   refine AW.condF (b := decide (v8 < (r1.length : Int))) rfl c24_ ?_
   refine AW.sub (Sub.bool 19 (b := decide (v8 < (r1.length : Int))) rfl c24_) ?_
   refine AW.sub (S' := mk 65 [] [(0, .d (.pim [.sl (a0.entries.map cS30), .sl (a0.savepoints.map (cL cS30))])), (1, .d (.mpi .string false (a1.map (MKey.sk ∘ Prod.fst)) (a1.map ((cI .i64) ∘ Prod.snd)))), (2, .d (.lit (.string a2))), (7, .ref 29 0 l7.length), (16, .d (.sl (r1.map cS))), (17, .d (.lit (.int .i64 (r1.length : Int)))), (18, .d (.lit (.int .i64 v8))), (19, .d (.lit (.bool false)))] [(29, some (.arr 30 2 (l7.map cS30)))]) (by simp; exact Sub.table (by simp) (by simp)) ?_
   refine AW.exit ?_
   cases h
   refine thenQ_pass (by simp) ?_
   refine PostI.out (by simp) ?_
   rintro rfl
   refine blockQ.hit ?_
   refine PostN.next ?_
   exact Sub.tt
 ·rintro l23 h
  refine thenQ_normal ?_
  refine AW.seqR ?_
  refine Chain.runK [] 2 fun K hK => ?_; simp; refine hK _ _ ?_; clear hK K
  refine Chain.sub (S' := mk 65 [] [(0, .d (.pim [.sl (a0.entries.map cS30), .sl (a0.savepoints.map (cL cS30))])), (1, .d (.mpi .string false (a1.map (MKey.sk ∘ Prod.fst)) (a1.map ((cI .i64) ∘ Prod.snd)))), (2, .d (.lit (.string a2))), (7, .ref 29 0 l23.length), (32, .d (.pim [.sl (a0.entries.map cS30), .sl (a0.savepoints.map (cL cS30))])), (33, .d (.lit (.string a2)))] [(29, some (.arr 30 2 (l23.map cS30)))]) Sub.tt ?_
  replace h := bsome h; obtain ⟨r30, hr30, h⟩ := h
  refine Chain.callL (d := 34) (p22 N a0 a2 r30 hr30) (by simp) rfl rfl (by simp <;> rfl) (by simp <;> rfl) ent22 (by simp <;> rfl) ?_
  refine Chain.sub (S' := mk 65 [] [(0, .d (.pim [.sl (a0.entries.map cS30), .sl (a0.savepoints.map (cL cS30))])), (1, .d (.mpi .string false (a1.map (MKey.sk ∘ Prod.fst)) (a1.map ((cI .i64) ∘ Prod.snd)))), (2, .d (.lit (.string a2))), (7, .ref 29 0 l23.length), (32, .d (.pim [.sl (a0.entries.map cS30), .sl (a0.savepoints.map (cL cS30))])), (33, .d (.lit (.string a2))), (34, .tup [.d (.lit (.int .i64 r30.1)), .d (.lit (.int .i64 r30.2))])] [(29, some (.arr 30 2 (l23.map cS30)))]) (by simp; exact Sub.table (by simp) (by simp)) ?_
  refine Chain.runK [] 5 fun K hK => ?_; simp; refine hK _ _ ?_; clear hK K
  refine Chain.sub (S' := mk 65 [] [(0, .d (.pim [.sl (a0.entries.map cS30), .sl (a0.savepoints.map (cL cS30))])), (1, .d (.mpi .string false (a1.map (MKey.sk ∘ Prod.fst)) (a1.map ((cI .i64) ∘ Prod.snd)))), (2, .d (.lit (.string a2))), (7, .ref 29 0 l23.length), (10, .d (.lit (.int .i64 r30.1))), (11, .d (.lit (.int .i64 r30.2)))] [(29, some (.arr 30 2 (l23.map cS30)))]) Sub.tt ?_
  refine Chain.nil ?_
  refine AW.seqR ?_
  refine Chain.runK [] 2 fun K hK => ?_; simp; refine hK _ _ ?_; clear hK K
  refine Chain.sub (S' := mk 65 [] [(0, .d (.pim [.sl (a0.entries.map cS30), .sl (a0.savepoints.map (cL cS30))])), (7, .ref 29 0 l23.length), (10, .d (.lit (.int .i64 r30.1))), (11, .d (.lit (.int .i64 r30.2))), (38, .d (.mpi .string false (a1.map (MKey.sk ∘ Prod.fst)) (a1.map ((cI .i64) ∘ Prod.snd)))), (39, .d (.lit (.string a2)))] [(29, some (.arr 30 2 (l23.map cS30)))]) Sub.tt ?_
  replace h := lsome h; obtain ⟨v31, hv31, h⟩ := h
  refine Chain.pureP (by simp) (pure_lookD (vf := (vI .i64)) (cf := (cI .i64)) (ag := false) sk_inj a1 a2 0 (fun _ => rfl) ty32 rfl ty9 ty3 rfl rfl rfl rfl rfl) ?_
  replace h := lsome h; obtain ⟨v32, hv32, h⟩ := h
  refine Chain.sub (S' := mk 65 [] [(0, .d (.pim [.sl (a0.entries.map cS30), .sl (a0.savepoints.map (cL cS30))])), (7, .ref 29 0 l23.length), (10, .d (.lit (.int .i64 r30.1))), (11, .d (.lit (.int .i64 r30.2))), (38, .d (.mpi .string false (a1.map (MKey.sk ∘ Prod.fst)) (a1.map ((cI .i64) ∘ Prod.snd)))), (39, .d (.lit (.string a2))), (40, .tup [.d (.lit (.int .i64 v31)), .d (.lit (.bool v32))])] [(29, some (.arr 30 2 (l23.map cS30)))]) (by simp [vI, hv31, hv32]; exact Sub.table (by simp) (by simp)) ?_
  refine Chain.runK [] 5 fun K hK => ?_; simp; refine hK _ _ ?_; clear hK K
  refine Chain.sub (S' := mk 65 [] [(0, .d (.pim [.sl (a0.entries.map cS30), .sl (a0.savepoints.map (cL cS30))])), (7, .ref 29 0 l23.length), (10, .d (.lit (.int .i64 r30.1))), (11, .d (.lit (.int .i64 r30.2))), (12, .d (.lit (.int .i64 v31))), (13, .d (.lit (.bool v32)))] [(29, some (.arr 30 2 (l23.map cS30)))]) Sub.tt ?_
  refine Chain.nil ?_
  replace h := bsome h; obtain ⟨v41, hj, h⟩ := h
  refine AW.cutR (mk 65 [] [(6, .d (.lit (.bool v41)))] []) ?_ ?_
  ·clear h; have h := hj; clear hj
   refine Chain.runK [] 4 fun K hK => ?_; simp; refine hK _ _ ?_; clear hK K
   refine Chain.sub (S' := mk 65 [] [(0, .d (.pim [.sl (a0.entries.map cS30), .sl (a0.savepoints.map (cL cS30))])), (7, .ref 29 0 l23.length), (11, .d (.lit (.int .i64 r30.2))), (13, .d (.lit (.bool v32))), (46, .d (.lit (.bool (r30.1 == v31))))] [(29, some (.arr 30 2 (l23.map cS30)))]) Sub.tt ?_
   replace h := isome h; rcases h with ⟨c42, h⟩ | ⟨c42, h⟩
   ·have c42_ : (r30.1 == v31) = true := c42
    refine Chain.sub (Sub.bool 46 (b := (r30.1 == v31)) rfl c42_) ?_
    refine Chain.sub (S' := mk 65 [] [(0, .d (.pim [.sl (a0.entries.map cS30), .sl (a0.savepoints.map (cL cS30))])), (7, .ref 29 0 l23.length), (11, .d (.lit (.int .i64 r30.2))), (13, .d (.lit (.bool v32))), (46, .d (.lit (.bool true)))] [(29, some (.arr 30 2 (l23.map cS30)))]) (by simp; exact Sub.table (by simp) (by simp)) ?_
    refine Chain.runK [] 6 fun K hK => ?_; simp; refine hK _ _ ?_; clear hK K
    refine Chain.sub (S' := mk 65 [] [(0, .d (.pim [.sl (a0.entries.map cS30), .sl (a0.savepoints.map (cL cS30))])), (7, .ref 29 0 l23.length), (11, .d (.lit (.int .i64 r30.2))), (13, .d (.lit (.bool v32))), (52, .d (.lit (.bool ((r30.2 == 0) == v32))))] [(29, some (.arr 30 2 (l23.map cS30)))]) Sub.tt ?_
    replace h := isome h; rcases h with ⟨c43, h⟩ | ⟨c43, h⟩
    ·have c43_ : ((r30.2 == 0) == v32) = true := c43
     refine Chain.sub (Sub.bool 52 (b := ((r30.2 == 0) == v32)) rfl c43_) ?_
     refine Chain.sub (S' := mk 65 [] [(0, .d (.pim [.sl (a0.entries.map cS30), .sl (a0.savepoints.map (cL cS30))])), (7, .ref 29 0 l23.length), (11, .d (.lit (.int .i64 r30.2))), (13, .d (.lit (.bool v32))), (52, .d (.lit (.bool true)))] [(29, some (.arr 30 2 (l23.map cS30)))]) (by simp; exact Sub.table (by simp) (by simp)) ?_
     refine Chain.runK [] 2 fun K hK => ?_; simp; refine hK _ _ ?_; clear hK K
     refine Chain.sub (S' := mk 65 [] [(0, .d (.pim [.sl (a0.entries.map cS30), .sl (a0.savepoints.map (cL cS30))])), (7, .ref 29 0 l23.length), (11, .d (.lit (.int .i64 r30.2))), (52, .d (.lit (.bool true))), (54, .d (.lit (.bool v32)))] [(29, some (.arr 30 2 (l23.map cS30)))]) Sub.tt ?_
     replace h := isome h; rcases h with ⟨c44, h⟩ | ⟨c44, h⟩
     ·have c44_ : v32 = true := c44
      refine Chain.sub (Sub.bool 54 (b := v32) rfl c44_) ?_
      refine Chain.sub (S' := mk 65 [] [(0, .d (.pim [.sl (a0.entries.map cS30), .sl (a0.savepoints.map (cL cS30))])), (7, .ref 29 0 l23.length), (11, .d (.lit (.int .i64 r30.2))), (52, .d (.lit (.bool true))), (54, .d (.lit (.bool true)))] [(29, some (.arr 30 2 (l23.map cS30)))]) (by simp; exact Sub.table (by simp) (by simp)) ?_
      refine Chain.runK [] 6 fun K hK => ?_; simp; refine hK _ _ ?_; clear hK K
      refine Chain.sub (S' := mk 65 [] [(7, .ref 29 0 l23.length), (59, .d (.lit (.bool true))), (60, .d (.pim [.sl (a0.entries.map cS30), .sl (a0.savepoints.map (cL cS30))]))] [(29, some (.arr 30 2 (l23.map cS30)))]) Sub.tt ?_
      replace h := bsome h; obtain ⟨r45, hr45, h⟩ := h
      refine Chain.callO (d := 61) (p24 N a0 r45 hr45) (by simp) rfl rfl (by simp <;> rfl) (by simp <;> rfl) ent24 (by simp) ⟨by simp, by simp⟩ ?_
      refine Chain.sub (S' := mk 65 [] [(7, .ref 29 0 l23.length), (59, .d (.lit (.bool true))), (60, .d (.pim [.sl (a0.entries.map cS30), .sl (a0.savepoints.map (cL cS30))])), (61, .ref 61 0 r45.length)] [(29, some (.arr 30 2 (l23.map cS30))), (61, some (.arr 30 2 (r45.map cS30)))]) (by simp; exact Sub.table (by simp) (by simp)) ?_
      refine Chain.runK [] 1 fun K hK => ?_; simp; refine hK _ _ ?_; clear hK K
      refine Chain.sub (S' := mk 65 [] [(59, .d (.lit (.bool true))), (61, .ref 61 0 r45.length), (62, .ref 29 0 l23.length)] [(29, some (.arr 30 2 (l23.map cS30))), (61, some (.arr 30 2 (r45.map cS30)))]) Sub.tt ?_
      replace h := bsome h; obtain ⟨r46, hr46, h⟩ := h
      refine Chain.callL (d := 63) (p23 N r45 l23 r46 hr46) (by simp) rfl rfl (by simp <;> rfl) (by simp <;> rfl) ent23 (by simp <;> rfl) ?_
      refine Chain.sub (S' := mk 65 [] [(59, .d (.lit (.bool true))), (61, .ref 61 0 r45.length), (62, .ref 29 0 l23.length), (63, .d (.lit (.bool r46)))] [(29, some (.arr 30 2 (l23.map cS30))), (61, some (.arr 30 2 (r45.map cS30)))]) (by simp; exact Sub.table (by simp) (by simp)) ?_
      refine Chain.runK [] 2 fun K hK => ?_; simp; refine hK _ _ ?_; clear hK K
      refine Chain.sub (S' := mk 65 [] [(6, .d (.lit (.bool r46)))] []) Sub.tt ?_
      cases h
      exact Chain.nil Sub.tt
     ·have c44_ : v32 = false := Bool.eq_false_iff.2 c44
      refine Chain.sub (Sub.bool 54 (b := v32) rfl c44_) ?_
      refine Chain.sub (S' := mk 65 [] [(0, .d (.pim [.sl (a0.entries.map cS30), .sl (a0.savepoints.map (cL cS30))])), (7, .ref 29 0 l23.length), (11, .d (.lit (.int .i64 r30.2))), (52, .d (.lit (.bool true))), (54, .d (.lit (.bool false)))] [(29, some (.arr 30 2 (l23.map cS30)))]) (by simp; exact Sub.table (by simp) (by simp)) ?_
      refine Chain.runK [] 5 fun K hK => ?_; simp; refine hK _ _ ?_; clear hK K
      refine Chain.sub (S' := mk 65 [] [(0, .d (.pim [.sl (a0.entries.map cS30), .sl (a0.savepoints.map (cL cS30))])), (7, .ref 29 0 l23.length), (59, .d (.lit (.bool (r30.2 == 4))))] [(29, some (.arr 30 2 (l23.map cS30)))]) Sub.tt ?_
      replace h := isome h; rcases h with ⟨c47, h⟩ | ⟨c47, h⟩
      ·have c47_ : (r30.2 == 4) = true := c47
       refine Chain.sub (Sub.bool 59 (b := (r30.2 == 4)) rfl c47_) ?_
       refine Chain.sub (S' := mk 65 [] [(0, .d (.pim [.sl (a0.entries.map cS30), .sl (a0.savepoints.map (cL cS30))])), (7, .ref 29 0 l23.length), (59, .d (.lit (.bool true)))] [(29, some (.arr 30 2 (l23.map cS30)))]) (by simp; exact Sub.table (by simp) (by simp)) ?_
       refine Chain.runK [] 1 fun K hK => ?_; simp; refine hK _ _ ?_; clear hK K
       refine Chain.sub (S' := mk 65 [] [(7, .ref 29 0 l23.length), (59, .d (.lit (.bool true))), (60, .d (.pim [.sl (a0.entries.map cS30), .sl (a0.savepoints.map (cL cS30))]))] [(29, some (.arr 30 2 (l23.map cS30)))]) Sub.tt ?_
       replace h := bsome h; obtain ⟨r48, hr48, h⟩ := h
       refine Chain.callO (d := 61) (p24 N a0 r48 hr48) (by simp) rfl rfl (by simp <;> rfl) (by simp <;> rfl) ent24 (by simp) ⟨by simp, by simp⟩ ?_
       refine Chain.sub (S' := mk 65 [] [(7, .ref 29 0 l23.length), (59, .d (.lit (.bool true))), (60, .d (.pim [.sl (a0.entries.map cS30), .sl (a0.savepoints.map (cL cS30))])), (61, .ref 61 0 r48.length)] [(29, some (.arr 30 2 (l23.map cS30))), (61, some (.arr 30 2 (r48.map cS30)))]) (by simp; exact Sub.table (by simp) (by simp)) ?_
       refine Chain.runK [] 1 fun K hK => ?_; simp; refine hK _ _ ?_; clear hK K
       refine Chain.sub (S' := mk 65 [] [(59, .d (.lit (.bool true))), (61, .ref 61 0 r48.length), (62, .ref 29 0 l23.length)] [(29, some (.arr 30 2 (l23.map cS30))), (61, some (.arr 30 2 (r48.map cS30)))]) Sub.tt ?_
       replace h := bsome h; obtain ⟨r49, hr49, h⟩ := h
       refine Chain.callL (d := 63) (p23 N r48 l23 r49 hr49) (by simp) rfl rfl (by simp <;> rfl) (by simp <;> rfl) ent23 (by simp <;> rfl) ?_
       refine Chain.sub (S' := mk 65 [] [(59, .d (.lit (.bool true))), (61, .ref 61 0 r48.length), (62, .ref 29 0 l23.length), (63, .d (.lit (.bool r49)))] [(29, some (.arr 30 2 (l23.map cS30))), (61, some (.arr 30 2 (r48.map cS30)))]) (by simp; exact Sub.table (by simp) (by simp)) ?_
       refine Chain.runK [] 2 fun K hK => ?_; simp; refine hK _ _ ?_; clear hK K
       refine Chain.sub (S' := mk 65 [] [(6, .d (.lit (.bool r49)))] []) Sub.tt ?_
       cases h
       exact Chain.nil Sub.tt
      ·have c47_ : (r30.2 == 4) = false := Bool.eq_false_iff.2 c47
       refine Chain.sub (Sub.bool 59 (b := (r30.2 == 4)) rfl c47_) ?_
       refine Chain.sub (S' := mk 65 [] [(0, .d (.pim [.sl (a0.entries.map cS30), .sl (a0.savepoints.map (cL cS30))])), (7, .ref 29 0 l23.length), (59, .d (.lit (.bool false)))] [(29, some (.arr 30 2 (l23.map cS30)))]) (by simp; exact Sub.table (by simp) (by simp)) ?_
       refine Chain.runK [] 6 fun K hK => ?_; simp; refine hK _ _ ?_; clear hK K
       refine Chain.sub (S' := mk 65 [] [(6, .d (.lit (.bool false)))] []) Sub.tt ?_
       cases h
       exact Chain.nil Sub.tt
    ·have c43_ : ((r30.2 == 0) == v32) = false := Bool.eq_false_iff.2 c43
     refine Chain.sub (Sub.bool 52 (b := ((r30.2 == 0) == v32)) rfl c43_) ?_
     refine Chain.sub (S' := mk 65 [] [(0, .d (.pim [.sl (a0.entries.map cS30), .sl (a0.savepoints.map (cL cS30))])), (7, .ref 29 0 l23.length), (11, .d (.lit (.int .i64 r30.2))), (13, .d (.lit (.bool v32))), (52, .d (.lit (.bool false)))] [(29, some (.arr 30 2 (l23.map cS30)))]) (by simp; exact Sub.table (by simp) (by simp)) ?_
     refine Chain.runK [] 13 fun K hK => ?_; simp; refine hK _ _ ?_; clear hK K
     refine Chain.sub (S' := mk 65 [] [(6, .d (.lit (.bool false)))] []) Sub.tt ?_
     cases h
     exact Chain.nil Sub.tt
   ·have c42_ : (r30.1 == v31) = false := Bool.eq_false_iff.2 c42
    refine Chain.sub (Sub.bool 46 (b := (r30.1 == v31)) rfl c42_) ?_
    refine Chain.sub (S' := mk 65 [] [(0, .d (.pim [.sl (a0.entries.map cS30), .sl (a0.savepoints.map (cL cS30))])), (7, .ref 29 0 l23.length), (11, .d (.lit (.int .i64 r30.2))), (13, .d (.lit (.bool v32))), (46, .d (.lit (.bool false)))] [(29, some (.arr 30 2 (l23.map cS30)))]) (by simp; exact Sub.table (by simp) (by simp)) ?_
    refine Chain.runK [] 19 fun K hK => ?_; simp; refine hK _ _ ?_; clear hK K
    refine Chain.sub (S' := mk 65 [] [(6, .d (.lit (.bool false)))] []) Sub.tt ?_
    cases h
    exact Chain.nil Sub.tt
  ·clear hj
   refine AW.ret ?_
   cases h
   exact FinC.ret (by simp) (by simp)

end Go.Proofs.Ytdiekinmoklonac
