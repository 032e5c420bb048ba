/- Functions of the program as functional programs; the code computes them. -/
import Derived.Test.YtdiekinmoklonacSv1
namespace Go.Proofs.Ytdiekinmoklonac
open Go.Ab Go.Rp
attribute [-simp] List.all_eq_true Array.all_toList Array.all_eq_true

/-- (*stemma/savepoint.Tx).Delete -/
def d5 (N : Nat) (a0 : S47) (a1 : ByteArray) : Option (S47 × Int) :=
 (d14 N a0 a1).bind fun r1 =>
 if (!r1.2) = true then (
  some (a0, 4)
 ) else
 (chkI (r1.1 + 1)).bind fun v3 =>
 (d15 N a0.entries r1.1 v3).bind fun l4 =>
 some ((S47.mk l4 a0.savepoints), 0)
set_option maxRecDepth 100000 in
set_option maxHeartbeats 4000000 in
theorem p5 (N : Nat) (a0 : S47) (a1 : ByteArray) (r : (S47 × Int)) (h : d5 N a0 a1 = some r) : FunM Try.prog 5 [.ptr 1000 0 0, .d (.lit (.string a1))] [(1000, some (.box [.ref 25000 0 a0.entries.length, .ref 25001 0 a0.savepoints.length])), (25000, some (.arr 30 2 (a0.entries.map cS30))), (25001, some (.arr 22 1 (a0.savepoints.map (cL cS30))))] [1000] (.d (.lit (.int .i64 r.2))) ([(1000, (.box [.ref 25000 0 r.1.entries.length, .ref 25001 0 r.1.savepoints.length])), (25000, (.arr 30 2 (r.1.entries.map cS30))), (25001, (.arr 22 1 (r.1.savepoints.map (cL cS30))))]) := by
 unfold d5 at h
 refine FunM.enter 26 [(0, .ptr 1000 0 0), (1, .d (.lit (.string a1)))] Try.func5 rfl (of_decide_eq_true rfl) rfl rfl ?_
 refine AW.seqR ?_
 refine Chain.runK [] 1 fun K hK => ?_; simp; refine hK _ _ ?_; clear hK K
 refine Chain.sub (S' := mk 26 [1000] [(0, .ptr 1000 0 0), (1, .d (.lit (.string a1)))] [(1000, some (.box [.ref 25000 0 a0.entries.length, .ref 25001 0 a0.savepoints.length])), (25000, some (.arr 30 2 (a0.entries.map cS30))), (25001, some (.arr 22 1 (a0.savepoints.map (cL cS30))))]) Sub.tt ?_
 refine Chain.nil ?_
 refine AW.seqR ?_
 refine Chain.runK [] 2 fun K hK => ?_; simp; refine hK _ _ ?_; clear hK K
 refine Chain.sub (S' := mk 26 [1000] [(0, .ptr 1000 0 0), (8, .ptr 1000 0 0), (9, .d (.lit (.string a1)))] [(1000, some (.box [.ref 25000 0 a0.entries.length, .ref 25001 0 a0.savepoints.length])), (25000, some (.arr 30 2 (a0.entries.map cS30))), (25001, some (.arr 22 1 (a0.savepoints.map (cL cS30))))]) Sub.tt ?_
 replace h := bsome h; obtain ⟨r1, hr1, h⟩ := h
 refine Chain.callL (d := 10) (p14 N a0 a1 r1 hr1) (by simp) rfl rfl (by simp <;> rfl) (by simp <;> rfl) ent14 (by simp <;> rfl) ?_
 refine Chain.sub (S' := mk 26 [1000] [(0, .ptr 1000 0 0), (8, .ptr 1000 0 0), (9, .d (.lit (.string a1))), (10, .tup [.d (.lit (.int .i64 r1.1)), .d (.lit (.bool r1.2))])] [(1000, some (.box [.ref 25000 0 a0.entries.length, .ref 25001 0 a0.savepoints.length])), (25000, some (.arr 30 2 (a0.entries.map cS30))), (25001, some (.arr 22 1 (a0.savepoints.map (cL cS30))))]) (by simp; exact Sub.table (by simp) (by simp)) ?_
 refine Chain.runK [] 5 fun K hK => ?_; simp; refine hK _ _ ?_; clear hK K
 refine Chain.sub (S' := mk 26 [1000] [(0, .ptr 1000 0 0), (5, .d (.lit (.int .i64 r1.1))), (6, .d (.lit (.bool r1.2)))] [(1000, some (.box [.ref 25000 0 a0.entries.length, .ref 25001 0 a0.savepoints.length])), (25000, some (.arr 30 2 (a0.entries.map cS30))), (25001, some (.arr 22 1 (a0.savepoints.map (cL cS30))))]) Sub.tt ?_
 refine Chain.nil ?_
 refine AW.seq ?_
 refine AW.seqR ?_
 refine Chain.runK [] 2 fun K hK => ?_; simp; refine hK _ _ ?_; clear hK K
 refine Chain.sub (S' := mk 26 [1000] [(0, .ptr 1000 0 0), (5, .d (.lit (.int .i64 r1.1))), (14, .d (.lit (.bool (!r1.2))))] [(1000, some (.box [.ref 25000 0 a0.entries.length, .ref 25001 0 a0.savepoints.length])), (25000, some (.arr 30 2 (a0.entries.map cS30))), (25001, some (.arr 22 1 (a0.savepoints.map (cL cS30))))]) Sub.tt ?_
 refine Chain.nil ?_
 replace h := isome h; rcases h with ⟨c2, h⟩ | ⟨c2, h⟩
 ·have c2_ : (!r1.2) = true := c2
  refine AW.condT (b := (!r1.2)) rfl c2_ ?_
  refine AW.sub (Sub.bool 14 (b := (!r1.2)) rfl c2_) ?_
  refine AW.sub (S' := mk 26 [1000] [(0, .ptr 1000 0 0), (5, .d (.lit (.int .i64 r1.1))), (14, .d (.lit (.bool true)))] [(1000, some (.box [.ref 25000 0 a0.entries.length, .ref 25001 0 a0.savepoints.length])), (25000, some (.arr 30 2 (a0.entries.map cS30))), (25001, some (.arr 22 1 (a0.savepoints.map (cL cS30))))]) (by simp; exact Sub.table (by simp) (by simp)) ?_
  refine AW.seqR ?_
  refine Chain.runK [] 1 fun K hK => ?_; simp; refine hK _ _ ?_; clear hK K
  refine Chain.sub (S' := mk 26 [1000] [(4, .d (.lit (.int .i64 4)))] [(1000, some (.box [.ref 25000 0 a0.entries.length, .ref 25001 0 a0.savepoints.length])), (25000, some (.arr 30 2 (a0.entries.map cS30))), (25001, some (.arr 22 1 (a0.savepoints.map (cL cS30))))]) Sub.tt ?_
  refine Chain.nil ?_
  refine AW.ret ?_
  cases h
  refine thenQ_pass (by simp) ?_
  exact FinF.ret (by simp) (by simp)
 ·have c2_ : (!r1.2) = false := Bool.eq_false_iff.2 c2
  refine AW.condF (b := (!r1.2)) rfl c2_ ?_
  refine AW.sub (Sub.bool 14 (b := (!r1.2)) rfl c2_) ?_
  refine AW.sub (S' := mk 26 [1000] [(0, .ptr 1000 0 0), (5, .d (.lit (.int .i64 r1.1))), (14, .d (.lit (.bool false)))] [(1000, some (.box [.ref 25000 0 a0.entries.length, .ref 25001 0 a0.savepoints.length])), (25000, some (.arr 30 2 (a0.entries.map cS30))), (25001, some (.arr 22 1 (a0.savepoints.map (cL cS30))))]) (by simp; exact Sub.table (by simp) (by simp)) ?_
  refine AW.skip ?_
  refine thenQ_normal ?_
  refine AW.seqR ?_
  replace h := bsome h; obtain ⟨v3, hv3, h⟩ := h
  have hv3 := chkI_some hv3
  refine Chain.runK [] 8 fun K hK => ?_; simp [hv3]; refine hK _ _ ?_; clear hK K
  refine Chain.sub (S' := mk 26 [1000] [(15, .ptr 1000 0 0), (19, .ref 25000 0 a0.entries.length), (20, .d (.lit (.int .i64 r1.1))), (22, .d (.lit (.int .i64 v3)))] [(1000, some (.box [.ref 25000 0 a0.entries.length, .ref 25001 0 a0.savepoints.length])), (25000, some (.arr 30 2 (a0.entries.map cS30))), (25001, some (.arr 22 1 (a0.savepoints.map (cL cS30))))]) Sub.tt ?_
  replace h := bsome h; obtain ⟨l4, hl4, h⟩ := h
  refine Chain.callF (p15 N a0.entries r1.1 v3 l4 hl4) [(25000, 1000)] [] [(1000, 25000)] [(25000, .arr 30 2 (l4.map cS30))] (.ref 25000 0 l4.length) (by simp) rfl (by simp <;> rfl) (by simp) (by simp) (by simp) (by simp) (by simp) ent15 (by simp) (by simp) (by simp) (by simp) (by simp) (by simp) ?_
  refine Chain.sub (S' := mk 26 [1000] [(15, .ptr 1000 0 0), (20, .d (.lit (.int .i64 r1.1))), (22, .d (.lit (.int .i64 v3))), (23, .ref 25000 0 l4.length)] [(1000, some (.box [.hole, .ref 25001 0 a0.savepoints.length])), (25000, some (.arr 30 2 (l4.map cS30))), (25001, some (.arr 22 1 (a0.savepoints.map (cL cS30))))]) (by simp; exact Sub.table (by simp) (by simp)) ?_
  refine Chain.runK [] 3 fun K hK => ?_; simp; refine hK _ _ ?_; clear hK K
  refine Chain.sub (S' := mk 26 [1000] [] [(1000, some (.box [.ref 25000 0 l4.length, .ref 25001 0 a0.savepoints.length])), (25000, some (.arr 30 2 (l4.map cS30))), (25001, some (.arr 22 1 (a0.savepoints.map (cL cS30))))]) Sub.tt ?_
  refine Chain.nil ?_
  refine AW.seqR ?_
  refine Chain.runK [] 1 fun K hK => ?_; simp; refine hK _ _ ?_; clear hK K
  refine Chain.sub (S' := mk 26 [1000] [(4, .d (.lit (.int .i64 0)))] [(1000, some (.box [.ref 25000 0 l4.length, .ref 25001 0 a0.savepoints.length])), (25000, some (.arr 30 2 (l4.map cS30))), (25001, some (.arr 22 1 (a0.savepoints.map (cL cS30))))]) Sub.tt ?_
  refine Chain.nil ?_
  refine AW.ret ?_
  cases h
  exact FinF.ret (by simp) (by simp)

/-- stemma/stemlaw5.arg -/
def d7 (_N : Nat) (a0 : (List Int)) (a1 : Int) : Option Int :=
 if a1 < (a0.length : Int) then (
  (idx a0 a1).bind fun x2 =>
  some x2
 ) else
 some 0
set_option maxRecDepth 100000 in
set_option maxHeartbeats 4000000 in
theorem p7 (N : Nat) (a0 : (List Int)) (a1 : Int) (r : Int) (h : d7 N a0 a1 = some r) : FunC Try.prog 7 [.d (.sl (a0.map (cI .i64))), .d (.lit (.int .i64 a1))] (.d (.lit (.int .i64 r))) := by
 unfold d7 at h
 refine FunC.enter 13 [(0, .d (.sl (a0.map (cI .i64)))), (1, .d (.lit (.int .i64 a1)))] (by simp) Try.func7 rfl (of_decide_eq_true rfl) rfl rfl ?_
 refine AW.seqR ?_
 refine Chain.runK [] 1 fun K hK => ?_; simp; refine hK _ _ ?_; clear hK K
 refine Chain.sub (S' := mk 13 [] [(0, .d (.sl (a0.map (cI .i64)))), (1, .d (.lit (.int .i64 a1)))] []) Sub.tt ?_
 refine Chain.nil ?_
 refine AW.seq ?_
 refine AW.seqR ?_
 refine Chain.runK [] 4 fun K hK => ?_; simp; refine hK _ _ ?_; clear hK K
 refine Chain.sub (S' := mk 13 [] [(0, .d (.sl (a0.map (cI .i64)))), (1, .d (.lit (.int .i64 a1))), (8, .d (.lit (.bool (decide (a1 < (a0.length : Int))))))] []) Sub.tt ?_
 refine Chain.nil ?_
 replace h := isome h; rcases h with ⟨c1, h⟩ | ⟨c1, h⟩
 ·have c1_ : decide (a1 < (a0.length : Int)) = true := decide_eq_true c1
  refine AW.condT (b := decide (a1 < (a0.length : Int))) rfl c1_ ?_
  refine AW.sub (Sub.bool 8 (b := decide (a1 < (a0.length : Int))) rfl c1_) ?_
  refine AW.sub (S' := mk 13 [] [(0, .d (.sl (a0.map (cI .i64)))), (1, .d (.lit (.int .i64 a1))), (8, .d (.lit (.bool true)))] []) (by simp; exact Sub.table (by simp) (by simp)) ?_
  refine AW.seqR ?_
  replace h := bsome h; obtain ⟨x2, hx2, h⟩ := h
  obtain ⟨k3, hx2k, hx2, hx2a, hx2b⟩ := idx_some hx2
  refine Chain.runK [] 5 fun K hK => ?_; simp [hx2, hx2k, hx2a]; refine hK _ _ ?_; clear hK K
  refine Chain.sub (S' := mk 13 [] [(4, .d (.lit (.int .i64 x2)))] []) Sub.tt ?_
  refine Chain.nil ?_
  refine AW.ret ?_
  cases h
  refine thenQ_pass (by simp) ?_
  exact FinC.ret (by simp) (by simp)
 ·have c1_ : decide (a1 < (a0.length : Int)) = false := decide_eq_false c1
  refine AW.condF (b := decide (a1 < (a0.length : Int))) rfl c1_ ?_
  refine AW.sub (Sub.bool 8 (b := decide (a1 < (a0.length : Int))) rfl c1_) ?_
  refine AW.sub (S' := mk 13 [] [(0, .d (.sl (a0.map (cI .i64)))), (1, .d (.lit (.int .i64 a1))), (8, .d (.lit (.bool false)))] []) (by simp; exact Sub.table (by simp) (by simp)) ?_
  refine AW.skip ?_
  refine thenQ_normal ?_
  refine AW.seqR ?_
  refine Chain.runK [] 1 fun K hK => ?_; simp; refine hK _ _ ?_; clear hK K
  refine Chain.sub (S' := mk 13 [] [(4, .d (.lit (.int .i64 0)))] []) Sub.tt ?_
  refine Chain.nil ?_
  refine AW.ret ?_
  cases h
  exact FinC.ret (by simp) (by simp)

/-- stemma/stemlaw5.choose[string] -/
def d6 (_N : Nat) (a0 : (List ByteArray)) (a1 : Int) : Option ByteArray :=
 if ((a0.length : Int) == 0) then (
  some (ByteArray.mk #[])
 ) else
 letv (IntKind.u64.wrap (a1)) fun v2 =>
 letv (IntKind.u64.wrap ((a0.length : Int))) fun v3 =>
 (remI v2 v3).bind fun v4 =>
 (chkI (v4)).bind fun v5 =>
 (idx a0 v5).bind fun x6 =>
 some x6
set_option maxRecDepth 100000 in
set_option maxHeartbeats 4000000 in
theorem p6 (N : Nat) (a0 : (List ByteArray)) (a1 : Int) (r : ByteArray) (h : d6 N a0 a1 = some r) : FunC Try.prog 6 [.d (.sl (a0.map cS)), .d (.lit (.int .i64 a1))] (.d (.lit (.string r))) := by
 unfold d6 at h
 refine FunC.enter 20 [(0, .d (.sl (a0.map cS))), (1, .d (.lit (.int .i64 a1)))] (by simp) Try.func6 rfl (of_decide_eq_true rfl) rfl rfl ?_
 refine AW.seqR ?_
 refine Chain.runK [] 1 fun K hK => ?_; simp; refine hK _ _ ?_; clear hK K
 refine Chain.sub (S' := mk 20 [] [(0, .d (.sl (a0.map cS))), (1, .d (.lit (.int .i64 a1)))] []) Sub.tt ?_
 refine Chain.nil ?_
 refine AW.seqR ?_
 refine Chain.runK [] 1 fun K hK => ?_; simp; refine hK _ _ ?_; clear hK K
 refine Chain.sub (S' := mk 20 [] [(0, .d (.sl (a0.map cS))), (1, .d (.lit (.int .i64 a1))), (5, .d (.lit (.string (ByteArray.mk #[]))))] []) Sub.tt ?_
 refine Chain.nil ?_
 refine AW.seq ?_
 refine AW.seqR ?_
 refine Chain.runK [] 3 fun K hK => ?_; simp; refine hK _ _ ?_; clear hK K
 refine Chain.sub (S' := mk 20 [] [(0, .d (.sl (a0.map cS))), (1, .d (.lit (.int .i64 a1))), (5, .d (.lit (.string (ByteArray.mk #[])))), (8, .d (.lit (.bool ((a0.length : Int) == 0))))] []) Sub.tt ?_
 refine Chain.nil ?_
 replace h := isome h; rcases h with ⟨c1, h⟩ | ⟨c1, h⟩
 ·have c1_ : ((a0.length : Int) == 0) = true := c1
  refine AW.condT (b := ((a0.length : Int) == 0)) rfl c1_ ?_
  refine AW.sub (Sub.bool 8 (b := ((a0.length : Int) == 0)) rfl c1_) ?_
  refine AW.sub (S' := mk 20 [] [(0, .d (.sl (a0.map cS))), (1, .d (.lit (.int .i64 a1))), (5, .d (.lit (.string (ByteArray.mk #[])))), (8, .d (.lit (.bool true)))] []) (by simp; exact Sub.table (by simp) (by simp)) ?_
  refine AW.seqR ?_
  refine Chain.runK [] 2 fun K hK => ?_; simp; refine hK _ _ ?_; clear hK K
  refine Chain.sub (S' := mk 20 [] [(4, .d (.lit (.string (ByteArray.mk #[]))))] []) Sub.tt ?_
  refine Chain.nil ?_
  refine AW.ret ?_
  cases h
  refine thenQ_pass (by simp) ?_
  exact FinC.ret (by simp) (by simp)
 ·have c1_ : ((a0.length : Int) == 0) = false := Bool.eq_false_iff.2 c1
  refine AW.condF (b := ((a0.length : Int) == 0)) rfl c1_ ?_
  refine AW.sub (Sub.bool 8 (b := ((a0.length : Int) == 0)) rfl c1_) ?_
  refine AW.sub (S' := mk 20 [] [(0, .d (.sl (a0.map cS))), (1, .d (.lit (.int .i64 a1))), (5, .d (.lit (.string (ByteArray.mk #[])))), (8, .d (.lit (.bool false)))] []) (by simp; exact Sub.table (by simp) (by simp)) ?_
  refine AW.skip ?_
  refine thenQ_normal ?_
  refine AW.seqR ?_
  replace h := lsome h; obtain ⟨v2, hv2, h⟩ := h
  replace h := lsome h; obtain ⟨v3, hv3, h⟩ := h
  replace h := bsome h; obtain ⟨v4, hv4, h⟩ := h
  obtain ⟨hv4a, hv4⟩ := remI_some hv4
  replace h := bsome h; obtain ⟨v5, hv5, h⟩ := h
  have hv5 := chkI_some hv5
  replace h := bsome h; obtain ⟨x6, hx6, h⟩ := h
  obtain ⟨k7, hx6k, hx6, hx6a, hx6b⟩ := idx_some hx6
  refine Chain.runK [] 11 fun K hK => ?_; simp [hv2, hv3, hv4, hv4a, hv5, hx6, hx6k, hx6a]; refine hK _ _ ?_; clear hK K
  refine Chain.sub (S' := mk 20 [] [(4, .d (.lit (.string x6)))] []) Sub.tt ?_
  refine Chain.nil ?_
  refine AW.ret ?_
  cases h
  exact FinC.ret (by simp) (by simp)

/-- slices.Clone[[]stemma/savepoint.Entry,stemma/savepoint.Entry] -/
def d17 (_ : Nat) (a0 : (List S30)) : Option (List S30) := if a0.length * 24 ≤ Rp.reach then some a0 else none
theorem p17 (N : Nat) (a0 : (List S30)) (r : (List S30)) (h : d17 N a0 = some r) : FunO Try.prog 17 [.d (.sl (a0.map cS30))] (.ref 0 0 r.length) (.arr 30 2 (r.map cS30)) := by
 obtain ⟨hz, h⟩ := gsome h
 cases h
 refine FunO.enter 8 [(0, .d (.sl (a0.map cS30)))] Try.func17 rfl (of_decide_eq_true rfl) rfl rfl ?_
 refine AW.goR [] 1 fun K hK => ?_; simp; refine hK _ ?_; clear hK K
 refine AW.seq ?_
 refine AW.seqR ?_
 refine Chain.runK [] 1 fun K hK => ?_; simp; refine hK _ _ ?_; clear hK K
 refine Chain.eqNilE (es := a0.map cS30) (by simp) rfl ty22 rfl (by simp) (by simp) fun b hb => ?_
 refine Chain.nil ?_
 cases b with
 | true =>
  have he : a0 = [] := by
   cases a0 with
   | nil => rfl
   | cons x xs => exact absurd (hb (by simp)) (by simp)
  subst he
  refine AW.condK fun K1 K2 k1 k2 => ?_; simp; refine k1 ?_; clear k1 k2 K1 K2
  refine AW.goR [] 1 fun K hK => ?_; simp; refine hK _ ?_; clear hK K
  refine AW.sub (Sub.nilOwn (t := 2) (id := 902) (T := 30) (n := 2) rfl rfl (by decide)) ?_
  refine AW.sub (S' := mk 8 [] [(2, .ref 902 0 0)] [(902, some (.arr 30 2 []))]) (by simp; exact Sub.table (by simp) (by simp)) ?_
  refine AW.ret ?_
  exact thenQ_pass (by simp) (FinO.ret (.ref 902 0 0) 902 (by simp) (by simp) (by simp) (by simp) rfl)
 | false =>
  refine AW.condK fun K1 K2 k1 k2 => ?_; simp; refine k2 ?_; clear k1 k2 K1 K2
  refine AW.skip ?_
  refine thenQ_normal ?_
  refine AW.goR [] 4 fun K hK => ?_; simp [hz]; refine hK _ ?_; clear hK K
  refine AW.sub (S' := mk 8 [] [(2, .ref 5 0 a0.length)] [(5, some (.arr 30 2 (a0.map cS30)))]) Sub.tt ?_
  refine AW.ret ?_
  exact FinO.ret (.ref 5 0 a0.length) 5 (by simp) (by simp) (by simp) (by simp) rfl

/-- (*stemma/savepoint.Tx).Savepoint -/
def d9 (N : Nat) (a0 : S47) : Option (S47 × Int × Int) :=
 if ((a0.savepoints.length : Int) == 20) then (
  some (a0, 0, 18)
 ) else
 (d17 N a0.entries).bind fun r2 =>
 (appL 24 a0.savepoints [r2]).bind fun _l3 =>
 some ((S47.mk a0.entries (a0.savepoints ++ [r2])), ((a0.savepoints ++ [r2]).length : Int), 0)
set_option maxRecDepth 100000 in
set_option maxHeartbeats 4000000 in
theorem p9 (N : Nat) (a0 : S47) (r : (S47 × Int × Int)) (h : d9 N a0 = some r) : FunM Try.prog 9 [.ptr 1000 0 0] [(1000, some (.box [.ref 25000 0 a0.entries.length, .ref 25001 0 a0.savepoints.length])), (25000, some (.arr 30 2 (a0.entries.map cS30))), (25001, some (.arr 22 1 (a0.savepoints.map (cL cS30))))] [1000] (.tup [.d (.lit (.int .i64 r.2.1)), .d (.lit (.int .i64 r.2.2))]) ([(1000, (.box [.ref 25000 0 r.1.entries.length, .ref 25001 0 r.1.savepoints.length])), (25000, (.arr 30 2 (r.1.entries.map cS30))), (25001, (.arr 22 1 (r.1.savepoints.map (cL cS30))))]) := by
 unfold d9 at h
 refine FunM.enter 29 [(0, .ptr 1000 0 0)] Try.func9 rfl (of_decide_eq_true rfl) rfl rfl ?_
 refine AW.seqR ?_
 refine Chain.runK [] 2 fun K hK => ?_; simp; refine hK _ _ ?_; clear hK K
 refine Chain.sub (S' := mk 29 [1000] [(0, .ptr 1000 0 0)] [(1000, some (.box [.ref 25000 0 a0.entries.length, .ref 25001 0 a0.savepoints.length])), (25000, some (.arr 30 2 (a0.entries.map cS30))), (25001, some (.arr 22 1 (a0.savepoints.map (cL cS30))))]) Sub.tt ?_
 refine Chain.nil ?_
 refine AW.seq ?_
 refine AW.seqR ?_
 refine Chain.runK [] 6 fun K hK => ?_; simp; refine hK _ _ ?_; clear hK K
 refine Chain.sub (S' := mk 29 [1000] [(0, .ptr 1000 0 0), (9, .d (.lit (.bool ((a0.savepoints.length : Int) == 20))))] [(1000, some (.box [.ref 25000 0 a0.entries.length, .ref 25001 0 a0.savepoints.length])), (25000, some (.arr 30 2 (a0.entries.map cS30))), (25001, some (.arr 22 1 (a0.savepoints.map (cL cS30))))]) Sub.tt ?_
 refine Chain.nil ?_
 replace h := isome h; rcases h with ⟨c1, h⟩ | ⟨c1, h⟩
 ·have c1_ : ((a0.savepoints.length : Int) == 20) = true := c1
  refine AW.condT (b := ((a0.savepoints.length : Int) == 20)) rfl c1_ ?_
  refine AW.sub (Sub.bool 9 (b := ((a0.savepoints.length : Int) == 20)) rfl c1_) ?_
  refine AW.sub (S' := mk 29 [1000] [(0, .ptr 1000 0 0), (9, .d (.lit (.bool true)))] [(1000, some (.box [.ref 25000 0 a0.entries.length, .ref 25001 0 a0.savepoints.length])), (25000, some (.arr 30 2 (a0.entries.map cS30))), (25001, some (.arr 22 1 (a0.savepoints.map (cL cS30))))]) (by simp; exact Sub.table (by simp) (by simp)) ?_
  refine AW.seqR ?_
  refine Chain.runK [] 2 fun K hK => ?_; simp; refine hK _ _ ?_; clear hK K
  refine Chain.sub (S' := mk 29 [1000] [(2, .d (.lit (.int .i64 0))), (3, .d (.lit (.int .i64 18)))] [(1000, some (.box [.ref 25000 0 a0.entries.length, .ref 25001 0 a0.savepoints.length])), (25000, some (.arr 30 2 (a0.entries.map cS30))), (25001, some (.arr 22 1 (a0.savepoints.map (cL cS30))))]) Sub.tt ?_
  refine Chain.nil ?_
  refine AW.ret ?_
  cases h
  refine thenQ_pass (by simp) ?_
  exact FinF.ret (by simp) (by simp)
 ·have c1_ : ((a0.savepoints.length : Int) == 20) = false := Bool.eq_false_iff.2 c1
  refine AW.condF (b := ((a0.savepoints.length : Int) == 20)) rfl c1_ ?_
  refine AW.sub (Sub.bool 9 (b := ((a0.savepoints.length : Int) == 20)) rfl c1_) ?_
  refine AW.sub (S' := mk 29 [1000] [(0, .ptr 1000 0 0), (9, .d (.lit (.bool false)))] [(1000, some (.box [.ref 25000 0 a0.entries.length, .ref 25001 0 a0.savepoints.length])), (25000, some (.arr 30 2 (a0.entries.map cS30))), (25001, some (.arr 22 1 (a0.savepoints.map (cL cS30))))]) (by simp; exact Sub.table (by simp) (by simp)) ?_
  refine AW.skip ?_
  refine thenQ_normal ?_
  replace h := bsome h; obtain ⟨r2, hr2, h⟩ := h
  replace h := bsome h; obtain ⟨l3, hl3, h⟩ := h
  obtain ⟨hl3a, hl3⟩ := appL_some hl3
  subst hl3
  try simp only [List.length_cons, List.length_nil, Nat.zero_add] at hl3a
  refine AW.seqAnyS [[], [], [1], [1, 2], [1, 2, 3], [], [5], [5, 6], [5, 6, 7], [5, 6, 7, 8], [5, 6, 7, 8, 9], [1, 2, 3, 4, 5, 6, 7, 8, 9, 10], [0, 1, 2, 3, 4, 5, 6, 7, 8, 9, 10, 11], [0, 1, 2, 3, 4, 5, 6, 7, 8, 9, 10, 11, 12], [0, 1, 2, 3, 4, 5, 6, 7, 8, 9, 10, 11, 12, 13]] (fun (b : Nat → Bool) => mk 29 [1000] [(0, .ptr 1000 0 0), (10, (if b 0 then .ptr 1000 0 0 else .junk)), (11, (if b 1 then .ptr 1000 0 0 else .junk)), (12, (if b 2 then .ptr 1000 0 0 else .junk)), (13, (if b 3 then .ptr 1000 0 1 else .junk)), (14, (if b 11 then .junk else (if b 4 then .ref 25001 0 a0.savepoints.length else .junk))), (15, (if b 5 then .ptr 1000 0 0 else .junk)), (16, (if b 6 then .ptr 1000 0 0 else .junk)), (17, (if b 7 then .ptr 1000 0 0 else .junk)), (18, (if b 8 then .ref 25000 0 a0.entries.length else .junk)), (19, (if b 9 then .d (.sl (r2.map cS30)) else .junk)), (20, (if b 10 then .d (.sl ([r2].map (cL cS30))) else .junk)), (21, (if b 11 then .ref 25001 0 ((a0.savepoints ++ [r2]).length) else .junk)), (22, (if b 12 then .ptr 1000 0 0 else .junk)), (23, (if b 13 then .ptr 1000 0 1 else .junk))] [(1000, (if b 14 then some (.box [.ref 25000 0 a0.entries.length, .ref 25001 0 ((a0.savepoints ++ [r2]).length)]) else (if b 11 then some (.box [.ref 25000 0 a0.entries.length, .hole]) else some (.box [.ref 25000 0 a0.entries.length, .ref 25001 0 a0.savepoints.length])))), (25000, some (.arr 30 2 (a0.entries.map cS30))), (25001, (if b 11 then some (.arr 22 1 ((a0.savepoints ++ [r2]).map (cL cS30))) else some (.arr 22 1 (a0.savepoints.map (cL cS30)))))]) (mk 29 [1000] [(0, .ptr 1000 0 0)] [(1000, some (.box [.ref 25000 0 a0.entries.length, .ref 25001 0 ((a0.savepoints ++ [r2]).length)])), (25000, some (.arr 30 2 (a0.entries.map cS30))), (25001, some (.arr 22 1 ((a0.savepoints ++ [r2]).map (cL cS30))))]) (by kernel_rfl) (by kernel_rfl) Sub.tt (Steps.cons ?_ (Steps.cons ?_ (Steps.cons ?_ (Steps.cons ?_ (Steps.cons ?_ (Steps.cons ?_ (Steps.cons ?_ (Steps.cons ?_ (Steps.cons ?_ (Steps.cons ?_ (Steps.cons ?_ (Steps.cons ?_ (Steps.cons ?_ (Steps.cons ?_ (Steps.cons ?_ (Steps.nil)))))))))))))))) ?_ ?_
  ·intro b h0 ha hd
   have f12 : b 12 = false := hd 12 (by decide)
   have f13 : b 13 = false := hd 13 (by decide)
   have f14 : b 14 = false := hd 14 (by decide)
   refine Chain.runK [20] 1 fun K hK => ?_; simp [h0, f12, f13, f14]; refine hK _ _ ?_; clear hK K
   exact Chain.nil (Sub.table (by simp [f12, f13]) (by simp [f14]))
  ·intro b h0 ha hd
   have f2 : b 2 = false := hd 2 (by decide)
   have f3 : b 3 = false := hd 3 (by decide)
   have f4 : b 4 = false := hd 4 (by decide)
   have f11 : b 11 = false := hd 11 (by decide)
   have f12 : b 12 = false := hd 12 (by decide)
   have f13 : b 13 = false := hd 13 (by decide)
   have f14 : b 14 = false := hd 14 (by decide)
   refine Chain.runK [20] 1 fun K hK => ?_; simp [h0, f2, f3, f4, f11, f12, f13, f14]; refine hK _ _ ?_; clear hK K
   exact Chain.nil (Sub.table (by simp [f2, f3, f4, f11, f12, f13]) (by simp [f11, f14]))
  ·intro b h0 ha hd
   have t1 : b 1 = true := ha 1 (by decide)
   have f3 : b 3 = false := hd 3 (by decide)
   have f4 : b 4 = false := hd 4 (by decide)
   have f11 : b 11 = false := hd 11 (by decide)
   have f12 : b 12 = false := hd 12 (by decide)
   have f13 : b 13 = false := hd 13 (by decide)
   have f14 : b 14 = false := hd 14 (by decide)
   refine Chain.runK [20] 1 fun K hK => ?_; simp [h0, t1, f3, f4, f11, f12, f13, f14]; refine hK _ _ ?_; clear hK K
   exact Chain.nil (Sub.table (by simp [t1, f3, f4, f11, f12, f13]) (by simp [f11, f14]))
  ·intro b h0 ha hd
   have t1 : b 1 = true := ha 1 (by decide)
   have t2 : b 2 = true := ha 2 (by decide)
   have f4 : b 4 = false := hd 4 (by decide)
   have f11 : b 11 = false := hd 11 (by decide)
   have f12 : b 12 = false := hd 12 (by decide)
   have f13 : b 13 = false := hd 13 (by decide)
   have f14 : b 14 = false := hd 14 (by decide)
   refine Chain.runK [20] 1 fun K hK => ?_; simp [h0, t1, t2, f4, f11, f12, f13, f14]; refine hK _ _ ?_; clear hK K
   exact Chain.nil (Sub.table (by simp [t1, t2, f4, f11, f12, f13]) (by simp [f11, f14]))
  ·intro b h0 ha hd
   have t1 : b 1 = true := ha 1 (by decide)
   have t2 : b 2 = true := ha 2 (by decide)
   have t3 : b 3 = true := ha 3 (by decide)
   have f11 : b 11 = false := hd 11 (by decide)
   have f12 : b 12 = false := hd 12 (by decide)
   have f13 : b 13 = false := hd 13 (by decide)
   have f14 : b 14 = false := hd 14 (by decide)
   refine Chain.runK [20] 1 fun K hK => ?_; simp [h0, t1, t2, t3, f11, f12, f13, f14]; refine hK _ _ ?_; clear hK K
   exact Chain.nil (Sub.table (by simp [t1, t2, t3, f11, f12, f13]) (by simp [f11, f14]))
  ·intro b h0 ha hd
   have f6 : b 6 = false := hd 6 (by decide)
   have f7 : b 7 = false := hd 7 (by decide)
   have f8 : b 8 = false := hd 8 (by decide)
   have f9 : b 9 = false := hd 9 (by decide)
   have f10 : b 10 = false := hd 10 (by decide)
   have f11 : b 11 = false := hd 11 (by decide)
   have f12 : b 12 = false := hd 12 (by decide)
   have f13 : b 13 = false := hd 13 (by decide)
   have f14 : b 14 = false := hd 14 (by decide)
   refine Chain.runK [20] 1 fun K hK => ?_; simp [h0, f6, f7, f8, f9, f10, f11, f12, f13, f14]; refine hK _ _ ?_; clear hK K
   exact Chain.nil (Sub.table (by simp [f6, f7, f8, f9, f10, f11, f12, f13]) (by simp [f11, f14]))
  ·intro b h0 ha hd
   have t5 : b 5 = true := ha 5 (by decide)
   have f7 : b 7 = false := hd 7 (by decide)
   have f8 : b 8 = false := hd 8 (by decide)
   have f9 : b 9 = false := hd 9 (by decide)
   have f10 : b 10 = false := hd 10 (by decide)
   have f11 : b 11 = false := hd 11 (by decide)
   have f12 : b 12 = false := hd 12 (by decide)
   have f13 : b 13 = false := hd 13 (by decide)
   have f14 : b 14 = false := hd 14 (by decide)
   refine Chain.runK [20] 1 fun K hK => ?_; simp [h0, t5, f7, f8, f9, f10, f11, f12, f13, f14]; refine hK _ _ ?_; clear hK K
   exact Chain.nil (Sub.table (by simp [t5, f7, f8, f9, f10, f11, f12, f13]) (by simp [f11, f14]))
  ·intro b h0 ha hd
   have t5 : b 5 = true := ha 5 (by decide)
   have t6 : b 6 = true := ha 6 (by decide)
   have f8 : b 8 = false := hd 8 (by decide)
   have f9 : b 9 = false := hd 9 (by decide)
   have f10 : b 10 = false := hd 10 (by decide)
   have f11 : b 11 = false := hd 11 (by decide)
   have f12 : b 12 = false := hd 12 (by decide)
   have f13 : b 13 = false := hd 13 (by decide)
   have f14 : b 14 = false := hd 14 (by decide)
   refine Chain.runK [20] 1 fun K hK => ?_; simp [h0, t5, t6, f8, f9, f10, f11, f12, f13, f14]; refine hK _ _ ?_; clear hK K
   exact Chain.nil (Sub.table (by simp [t5, t6, f8, f9, f10, f11, f12, f13]) (by simp [f11, f14]))
  ·intro b h0 ha hd
   have t5 : b 5 = true := ha 5 (by decide)
   have t6 : b 6 = true := ha 6 (by decide)
   have t7 : b 7 = true := ha 7 (by decide)
   have f9 : b 9 = false := hd 9 (by decide)
   have f10 : b 10 = false := hd 10 (by decide)
   have f11 : b 11 = false := hd 11 (by decide)
   have f12 : b 12 = false := hd 12 (by decide)
   have f13 : b 13 = false := hd 13 (by decide)
   have f14 : b 14 = false := hd 14 (by decide)
   refine Chain.runK [20] 1 fun K hK => ?_; simp [h0, t5, t6, t7, f9, f10, f11, f12, f13, f14]; refine hK _ _ ?_; clear hK K
   exact Chain.nil (Sub.table (by simp [t5, t6, t7, f9, f10, f11, f12, f13]) (by simp [f11, f14]))
  ·intro b h0 ha hd
   have t5 : b 5 = true := ha 5 (by decide)
   have t6 : b 6 = true := ha 6 (by decide)
   have t7 : b 7 = true := ha 7 (by decide)
   have t8 : b 8 = true := ha 8 (by decide)
   have f10 : b 10 = false := hd 10 (by decide)
   have f11 : b 11 = false := hd 11 (by decide)
   have f12 : b 12 = false := hd 12 (by decide)
   have f13 : b 13 = false := hd 13 (by decide)
   have f14 : b 14 = false := hd 14 (by decide)
   simp only [h0, t5, t6, t7, t8, f10, f11, f12, f13, f14, if_true, if_false, Bool.false_eq_true]
   refine Chain.callOF (d := 19) (p17 N a0.entries r2 hr2) (by simp) rfl rfl (by simp <;> rfl) (by simp <;> rfl) ent17 (by simp) (fun r h => flat_of_ren r h) (flat_map (by simp) _) ?_
   simp only [mk_kill, mk_setH]
   rw [mk_put (by decide)]
   refine Chain.sub (Sub.freeze 19 rfl) ?_
   exact Chain.nil (by simp [↓frz_ite, t5, t6, t7, t8, f10, f11, f12, f13, f14]; exact Sub.table (by simp) (by simp))
  ·intro b h0 ha hd
   have t5 : b 5 = true := ha 5 (by decide)
   have t6 : b 6 = true := ha 6 (by decide)
   have t7 : b 7 = true := ha 7 (by decide)
   have t8 : b 8 = true := ha 8 (by decide)
   have t9 : b 9 = true := ha 9 (by decide)
   have f11 : b 11 = false := hd 11 (by decide)
   have f12 : b 12 = false := hd 12 (by decide)
   have f13 : b 13 = false := hd 13 (by decide)
   have f14 : b 14 = false := hd 14 (by decide)
   refine Chain.runK [20] 1 fun K hK => ?_; simp [h0, t5, t6, t7, t8, t9, f11, f12, f13, f14]; refine hK _ _ ?_; clear hK K
   exact Chain.nil (Sub.table (by simp [t5, t6, t7, t8, t9, f11, f12, f13]) (by simp [f11, f14]))
  ·intro b h0 ha hd
   have t1 : b 1 = true := ha 1 (by decide)
   have t2 : b 2 = true := ha 2 (by decide)
   have t3 : b 3 = true := ha 3 (by decide)
   have t4 : b 4 = true := ha 4 (by decide)
   have t5 : b 5 = true := ha 5 (by decide)
   have t6 : b 6 = true := ha 6 (by decide)
   have t7 : b 7 = true := ha 7 (by decide)
   have t8 : b 8 = true := ha 8 (by decide)
   have t9 : b 9 = true := ha 9 (by decide)
   have t10 : b 10 = true := ha 10 (by decide)
   have f12 : b 12 = false := hd 12 (by decide)
   have f13 : b 13 = false := hd 13 (by decide)
   have f14 : b 14 = false := hd 14 (by decide)
   refine Chain.runK [20] 1 fun K hK => ?_; simp [h0, t1, t2, t3, t4, t5, t6, t7, t8, t9, t10, f12, f13, f14, hl3a]; refine hK _ _ ?_; clear hK K
   exact Chain.nil (Sub.table (by simp [t1, t2, t3, t5, t6, t7, t8, t9, t10, f12, f13]) (by simp [f14]))
  ·intro b h0 ha hd
   have t0 : b 0 = true := ha 0 (by decide)
   have t1 : b 1 = true := ha 1 (by decide)
   have t2 : b 2 = true := ha 2 (by decide)
   have t3 : b 3 = true := ha 3 (by decide)
   have t4 : b 4 = true := ha 4 (by decide)
   have t5 : b 5 = true := ha 5 (by decide)
   have t6 : b 6 = true := ha 6 (by decide)
   have t7 : b 7 = true := ha 7 (by decide)
   have t8 : b 8 = true := ha 8 (by decide)
   have t9 : b 9 = true := ha 9 (by decide)
   have t10 : b 10 = true := ha 10 (by decide)
   have t11 : b 11 = true := ha 11 (by decide)
   have f13 : b 13 = false := hd 13 (by decide)
   have f14 : b 14 = false := hd 14 (by decide)
   refine Chain.runK [20] 1 fun K hK => ?_; simp [h0, t0, t1, t2, t3, t5, t6, t7, t8, t9, t10, t11, f13, f14]; refine hK _ _ ?_; clear hK K
   exact Chain.nil (Sub.table (by simp [t0, t1, t2, t3, t5, t6, t7, t8, t9, t10, t11, f13]) (by simp [t11, f14]))
  ·intro b h0 ha hd
   have t0 : b 0 = true := ha 0 (by decide)
   have t1 : b 1 = true := ha 1 (by decide)
   have t2 : b 2 = true := ha 2 (by decide)
   have t3 : b 3 = true := ha 3 (by decide)
   have t4 : b 4 = true := ha 4 (by decide)
   have t5 : b 5 = true := ha 5 (by decide)
   have t6 : b 6 = true := ha 6 (by decide)
   have t7 : b 7 = true := ha 7 (by decide)
   have t8 : b 8 = true := ha 8 (by decide)
   have t9 : b 9 = true := ha 9 (by decide)
   have t10 : b 10 = true := ha 10 (by decide)
   have t11 : b 11 = true := ha 11 (by decide)
   have t12 : b 12 = true := ha 12 (by decide)
   have f14 : b 14 = false := hd 14 (by decide)
   refine Chain.runK [20] 1 fun K hK => ?_; simp [h0, t0, t1, t2, t3, t5, t6, t7, t8, t9, t10, t11, t12, f14]; refine hK _ _ ?_; clear hK K
   exact Chain.nil (Sub.table (by simp [t0, t1, t2, t3, t5, t6, t7, t8, t9, t10, t11, t12]) (by simp [t11, f14]))
  ·intro b h0 ha hd
   have t0 : b 0 = true := ha 0 (by decide)
   have t1 : b 1 = true := ha 1 (by decide)
   have t2 : b 2 = true := ha 2 (by decide)
   have t3 : b 3 = true := ha 3 (by decide)
   have t4 : b 4 = true := ha 4 (by decide)
   have t5 : b 5 = true := ha 5 (by decide)
   have t6 : b 6 = true := ha 6 (by decide)
   have t7 : b 7 = true := ha 7 (by decide)
   have t8 : b 8 = true := ha 8 (by decide)
   have t9 : b 9 = true := ha 9 (by decide)
   have t10 : b 10 = true := ha 10 (by decide)
   have t11 : b 11 = true := ha 11 (by decide)
   have t12 : b 12 = true := ha 12 (by decide)
   have t13 : b 13 = true := ha 13 (by decide)
   refine Chain.runK [20] 1 fun K hK => ?_; simp [h0, t0, t1, t2, t3, t5, t6, t7, t8, t9, t10, t11, t12, t13]; refine hK _ _ ?_; clear hK K
   exact Chain.nil (Sub.table (by simp [t0, t1, t2, t3, t5, t6, t7, t8, t9, t10, t11, t12, t13]) (by simp [t11]))
  ·intro b hb
   have t0 := hb 0 (by decide)
   have t1 := hb 1 (by decide)
   have t2 := hb 2 (by decide)
   have t3 := hb 3 (by decide)
   have t4 := hb 4 (by decide)
   have t5 := hb 5 (by decide)
   have t6 := hb 6 (by decide)
   have t7 := hb 7 (by decide)
   have t8 := hb 8 (by decide)
   have t9 := hb 9 (by decide)
   have t10 := hb 10 (by decide)
   have t11 := hb 11 (by decide)
   have t12 := hb 12 (by decide)
   have t13 := hb 13 (by decide)
   have t14 := hb 14 (by decide)
   exact Sub.table (by simp [t0, t1, t2, t3, t5, t6, t7, t8, t9, t10, t11, t12, t13]) (by simp [t11, t14])
  ·skip
   refine AW.seqR ?_
   refine Chain.runK [] 7 fun K hK => ?_; simp; refine hK _ _ ?_; clear hK K
   refine Chain.sub (S' := mk 29 [1000] [(2, .d (.lit (.int .i64 ((a0.savepoints ++ [r2]).length : Int)))), (3, .d (.lit (.int .i64 0)))] [(1000, some (.box [.ref 25000 0 a0.entries.length, .ref 25001 0 ((a0.savepoints ++ [r2]).length)])), (25000, some (.arr 30 2 (a0.entries.map cS30))), (25001, some (.arr 22 1 ((a0.savepoints ++ [r2]).map (cL cS30))))]) Sub.tt ?_
   refine Chain.nil ?_
   refine AW.ret ?_
   cases h
   exact FinF.ret (by simp) (by simp)

/-- slices.Clone[[][]stemma/savepoint.Entry,[]stemma/savepoint.Entry] -/
def d19 (_ : Nat) (a0 : (List (List S30))) : Option (List (List S30)) := if a0.length * 24 ≤ Rp.reach then some a0 else none
theorem p19 (N : Nat) (a0 : (List (List S30))) (r : (List (List S30))) (h : d19 N a0 = some r) : FunO Try.prog 19 [.d (.sl (a0.map (cL cS30)))] (.ref 0 0 r.length) (.arr 22 1 (r.map (cL cS30))) := by
 obtain ⟨hz, h⟩ := gsome h
 cases h
 refine FunO.enter 8 [(0, .d (.sl (a0.map (cL cS30))))] Try.func19 rfl (of_decide_eq_true rfl) rfl rfl ?_
 refine AW.goR [] 1 fun K hK => ?_; simp; refine hK _ ?_; clear hK K
 refine AW.seq ?_
 refine AW.seqR ?_
 refine Chain.runK [] 1 fun K hK => ?_; simp; refine hK _ _ ?_; clear hK K
 refine Chain.eqNilE (es := a0.map (cL cS30)) (by simp) rfl ty45 rfl (by simp) (by simp) fun b hb => ?_
 refine Chain.nil ?_
 cases b with
 | true =>
  have he : a0 = [] := by
   cases a0 with
   | nil => rfl
   | cons x xs => exact absurd (hb (by simp)) (by simp)
  subst he
  refine AW.condK fun K1 K2 k1 k2 => ?_; simp; refine k1 ?_; clear k1 k2 K1 K2
  refine AW.goR [] 1 fun K hK => ?_; simp; refine hK _ ?_; clear hK K
  refine AW.sub (Sub.nilOwn (t := 2) (id := 902) (T := 22) (n := 1) rfl rfl (by decide)) ?_
  refine AW.sub (S' := mk 8 [] [(2, .ref 902 0 0)] [(902, some (.arr 22 1 []))]) (by simp; exact Sub.table (by simp) (by simp)) ?_
  refine AW.ret ?_
  exact thenQ_pass (by simp) (FinO.ret (.ref 902 0 0) 902 (by simp) (by simp) (by simp) (by simp) rfl)
 | false =>
  refine AW.condK fun K1 K2 k1 k2 => ?_; simp; refine k2 ?_; clear k1 k2 K1 K2
  refine AW.skip ?_
  refine thenQ_normal ?_
  refine AW.goR [] 4 fun K hK => ?_; simp [hz]; refine hK _ ?_; clear hK K
  refine AW.sub (S' := mk 8 [] [(2, .ref 5 0 a0.length)] [(5, some (.arr 22 1 (a0.map (cL cS30))))]) Sub.tt ?_
  refine AW.ret ?_
  exact FinO.ret (.ref 5 0 a0.length) 5 (by simp) (by simp) (by simp) (by simp) rfl

/-- (*stemma/savepoint.Tx).RollbackTo -/
def d11 (N : Nat) (a0 : S47) (a1 : Int) : Option (S47 × Int) :=
 Option.bind (α := Bool) (
  if a1 < 1 then (
   some true
  ) else
  some (decide (a1 > (a0.savepoints.length : Int)))
 ) fun (v2 : Bool) =>
 if v2 = true then (
  some (a0, 4)
 ) else
 (chkI (a1 - 1)).bind fun v5 =>
 (idx a0.savepoints v5).bind fun x6 =>
 (d17 N x6).bind fun r8 =>
 (natI a1 a0.savepoints.length).bind fun n9 =>
 (d19 N (a0.savepoints.take n9)).bind fun r10 =>
 some ((S47.mk r8 r10), 0)
set_option maxRecDepth 100000 in
set_option maxHeartbeats 4000000 in
theorem p11 (N : Nat) (a0 : S47) (a1 : Int) (r : (S47 × Int)) (h : d11 N a0 a1 = some r) : FunM Try.prog 11 [.ptr 1000 0 0, .d (.lit (.int .i64 a1))] [(1000, some (.box [.ref 25000 0 a0.entries.length, .ref 25001 0 a0.savepoints.length])), (25000, some (.arr 30 2 (a0.entries.map cS30))), (25001, some (.arr 22 1 (a0.savepoints.map (cL cS30))))] [1000] (.d (.lit (.int .i64 r.2))) ([(1000, (.box [.ref 25000 0 r.1.entries.length, .ref 25001 0 r.1.savepoints.length])), (25000, (.arr 30 2 (r.1.entries.map cS30))), (25001, (.arr 22 1 (r.1.savepoints.map (cL cS30))))]) := by
 unfold d11 at h
 refine FunM.enter 38 [(0, .ptr 1000 0 0), (1, .d (.lit (.int .i64 a1)))] Try.func11 rfl (of_decide_eq_true rfl) rfl rfl ?_
 refine AW.seqR ?_
 refine Chain.runK [] 1 fun K hK => ?_; simp; refine hK _ _ ?_; clear hK K
 refine Chain.sub (S' := mk 38 [1000] [(0, .ptr 1000 0 0), (1, .d (.lit (.int .i64 a1)))] [(1000, some (.box [.ref 25000 0 a0.entries.length, .ref 25001 0 a0.savepoints.length])), (25000, some (.arr 30 2 (a0.entries.map cS30))), (25001, some (.arr 22 1 (a0.savepoints.map (cL cS30))))]) Sub.tt ?_
 refine Chain.nil ?_
 refine AW.seq ?_
 replace h := bsome h; obtain ⟨v2, hj, h⟩ := h
 refine AW.cutR (mk 38 [1000] [(0, .ptr 1000 0 0), (1, .d (.lit (.int .i64 a1))), (15, .d (.lit (.bool v2)))] [(1000, some (.box [.ref 25000 0 a0.entries.length, .ref 25001 0 a0.savepoints.length])), (25000, some (.arr 30 2 (a0.entries.map cS30))), (25001, some (.arr 22 1 (a0.savepoints.map (cL cS30))))]) ?_ ?_
 ·clear h; have h := hj; clear hj
  refine Chain.runK [] 3 fun K hK => ?_; simp; refine hK _ _ ?_; clear hK K
  refine Chain.sub (S' := mk 38 [1000] [(0, .ptr 1000 0 0), (1, .d (.lit (.int .i64 a1))), (7, .d (.lit (.bool (decide (a1 < 1)))))] [(1000, some (.box [.ref 25000 0 a0.entries.length, .ref 25001 0 a0.savepoints.length])), (25000, some (.arr 30 2 (a0.entries.map cS30))), (25001, some (.arr 22 1 (a0.savepoints.map (cL cS30))))]) Sub.tt ?_
  replace h := isome h; rcases h with ⟨c3, h⟩ | ⟨c3, h⟩
  ·have c3_ : decide (a1 < 1) = true := decide_eq_true c3
   refine Chain.sub (Sub.bool 7 (b := decide (a1 < 1)) rfl c3_) ?_
   refine Chain.sub (S' := mk 38 [1000] [(0, .ptr 1000 0 0), (1, .d (.lit (.int .i64 a1))), (7, .d (.lit (.bool true)))] [(1000, some (.box [.ref 25000 0 a0.entries.length, .ref 25001 0 a0.savepoints.length])), (25000, some (.arr 30 2 (a0.entries.map cS30))), (25001, some (.arr 22 1 (a0.savepoints.map (cL cS30))))]) (by simp; exact Sub.table (by simp) (by simp)) ?_
   refine Chain.runK [] 8 fun K hK => ?_; simp; refine hK _ _ ?_; clear hK K
   refine Chain.sub (S' := mk 38 [1000] [(0, .ptr 1000 0 0), (1, .d (.lit (.int .i64 a1))), (15, .d (.lit (.bool true)))] [(1000, some (.box [.ref 25000 0 a0.entries.length, .ref 25001 0 a0.savepoints.length])), (25000, some (.arr 30 2 (a0.entries.map cS30))), (25001, some (.arr 22 1 (a0.savepoints.map (cL cS30))))]) Sub.tt ?_
   cases h
   exact Chain.nil Sub.tt
  ·have c3_ : decide (a1 < 1) = false := decide_eq_false c3
   refine Chain.sub (Sub.bool 7 (b := decide (a1 < 1)) rfl c3_) ?_
   refine Chain.sub (S' := mk 38 [1000] [(0, .ptr 1000 0 0), (1, .d (.lit (.int .i64 a1))), (7, .d (.lit (.bool false)))] [(1000, some (.box [.ref 25000 0 a0.entries.length, .ref 25001 0 a0.savepoints.length])), (25000, some (.arr 30 2 (a0.entries.map cS30))), (25001, some (.arr 22 1 (a0.savepoints.map (cL cS30))))]) (by simp; exact Sub.table (by simp) (by simp)) ?_
   refine Chain.runK [] 8 fun K hK => ?_; simp; refine hK _ _ ?_; clear hK K
   refine Chain.sub (S' := mk 38 [1000] [(0, .ptr 1000 0 0), (1, .d (.lit (.int .i64 a1))), (15, .d (.lit (.bool (decide (a1 > (a0.savepoints.length : Int))))))] [(1000, some (.box [.ref 25000 0 a0.entries.length, .ref 25001 0 a0.savepoints.length])), (25000, some (.arr 30 2 (a0.entries.map cS30))), (25001, some (.arr 22 1 (a0.savepoints.map (cL cS30))))]) Sub.tt ?_
   cases h
   exact Chain.nil Sub.tt
 ·clear hj
  replace h := isome h; rcases h with ⟨c4, h⟩ | ⟨c4, h⟩
  ·have c4_ : v2 = true := c4
   refine AW.condT (b := v2) rfl c4_ ?_
   refine AW.sub (Sub.bool 15 (b := v2) rfl c4_) ?_
   refine AW.sub (S' := mk 38 [1000] [(0, .ptr 1000 0 0), (1, .d (.lit (.int .i64 a1))), (15, .d (.lit (.bool true)))] [(1000, some (.box [.ref 25000 0 a0.entries.length, .ref 25001 0 a0.savepoints.length])), (25000, some (.arr 30 2 (a0.entries.map cS30))), (25001, some (.arr 22 1 (a0.savepoints.map (cL cS30))))]) (by simp; exact Sub.table (by simp) (by simp)) ?_
   refine AW.seqR ?_
   refine Chain.runK [] 1 fun K hK => ?_; simp; refine hK _ _ ?_; clear hK K
   refine Chain.sub (S' := mk 38 [1000] [(4, .d (.lit (.int .i64 4)))] [(1000, some (.box [.ref 25000 0 a0.entries.length, .ref 25001 0 a0.savepoints.length])), (25000, some (.arr 30 2 (a0.entries.map cS30))), (25001, some (.arr 22 1 (a0.savepoints.map (cL cS30))))]) Sub.tt ?_
   refine Chain.nil ?_
   refine AW.ret ?_
   cases h
   refine thenQ_pass (by simp) ?_
   exact FinF.ret (by simp) (by simp)
  ·have c4_ : v2 = false := Bool.eq_false_iff.2 c4
   refine AW.condF (b := v2) rfl c4_ ?_
   refine AW.sub (Sub.bool 15 (b := v2) rfl c4_) ?_
   refine AW.sub (S' := mk 38 [1000] [(0, .ptr 1000 0 0), (1, .d (.lit (.int .i64 a1))), (15, .d (.lit (.bool false)))] [(1000, some (.box [.ref 25000 0 a0.entries.length, .ref 25001 0 a0.savepoints.length])), (25000, some (.arr 30 2 (a0.entries.map cS30))), (25001, some (.arr 22 1 (a0.savepoints.map (cL cS30))))]) (by simp; exact Sub.table (by simp) (by simp)) ?_
   refine AW.skip ?_
   refine thenQ_normal ?_
   refine AW.seqR ?_
   replace h := bsome h; obtain ⟨v5, hv5, h⟩ := h
   have hv5 := chkI_some hv5
   replace h := bsome h; obtain ⟨x6, hx6, h⟩ := h
   obtain ⟨k7, hx6k, hx6, hx6a, hx6b⟩ := idx_some hx6
   refine Chain.runK [] 9 fun K hK => ?_; simp [hv5, hx6, hx6k, hx6a, hx6b]; refine hK _ _ ?_; clear hK K
   refine Chain.sub (S' := mk 38 [1000] [(0, .ptr 1000 0 0), (1, .d (.lit (.int .i64 a1))), (16, .ptr 1000 0 0), (24, .d (.sl (x6.map cS30)))] [(1000, some (.box [.ref 25000 0 a0.entries.length, .ref 25001 0 a0.savepoints.length])), (25000, some (.arr 30 2 (a0.entries.map cS30))), (25001, some (.arr 22 1 (a0.savepoints.map (cL cS30))))]) Sub.tt ?_
   replace h := bsome h; obtain ⟨r8, hr8, h⟩ := h
   refine Chain.callO (d := 25) (p17 N x6 r8 hr8) (by simp) rfl rfl (by simp <;> rfl) (by simp <;> rfl) ent17 (by simp) ⟨by simp, by simp⟩ ?_
   refine Chain.sub (S' := mk 38 [1000] [(0, .ptr 1000 0 0), (1, .d (.lit (.int .i64 a1))), (16, .ptr 1000 0 0), (24, .d (.sl (x6.map cS30))), (25, .ref 25 0 r8.length)] [(25, some (.arr 30 2 (r8.map cS30))), (1000, some (.box [.ref 25000 0 a0.entries.length, .ref 25001 0 a0.savepoints.length])), (25000, some (.arr 30 2 (a0.entries.map cS30))), (25001, some (.arr 22 1 (a0.savepoints.map (cL cS30))))]) (by simp; exact Sub.table (by simp) (by simp)) ?_
   refine Chain.runK [] 3 fun K hK => ?_; simp; refine hK _ _ ?_; clear hK K
   refine Chain.sub (S' := mk 38 [1000] [(0, .ptr 1000 0 0), (1, .d (.lit (.int .i64 a1)))] [(25, some (.arr 30 2 (r8.map cS30))), (1000, some (.box [.ref 25 0 r8.length, .ref 25001 0 a0.savepoints.length])), (25001, some (.arr 22 1 (a0.savepoints.map (cL cS30))))]) Sub.tt ?_
   refine Chain.sub (S' := mk 38 [1000] [(0, .ptr 1000 0 0), (1, .d (.lit (.int .i64 a1)))] [(1000, some (.box [.ref 25000 0 r8.length, .ref 25001 0 a0.savepoints.length])), (25000, some (.arr 30 2 (r8.map cS30))), (25001, some (.arr 22 1 (a0.savepoints.map (cL cS30))))]) (Sub.names [(25, 25000), (1000, 1000), (25001, 25001)] (by simp) (by simp) (by simp [back]) (by simp [V.rnm, lk2]) (by simp [back, Blk.rnm, V.rnm, rnmL, lk2])) ?_
   refine Chain.nil ?_
   refine AW.seqR ?_
   replace h := bsome h; obtain ⟨n9, gn9, h⟩ := h
   obtain ⟨hn9a, hn9⟩ := natI_some gn9
   clear gn9
   subst hn9a
   refine Chain.runK [] 7 fun K hK => ?_; simp [hn9]; refine hK _ _ ?_; clear hK K
   refine Chain.sub (S' := mk 38 [1000] [(28, .ptr 1000 0 0), (34, .ref 25001 0 n9)] [(1000, some (.box [.ref 25000 0 r8.length, .ref 25001 0 a0.savepoints.length])), (25000, some (.arr 30 2 (r8.map cS30))), (25001, some (.arr 22 1 (a0.savepoints.map (cL cS30))))]) Sub.tt ?_
   refine Chain.sub (Sub.freeze 25001 rfl) ?_
   refine Chain.sub (S' := mk 38 [1000] [(28, .ptr 1000 0 0), (34, .d (.sl ((a0.savepoints.take n9).map (cL cS30))))] [(1000, some (.box [.ref 25000 0 r8.length, .d (.sl (a0.savepoints.map (cL cS30)))])), (25000, some (.arr 30 2 (r8.map cS30)))]) (by simp [hn9]; exact Sub.table (by simp) (by simp)) ?_
   replace h := bsome h; obtain ⟨r10, hr10, h⟩ := h
   refine Chain.callO (d := 35) (p19 N (a0.savepoints.take n9) r10 hr10) (by simp) rfl rfl (by simp <;> rfl) (by simp <;> rfl) ent19 (by simp) ⟨by simp, by simp⟩ ?_
   refine Chain.sub (S' := mk 38 [1000] [(28, .ptr 1000 0 0), (34, .d (.sl ((a0.savepoints.take n9).map (cL cS30)))), (35, .ref 35 0 r10.length)] [(35, some (.arr 22 1 (r10.map (cL cS30)))), (1000, some (.box [.ref 25000 0 r8.length, .d (.sl (a0.savepoints.map (cL cS30)))])), (25000, some (.arr 30 2 (r8.map cS30)))]) (by simp; exact Sub.table (by simp) (by simp)) ?_
   refine Chain.runK [] 3 fun K hK => ?_; simp; refine hK _ _ ?_; clear hK K
   refine Chain.sub (S' := mk 38 [1000] [] [(35, some (.arr 22 1 (r10.map (cL cS30)))), (1000, some (.box [.ref 25000 0 r8.length, .ref 35 0 r10.length])), (25000, some (.arr 30 2 (r8.map cS30)))]) Sub.tt ?_
   refine Chain.sub (S' := mk 38 [1000] [] [(1000, some (.box [.ref 25000 0 r8.length, .ref 25001 0 r10.length])), (25000, some (.arr 30 2 (r8.map cS30))), (25001, some (.arr 22 1 (r10.map (cL cS30))))]) (Sub.names [(35, 25001), (1000, 1000), (25000, 25000)] (by simp) (by simp) (by simp [back]) (by simp [V.rnm]) (by simp [back, Blk.rnm, V.rnm, rnmL, lk2])) ?_
   refine Chain.nil ?_
   refine AW.seqR ?_
   refine Chain.runK [] 1 fun K hK => ?_; simp; refine hK _ _ ?_; clear hK K
   refine Chain.sub (S' := mk 38 [1000] [(4, .d (.lit (.int .i64 0)))] [(1000, some (.box [.ref 25000 0 r8.length, .ref 25001 0 r10.length])), (25000, some (.arr 30 2 (r8.map cS30))), (25001, some (.arr 22 1 (r10.map (cL cS30))))]) Sub.tt ?_
   refine Chain.nil ?_
   refine AW.ret ?_
   cases h
   exact FinF.ret (by simp) (by simp)

/-- (*stemma/savepoint.Tx).Release -/
def d12 (N : Nat) (a0 : S47) (a1 : Int) : Option (S47 × Int) :=
 Option.bind (α := Bool) (
  if a1 < 1 then (
   some true
  ) else
  some (decide (a1 > (a0.savepoints.length : Int)))
 ) fun (v2 : Bool) =>
 if v2 = true then (
  some (a0, 4)
 ) else
 (chkI (a1 - 1)).bind fun v5 =>
 (natI v5 a0.savepoints.length).bind fun n6 =>
 (d19 N (a0.savepoints.take n6)).bind fun r7 =>
 some ((S47.mk a0.entries r7), 0)
set_option maxRecDepth 100000 in
set_option maxHeartbeats 4000000 in
theorem p12 (N : Nat) (a0 : S47) (a1 : Int) (r : (S47 × Int)) (h : d12 N a0 a1 = some r) : FunM Try.prog 12 [.ptr 1000 0 0, .d (.lit (.int .i64 a1))] [(1000, some (.box [.ref 25000 0 a0.entries.length, .ref 25001 0 a0.savepoints.length])), (25000, some (.arr 30 2 (a0.entries.map cS30))), (25001, some (.arr 22 1 (a0.savepoints.map (cL cS30))))] [1000] (.d (.lit (.int .i64 r.2))) ([(1000, (.box [.ref 25000 0 r.1.entries.length, .ref 25001 0 r.1.savepoints.length])), (25000, (.arr 30 2 (r.1.entries.map cS30))), (25001, (.arr 22 1 (r.1.savepoints.map (cL cS30))))]) := by
 unfold d12 at h
 refine FunM.enter 27 [(0, .ptr 1000 0 0), (1, .d (.lit (.int .i64 a1)))] Try.func12 rfl (of_decide_eq_true rfl) rfl rfl ?_
 refine AW.seqR ?_
 refine Chain.runK [] 1 fun K hK => ?_; simp; refine hK _ _ ?_; clear hK K
 refine Chain.sub (S' := mk 27 [1000] [(0, .ptr 1000 0 0), (1, .d (.lit (.int .i64 a1)))] [(1000, some (.box [.ref 25000 0 a0.entries.length, .ref 25001 0 a0.savepoints.length])), (25000, some (.arr 30 2 (a0.entries.map cS30))), (25001, some (.arr 22 1 (a0.savepoints.map (cL cS30))))]) Sub.tt ?_
 refine Chain.nil ?_
 refine AW.seq ?_
 replace h := bsome h; obtain ⟨v2, hj, h⟩ := h
 refine AW.cutR (mk 27 [1000] [(0, .ptr 1000 0 0), (1, .d (.lit (.int .i64 a1))), (15, .d (.lit (.bool v2)))] [(1000, some (.box [.ref 25000 0 a0.entries.length, .ref 25001 0 a0.savepoints.length])), (25000, some (.arr 30 2 (a0.entries.map cS30))), (25001, some (.arr 22 1 (a0.savepoints.map (cL cS30))))]) ?_ ?_
 ·clear h; have h := hj; clear hj
  refine Chain.runK [] 3 fun K hK => ?_; simp; refine hK _ _ ?_; clear hK K
  refine Chain.sub (S' := mk 27 [1000] [(0, .ptr 1000 0 0), (1, .d (.lit (.int .i64 a1))), (7, .d (.lit (.bool (decide (a1 < 1)))))] [(1000, some (.box [.ref 25000 0 a0.entries.length, .ref 25001 0 a0.savepoints.length])), (25000, some (.arr 30 2 (a0.entries.map cS30))), (25001, some (.arr 22 1 (a0.savepoints.map (cL cS30))))]) Sub.tt ?_
  replace h := isome h; rcases h with ⟨c3, h⟩ | ⟨c3, h⟩
  ·have c3_ : decide (a1 < 1) = true := decide_eq_true c3
   refine Chain.sub (Sub.bool 7 (b := decide (a1 < 1)) rfl c3_) ?_
   refine Chain.sub (S' := mk 27 [1000] [(0, .ptr 1000 0 0), (1, .d (.lit (.int .i64 a1))), (7, .d (.lit (.bool true)))] [(1000, some (.box [.ref 25000 0 a0.entries.length, .ref 25001 0 a0.savepoints.length])), (25000, some (.arr 30 2 (a0.entries.map cS30))), (25001, some (.arr 22 1 (a0.savepoints.map (cL cS30))))]) (by simp; exact Sub.table (by simp) (by simp)) ?_
   refine Chain.runK [] 8 fun K hK => ?_; simp; refine hK _ _ ?_; clear hK K
   refine Chain.sub (S' := mk 27 [1000] [(0, .ptr 1000 0 0), (1, .d (.lit (.int .i64 a1))), (15, .d (.lit (.bool true)))] [(1000, some (.box [.ref 25000 0 a0.entries.length, .ref 25001 0 a0.savepoints.length])), (25000, some (.arr 30 2 (a0.entries.map cS30))), (25001, some (.arr 22 1 (a0.savepoints.map (cL cS30))))]) Sub.tt ?_
   cases h
   exact Chain.nil Sub.tt
  ·have c3_ : decide (a1 < 1) = false := decide_eq_false c3
   refine Chain.sub (Sub.bool 7 (b := decide (a1 < 1)) rfl c3_) ?_
   refine Chain.sub (S' := mk 27 [1000] [(0, .ptr 1000 0 0), (1, .d (.lit (.int .i64 a1))), (7, .d (.lit (.bool false)))] [(1000, some (.box [.ref 25000 0 a0.entries.length, .ref 25001 0 a0.savepoints.length])), (25000, some (.arr 30 2 (a0.entries.map cS30))), (25001, some (.arr 22 1 (a0.savepoints.map (cL cS30))))]) (by simp; exact Sub.table (by simp) (by simp)) ?_
   refine Chain.runK [] 8 fun K hK => ?_; simp; refine hK _ _ ?_; clear hK K
   refine Chain.sub (S' := mk 27 [1000] [(0, .ptr 1000 0 0), (1, .d (.lit (.int .i64 a1))), (15, .d (.lit (.bool (decide (a1 > (a0.savepoints.length : Int))))))] [(1000, some (.box [.ref 25000 0 a0.entries.length, .ref 25001 0 a0.savepoints.length])), (25000, some (.arr 30 2 (a0.entries.map cS30))), (25001, some (.arr 22 1 (a0.savepoints.map (cL cS30))))]) Sub.tt ?_
   cases h
   exact Chain.nil Sub.tt
 ·clear hj
  replace h := isome h; rcases h with ⟨c4, h⟩ | ⟨c4, h⟩
  ·have c4_ : v2 = true := c4
   refine AW.condT (b := v2) rfl c4_ ?_
   refine AW.sub (Sub.bool 15 (b := v2) rfl c4_) ?_
   refine AW.sub (S' := mk 27 [1000] [(0, .ptr 1000 0 0), (1, .d (.lit (.int .i64 a1))), (15, .d (.lit (.bool true)))] [(1000, some (.box [.ref 25000 0 a0.entries.length, .ref 25001 0 a0.savepoints.length])), (25000, some (.arr 30 2 (a0.entries.map cS30))), (25001, some (.arr 22 1 (a0.savepoints.map (cL cS30))))]) (by simp; exact Sub.table (by simp) (by simp)) ?_
   refine AW.seqR ?_
   refine Chain.runK [] 1 fun K hK => ?_; simp; refine hK _ _ ?_; clear hK K
   refine Chain.sub (S' := mk 27 [1000] [(4, .d (.lit (.int .i64 4)))] [(1000, some (.box [.ref 25000 0 a0.entries.length, .ref 25001 0 a0.savepoints.length])), (25000, some (.arr 30 2 (a0.entries.map cS30))), (25001, some (.arr 22 1 (a0.savepoints.map (cL cS30))))]) Sub.tt ?_
   refine Chain.nil ?_
   refine AW.ret ?_
   cases h
   refine thenQ_pass (by simp) ?_
   exact FinF.ret (by simp) (by simp)
  ·have c4_ : v2 = false := Bool.eq_false_iff.2 c4
   refine AW.condF (b := v2) rfl c4_ ?_
   refine AW.sub (Sub.bool 15 (b := v2) rfl c4_) ?_
   refine AW.sub (S' := mk 27 [1000] [(0, .ptr 1000 0 0), (1, .d (.lit (.int .i64 a1))), (15, .d (.lit (.bool false)))] [(1000, some (.box [.ref 25000 0 a0.entries.length, .ref 25001 0 a0.savepoints.length])), (25000, some (.arr 30 2 (a0.entries.map cS30))), (25001, some (.arr 22 1 (a0.savepoints.map (cL cS30))))]) (by simp; exact Sub.table (by simp) (by simp)) ?_
   refine AW.skip ?_
   refine thenQ_normal ?_
   refine AW.seqR ?_
   replace h := bsome h; obtain ⟨v5, hv5, h⟩ := h
   have hv5 := chkI_some hv5
   replace h := bsome h; obtain ⟨n6, gn6, h⟩ := h
   obtain ⟨hn6a, hn6⟩ := natI_some gn6
   clear gn6
   subst hn6a
   refine Chain.runK [] 8 fun K hK => ?_; simp [hv5, hn6]; refine hK _ _ ?_; clear hK K
   refine Chain.sub (S' := mk 27 [1000] [(16, .ptr 1000 0 0), (23, .ref 25001 0 n6)] [(1000, some (.box [.ref 25000 0 a0.entries.length, .ref 25001 0 a0.savepoints.length])), (25000, some (.arr 30 2 (a0.entries.map cS30))), (25001, some (.arr 22 1 (a0.savepoints.map (cL cS30))))]) Sub.tt ?_
   refine Chain.sub (Sub.freeze 25001 rfl) ?_
   refine Chain.sub (S' := mk 27 [1000] [(16, .ptr 1000 0 0), (23, .d (.sl ((a0.savepoints.take n6).map (cL cS30))))] [(1000, some (.box [.ref 25000 0 a0.entries.length, .d (.sl (a0.savepoints.map (cL cS30)))])), (25000, some (.arr 30 2 (a0.entries.map cS30)))]) (by simp [hn6]; exact Sub.table (by simp) (by simp)) ?_
   replace h := bsome h; obtain ⟨r7, hr7, h⟩ := h
   refine Chain.callO (d := 24) (p19 N (a0.savepoints.take n6) r7 hr7) (by simp) rfl rfl (by simp <;> rfl) (by simp <;> rfl) ent19 (by simp) ⟨by simp, by simp⟩ ?_
   refine Chain.sub (S' := mk 27 [1000] [(16, .ptr 1000 0 0), (23, .d (.sl ((a0.savepoints.take n6).map (cL cS30)))), (24, .ref 24 0 r7.length)] [(24, some (.arr 22 1 (r7.map (cL cS30)))), (1000, some (.box [.ref 25000 0 a0.entries.length, .d (.sl (a0.savepoints.map (cL cS30)))])), (25000, some (.arr 30 2 (a0.entries.map cS30)))]) (by simp; exact Sub.table (by simp) (by simp)) ?_
   refine Chain.runK [] 3 fun K hK => ?_; simp; refine hK _ _ ?_; clear hK K
   refine Chain.sub (S' := mk 27 [1000] [] [(24, some (.arr 22 1 (r7.map (cL cS30)))), (1000, some (.box [.ref 25000 0 a0.entries.length, .ref 24 0 r7.length])), (25000, some (.arr 30 2 (a0.entries.map cS30)))]) Sub.tt ?_
   refine Chain.sub (S' := mk 27 [1000] [] [(1000, some (.box [.ref 25000 0 a0.entries.length, .ref 25001 0 r7.length])), (25000, some (.arr 30 2 (a0.entries.map cS30))), (25001, some (.arr 22 1 (r7.map (cL cS30))))]) (Sub.names [(24, 25001), (1000, 1000), (25000, 25000)] (by simp) (by simp) (by simp [back]) (by simp [V.rnm]) (by simp [back, Blk.rnm, V.rnm, rnmL, lk2])) ?_
   refine Chain.nil ?_
   refine AW.seqR ?_
   refine Chain.runK [] 1 fun K hK => ?_; simp; refine hK _ _ ?_; clear hK K
   refine Chain.sub (S' := mk 27 [1000] [(4, .d (.lit (.int .i64 0)))] [(1000, some (.box [.ref 25000 0 a0.entries.length, .ref 25001 0 r7.length])), (25000, some (.arr 30 2 (a0.entries.map cS30))), (25001, some (.arr 22 1 (r7.map (cL cS30))))]) Sub.tt ?_
   refine Chain.nil ?_
   refine AW.ret ?_
   cases h
   exact FinF.ret (by simp) (by simp)

/-- (*stemma/savepoint.Tx).Get -/
def d22 (N : Nat) (a0 : S47) (a1 : ByteArray) : Option (Int × Int) :=
 (d14 N a0 a1).bind fun r1 =>
 if (!r1.2) = true then (
  some (0, 4)
 ) else
 (idx a0.entries r1.1).bind fun x3 =>
 some (x3.Value, 0)
set_option maxRecDepth 100000 in
set_option maxHeartbeats 4000000 in
theorem p22 (N : Nat) (a0 : S47) (a1 : ByteArray) (r : (Int × Int)) (h : d22 N a0 a1 = some r) : FunC Try.prog 22 [.d (.pim [.sl (a0.entries.map cS30), .sl (a0.savepoints.map (cL cS30))]), .d (.lit (.string a1))] (.tup [.d (.lit (.int .i64 r.1)), .d (.lit (.int .i64 r.2))]) := by
 unfold d22 at h
 refine FunC.enter 24 [(0, .d (.pim [.sl (a0.entries.map cS30), .sl (a0.savepoints.map (cL cS30))])), (1, .d (.lit (.string a1)))] (by simp) Try.func22 rfl (of_decide_eq_true rfl) rfl rfl ?_
 refine AW.seqR ?_
 refine Chain.runK [] 2 fun K hK => ?_; simp; refine hK _ _ ?_; clear hK K
 refine Chain.sub (S' := mk 24 [] [(0, .d (.pim [.sl (a0.entries.map cS30), .sl (a0.savepoints.map (cL cS30))])), (1, .d (.lit (.string a1)))] []) Sub.tt ?_
 refine Chain.nil ?_
 refine AW.seqR ?_
 refine Chain.runK [] 2 fun K hK => ?_; simp; refine hK _ _ ?_; clear hK K
 refine Chain.sub (S' := mk 24 [] [(0, .d (.pim [.sl (a0.entries.map cS30), .sl (a0.savepoints.map (cL cS30))])), (9, .d (.pim [.sl (a0.entries.map cS30), .sl (a0.savepoints.map (cL cS30))])), (10, .d (.lit (.string a1)))] []) Sub.tt ?_
 replace h := bsome h; obtain ⟨r1, hr1, h⟩ := h
 refine Chain.callL (d := 11) (p14 N a0 a1 r1 hr1) (by simp) rfl rfl (by simp <;> rfl) (by simp <;> rfl) ent14 (by simp <;> rfl) ?_
 refine Chain.sub (S' := mk 24 [] [(0, .d (.pim [.sl (a0.entries.map cS30), .sl (a0.savepoints.map (cL cS30))])), (9, .d (.pim [.sl (a0.entries.map cS30), .sl (a0.savepoints.map (cL cS30))])), (10, .d (.lit (.string a1))), (11, .tup [.d (.lit (.int .i64 r1.1)), .d (.lit (.bool r1.2))])] []) (by simp; exact Sub.table (by simp) (by simp)) ?_
 refine Chain.runK [] 5 fun K hK => ?_; simp; refine hK _ _ ?_; clear hK K
 refine Chain.sub (S' := mk 24 [] [(0, .d (.pim [.sl (a0.entries.map cS30), .sl (a0.savepoints.map (cL cS30))])), (6, .d (.lit (.int .i64 r1.1))), (7, .d (.lit (.bool r1.2)))] []) Sub.tt ?_
 refine Chain.nil ?_
 refine AW.seq ?_
 refine AW.seqR ?_
 refine Chain.runK [] 2 fun K hK => ?_; simp; refine hK _ _ ?_; clear hK K
 refine Chain.sub (S' := mk 24 [] [(0, .d (.pim [.sl (a0.entries.map cS30), .sl (a0.savepoints.map (cL cS30))])), (6, .d (.lit (.int .i64 r1.1))), (15, .d (.lit (.bool (!r1.2))))] []) Sub.tt ?_
 refine Chain.nil ?_
 replace h := isome h; rcases h with ⟨c2, h⟩ | ⟨c2, h⟩
 ·have c2_ : (!r1.2) = true := c2
  refine AW.condT (b := (!r1.2)) rfl c2_ ?_
  refine AW.sub (Sub.bool 15 (b := (!r1.2)) rfl c2_) ?_
  refine AW.sub (S' := mk 24 [] [(0, .d (.pim [.sl (a0.entries.map cS30), .sl (a0.savepoints.map (cL cS30))])), (6, .d (.lit (.int .i64 r1.1))), (15, .d (.lit (.bool true)))] []) (by simp; exact Sub.table (by simp) (by simp)) ?_
  refine AW.seqR ?_
  refine Chain.runK [] 2 fun K hK => ?_; simp; refine hK _ _ ?_; clear hK K
  refine Chain.sub (S' := mk 24 [] [(4, .d (.lit (.int .i64 0))), (5, .d (.lit (.int .i64 4)))] []) Sub.tt ?_
  refine Chain.nil ?_
  refine AW.ret ?_
  cases h
  refine thenQ_pass (by simp) ?_
  exact FinC.ret (by simp) (by simp)
 ·have c2_ : (!r1.2) = false := Bool.eq_false_iff.2 c2
  refine AW.condF (b := (!r1.2)) rfl c2_ ?_
  refine AW.sub (Sub.bool 15 (b := (!r1.2)) rfl c2_) ?_
  refine AW.sub (S' := mk 24 [] [(0, .d (.pim [.sl (a0.entries.map cS30), .sl (a0.savepoints.map (cL cS30))])), (6, .d (.lit (.int .i64 r1.1))), (15, .d (.lit (.bool false)))] []) (by simp; exact Sub.table (by simp) (by simp)) ?_
  refine AW.skip ?_
  refine thenQ_normal ?_
  refine AW.seqR ?_
  replace h := bsome h; obtain ⟨x3, hx3, h⟩ := h
  obtain ⟨k4, hx3k, hx3, hx3a, hx3b⟩ := idx_some hx3
  refine Chain.runK [] 10 fun K hK => ?_; simp [hx3, hx3k, hx3a]; refine hK _ _ ?_; clear hK K
  refine Chain.sub (S' := mk 24 [] [(4, .d (.lit (.int .i64 x3.Value))), (5, .d (.lit (.int .i64 0)))] []) Sub.tt ?_
  refine Chain.nil ?_
  refine AW.ret ?_
  cases h
  exact FinC.ret (by simp) (by simp)

/-- (*stemma/savepoint.Tx).All -/
def d24 (N : Nat) (a0 : S47) : Option (List S30) :=
 (d17 N a0.entries).bind fun r1 =>
 some r1
set_option maxRecDepth 100000 in
set_option maxHeartbeats 4000000 in
theorem p24 (N : Nat) (a0 : S47) (r : (List S30)) (h : d24 N a0 = some r) : FunO Try.prog 24 [.d (.pim [.sl (a0.entries.map cS30), .sl (a0.savepoints.map (cL cS30))])] (.ref 0 0 r.length) (.arr 30 2 (r.map cS30)) := by
 unfold d24 at h
 refine FunO.enter 8 [(0, .d (.pim [.sl (a0.entries.map cS30), .sl (a0.savepoints.map (cL cS30))]))] Try.func24 rfl (of_decide_eq_true rfl) rfl rfl ?_
 refine AW.seqR ?_
 refine Chain.runK [] 1 fun K hK => ?_; simp; refine hK _ _ ?_; clear hK K
 refine Chain.sub (S' := mk 8 [] [(0, .d (.pim [.sl (a0.entries.map cS30), .sl (a0.savepoints.map (cL cS30))]))] []) Sub.tt ?_
 refine Chain.nil ?_
 refine AW.seqR ?_
 refine Chain.runK [] 4 fun K hK => ?_; simp; refine hK _ _ ?_; clear hK K
 refine Chain.sub (S' := mk 8 [] [(6, .d (.sl (a0.entries.map cS30)))] []) Sub.tt ?_
 replace h := bsome h; obtain ⟨r1, hr1, h⟩ := h
 refine Chain.callO (d := 7) (p17 N a0.entries r1 hr1) (by simp) rfl rfl (by simp <;> rfl) (by simp <;> rfl) ent17 (by simp) ⟨by simp, by simp⟩ ?_
 refine Chain.sub (S' := mk 8 [] [(6, .d (.sl (a0.entries.map cS30))), (7, .ref 7 0 r1.length)] [(7, some (.arr 30 2 (r1.map cS30)))]) (by simp; exact Sub.table (by simp) (by simp)) ?_
 refine Chain.runK [] 1 fun K hK => ?_; simp; refine hK _ _ ?_; clear hK K
 refine Chain.sub (S' := mk 8 [] [(2, .ref 7 0 r1.length)] [(7, some (.arr 30 2 (r1.map cS30)))]) Sub.tt ?_
 refine Chain.nil ?_
 refine AW.ret ?_
 obtain rfl := Option.some.inj h
 exact FinO.ret (.ref 7 0 r1.length) 7 (by simp) (by simp) (by simp) (by simp) rfl

end Go.Proofs.Ytdiekinmoklonac
