/- Functions of the program as functional programs; the code computes them. -/
import Derived.Test.YtifcmomjjkbboacMv2
namespace Go.Proofs.Ytifcmomjjkbboac
open Go.Ab Go.Rp
attribute [-simp] List.all_eq_true Array.all_toList Array.all_eq_true

/-- (*stemma/mvcc.Store).Put -/
def d5 (N : Nat) (a0 : S63) (a1 : ByteArray) (a2 : Int) (a3 : (List S53)) : Option (S63 × Int) :=
 (d24 N a3).bind fun r1 =>
 (d23 N a0 a1 (S67.mk a2 false r1)).bind fun r2 =>
 some (r2.1, r2.2)
set_option maxRecDepth 100000 in
set_option maxHeartbeats 4000000 in
theorem p5 (N : Nat) (a0 : S63) (a1 : ByteArray) (a2 : Int) (a3 : (List S53)) (r : (S63 × Int)) (h : d5 N a0 a1 a2 a3 = some r) : FunM Try.prog 5 [.ptr 1000 0 0, .d (.lit (.string a1)), .i a2, .d (.sl (a3.map cS53))] [(1000, some (.box [.ref 25000 0 a0.chains.length, .i a0.horizon])), (25000, some (.nest 72 2 [none, some (67, 3)] (a0.chains.map cS72) []))] [1000] (.i r.2) ([(1000, (.box [.ref 25000 0 r.1.chains.length, .i r.1.horizon])), (25000, (.nest 72 2 [none, some (67, 3)] (r.1.chains.map cS72) []))]) := by
 unfold d5 at h
 refine FunM.enter 16 [(0, .ptr 1000 0 0), (1, .d (.lit (.string a1))), (2, .i a2), (3, .d (.sl (a3.map cS53)))] Try.func5 rfl (of_decide_eq_true rfl) rfl rfl ?_
 refine AW.seqR ?_
 refine Chain.runK [] 1 fun K hK => ?_; simp; refine hK _ _ ?_; clear hK K
 refine Chain.sub (S' := mk 16 [1000] [(0, .ptr 1000 0 0), (1, .d (.lit (.string a1))), (2, .i a2), (3, .d (.sl (a3.map cS53)))] [(1000, some (.box [.ref 25000 0 a0.chains.length, .i a0.horizon])), (25000, some (.nest 72 2 [none, some (67, 3)] (a0.chains.map cS72) []))]) Sub.tt ?_
 refine Chain.nil ?_
 refine AW.seqR ?_
 refine Chain.runK [] 4 fun K hK => ?_; simp; refine hK _ _ ?_; clear hK K
 refine Chain.sub (S' := mk 16 [1000] [(9, .ptr 1000 0 0), (10, .d (.lit (.string a1))), (11, .i a2), (12, .d (.sl (a3.map cS53)))] [(1000, some (.box [.ref 25000 0 a0.chains.length, .i a0.horizon])), (25000, some (.nest 72 2 [none, some (67, 3)] (a0.chains.map cS72) []))]) Sub.tt ?_
 replace h := bsome h; obtain ⟨r1, hr1, h⟩ := h
 refine Chain.callO (d := 13) (p24 N a3 r1 hr1) (by simp) rfl rfl (by simp <;> rfl) (by simp <;> rfl) ent24 (by simp) ⟨by simp, by simp⟩ ?_
 refine Chain.sub (S' := mk 16 [1000] [(9, .ptr 1000 0 0), (10, .d (.lit (.string a1))), (11, .i a2), (12, .d (.sl (a3.map cS53))), (13, .ref 13 0 r1.length)] [(13, R53 r1), (1000, some (.box [.ref 25000 0 a0.chains.length, .i a0.horizon])), (25000, some (.nest 72 2 [none, some (67, 3)] (a0.chains.map cS72) []))]) (by simp; exact Sub.table (by simp) (by simp)) ?_
 refine Chain.runK [] 1 fun K hK => ?_; simp; refine hK _ _ ?_; clear hK K
 refine Chain.sub (S' := mk 16 [1000] [(9, .ptr 1000 0 0), (10, .d (.lit (.string a1))), (14, .agg [.i a2, .b false, .ref 13 0 r1.length])] [(13, R53 r1), (1000, some (.box [.ref 25000 0 a0.chains.length, .i a0.horizon])), (25000, some (.nest 72 2 [none, some (67, 3)] (a0.chains.map cS72) []))]) Sub.tt ?_
 refine Chain.sub (Sub.freeze 13 rfl) ?_
 refine Chain.sub (S' := mk 16 [1000] [(9, .ptr 1000 0 0), (10, .d (.lit (.string a1))), (14, .agg [.i a2, .b false, .d (.sl (r1.map cS53))])] [(1000, some (.box [.ref 25000 0 a0.chains.length, .i a0.horizon])), (25000, some (.nest 72 2 [none, some (67, 3)] (a0.chains.map cS72) []))]) (by simp; exact Sub.table (by simp) (by simp)) ?_
 replace h := bsome h; obtain ⟨r2, hr2, h⟩ := h
 refine Chain.callF (p23 N a0 a1 (S67.mk a2 false r1) r2 hr2) [(1000, 1000), (25000, 25000)] [1000] [(1000, 1000), (25000, 25000)] [(1000, (.box [.ref 25000 0 r2.1.chains.length, .i r2.1.horizon])), (25000, (.nest 72 2 [none, some (67, 3)] (r2.1.chains.map cS72) []))] (.i r2.2) (by simp) rfl (by simp <;> rfl) (by simp) (by simp) (by simp) (by simp) (by simp) ent23 (by simp) (by simp) (by simp) (by simp) (by simp) (by simp) ?_
 refine Chain.sub (S' := mk 16 [1000] [(9, .ptr 1000 0 0), (10, .d (.lit (.string a1))), (14, .agg [.i a2, .b false, .d (.sl (r1.map cS53))]), (15, .i r2.2)] [(1000, some (.box [.ref 25000 0 r2.1.chains.length, .i r2.1.horizon])), (25000, some (.nest 72 2 [none, some (67, 3)] (r2.1.chains.map cS72) []))]) (by simp; exact Sub.table (by simp) (by simp)) ?_
 refine Chain.runK [] 1 fun K hK => ?_; simp; refine hK _ _ ?_; clear hK K
 refine Chain.sub (S' := mk 16 [1000] [(8, .i r2.2)] [(1000, some (.box [.ref 25000 0 r2.1.chains.length, .i r2.1.horizon])), (25000, some (.nest 72 2 [none, some (67, 3)] (r2.1.chains.map cS72) []))]) Sub.tt ?_
 refine Chain.nil ?_
 refine AW.ret ?_
 cases h
 exact FinF.ret (by simp) (by simp)

/-- (*stemma/mvcc.Store).Latest -/
def d7 (N : Nat) (a0 : S63) (a1 : ByteArray) : Option Int :=
 (d25 N a0 a1).bind fun r1 =>
 if (!r1.2) = true then (
  some 0
 ) else
 (idx a0.chains r1.1).bind fun x3 =>
 (chkI ((x3.versions.length : Int) - 1)).bind fun v5 =>
 (idx x3.versions v5).bind fun x6 =>
 some x6.timestamp
set_option maxRecDepth 100000 in
set_option maxHeartbeats 4000000 in
theorem p7 (N : Nat) (a0 : S63) (a1 : ByteArray) (r : Int) (h : d7 N a0 a1 = some r) : FunC Try.prog 7 [.d (.pim [.sl (a0.chains.map cS72), .lit (.int .i64 a0.horizon)]), .d (.lit (.string a1))] (.i r) := by
 unfold d7 at h
 refine FunC.enter 36 [(0, .d (.pim [.sl (a0.chains.map cS72), .lit (.int .i64 a0.horizon)])), (1, .d (.lit (.string a1)))] (by simp) Try.func7 rfl (of_decide_eq_true rfl) rfl rfl ?_
 refine AW.seqR ?_
 refine Chain.runK [] 1 fun K hK => ?_; simp; refine hK _ _ ?_; clear hK K
 refine Chain.sub (S' := mk 36 [] [(0, .d (.pim [.sl (a0.chains.map cS72), .lit (.int .i64 a0.horizon)])), (1, .d (.lit (.string a1)))] []) Sub.tt ?_
 refine Chain.nil ?_
 refine AW.seqR ?_
 refine Chain.runK [] 2 fun K hK => ?_; simp; refine hK _ _ ?_; clear hK K
 refine Chain.sub (S' := mk 36 [] [(0, .d (.pim [.sl (a0.chains.map cS72), .lit (.int .i64 a0.horizon)])), (8, .d (.pim [.sl (a0.chains.map cS72), .lit (.int .i64 a0.horizon)])), (9, .d (.lit (.string a1)))] []) Sub.tt ?_
 replace h := bsome h; obtain ⟨r1, hr1, h⟩ := h
 refine Chain.callL (d := 10) (p25 N a0 a1 r1 hr1) (by simp) rfl rfl (by simp <;> rfl) (by simp <;> rfl) ent25 (by simp <;> rfl) ?_
 refine Chain.sub (S' := mk 36 [] [(0, .d (.pim [.sl (a0.chains.map cS72), .lit (.int .i64 a0.horizon)])), (8, .d (.pim [.sl (a0.chains.map cS72), .lit (.int .i64 a0.horizon)])), (9, .d (.lit (.string a1))), (10, .tup [.i r1.1, .b r1.2])] []) (by simp; exact Sub.table (by simp) (by simp)) ?_
 refine Chain.runK [] 5 fun K hK => ?_; simp; refine hK _ _ ?_; clear hK K
 refine Chain.sub (S' := mk 36 [] [(0, .d (.pim [.sl (a0.chains.map cS72), .lit (.int .i64 a0.horizon)])), (5, .i r1.1), (6, .b r1.2)] []) Sub.tt ?_
 refine Chain.nil ?_
 refine AW.seq ?_
 refine AW.seqR ?_
 refine Chain.runK [] 2 fun K hK => ?_; simp; refine hK _ _ ?_; clear hK K
 refine Chain.sub (S' := mk 36 [] [(0, .d (.pim [.sl (a0.chains.map cS72), .lit (.int .i64 a0.horizon)])), (5, .i r1.1), (14, .b (!r1.2))] []) Sub.tt ?_
 refine Chain.nil ?_
 replace h := isome h; rcases h with ⟨c2, h⟩ | ⟨c2, h⟩
 ·have c2_ : (!r1.2) = true := c2
  refine AW.condT (b := (!r1.2)) rfl c2_ ?_
  refine AW.sub (Sub.bool 14 (b := (!r1.2)) rfl c2_) ?_
  refine AW.sub (S' := mk 36 [] [(0, .d (.pim [.sl (a0.chains.map cS72), .lit (.int .i64 a0.horizon)])), (5, .i r1.1), (14, .b true)] []) (by simp; exact Sub.table (by simp) (by simp)) ?_
  refine AW.seqR ?_
  refine Chain.runK [] 1 fun K hK => ?_; simp; refine hK _ _ ?_; clear hK K
  refine Chain.sub (S' := mk 36 [] [(4, .i 0)] []) Sub.tt ?_
  refine Chain.nil ?_
  refine AW.ret ?_
  cases h
  refine thenQ_pass (by simp) ?_
  exact FinC.ret (by simp) (by simp)
 ·have c2_ : (!r1.2) = false := Bool.eq_false_iff.2 c2
  refine AW.condF (b := (!r1.2)) rfl c2_ ?_
  refine AW.sub (Sub.bool 14 (b := (!r1.2)) rfl c2_) ?_
  refine AW.sub (S' := mk 36 [] [(0, .d (.pim [.sl (a0.chains.map cS72), .lit (.int .i64 a0.horizon)])), (5, .i r1.1), (14, .b false)] []) (by simp; exact Sub.table (by simp) (by simp)) ?_
  refine AW.skip ?_
  refine thenQ_normal ?_
  refine AW.seqQ (by kernel_rfl) (by kernel_rfl) ?_
  replace h := bsome h; obtain ⟨x3, hx3, h⟩ := h
  obtain ⟨k4, hx3k, hx3, hx3a, hx3b⟩ := idx_some hx3
  replace h := bsome h; obtain ⟨v5, hv5, h⟩ := h
  have hv5 := chkI_some hv5
  replace h := bsome h; obtain ⟨x6, hx6, h⟩ := h
  obtain ⟨k7, hx6k, hx6, hx6a, hx6b⟩ := idx_some hx6
  refine Chain.runQ 22 fun K hK => ?_; simp [hx3, hx3k, hx3a, hv5, hx6, hx6k, hx6a]; refine hK _ _ ?_; clear hK K
  refine Chain.sub (S' := mk 36 [] [(4, .i x6.timestamp)] []) Sub.tt ?_
  refine Chain.nil ?_
  refine AW.ret ?_
  cases h
  exact FinC.ret (by simp) (by simp)

/-- stemma/stemlaw5.arg -/
def d9 (_N : Nat) (a0 : (List Int)) (a1 : Int) : Option Int :=
 if a1 < (a0.length : Int) then (
  (idx a0 a1).bind fun x2 =>
  some x2
 ) else
 some 0
set_option maxRecDepth 100000 in
set_option maxHeartbeats 4000000 in
theorem p9 (N : Nat) (a0 : (List Int)) (a1 : Int) (r : Int) (h : d9 N a0 a1 = some r) : FunC Try.prog 9 [.d (.sl (a0.map (cI .i64))), .i a1] (.i r) := by
 unfold d9 at h
 refine FunC.enter 13 [(0, .d (.sl (a0.map (cI .i64)))), (1, .i a1)] (by simp) Try.func9 rfl (of_decide_eq_true rfl) rfl rfl ?_
 refine AW.seqR ?_
 refine Chain.runK [] 1 fun K hK => ?_; simp; refine hK _ _ ?_; clear hK K
 refine Chain.sub (S' := mk 13 [] [(0, .d (.sl (a0.map (cI .i64)))), (1, .i a1)] []) Sub.tt ?_
 refine Chain.nil ?_
 refine AW.seq ?_
 refine AW.seqR ?_
 refine Chain.runK [] 4 fun K hK => ?_; simp; refine hK _ _ ?_; clear hK K
 refine Chain.sub (S' := mk 13 [] [(0, .d (.sl (a0.map (cI .i64)))), (1, .i a1), (8, .b (decide (a1 < (a0.length : Int))))] []) Sub.tt ?_
 refine Chain.nil ?_
 replace h := isome h; rcases h with ⟨c1, h⟩ | ⟨c1, h⟩
 ·have c1_ : decide (a1 < (a0.length : Int)) = true := decide_eq_true c1
  refine AW.condT (b := decide (a1 < (a0.length : Int))) rfl c1_ ?_
  refine AW.sub (Sub.bool 8 (b := decide (a1 < (a0.length : Int))) rfl c1_) ?_
  refine AW.sub (S' := mk 13 [] [(0, .d (.sl (a0.map (cI .i64)))), (1, .i a1), (8, .b true)] []) (by simp; exact Sub.table (by simp) (by simp)) ?_
  refine AW.seqR ?_
  replace h := bsome h; obtain ⟨x2, hx2, h⟩ := h
  obtain ⟨k3, hx2k, hx2, hx2a, hx2b⟩ := idx_some hx2
  refine Chain.runK [] 5 fun K hK => ?_; simp [hx2, hx2k, hx2a]; refine hK _ _ ?_; clear hK K
  refine Chain.sub (S' := mk 13 [] [(4, .i x2)] []) Sub.tt ?_
  refine Chain.nil ?_
  refine AW.ret ?_
  cases h
  refine thenQ_pass (by simp) ?_
  exact FinC.ret (by simp) (by simp)
 ·have c1_ : decide (a1 < (a0.length : Int)) = false := decide_eq_false c1
  refine AW.condF (b := decide (a1 < (a0.length : Int))) rfl c1_ ?_
  refine AW.sub (Sub.bool 8 (b := decide (a1 < (a0.length : Int))) rfl c1_) ?_
  refine AW.sub (S' := mk 13 [] [(0, .d (.sl (a0.map (cI .i64)))), (1, .i a1), (8, .b false)] []) (by simp; exact Sub.table (by simp) (by simp)) ?_
  refine AW.skip ?_
  refine thenQ_normal ?_
  refine AW.seqR ?_
  refine Chain.runK [] 1 fun K hK => ?_; simp; refine hK _ _ ?_; clear hK K
  refine Chain.sub (S' := mk 13 [] [(4, .i 0)] []) Sub.tt ?_
  refine Chain.nil ?_
  refine AW.ret ?_
  cases h
  exact FinC.ret (by simp) (by simp)

/-- stemma/stemlaw5.choose[string] -/
def d8 (_N : Nat) (a0 : (List ByteArray)) (a1 : Int) : Option ByteArray :=
 if ((a0.length : Int) == 0) then (
  some (ByteArray.mk #[])
 ) else
 letv (IntKind.u64.wrap (a1)) fun v2 =>
 letv (IntKind.u64.wrap ((a0.length : Int))) fun v3 =>
 (remI v2 v3).bind fun v4 =>
 (chkI (v4)).bind fun v5 =>
 (idx a0 v5).bind fun x6 =>
 some x6
set_option maxRecDepth 100000 in
set_option maxHeartbeats 4000000 in
theorem p8 (N : Nat) (a0 : (List ByteArray)) (a1 : Int) (r : ByteArray) (h : d8 N a0 a1 = some r) : FunC Try.prog 8 [.d (.sl (a0.map cS)), .i a1] (.d (.lit (.string r))) := by
 unfold d8 at h
 refine FunC.enter 20 [(0, .d (.sl (a0.map cS))), (1, .i a1)] (by simp) Try.func8 rfl (of_decide_eq_true rfl) rfl rfl ?_
 refine AW.seqR ?_
 refine Chain.runK [] 1 fun K hK => ?_; simp; refine hK _ _ ?_; clear hK K
 refine Chain.sub (S' := mk 20 [] [(0, .d (.sl (a0.map cS))), (1, .i a1)] []) Sub.tt ?_
 refine Chain.nil ?_
 refine AW.seqR ?_
 refine Chain.runK [] 1 fun K hK => ?_; simp; refine hK _ _ ?_; clear hK K
 refine Chain.sub (S' := mk 20 [] [(0, .d (.sl (a0.map cS))), (1, .i a1), (5, .d (.lit (.string (ByteArray.mk #[]))))] []) Sub.tt ?_
 refine Chain.nil ?_
 refine AW.seq ?_
 refine AW.seqR ?_
 refine Chain.runK [] 3 fun K hK => ?_; simp; refine hK _ _ ?_; clear hK K
 refine Chain.sub (S' := mk 20 [] [(0, .d (.sl (a0.map cS))), (1, .i a1), (5, .d (.lit (.string (ByteArray.mk #[])))), (8, .b ((a0.length : Int) == 0))] []) Sub.tt ?_
 refine Chain.nil ?_
 replace h := isome h; rcases h with ⟨c1, h⟩ | ⟨c1, h⟩
 ·have c1_ : ((a0.length : Int) == 0) = true := c1
  refine AW.condT (b := ((a0.length : Int) == 0)) rfl c1_ ?_
  refine AW.sub (Sub.bool 8 (b := ((a0.length : Int) == 0)) rfl c1_) ?_
  refine AW.sub (S' := mk 20 [] [(0, .d (.sl (a0.map cS))), (1, .i a1), (5, .d (.lit (.string (ByteArray.mk #[])))), (8, .b true)] []) (by simp; exact Sub.table (by simp) (by simp)) ?_
  refine AW.seqR ?_
  refine Chain.runK [] 2 fun K hK => ?_; simp; refine hK _ _ ?_; clear hK K
  refine Chain.sub (S' := mk 20 [] [(4, .d (.lit (.string (ByteArray.mk #[]))))] []) Sub.tt ?_
  refine Chain.nil ?_
  refine AW.ret ?_
  cases h
  refine thenQ_pass (by simp) ?_
  exact FinC.ret (by simp) (by simp)
 ·have c1_ : ((a0.length : Int) == 0) = false := Bool.eq_false_iff.2 c1
  refine AW.condF (b := ((a0.length : Int) == 0)) rfl c1_ ?_
  refine AW.sub (Sub.bool 8 (b := ((a0.length : Int) == 0)) rfl c1_) ?_
  refine AW.sub (S' := mk 20 [] [(0, .d (.sl (a0.map cS))), (1, .i a1), (5, .d (.lit (.string (ByteArray.mk #[])))), (8, .b false)] []) (by simp; exact Sub.table (by simp) (by simp)) ?_
  refine AW.skip ?_
  refine thenQ_normal ?_
  refine AW.seqR ?_
  replace h := lsome h; obtain ⟨v2, hv2, h⟩ := h
  replace h := lsome h; obtain ⟨v3, hv3, h⟩ := h
  replace h := bsome h; obtain ⟨v4, hv4, h⟩ := h
  obtain ⟨hv4a, hv4⟩ := remI_some hv4
  replace h := bsome h; obtain ⟨v5, hv5, h⟩ := h
  have hv5 := chkI_some hv5
  replace h := bsome h; obtain ⟨x6, hx6, h⟩ := h
  obtain ⟨k7, hx6k, hx6, hx6a, hx6b⟩ := idx_some hx6
  refine Chain.runK [] 11 fun K hK => ?_; simp [hv2, hv3, hv4, hv4a, hv5, hx6, hx6k, hx6a]; refine hK _ _ ?_; clear hK K
  refine Chain.sub (S' := mk 20 [] [(4, .d (.lit (.string x6)))] []) Sub.tt ?_
  refine Chain.nil ?_
  refine AW.ret ?_
  cases h
  exact FinC.ret (by simp) (by simp)

/-- stemma/stemlaw5.choose[stemma/api.Row] -/
def d10 (_N : Nat) (a0 : (List (List S53))) (a1 : Int) : Option (List S53) :=
 if ((a0.length : Int) == 0) then (
  some ([] : List S53)
 ) else
 letv (IntKind.u64.wrap (a1)) fun v2 =>
 letv (IntKind.u64.wrap ((a0.length : Int))) fun v3 =>
 (remI v2 v3).bind fun v4 =>
 (chkI (v4)).bind fun v5 =>
 (idx a0 v5).bind fun x6 =>
 some x6
set_option maxRecDepth 100000 in
set_option maxHeartbeats 4000000 in
theorem p10 (N : Nat) (a0 : (List (List S53))) (a1 : Int) (r : (List S53)) (h : d10 N a0 a1 = some r) : FunC Try.prog 10 [.d (.sl (a0.map (cL cS53))), .i a1] (.d (.sl (r.map cS53))) := by
 unfold d10 at h
 refine FunC.enter 20 [(0, .d (.sl (a0.map (cL cS53)))), (1, .i a1)] (by simp) Try.func10 rfl (of_decide_eq_true rfl) rfl rfl ?_
 refine AW.seqR ?_
 refine Chain.runK [] 1 fun K hK => ?_; simp; refine hK _ _ ?_; clear hK K
 refine Chain.sub (S' := mk 20 [] [(0, .d (.sl (a0.map (cL cS53)))), (1, .i a1)] []) Sub.tt ?_
 refine Chain.nil ?_
 refine AW.seqR ?_
 refine Chain.runK [] 1 fun K hK => ?_; simp; refine hK _ _ ?_; clear hK K
 refine Chain.sub (S' := mk 20 [] [(0, .d (.sl (a0.map (cL cS53)))), (1, .i a1), (5, .d (.lit (.slice none 0 0)))] []) Sub.tt ?_
 refine Chain.nil ?_
 refine AW.seq ?_
 refine AW.seqR ?_
 refine Chain.runK [] 3 fun K hK => ?_; simp; refine hK _ _ ?_; clear hK K
 refine Chain.sub (S' := mk 20 [] [(0, .d (.sl (a0.map (cL cS53)))), (1, .i a1), (5, .d (.lit (.slice none 0 0))), (8, .b ((a0.length : Int) == 0))] []) Sub.tt ?_
 refine Chain.nil ?_
 replace h := isome h; rcases h with ⟨c1, h⟩ | ⟨c1, h⟩
 ·have c1_ : ((a0.length : Int) == 0) = true := c1
  refine AW.condT (b := ((a0.length : Int) == 0)) rfl c1_ ?_
  refine AW.sub (Sub.bool 8 (b := ((a0.length : Int) == 0)) rfl c1_) ?_
  refine AW.sub (S' := mk 20 [] [(0, .d (.sl (a0.map (cL cS53)))), (1, .i a1), (5, .d (.lit (.slice none 0 0))), (8, .b true)] []) (by simp; exact Sub.table (by simp) (by simp)) ?_
  refine AW.seqR ?_
  refine Chain.runK [] 2 fun K hK => ?_; simp; refine hK _ _ ?_; clear hK K
  refine Chain.sub (S' := mk 20 [] [(4, .d (.lit (.slice none 0 0)))] []) Sub.tt ?_
  refine Chain.nil ?_
  refine AW.sub (Sub.wk 4 rfl) ?_
  refine AW.sub (S' := mk 20 [] [(4, .d (.sl (([] : List S53).map cS53)))] []) (by simp; exact Sub.table (by simp) (by simp)) ?_
  refine AW.ret ?_
  cases h
  refine thenQ_pass (by simp) ?_
  exact FinC.ret (by simp) (by simp)
 ·have c1_ : ((a0.length : Int) == 0) = false := Bool.eq_false_iff.2 c1
  refine AW.condF (b := ((a0.length : Int) == 0)) rfl c1_ ?_
  refine AW.sub (Sub.bool 8 (b := ((a0.length : Int) == 0)) rfl c1_) ?_
  refine AW.sub (S' := mk 20 [] [(0, .d (.sl (a0.map (cL cS53)))), (1, .i a1), (5, .d (.lit (.slice none 0 0))), (8, .b false)] []) (by simp; exact Sub.table (by simp) (by simp)) ?_
  refine AW.skip ?_
  refine thenQ_normal ?_
  refine AW.seqR ?_
  replace h := lsome h; obtain ⟨v2, hv2, h⟩ := h
  replace h := lsome h; obtain ⟨v3, hv3, h⟩ := h
  replace h := bsome h; obtain ⟨v4, hv4, h⟩ := h
  obtain ⟨hv4a, hv4⟩ := remI_some hv4
  replace h := bsome h; obtain ⟨v5, hv5, h⟩ := h
  have hv5 := chkI_some hv5
  replace h := bsome h; obtain ⟨x6, hx6, h⟩ := h
  obtain ⟨k7, hx6k, hx6, hx6a, hx6b⟩ := idx_some hx6
  refine Chain.runK [] 11 fun K hK => ?_; simp [hv2, hv3, hv4, hv4a, hv5, hx6, hx6k, hx6a]; refine hK _ _ ?_; clear hK K
  refine Chain.sub (S' := mk 20 [] [(4, .d (.sl (x6.map cS53)))] []) Sub.tt ?_
  refine Chain.nil ?_
  refine AW.ret ?_
  cases h
  exact FinC.ret (by simp) (by simp)

/-- stemma/stemref5.Between -/
def d26 (_N : Nat) (a0 : Int) (a1 : Int) (a2 : Int) : Option Bool :=
 Option.bind (α := Bool) (
  if a0 ≥ a1 then (
   some (decide (a0 ≤ a2))
  ) else
  some false
 ) fun (v2 : Bool) =>
 some v2
set_option maxRecDepth 100000 in
set_option maxHeartbeats 4000000 in
theorem p26 (N : Nat) (a0 : Int) (a1 : Int) (a2 : Int) (r : Bool) (h : d26 N a0 a1 a2 = some r) : FunC Try.prog 26 [.i a0, .i a1, .i a2] (.b r) := by
 unfold d26 at h
 refine FunC.enter 15 [(0, .i a0), (1, .i a1), (2, .i a2)] (by simp) Try.func26 rfl (of_decide_eq_true rfl) rfl rfl ?_
 refine AW.seqR ?_
 refine Chain.runK [] 1 fun K hK => ?_; simp; refine hK _ _ ?_; clear hK K
 refine Chain.sub (S' := mk 15 [] [(0, .i a0), (1, .i a1), (2, .i a2)] []) Sub.tt ?_
 refine Chain.nil ?_
 replace h := bsome h; obtain ⟨v2, hj, h⟩ := h
 refine AW.cutR (mk 15 [] [(6, .b v2)] []) ?_ ?_
 ·clear h; have h := hj; clear hj
  refine Chain.runK [] 4 fun K hK => ?_; simp; refine hK _ _ ?_; clear hK K
  refine Chain.sub (S' := mk 15 [] [(0, .i a0), (2, .i a2), (10, .b (decide (a0 ≥ a1)))] []) Sub.tt ?_
  replace h := isome h; rcases h with ⟨c3, h⟩ | ⟨c3, h⟩
  ·have c3_ : decide (a0 ≥ a1) = true := decide_eq_true c3
   refine Chain.sub (Sub.bool 10 (b := decide (a0 ≥ a1)) rfl c3_) ?_
   refine Chain.sub (S' := mk 15 [] [(0, .i a0), (2, .i a2), (10, .b true)] []) (by simp; exact Sub.table (by simp) (by simp)) ?_
   refine Chain.runK [] 5 fun K hK => ?_; simp; refine hK _ _ ?_; clear hK K
   refine Chain.sub (S' := mk 15 [] [(6, .b (decide (a0 ≤ a2)))] []) Sub.tt ?_
   cases h
   exact Chain.nil Sub.tt
  ·have c3_ : decide (a0 ≥ a1) = false := decide_eq_false c3
   refine Chain.sub (Sub.bool 10 (b := decide (a0 ≥ a1)) rfl c3_) ?_
   refine Chain.sub (S' := mk 15 [] [(0, .i a0), (2, .i a2), (10, .b false)] []) (by simp; exact Sub.table (by simp) (by simp)) ?_
   refine Chain.runK [] 5 fun K hK => ?_; simp; refine hK _ _ ?_; clear hK K
   refine Chain.sub (S' := mk 15 [] [(6, .b false)] []) Sub.tt ?_
   cases h
   exact Chain.nil Sub.tt
 ·clear hj
  refine AW.ret ?_
  cases h
  exact FinC.ret (by simp) (by simp)

/-- (*stemma/stemref5.Store).Latest -/
def d22 (N : Nat) (a0 : S36) (a1 : ByteArray) : Option Int :=
 Option.bind (α := Int) (
  iterN (σ := (Int × Int)) (ρ := Int) (fun ((v7, v8) : (Int × Int)) =>
   if v8 < (a0.Versions.length : Int) then (
    (idx a0.Versions v8).bind fun x27 =>
    if decide (x27.Key = a1) = true then (
     letv (maxI v7 x27.Timestamp) fun v30 =>
     (chkI (v8 + 1)).bind fun v31 =>
     some (.inl (v30, v31))
    ) else
    (chkI (v8 + 1)).bind fun v32 =>
    some (.inl (v7, v32))
   ) else
   some (.inr v7)
  ) N (0, 0)
 ) fun (v25 : Int) =>
 some v25
set_option maxRecDepth 100000 in
set_option maxHeartbeats 4000000 in
theorem p22 (N : Nat) (a0 : S36) (a1 : ByteArray) (r : Int) (h : d22 N a0 a1 = some r) : FunC Try.prog 22 [.d (.pim [.sl (a0.Versions.map cS43), .lit (.int .i64 a0.Horizon)]), .d (.lit (.string a1))] (.i r) := by
 unfold d22 at h
 refine FunC.enter 27 [(0, .d (.pim [.sl (a0.Versions.map cS43), .lit (.int .i64 a0.Horizon)])), (1, .d (.lit (.string a1)))] (by simp) Try.func22 rfl (of_decide_eq_true rfl) rfl rfl ?_
 refine AW.seqR ?_
 refine Chain.runK [] 1 fun K hK => ?_; simp; refine hK _ _ ?_; clear hK K
 refine Chain.sub (S' := mk 27 [] [(0, .d (.pim [.sl (a0.Versions.map cS43), .lit (.int .i64 a0.Horizon)])), (1, .d (.lit (.string a1)))] []) Sub.tt ?_
 refine Chain.nil ?_
 refine AW.seqR ?_
 refine Chain.runK [] 1 fun K hK => ?_; simp; refine hK _ _ ?_; clear hK K
 refine Chain.sub (S' := mk 27 [] [(0, .d (.pim [.sl (a0.Versions.map cS43), .lit (.int .i64 a0.Horizon)])), (1, .d (.lit (.string a1))), (5, .i 0)] []) Sub.tt ?_
 refine Chain.nil ?_
 refine AW.seq ?_
 refine AW.seqR ?_
 refine Chain.runK [] 6 fun K hK => ?_; simp; refine hK _ _ ?_; clear hK K
 refine Chain.sub (S' := mk 27 [] [(1, .d (.lit (.string a1))), (5, .i 0), (11, .d (.sl (a0.Versions.map cS43))), (12, .i (a0.Versions.length : Int)), (13, .i 0)] []) Sub.tt ?_
 refine Chain.nil ?_
 refine AW.lastN (fun (v25 : Int) => mk 27 [] [(5, .i v25)] []) h ?_ ?_ <;> clear h
 ·intro o h
  refine AW.block ?_
  refine AW.iter (fun ((v7, v8) : (Int × Int)) => mk 27 [] [(1, .d (.lit (.string a1))), (5, .i v7), (11, .d (.sl (a0.Versions.map cS43))), (12, .i (a0.Versions.length : Int)), (13, .i v8)] []) h Sub.tt ?_
  clear h
  rintro ⟨v7, v8⟩ x h
  dsimp only at h ⊢
  refine AW.seqR ?_
  refine Chain.runK [] 1 fun K hK => ?_; simp; refine hK _ _ ?_; clear hK K
  refine Chain.sub (S' := mk 27 [] [(1, .d (.lit (.string a1))), (5, .i v7), (11, .d (.sl (a0.Versions.map cS43))), (12, .i (a0.Versions.length : Int)), (13, .i v8), (14, .b (decide (v8 < (a0.Versions.length : Int))))] []) Sub.tt ?_
  refine Chain.nil ?_
  refine AW.seq ?_
  replace h := isome h; rcases h with ⟨c26, h⟩ | ⟨c26, h⟩
  ·have c26_ : decide (v8 < (a0.Versions.length : Int)) = true := decide_eq_true c26
   refine AW.condT (b := decide (v8 < (a0.Versions.length : Int))) rfl c26_ ?_
   refine AW.sub (Sub.bool 14 (b := decide (v8 < (a0.Versions.length : Int))) rfl c26_) ?_
   refine AW.sub (S' := mk 27 [] [(1, .d (.lit (.string a1))), (5, .i v7), (11, .d (.sl (a0.Versions.map cS43))), (12, .i (a0.Versions.length : Int)), (13, .i v8), (14, .b true)] []) (by simp; exact Sub.table (by simp) (by simp)) ?_
   refine AW.skip ?_
   refine thenQ_normal ?_
   refine AW.seq ?_
   refine AW.block ?_
   refine AW.seqR ?_
   replace h := bsome h; obtain ⟨x27, hx27, h⟩ := h
   obtain ⟨k28, hx27k, hx27, hx27a, hx27b⟩ := idx_some hx27
   refine Chain.runK [] 4 fun K hK => ?_; simp [hx27, hx27k, hx27a]; refine hK _ _ ?_; clear hK K
   refine Chain.sub (S' := mk 27 [] [(1, .d (.lit (.string a1))), (5, .i v7), (7, .ptr 7 0 0), (11, .d (.sl (a0.Versions.map cS43))), (12, .i (a0.Versions.length : Int)), (13, .i v8)] [(7, some (.box [.d (.lit (.string x27.Key)), .i x27.Timestamp, .b x27.Tombstone, .d (.sl (x27.Row.map cS53))]))]) Sub.tt ?_
   refine Chain.nil ?_
   refine AW.seqR ?_
   refine Chain.runK [] 4 fun K hK => ?_; simp; refine hK _ _ ?_; clear hK K
   refine Chain.sub (S' := mk 27 [] [(1, .d (.lit (.string a1))), (5, .i v7), (7, .ptr 7 0 0), (11, .d (.sl (a0.Versions.map cS43))), (12, .i (a0.Versions.length : Int)), (13, .i v8), (20, .b (decide (x27.Key = a1)))] [(7, some (.box [.d (.lit (.string x27.Key)), .i x27.Timestamp, .b x27.Tombstone, .d (.sl (x27.Row.map cS53))]))]) Sub.tt ?_
   refine Chain.nil ?_
   replace h := isome h; rcases h with ⟨c29, h⟩ | ⟨c29, h⟩
   ·have c29_ : decide (x27.Key = a1) = true := c29
    refine AW.condT (b := decide (x27.Key = a1)) rfl c29_ ?_
    refine AW.sub (Sub.bool 20 (b := decide (x27.Key = a1)) rfl c29_) ?_
    refine AW.sub (S' := mk 27 [] [(1, .d (.lit (.string a1))), (5, .i v7), (7, .ptr 7 0 0), (11, .d (.sl (a0.Versions.map cS43))), (12, .i (a0.Versions.length : Int)), (13, .i v8), (20, .b true)] [(7, some (.box [.d (.lit (.string x27.Key)), .i x27.Timestamp, .b x27.Tombstone, .d (.sl (x27.Row.map cS53))]))]) (by simp; exact Sub.table (by simp) (by simp)) ?_
    refine AW.region ?_
    replace h := lsome h; obtain ⟨v30, hv30, h⟩ := h
    unfold maxI at hv30
    refine Chain.runK [] 5 fun K hK => ?_; simp [hv30]; refine hK _ _ ?_; clear hK K
    refine Chain.sub (S' := mk 27 [] [(1, .d (.lit (.string a1))), (5, .i v30), (11, .d (.sl (a0.Versions.map cS43))), (12, .i (a0.Versions.length : Int)), (13, .i v8)] []) Sub.tt ?_
    refine Chain.nil ?_
    refine blockQ.normal ?_
    refine thenQ_normal ?_
    refine AW.region ?_
    replace h := bsome h; obtain ⟨v31, hv31, h⟩ := h
    have hv31 := chkI_some hv31
    refine Chain.runK [] 2 fun K hK => ?_; simp [hv31]; refine hK _ _ ?_; clear hK K
    refine Chain.sub (S' := mk 27 [] [(1, .d (.lit (.string a1))), (5, .i v30), (11, .d (.sl (a0.Versions.map cS43))), (12, .i (a0.Versions.length : Int)), (13, .i v31)] []) Sub.tt ?_
    refine Chain.nil ?_
    cases h
    refine PostI.next ?_
    exact Sub.tt
   ·have c29_ : decide (x27.Key = a1) = false := Bool.eq_false_iff.2 c29
    refine AW.condF (b := decide (x27.Key = a1)) rfl c29_ ?_
    refine AW.sub (Sub.bool 20 (b := decide (x27.Key = a1)) rfl c29_) ?_
    refine AW.sub (S' := mk 27 [] [(1, .d (.lit (.string a1))), (5, .i v7), (7, .ptr 7 0 0), (11, .d (.sl (a0.Versions.map cS43))), (12, .i (a0.Versions.length : Int)), (13, .i v8), (20, .b false)] [(7, some (.box [.d (.lit (.string x27.Key)), .i x27.Timestamp, .b x27.Tombstone, .d (.sl (x27.Row.map cS53))]))]) (by simp; exact Sub.table (by simp) (by simp)) ?_
    refine AW.skip ?_
    refine blockQ.normal ?_
    refine thenQ_normal ?_
    refine AW.region ?_
    replace h := bsome h; obtain ⟨v32, hv32, h⟩ := h
    have hv32 := chkI_some hv32
    refine Chain.runK [] 2 fun K hK => ?_; simp [hv32]; refine hK _ _ ?_; clear hK K
    refine Chain.sub (S' := mk 27 [] [(1, .d (.lit (.string a1))), (5, .i v7), (11, .d (.sl (a0.Versions.map cS43))), (12, .i (a0.Versions.length : Int)), (13, .i v32)] []) Sub.tt ?_
    refine Chain.nil ?_
    cases h
    refine PostI.next ?_
    exact Sub.tt
  ·have c26_ : decide (v8 < (a0.Versions.length : Int)) = false := decide_eq_false c26
   refine AW.condF (b := decide (v8 < (a0.Versions.length : Int))) rfl c26_ ?_
   refine AW.sub (Sub.bool 14 (b := decide (v8 < (a0.Versions.length : Int))) rfl c26_) ?_
   refine AW.sub (S' := mk 27 [] [(1, .d (.lit (.string a1))), (5, .i v7), (11, .d (.sl (a0.Versions.map cS43))), (12, .i (a0.Versions.length : Int)), (13, .i v8), (14, .b false)] []) (by simp; exact Sub.table (by simp) (by simp)) ?_
   refine AW.exit ?_
   cases h
   refine thenQ_pass (by simp) ?_
   refine PostI.out (by simp) ?_
   rintro rfl
   refine blockQ.hit ?_
   refine PostN.next ?_
   exact Sub.tt
 ·rintro v25 h
  refine thenQ_normal ?_
  refine AW.seqR ?_
  refine Chain.runK [] 2 fun K hK => ?_; simp; refine hK _ _ ?_; clear hK K
  refine Chain.sub (S' := mk 27 [] [(4, .i v25)] []) Sub.tt ?_
  refine Chain.nil ?_
  refine AW.ret ?_
  cases h
  exact FinC.ret (by simp) (by simp)

/-- (*stemma/stemref5.Store).Add -/
def d11 (N : Nat) (a0 : S36) (a1 : S43) : Option (S36 × Int) :=
 Option.bind (α := Bool) (
  if (a1.Key.size : Int) > 24 then (
   some true
  ) else
  some (decide ((a1.Row.length : Int) > 6))
 ) fun (v2 : Bool) =>
 if v2 = true then (
  some (a0, 2)
 ) else
 (d26 N a1.Timestamp 1 1099511627776).bind fun r5 =>
 if (!r5) = true then (
  some (a0, 1)
 ) else
 if a1.Timestamp ≤ a0.Horizon then (
  some (a0, 21)
 ) else
 (d22 N a0 a1.Key).bind fun r8 =>
 if r8 ≥ a1.Timestamp then (
  some (a0, 6)
 ) else
 if (a0.Versions.length : Int) ≥ 400 then (
  some (a0, 18)
 ) else
 (appL 56 a0.Versions [a1]).bind fun _l11 =>
 some ((S36.mk (a0.Versions ++ [a1]) a0.Horizon), 0)
set_option maxRecDepth 100000 in
set_option maxHeartbeats 4000000 in
theorem p11 (N : Nat) (a0 : S36) (a1 : S43) (r : (S36 × Int)) (h : d11 N a0 a1 = some r) : FunM Try.prog 11 [.ptr 1000 0 0, .agg [.d (.lit (.string a1.Key)), .i a1.Timestamp, .b a1.Tombstone, .d (.sl (a1.Row.map cS53))]] [(1000, some (.box [.ref 25000 0 a0.Versions.length, .i a0.Horizon])), (25000, R43 a0.Versions)] [1000] (.i r.2) ([(1000, (.box [.ref 25000 0 r.1.Versions.length, .i r.1.Horizon])), (25000, (.arr 43 4 (r.1.Versions.map cS43)))]) := by
 unfold d11 at h
 refine FunM.enter 54 [(0, .ptr 1000 0 0), (1, .agg [.d (.lit (.string a1.Key)), .i a1.Timestamp, .b a1.Tombstone, .d (.sl (a1.Row.map cS53))])] Try.func11 rfl (of_decide_eq_true rfl) rfl rfl ?_
 refine AW.seqR ?_
 refine Chain.runK [] 2 fun K hK => ?_; simp; refine hK _ _ ?_; clear hK K
 refine Chain.sub (S' := mk 54 [1000] [(0, .ptr 1000 0 0), (3, .ptr 3 0 0)] [(3, some (.box [.d (.lit (.string a1.Key)), .i a1.Timestamp, .b a1.Tombstone, .d (.sl (a1.Row.map cS53))])), (1000, some (.box [.ref 25000 0 a0.Versions.length, .i a0.Horizon])), (25000, R43 a0.Versions)]) Sub.tt ?_
 refine Chain.nil ?_
 refine AW.seq ?_
 refine AW.block ?_
 replace h := bsome h; obtain ⟨v2, hj, h⟩ := h
 refine AW.cutR (mk 54 [1000] [(0, .ptr 1000 0 0), (3, .ptr 3 0 0), (5, .b v2)] [(3, some (.box [.d (.lit (.string a1.Key)), .i a1.Timestamp, .b a1.Tombstone, .d (.sl (a1.Row.map cS53))])), (1000, some (.box [.ref 25000 0 a0.Versions.length, .i a0.Horizon])), (25000, R43 a0.Versions)]) ?_ ?_
 ·clear h; have h := hj; clear hj
  refine Chain.runK [] 5 fun K hK => ?_; simp; refine hK _ _ ?_; clear hK K
  refine Chain.sub (S' := mk 54 [1000] [(0, .ptr 1000 0 0), (3, .ptr 3 0 0), (10, .b (decide ((a1.Key.size : Int) > 24)))] [(3, some (.box [.d (.lit (.string a1.Key)), .i a1.Timestamp, .b a1.Tombstone, .d (.sl (a1.Row.map cS53))])), (1000, some (.box [.ref 25000 0 a0.Versions.length, .i a0.Horizon])), (25000, R43 a0.Versions)]) Sub.tt ?_
  replace h := isome h; rcases h with ⟨c3, h⟩ | ⟨c3, h⟩
  ·have c3_ : decide ((a1.Key.size : Int) > 24) = true := decide_eq_true c3
   refine Chain.sub (Sub.bool 10 (b := decide ((a1.Key.size : Int) > 24)) rfl c3_) ?_
   refine Chain.sub (S' := mk 54 [1000] [(0, .ptr 1000 0 0), (3, .ptr 3 0 0), (10, .b true)] [(3, some (.box [.d (.lit (.string a1.Key)), .i a1.Timestamp, .b a1.Tombstone, .d (.sl (a1.Row.map cS53))])), (1000, some (.box [.ref 25000 0 a0.Versions.length, .i a0.Horizon])), (25000, R43 a0.Versions)]) (by simp; exact Sub.table (by simp) (by simp)) ?_
   refine Chain.runK [] 6 fun K hK => ?_; simp; refine hK _ _ ?_; clear hK K
   refine Chain.sub (S' := mk 54 [1000] [(0, .ptr 1000 0 0), (3, .ptr 3 0 0), (5, .b true)] [(3, some (.box [.d (.lit (.string a1.Key)), .i a1.Timestamp, .b a1.Tombstone, .d (.sl (a1.Row.map cS53))])), (1000, some (.box [.ref 25000 0 a0.Versions.length, .i a0.Horizon])), (25000, R43 a0.Versions)]) Sub.tt ?_
   cases h
   exact Chain.nil Sub.tt
  ·have c3_ : decide ((a1.Key.size : Int) > 24) = false := decide_eq_false c3
   refine Chain.sub (Sub.bool 10 (b := decide ((a1.Key.size : Int) > 24)) rfl c3_) ?_
   refine Chain.sub (S' := mk 54 [1000] [(0, .ptr 1000 0 0), (3, .ptr 3 0 0), (10, .b false)] [(3, some (.box [.d (.lit (.string a1.Key)), .i a1.Timestamp, .b a1.Tombstone, .d (.sl (a1.Row.map cS53))])), (1000, some (.box [.ref 25000 0 a0.Versions.length, .i a0.Horizon])), (25000, R43 a0.Versions)]) (by simp; exact Sub.table (by simp) (by simp)) ?_
   refine Chain.runK [] 6 fun K hK => ?_; simp; refine hK _ _ ?_; clear hK K
   refine Chain.sub (S' := mk 54 [1000] [(0, .ptr 1000 0 0), (3, .ptr 3 0 0), (5, .b (decide ((a1.Row.length : Int) > 6)))] [(3, some (.box [.d (.lit (.string a1.Key)), .i a1.Timestamp, .b a1.Tombstone, .d (.sl (a1.Row.map cS53))])), (1000, some (.box [.ref 25000 0 a0.Versions.length, .i a0.Horizon])), (25000, R43 a0.Versions)]) Sub.tt ?_
   cases h
   exact Chain.nil Sub.tt
 ·clear hj
  replace h := isome h; rcases h with ⟨c4, h⟩ | ⟨c4, h⟩
  ·have c4_ : v2 = true := c4
   refine AW.condT (b := v2) rfl c4_ ?_
   refine AW.sub (Sub.bool 5 (b := v2) rfl c4_) ?_
   refine AW.sub (S' := mk 54 [1000] [(0, .ptr 1000 0 0), (3, .ptr 3 0 0), (5, .b true)] [(3, some (.box [.d (.lit (.string a1.Key)), .i a1.Timestamp, .b a1.Tombstone, .d (.sl (a1.Row.map cS53))])), (1000, some (.box [.ref 25000 0 a0.Versions.length, .i a0.Horizon])), (25000, R43 a0.Versions)]) (by simp; exact Sub.table (by simp) (by simp)) ?_
   refine AW.seqR ?_
   refine Chain.runK [] 1 fun K hK => ?_; simp; refine hK _ _ ?_; clear hK K
   refine Chain.sub (S' := mk 54 [1000] [(4, .i 2)] [(1000, some (.box [.ref 25000 0 a0.Versions.length, .i a0.Horizon])), (25000, R43 a0.Versions)]) Sub.tt ?_
   refine Chain.nil ?_
   refine AW.ret ?_
   cases h
   refine blockQ.ret ?_
   refine thenQ_pass (by simp) ?_
   exact FinF.ret (by simp) (by simp)
  ·have c4_ : v2 = false := Bool.eq_false_iff.2 c4
   refine AW.condF (b := v2) rfl c4_ ?_
   refine AW.sub (Sub.bool 5 (b := v2) rfl c4_) ?_
   refine AW.sub (S' := mk 54 [1000] [(0, .ptr 1000 0 0), (3, .ptr 3 0 0), (5, .b false)] [(3, some (.box [.d (.lit (.string a1.Key)), .i a1.Timestamp, .b a1.Tombstone, .d (.sl (a1.Row.map cS53))])), (1000, some (.box [.ref 25000 0 a0.Versions.length, .i a0.Horizon])), (25000, R43 a0.Versions)]) (by simp; exact Sub.table (by simp) (by simp)) ?_
   refine AW.seqR ?_
   refine Chain.runK [] 2 fun K hK => ?_; simp; refine hK _ _ ?_; clear hK K
   refine Chain.sub (S' := mk 54 [1000] [(0, .ptr 1000 0 0), (3, .ptr 3 0 0), (18, .i a1.Timestamp)] [(3, some (.box [.d (.lit (.string a1.Key)), .i a1.Timestamp, .b a1.Tombstone, .d (.sl (a1.Row.map cS53))])), (1000, some (.box [.ref 25000 0 a0.Versions.length, .i a0.Horizon])), (25000, R43 a0.Versions)]) Sub.tt ?_
   replace h := bsome h; obtain ⟨r5, hr5, h⟩ := h
   refine Chain.callL (d := 19) (p26 N a1.Timestamp 1 1099511627776 r5 hr5) (by simp) rfl rfl (by simp <;> rfl) (by simp <;> rfl) ent26 (by simp <;> rfl) ?_
   refine Chain.sub (S' := mk 54 [1000] [(0, .ptr 1000 0 0), (3, .ptr 3 0 0), (18, .i a1.Timestamp), (19, .b r5)] [(3, some (.box [.d (.lit (.string a1.Key)), .i a1.Timestamp, .b a1.Tombstone, .d (.sl (a1.Row.map cS53))])), (1000, some (.box [.ref 25000 0 a0.Versions.length, .i a0.Horizon])), (25000, R43 a0.Versions)]) (by simp; exact Sub.table (by simp) (by simp)) ?_
   refine Chain.runK [] 2 fun K hK => ?_; simp; refine hK _ _ ?_; clear hK K
   refine Chain.sub (S' := mk 54 [1000] [(0, .ptr 1000 0 0), (3, .ptr 3 0 0), (16, .b (!r5))] [(3, some (.box [.d (.lit (.string a1.Key)), .i a1.Timestamp, .b a1.Tombstone, .d (.sl (a1.Row.map cS53))])), (1000, some (.box [.ref 25000 0 a0.Versions.length, .i a0.Horizon])), (25000, R43 a0.Versions)]) Sub.tt ?_
   refine Chain.nil ?_
   replace h := isome h; rcases h with ⟨c6, h⟩ | ⟨c6, h⟩
   ·have c6_ : (!r5) = true := c6
    refine AW.condT (b := (!r5)) rfl c6_ ?_
    refine AW.sub (Sub.bool 16 (b := (!r5)) rfl c6_) ?_
    refine AW.sub (S' := mk 54 [1000] [(0, .ptr 1000 0 0), (3, .ptr 3 0 0), (16, .b true)] [(3, some (.box [.d (.lit (.string a1.Key)), .i a1.Timestamp, .b a1.Tombstone, .d (.sl (a1.Row.map cS53))])), (1000, some (.box [.ref 25000 0 a0.Versions.length, .i a0.Horizon])), (25000, R43 a0.Versions)]) (by simp; exact Sub.table (by simp) (by simp)) ?_
    refine AW.seqR ?_
    refine Chain.runK [] 1 fun K hK => ?_; simp; refine hK _ _ ?_; clear hK K
    refine Chain.sub (S' := mk 54 [1000] [(4, .i 1)] [(1000, some (.box [.ref 25000 0 a0.Versions.length, .i a0.Horizon])), (25000, R43 a0.Versions)]) Sub.tt ?_
    refine Chain.nil ?_
    refine AW.ret ?_
    cases h
    refine blockQ.ret ?_
    refine thenQ_pass (by simp) ?_
    exact FinF.ret (by simp) (by simp)
   ·have c6_ : (!r5) = false := Bool.eq_false_iff.2 c6
    refine AW.condF (b := (!r5)) rfl c6_ ?_
    refine AW.sub (Sub.bool 16 (b := (!r5)) rfl c6_) ?_
    refine AW.sub (S' := mk 54 [1000] [(0, .ptr 1000 0 0), (3, .ptr 3 0 0), (16, .b false)] [(3, some (.box [.d (.lit (.string a1.Key)), .i a1.Timestamp, .b a1.Tombstone, .d (.sl (a1.Row.map cS53))])), (1000, some (.box [.ref 25000 0 a0.Versions.length, .i a0.Horizon])), (25000, R43 a0.Versions)]) (by simp; exact Sub.table (by simp) (by simp)) ?_
    refine AW.seqQ (by kernel_rfl) (by kernel_rfl) ?_
    refine Chain.runQ 8 fun K hK => ?_; simp; refine hK _ _ ?_; clear hK K
    refine Chain.sub (S' := mk 54 [1000] [(0, .ptr 1000 0 0), (3, .ptr 3 0 0), (21, .b (decide (a1.Timestamp ≤ a0.Horizon)))] [(3, some (.box [.d (.lit (.string a1.Key)), .i a1.Timestamp, .b a1.Tombstone, .d (.sl (a1.Row.map cS53))])), (1000, some (.box [.ref 25000 0 a0.Versions.length, .i a0.Horizon])), (25000, R43 a0.Versions)]) Sub.tt ?_
    refine Chain.nil ?_
    replace h := isome h; rcases h with ⟨c7, h⟩ | ⟨c7, h⟩
    ·have c7_ : decide (a1.Timestamp ≤ a0.Horizon) = true := decide_eq_true c7
     refine AW.condT (b := decide (a1.Timestamp ≤ a0.Horizon)) rfl c7_ ?_
     refine AW.sub (Sub.bool 21 (b := decide (a1.Timestamp ≤ a0.Horizon)) rfl c7_) ?_
     refine AW.sub (S' := mk 54 [1000] [(0, .ptr 1000 0 0), (3, .ptr 3 0 0), (21, .b true)] [(3, some (.box [.d (.lit (.string a1.Key)), .i a1.Timestamp, .b a1.Tombstone, .d (.sl (a1.Row.map cS53))])), (1000, some (.box [.ref 25000 0 a0.Versions.length, .i a0.Horizon])), (25000, R43 a0.Versions)]) (by simp; exact Sub.table (by simp) (by simp)) ?_
     refine AW.seqR ?_
     refine Chain.runK [] 1 fun K hK => ?_; simp; refine hK _ _ ?_; clear hK K
     refine Chain.sub (S' := mk 54 [1000] [(4, .i 21)] [(1000, some (.box [.ref 25000 0 a0.Versions.length, .i a0.Horizon])), (25000, R43 a0.Versions)]) Sub.tt ?_
     refine Chain.nil ?_
     refine AW.ret ?_
     cases h
     refine blockQ.ret ?_
     refine thenQ_pass (by simp) ?_
     exact FinF.ret (by simp) (by simp)
    ·have c7_ : decide (a1.Timestamp ≤ a0.Horizon) = false := decide_eq_false c7
     refine AW.condF (b := decide (a1.Timestamp ≤ a0.Horizon)) rfl c7_ ?_
     refine AW.sub (Sub.bool 21 (b := decide (a1.Timestamp ≤ a0.Horizon)) rfl c7_) ?_
     refine AW.sub (S' := mk 54 [1000] [(0, .ptr 1000 0 0), (3, .ptr 3 0 0), (21, .b false)] [(3, some (.box [.d (.lit (.string a1.Key)), .i a1.Timestamp, .b a1.Tombstone, .d (.sl (a1.Row.map cS53))])), (1000, some (.box [.ref 25000 0 a0.Versions.length, .i a0.Horizon])), (25000, R43 a0.Versions)]) (by simp; exact Sub.table (by simp) (by simp)) ?_
     refine AW.seqQ (by kernel_rfl) (by kernel_rfl) ?_
     refine Chain.runQ 3 fun K hK => ?_; simp; refine hK _ _ ?_; clear hK K
     refine Chain.sub (S' := mk 54 [1000] [(0, .ptr 1000 0 0), (3, .ptr 3 0 0), (30, .ptr 1000 0 0), (32, .d (.lit (.string a1.Key)))] [(3, some (.box [.d (.lit (.string a1.Key)), .i a1.Timestamp, .b a1.Tombstone, .d (.sl (a1.Row.map cS53))])), (1000, some (.box [.ref 25000 0 a0.Versions.length, .i a0.Horizon])), (25000, R43 a0.Versions)]) Sub.tt ?_
     replace h := bsome h; obtain ⟨r8, hr8, h⟩ := h
     refine Chain.callL (d := 33) (p22 N a0 a1.Key r8 hr8) (by simp) rfl rfl (by simp <;> rfl) (by simp <;> rfl) ent22 (by simp <;> rfl) ?_
     refine Chain.sub (S' := mk 54 [1000] [(0, .ptr 1000 0 0), (3, .ptr 3 0 0), (30, .ptr 1000 0 0), (32, .d (.lit (.string a1.Key))), (33, .i r8)] [(3, some (.box [.d (.lit (.string a1.Key)), .i a1.Timestamp, .b a1.Tombstone, .d (.sl (a1.Row.map cS53))])), (1000, some (.box [.ref 25000 0 a0.Versions.length, .i a0.Horizon])), (25000, R43 a0.Versions)]) (by simp; exact Sub.table (by simp) (by simp)) ?_
     refine Chain.runQ 4 fun K hK => ?_; simp; refine hK _ _ ?_; clear hK K
     refine Chain.sub (S' := mk 54 [1000] [(0, .ptr 1000 0 0), (3, .ptr 3 0 0), (29, .b (decide (r8 ≥ a1.Timestamp)))] [(3, some (.box [.d (.lit (.string a1.Key)), .i a1.Timestamp, .b a1.Tombstone, .d (.sl (a1.Row.map cS53))])), (1000, some (.box [.ref 25000 0 a0.Versions.length, .i a0.Horizon])), (25000, R43 a0.Versions)]) Sub.tt ?_
     refine Chain.nil ?_
     replace h := isome h; rcases h with ⟨c9, h⟩ | ⟨c9, h⟩
     ·have c9_ : decide (r8 ≥ a1.Timestamp) = true := decide_eq_true c9
      refine AW.condT (b := decide (r8 ≥ a1.Timestamp)) rfl c9_ ?_
      refine AW.sub (Sub.bool 29 (b := decide (r8 ≥ a1.Timestamp)) rfl c9_) ?_
      refine AW.sub (S' := mk 54 [1000] [(0, .ptr 1000 0 0), (3, .ptr 3 0 0), (29, .b true)] [(3, some (.box [.d (.lit (.string a1.Key)), .i a1.Timestamp, .b a1.Tombstone, .d (.sl (a1.Row.map cS53))])), (1000, some (.box [.ref 25000 0 a0.Versions.length, .i a0.Horizon])), (25000, R43 a0.Versions)]) (by simp; exact Sub.table (by simp) (by simp)) ?_
      refine AW.seqR ?_
      refine Chain.runK [] 1 fun K hK => ?_; simp; refine hK _ _ ?_; clear hK K
      refine Chain.sub (S' := mk 54 [1000] [(4, .i 6)] [(1000, some (.box [.ref 25000 0 a0.Versions.length, .i a0.Horizon])), (25000, R43 a0.Versions)]) Sub.tt ?_
      refine Chain.nil ?_
      refine AW.ret ?_
      cases h
      refine blockQ.ret ?_
      refine thenQ_pass (by simp) ?_
      exact FinF.ret (by simp) (by simp)
     ·have c9_ : decide (r8 ≥ a1.Timestamp) = false := decide_eq_false c9
      refine AW.condF (b := decide (r8 ≥ a1.Timestamp)) rfl c9_ ?_
      refine AW.sub (Sub.bool 29 (b := decide (r8 ≥ a1.Timestamp)) rfl c9_) ?_
      refine AW.sub (S' := mk 54 [1000] [(0, .ptr 1000 0 0), (3, .ptr 3 0 0), (29, .b false)] [(3, some (.box [.d (.lit (.string a1.Key)), .i a1.Timestamp, .b a1.Tombstone, .d (.sl (a1.Row.map cS53))])), (1000, some (.box [.ref 25000 0 a0.Versions.length, .i a0.Horizon])), (25000, R43 a0.Versions)]) (by simp; exact Sub.table (by simp) (by simp)) ?_
      refine AW.seqR ?_
      refine Chain.runK [] 7 fun K hK => ?_; simp; refine hK _ _ ?_; clear hK K
      refine Chain.sub (S' := mk 54 [1000] [(0, .ptr 1000 0 0), (3, .ptr 3 0 0), (37, .b (decide ((a0.Versions.length : Int) ≥ 400)))] [(3, some (.box [.d (.lit (.string a1.Key)), .i a1.Timestamp, .b a1.Tombstone, .d (.sl (a1.Row.map cS53))])), (1000, some (.box [.ref 25000 0 a0.Versions.length, .i a0.Horizon])), (25000, R43 a0.Versions)]) Sub.tt ?_
      refine Chain.nil ?_
      replace h := isome h; rcases h with ⟨c10, h⟩ | ⟨c10, h⟩
      ·have c10_ : decide ((a0.Versions.length : Int) ≥ 400) = true := decide_eq_true c10
       refine AW.condT (b := decide ((a0.Versions.length : Int) ≥ 400)) rfl c10_ ?_
       refine AW.sub (Sub.bool 37 (b := decide ((a0.Versions.length : Int) ≥ 400)) rfl c10_) ?_
       refine AW.sub (S' := mk 54 [1000] [(0, .ptr 1000 0 0), (3, .ptr 3 0 0), (37, .b true)] [(3, some (.box [.d (.lit (.string a1.Key)), .i a1.Timestamp, .b a1.Tombstone, .d (.sl (a1.Row.map cS53))])), (1000, some (.box [.ref 25000 0 a0.Versions.length, .i a0.Horizon])), (25000, R43 a0.Versions)]) (by simp; exact Sub.table (by simp) (by simp)) ?_
       refine AW.seqR ?_
       refine Chain.runK [] 1 fun K hK => ?_; simp; refine hK _ _ ?_; clear hK K
       refine Chain.sub (S' := mk 54 [1000] [(4, .i 18)] [(1000, some (.box [.ref 25000 0 a0.Versions.length, .i a0.Horizon])), (25000, R43 a0.Versions)]) Sub.tt ?_
       refine Chain.nil ?_
       refine AW.ret ?_
       cases h
       refine blockQ.ret ?_
       refine thenQ_pass (by simp) ?_
       exact FinF.ret (by simp) (by simp)
      ·have c10_ : decide ((a0.Versions.length : Int) ≥ 400) = false := decide_eq_false c10
       refine AW.condF (b := decide ((a0.Versions.length : Int) ≥ 400)) rfl c10_ ?_
       refine AW.sub (Sub.bool 37 (b := decide ((a0.Versions.length : Int) ≥ 400)) rfl c10_) ?_
       refine AW.sub (S' := mk 54 [1000] [(0, .ptr 1000 0 0), (3, .ptr 3 0 0), (37, .b false)] [(3, some (.box [.d (.lit (.string a1.Key)), .i a1.Timestamp, .b a1.Tombstone, .d (.sl (a1.Row.map cS53))])), (1000, some (.box [.ref 25000 0 a0.Versions.length, .i a0.Horizon])), (25000, R43 a0.Versions)]) (by simp; exact Sub.table (by simp) (by simp)) ?_
       refine AW.skip ?_
       refine blockQ.normal ?_
       refine thenQ_normal ?_
       replace h := bsome h; obtain ⟨l11, hl11, h⟩ := h
       obtain ⟨hl11a, hl11⟩ := appL_some hl11
       subst hl11
       try simp only [List.length_cons, List.length_nil, Nat.zero_add] at hl11a
       refine AW.seqAnyS [[], [], [1], [1, 2], [1, 2, 3], [], [5], [1, 2, 3, 4, 5, 6], [0, 1, 2, 3, 4, 5, 6, 7], [0, 1, 2, 3, 4, 5, 6, 7, 8], [0, 1, 2, 3, 4, 5, 6, 7, 8, 9]] (fun (b : Nat → Bool) => mk 54 [1000] [(0, .ptr 1000 0 0), (3, .ptr 3 0 0), (44, (if b 0 then .ptr 1000 0 0 else .junk)), (45, (if b 1 then .ptr 1000 0 0 else .junk)), (46, (if b 2 then .ptr 1000 0 0 else .junk)), (47, (if b 3 then .ptr 1000 0 0 else .junk)), (48, (if b 7 then .junk else (if b 4 then .ref 25000 0 a0.Versions.length else .junk))), (49, (if b 5 then .agg [.d (.lit (.string a1.Key)), .i a1.Timestamp, .b a1.Tombstone, .d (.sl (a1.Row.map cS53))] else .junk)), (50, (if b 6 then .d (.sl ([a1].map cS43)) else .junk)), (51, (if b 7 then .ref 25000 0 ((a0.Versions ++ [a1]).length) else .junk)), (52, (if b 8 then .ptr 1000 0 0 else .junk)), (53, (if b 9 then .ptr 1000 0 0 else .junk))] [(3, some (.box [.d (.lit (.string a1.Key)), .i a1.Timestamp, .b a1.Tombstone, .d (.sl (a1.Row.map cS53))])), (1000, (if b 10 then some (.box [.ref 25000 0 ((a0.Versions ++ [a1]).length), .i a0.Horizon]) else (if b 7 then some (.box [.hole, .i a0.Horizon]) else some (.box [.ref 25000 0 a0.Versions.length, .i a0.Horizon])))), (25000, (if b 7 then R43 (a0.Versions ++ [a1]) else R43 a0.Versions))]) (mk 54 [1000] [] [(1000, some (.box [.ref 25000 0 ((a0.Versions ++ [a1]).length), .i a0.Horizon])), (25000, R43 (a0.Versions ++ [a1]))]) (by kernel_rfl) (by kernel_rfl) Sub.tt (Steps.cons ?_ (Steps.cons ?_ (Steps.cons ?_ (Steps.cons ?_ (Steps.cons ?_ (Steps.cons ?_ (Steps.cons ?_ (Steps.cons ?_ (Steps.cons ?_ (Steps.cons ?_ (Steps.cons ?_ (Steps.nil)))))))))))) ?_ ?_
       ·intro b h0 ha hd
        have f8 : b 8 = false := hd 8 (by decide)
        have f9 : b 9 = false := hd 9 (by decide)
        have f10 : b 10 = false := hd 10 (by decide)
        refine Chain.runK [50] 1 fun K hK => ?_; simp [h0, f8, f9, f10]; refine hK _ _ ?_; clear hK K
        exact Chain.nil (Sub.table (by simp [f8, f9]) (by simp [f10]))
       ·intro b h0 ha hd
        have f2 : b 2 = false := hd 2 (by decide)
        have f3 : b 3 = false := hd 3 (by decide)
        have f4 : b 4 = false := hd 4 (by decide)
        have f7 : b 7 = false := hd 7 (by decide)
        have f8 : b 8 = false := hd 8 (by decide)
        have f9 : b 9 = false := hd 9 (by decide)
        have f10 : b 10 = false := hd 10 (by decide)
        refine Chain.runK [50] 1 fun K hK => ?_; simp [h0, f2, f3, f4, f7, f8, f9, f10]; refine hK _ _ ?_; clear hK K
        exact Chain.nil (Sub.table (by simp [f2, f3, f4, f7, f8, f9]) (by simp [f7, f10]))
       ·intro b h0 ha hd
        have t1 : b 1 = true := ha 1 (by decide)
        have f3 : b 3 = false := hd 3 (by decide)
        have f4 : b 4 = false := hd 4 (by decide)
        have f7 : b 7 = false := hd 7 (by decide)
        have f8 : b 8 = false := hd 8 (by decide)
        have f9 : b 9 = false := hd 9 (by decide)
        have f10 : b 10 = false := hd 10 (by decide)
        refine Chain.runK [50] 1 fun K hK => ?_; simp [h0, t1, f3, f4, f7, f8, f9, f10]; refine hK _ _ ?_; clear hK K
        exact Chain.nil (Sub.table (by simp [t1, f3, f4, f7, f8, f9]) (by simp [f7, f10]))
       ·intro b h0 ha hd
        have t1 : b 1 = true := ha 1 (by decide)
        have t2 : b 2 = true := ha 2 (by decide)
        have f4 : b 4 = false := hd 4 (by decide)
        have f7 : b 7 = false := hd 7 (by decide)
        have f8 : b 8 = false := hd 8 (by decide)
        have f9 : b 9 = false := hd 9 (by decide)
        have f10 : b 10 = false := hd 10 (by decide)
        refine Chain.runK [50] 1 fun K hK => ?_; simp [h0, t1, t2, f4, f7, f8, f9, f10]; refine hK _ _ ?_; clear hK K
        exact Chain.nil (Sub.table (by simp [t1, t2, f4, f7, f8, f9]) (by simp [f7, f10]))
       ·intro b h0 ha hd
        have t1 : b 1 = true := ha 1 (by decide)
        have t2 : b 2 = true := ha 2 (by decide)
        have t3 : b 3 = true := ha 3 (by decide)
        have f7 : b 7 = false := hd 7 (by decide)
        have f8 : b 8 = false := hd 8 (by decide)
        have f9 : b 9 = false := hd 9 (by decide)
        have f10 : b 10 = false := hd 10 (by decide)
        refine Chain.runK [50] 1 fun K hK => ?_; simp [h0, t1, t2, t3, f7, f8, f9, f10]; refine hK _ _ ?_; clear hK K
        exact Chain.nil (Sub.table (by simp [t1, t2, t3, f7, f8, f9]) (by simp [f7, f10]))
       ·intro b h0 ha hd
        have f6 : b 6 = false := hd 6 (by decide)
        have f7 : b 7 = false := hd 7 (by decide)
        have f8 : b 8 = false := hd 8 (by decide)
        have f9 : b 9 = false := hd 9 (by decide)
        have f10 : b 10 = false := hd 10 (by decide)
        refine Chain.runK [50] 1 fun K hK => ?_; simp [h0, f6, f7, f8, f9, f10]; refine hK _ _ ?_; clear hK K
        exact Chain.nil (Sub.table (by simp [f6, f7, f8, f9]) (by simp [f7, f10]))
       ·intro b h0 ha hd
        have t5 : b 5 = true := ha 5 (by decide)
        have f7 : b 7 = false := hd 7 (by decide)
        have f8 : b 8 = false := hd 8 (by decide)
        have f9 : b 9 = false := hd 9 (by decide)
        have f10 : b 10 = false := hd 10 (by decide)
        refine Chain.runK [50] 1 fun K hK => ?_; simp [h0, t5, f7, f8, f9, f10]; refine hK _ _ ?_; clear hK K
        exact Chain.nil (Sub.table (by simp [t5, f7, f8, f9]) (by simp [f7, f10]))
       ·intro b h0 ha hd
        have t1 : b 1 = true := ha 1 (by decide)
        have t2 : b 2 = true := ha 2 (by decide)
        have t3 : b 3 = true := ha 3 (by decide)
        have t4 : b 4 = true := ha 4 (by decide)
        have t5 : b 5 = true := ha 5 (by decide)
        have t6 : b 6 = true := ha 6 (by decide)
        have f8 : b 8 = false := hd 8 (by decide)
        have f9 : b 9 = false := hd 9 (by decide)
        have f10 : b 10 = false := hd 10 (by decide)
        refine Chain.runK [50] 1 fun K hK => ?_; simp [h0, t1, t2, t3, t4, t5, t6, f8, f9, f10, hl11a]; refine hK _ _ ?_; clear hK K
        exact Chain.nil (Sub.table (by simp [t1, t2, t3, t5, t6, f8, f9]) (by simp [f10]))
       ·intro b h0 ha hd
        have t0 : b 0 = true := ha 0 (by decide)
        have t1 : b 1 = true := ha 1 (by decide)
        have t2 : b 2 = true := ha 2 (by decide)
        have t3 : b 3 = true := ha 3 (by decide)
        have t4 : b 4 = true := ha 4 (by decide)
        have t5 : b 5 = true := ha 5 (by decide)
        have t6 : b 6 = true := ha 6 (by decide)
        have t7 : b 7 = true := ha 7 (by decide)
        have f9 : b 9 = false := hd 9 (by decide)
        have f10 : b 10 = false := hd 10 (by decide)
        refine Chain.runK [50] 1 fun K hK => ?_; simp [h0, t0, t1, t2, t3, t5, t6, t7, f9, f10]; refine hK _ _ ?_; clear hK K
        exact Chain.nil (Sub.table (by simp [t0, t1, t2, t3, t5, t6, t7, f9]) (by simp [t7, f10]))
       ·intro b h0 ha hd
        have t0 : b 0 = true := ha 0 (by decide)
        have t1 : b 1 = true := ha 1 (by decide)
        have t2 : b 2 = true := ha 2 (by decide)
        have t3 : b 3 = true := ha 3 (by decide)
        have t4 : b 4 = true := ha 4 (by decide)
        have t5 : b 5 = true := ha 5 (by decide)
        have t6 : b 6 = true := ha 6 (by decide)
        have t7 : b 7 = true := ha 7 (by decide)
        have t8 : b 8 = true := ha 8 (by decide)
        have f10 : b 10 = false := hd 10 (by decide)
        refine Chain.runK [50] 1 fun K hK => ?_; simp [h0, t0, t1, t2, t3, t5, t6, t7, t8, f10]; refine hK _ _ ?_; clear hK K
        exact Chain.nil (Sub.table (by simp [t0, t1, t2, t3, t5, t6, t7, t8]) (by simp [t7, f10]))
       ·intro b h0 ha hd
        have t0 : b 0 = true := ha 0 (by decide)
        have t1 : b 1 = true := ha 1 (by decide)
        have t2 : b 2 = true := ha 2 (by decide)
        have t3 : b 3 = true := ha 3 (by decide)
        have t4 : b 4 = true := ha 4 (by decide)
        have t5 : b 5 = true := ha 5 (by decide)
        have t6 : b 6 = true := ha 6 (by decide)
        have t7 : b 7 = true := ha 7 (by decide)
        have t8 : b 8 = true := ha 8 (by decide)
        have t9 : b 9 = true := ha 9 (by decide)
        refine Chain.runK [50] 1 fun K hK => ?_; simp [h0, t0, t1, t2, t3, t5, t6, t7, t8, t9]; refine hK _ _ ?_; clear hK K
        exact Chain.nil (Sub.table (by simp [t0, t1, t2, t3, t5, t6, t7, t8, t9]) (by simp [t7]))
       ·intro b hb
        have t0 := hb 0 (by decide)
        have t1 := hb 1 (by decide)
        have t2 := hb 2 (by decide)
        have t3 := hb 3 (by decide)
        have t4 := hb 4 (by decide)
        have t5 := hb 5 (by decide)
        have t6 := hb 6 (by decide)
        have t7 := hb 7 (by decide)
        have t8 := hb 8 (by decide)
        have t9 := hb 9 (by decide)
        have t10 := hb 10 (by decide)
        exact Sub.table (by simp [t0, t1, t2, t3, t5, t6, t7, t8, t9]) (by simp [t7, t10])
       ·skip
        refine AW.seqR ?_
        refine Chain.runK [] 1 fun K hK => ?_; simp; refine hK _ _ ?_; clear hK K
        refine Chain.sub (S' := mk 54 [1000] [(4, .i 0)] [(1000, some (.box [.ref 25000 0 ((a0.Versions ++ [a1]).length), .i a0.Horizon])), (25000, R43 (a0.Versions ++ [a1]))]) Sub.tt ?_
        refine Chain.nil ?_
        refine AW.ret ?_
        cases h
        exact FinF.ret (by simp) (by simp)

/-- (*stemma/mvcc.Store).Delete -/
def d12 (N : Nat) (a0 : S63) (a1 : ByteArray) (a2 : Int) : Option (S63 × Int) :=
 (d23 N a0 a1 (S67.mk a2 true ([] : List S53))).bind fun r1 =>
 some (r1.1, r1.2)
set_option maxRecDepth 100000 in
set_option maxHeartbeats 4000000 in
theorem p12 (N : Nat) (a0 : S63) (a1 : ByteArray) (a2 : Int) (r : (S63 × Int)) (h : d12 N a0 a1 a2 = some r) : FunM Try.prog 12 [.ptr 1000 0 0, .d (.lit (.string a1)), .i a2] [(1000, some (.box [.ref 25000 0 a0.chains.length, .i a0.horizon])), (25000, some (.nest 72 2 [none, some (67, 3)] (a0.chains.map cS72) []))] [1000] (.i r.2) ([(1000, (.box [.ref 25000 0 r.1.chains.length, .i r.1.horizon])), (25000, (.nest 72 2 [none, some (67, 3)] (r.1.chains.map cS72) []))]) := by
 unfold d12 at h
 refine FunM.enter 12 [(0, .ptr 1000 0 0), (1, .d (.lit (.string a1))), (2, .i a2)] Try.func12 rfl (of_decide_eq_true rfl) rfl rfl ?_
 refine AW.seqR ?_
 refine Chain.runK [] 1 fun K hK => ?_; simp; refine hK _ _ ?_; clear hK K
 refine Chain.sub (S' := mk 12 [1000] [(0, .ptr 1000 0 0), (1, .d (.lit (.string a1))), (2, .i a2)] [(1000, some (.box [.ref 25000 0 a0.chains.length, .i a0.horizon])), (25000, some (.nest 72 2 [none, some (67, 3)] (a0.chains.map cS72) []))]) Sub.tt ?_
 refine Chain.nil ?_
 refine AW.seqR ?_
 refine Chain.runK [] 4 fun K hK => ?_; simp; refine hK _ _ ?_; clear hK K
 refine Chain.sub (S' := mk 12 [1000] [(7, .ptr 1000 0 0), (8, .d (.lit (.string a1))), (10, .agg [.i a2, .b true, .d (.lit (.slice none 0 0))])] [(1000, some (.box [.ref 25000 0 a0.chains.length, .i a0.horizon])), (25000, some (.nest 72 2 [none, some (67, 3)] (a0.chains.map cS72) []))]) Sub.tt ?_
 refine Chain.sub (Sub.wk 10 rfl) ?_
 refine Chain.sub (S' := mk 12 [1000] [(7, .ptr 1000 0 0), (8, .d (.lit (.string a1))), (10, .agg [.i a2, .b true, .d (.sl (([] : List S53).map cS53))])] [(1000, some (.box [.ref 25000 0 a0.chains.length, .i a0.horizon])), (25000, some (.nest 72 2 [none, some (67, 3)] (a0.chains.map cS72) []))]) (by simp; exact Sub.table (by simp) (by simp)) ?_
 replace h := bsome h; obtain ⟨r1, hr1, h⟩ := h
 refine Chain.callF (p23 N a0 a1 (S67.mk a2 true ([] : List S53)) r1 hr1) [(1000, 1000), (25000, 25000)] [1000] [(1000, 1000), (25000, 25000)] [(1000, (.box [.ref 25000 0 r1.1.chains.length, .i r1.1.horizon])), (25000, (.nest 72 2 [none, some (67, 3)] (r1.1.chains.map cS72) []))] (.i r1.2) (by simp) rfl (by simp <;> rfl) (by simp) (by simp) (by simp) (by simp) (by simp) ent23 (by simp) (by simp) (by simp) (by simp) (by simp) (by simp) ?_
 refine Chain.sub (S' := mk 12 [1000] [(7, .ptr 1000 0 0), (8, .d (.lit (.string a1))), (10, .agg [.i a2, .b true, .d (.sl (([] : List S53).map cS53))]), (11, .i r1.2)] [(1000, some (.box [.ref 25000 0 r1.1.chains.length, .i r1.1.horizon])), (25000, some (.nest 72 2 [none, some (67, 3)] (r1.1.chains.map cS72) []))]) (by simp; exact Sub.table (by simp) (by simp)) ?_
 refine Chain.runK [] 1 fun K hK => ?_; simp; refine hK _ _ ?_; clear hK K
 refine Chain.sub (S' := mk 12 [1000] [(6, .i r1.2)] [(1000, some (.box [.ref 25000 0 r1.1.chains.length, .i r1.1.horizon])), (25000, some (.nest 72 2 [none, some (67, 3)] (r1.1.chains.map cS72) []))]) Sub.tt ?_
 refine Chain.nil ?_
 refine AW.ret ?_
 cases h
 exact FinF.ret (by simp) (by simp)

/-- slices.Clone[[]stemma/mvcc.version,stemma/mvcc.version] -/
def d27 (_ : Nat) (a0 : (List S67)) : Option (List S67) := if a0.length * 40 ≤ Rp.reach then some a0 else none
theorem p27 (N : Nat) (a0 : (List S67)) (r : (List S67)) (h : d27 N a0 = some r) : FunO Try.prog 27 [.d (.sl (a0.map cS67))] (.ref 0 0 r.length) (.arr 67 3 (r.map cS67)) := by
 obtain ⟨hz, h⟩ := gsome h
 cases h
 refine FunO.enter 8 [(0, .d (.sl (a0.map cS67)))] Try.func27 rfl (of_decide_eq_true rfl) rfl rfl ?_
 refine AW.goR [] 1 fun K hK => ?_; simp; refine hK _ ?_; clear hK K
 refine AW.seq ?_
 refine AW.seqR ?_
 refine Chain.runK [] 1 fun K hK => ?_; simp; refine hK _ _ ?_; clear hK K
 refine Chain.eqNilE (es := a0.map cS67) (by simp) rfl ty70 rfl (by simp) (by simp) fun b hb => ?_
 refine Chain.nil ?_
 cases b with
 | true =>
  have he : a0 = [] := by
   cases a0 with
   | nil => rfl
   | cons x xs => exact absurd (hb (by simp)) (by simp)
  subst he
  refine AW.condK fun K1 K2 k1 k2 => ?_; simp; refine k1 ?_; clear k1 k2 K1 K2
  refine AW.goR [] 1 fun K hK => ?_; simp; refine hK _ ?_; clear hK K
  refine AW.sub (Sub.nilOwn (t := 2) (id := 902) (T := 67) (n := 3) rfl rfl (by decide)) ?_
  refine AW.sub (S' := mk 8 [] [(2, .ref 902 0 0)] [(902, some (.arr 67 3 []))]) (by simp; exact Sub.table (by simp) (by simp)) ?_
  refine AW.ret ?_
  exact thenQ_pass (by simp) (FinO.ret (.ref 902 0 0) 902 (by simp) (by simp) (by simp) (by simp) rfl)
 | false =>
  refine AW.condK fun K1 K2 k1 k2 => ?_; simp; refine k2 ?_; clear k1 k2 K1 K2
  refine AW.skip ?_
  refine thenQ_normal ?_
  refine AW.goR [] 4 fun K hK => ?_; simp [hz]; refine hK _ ?_; clear hK K
  refine AW.sub (S' := mk 8 [] [(2, .ref 5 0 a0.length)] [(5, R67 a0)]) Sub.tt ?_
  refine AW.ret ?_
  exact FinO.ret (.ref 5 0 a0.length) 5 (by simp) (by simp) (by simp) (by simp) rfl

end Go.Proofs.Ytifcmomjjkbboac
