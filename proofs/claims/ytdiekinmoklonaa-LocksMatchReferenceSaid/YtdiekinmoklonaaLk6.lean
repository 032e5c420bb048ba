/- Functions of the program as functional programs; the code computes them. -/
import Derived.Test.YtdiekinmoklonaaLk5
namespace Go.Proofs.Ytdiekinmoklonaa
open Go.Ab Go.Rp
attribute [-simp] List.all_eq_true Array.all_toList Array.all_eq_true

/-- stemma/stemlaw5.choose[string] -/
def d7 (_N : Nat) (a0 : (List ByteArray)) (a1 : Int) : Option ByteArray :=
 if ((a0.length : Int) == 0) then (
  some (ByteArray.mk #[])
 ) else
 letv (IntKind.u64.wrap (a1)) fun v2 =>
 letv (IntKind.u64.wrap ((a0.length : Int))) fun v3 =>
 (remI v2 v3).bind fun v4 =>
 (chkI (v4)).bind fun v5 =>
 (idx a0 v5).bind fun x6 =>
 some x6
set_option maxRecDepth 100000 in
set_option maxHeartbeats 4000000 in
theorem p7 (N : Nat) (a0 : (List ByteArray)) (a1 : Int) (r : ByteArray) (h : d7 N a0 a1 = some r) : FunC Try.prog 7 [.d (.sl (a0.map cS)), .i a1] (.d (.lit (.string r))) := by
 unfold d7 at h
 refine FunC.enter 20 [(0, .d (.sl (a0.map cS))), (1, .i a1)] (by simp) Try.func7 rfl (of_decide_eq_true rfl) rfl rfl ?_
 refine AW.seqR ?_
 refine Chain.runK [] 1 fun K hK => ?_; simp; refine hK _ _ ?_; clear hK K
 refine Chain.sub (S' := mk 20 [] [(0, .d (.sl (a0.map cS))), (1, .i a1)] []) Sub.tt ?_
 refine Chain.nil ?_
 refine AW.seqR ?_
 refine Chain.runK [] 1 fun K hK => ?_; simp; refine hK _ _ ?_; clear hK K
 refine Chain.sub (S' := mk 20 [] [(0, .d (.sl (a0.map cS))), (1, .i a1), (5, .d (.lit (.string (ByteArray.mk #[]))))] []) Sub.tt ?_
 refine Chain.nil ?_
 refine AW.seq ?_
 refine AW.seqR ?_
 refine Chain.runK [] 3 fun K hK => ?_; simp; refine hK _ _ ?_; clear hK K
 refine Chain.sub (S' := mk 20 [] [(0, .d (.sl (a0.map cS))), (1, .i a1), (5, .d (.lit (.string (ByteArray.mk #[])))), (8, .b ((a0.length : Int) == 0))] []) Sub.tt ?_
 refine Chain.nil ?_
 replace h := isome h; rcases h with ⟨c1, h⟩ | ⟨c1, h⟩
 ·have c1_ : ((a0.length : Int) == 0) = true := c1
  refine AW.condT (b := ((a0.length : Int) == 0)) rfl c1_ ?_
  refine AW.sub (Sub.bool 8 (b := ((a0.length : Int) == 0)) rfl c1_) ?_
  refine AW.sub (S' := mk 20 [] [(0, .d (.sl (a0.map cS))), (1, .i a1), (5, .d (.lit (.string (ByteArray.mk #[])))), (8, .b true)] []) (by simp; exact Sub.table (by simp) (by simp)) ?_
  refine AW.seqR ?_
  refine Chain.runK [] 2 fun K hK => ?_; simp; refine hK _ _ ?_; clear hK K
  refine Chain.sub (S' := mk 20 [] [(4, .d (.lit (.string (ByteArray.mk #[]))))] []) Sub.tt ?_
  refine Chain.nil ?_
  refine AW.ret ?_
  cases h
  refine thenQ_pass (by simp) ?_
  exact FinC.ret (by simp) (by simp)
 ·have c1_ : ((a0.length : Int) == 0) = false := Bool.eq_false_iff.2 c1
  refine AW.condF (b := ((a0.length : Int) == 0)) rfl c1_ ?_
  refine AW.sub (Sub.bool 8 (b := ((a0.length : Int) == 0)) rfl c1_) ?_
  refine AW.sub (S' := mk 20 [] [(0, .d (.sl (a0.map cS))), (1, .i a1), (5, .d (.lit (.string (ByteArray.mk #[])))), (8, .b false)] []) (by simp; exact Sub.table (by simp) (by simp)) ?_
  refine AW.skip ?_
  refine thenQ_normal ?_
  refine AW.seqR ?_
  replace h := lsome h; obtain ⟨v2, hv2, h⟩ := h
  replace h := lsome h; obtain ⟨v3, hv3, h⟩ := h
  replace h := bsome h; obtain ⟨v4, hv4, h⟩ := h
  obtain ⟨hv4a, hv4⟩ := remI_some hv4
  replace h := bsome h; obtain ⟨v5, hv5, h⟩ := h
  have hv5 := chkI_some hv5
  replace h := bsome h; obtain ⟨x6, hx6, h⟩ := h
  obtain ⟨k7, hx6k, hx6, hx6a, hx6b⟩ := idx_some hx6
  refine Chain.runK [] 11 fun K hK => ?_; simp [hv2, hv3, hv4, hv4a, hv5, hx6, hx6k, hx6a]; refine hK _ _ ?_; clear hK K
  refine Chain.sub (S' := mk 20 [] [(4, .d (.lit (.string x6)))] []) Sub.tt ?_
  refine Chain.nil ?_
  refine AW.ret ?_
  cases h
  exact FinC.ret (by simp) (by simp)

/-- stemma/stemref5.Between -/
def d10 (_N : Nat) (a0 : Int) (a1 : Int) (a2 : Int) : Option Bool :=
 Option.bind (α := Bool) (
  if a0 ≥ a1 then (
   some (decide (a0 ≤ a2))
  ) else
  some false
 ) fun (v2 : Bool) =>
 some v2
set_option maxRecDepth 100000 in
set_option maxHeartbeats 4000000 in
theorem p10 (N : Nat) (a0 : Int) (a1 : Int) (a2 : Int) (r : Bool) (h : d10 N a0 a1 a2 = some r) : FunC Try.prog 10 [.i a0, .i a1, .i a2] (.b r) := by
 unfold d10 at h
 refine FunC.enter 15 [(0, .i a0), (1, .i a1), (2, .i a2)] (by simp) Try.func10 rfl (of_decide_eq_true rfl) rfl rfl ?_
 refine AW.seqR ?_
 refine Chain.runK [] 1 fun K hK => ?_; simp; refine hK _ _ ?_; clear hK K
 refine Chain.sub (S' := mk 15 [] [(0, .i a0), (1, .i a1), (2, .i a2)] []) Sub.tt ?_
 refine Chain.nil ?_
 replace h := bsome h; obtain ⟨v2, hj, h⟩ := h
 refine AW.cutR (mk 15 [] [(6, .b v2)] []) ?_ ?_
 ·clear h; have h := hj; clear hj
  refine Chain.runK [] 4 fun K hK => ?_; simp; refine hK _ _ ?_; clear hK K
  refine Chain.sub (S' := mk 15 [] [(0, .i a0), (2, .i a2), (10, .b (decide (a0 ≥ a1)))] []) Sub.tt ?_
  replace h := isome h; rcases h with ⟨c3, h⟩ | ⟨c3, h⟩
  ·have c3_ : decide (a0 ≥ a1) = true := decide_eq_true c3
   refine Chain.sub (Sub.bool 10 (b := decide (a0 ≥ a1)) rfl c3_) ?_
   refine Chain.sub (S' := mk 15 [] [(0, .i a0), (2, .i a2), (10, .b true)] []) (by simp; exact Sub.table (by simp) (by simp)) ?_
   refine Chain.runK [] 5 fun K hK => ?_; simp; refine hK _ _ ?_; clear hK K
   refine Chain.sub (S' := mk 15 [] [(6, .b (decide (a0 ≤ a2)))] []) Sub.tt ?_
   cases h
   exact Chain.nil Sub.tt
  ·have c3_ : decide (a0 ≥ a1) = false := decide_eq_false c3
   refine Chain.sub (Sub.bool 10 (b := decide (a0 ≥ a1)) rfl c3_) ?_
   refine Chain.sub (S' := mk 15 [] [(0, .i a0), (2, .i a2), (10, .b false)] []) (by simp; exact Sub.table (by simp) (by simp)) ?_
   refine Chain.runK [] 5 fun K hK => ?_; simp; refine hK _ _ ?_; clear hK K
   refine Chain.sub (S' := mk 15 [] [(6, .b false)] []) Sub.tt ?_
   cases h
   exact Chain.nil Sub.tt
 ·clear hj
  refine AW.ret ?_
  cases h
  exact FinC.ret (by simp) (by simp)

/-- (stemma/stemref5.Lock).Validate -/
def d23 (N : Nat) (a0 : S29) : Option Int :=
 (d10 N a0.Tx 0 19).bind fun r1 =>
 if (!r1) = true then (
  some 1
 ) else
 Option.bind (α := Bool) (
  (d10 N a0.Mode 1 4).bind fun r8 =>
  if (!r8) = true then (
   some true
  ) else
  if a0.Mode > 2 then (
   if (!decide (a0.Key = (ByteArray.mk #[]))) = true then (
    some true
   ) else
   some (decide (a0.Table = (ByteArray.mk #[])))
  ) else
  some (decide (a0.Table = (ByteArray.mk #[])))
 ) fun (v7 : Bool) =>
 if v7 = true then (
  some 3
 ) else
 Option.bind (α := Bool) (
  if (a0.Table.size : Int) > 24 then (
   some true
  ) else
  some (decide ((a0.Key.size : Int) > 24))
 ) fun (v14 : Bool) =>
 if v14 = true then (
  some 2
 ) else
 some 0
set_option maxRecDepth 100000 in
set_option maxHeartbeats 4000000 in
theorem p23 (N : Nat) (a0 : S29) (r : Int) (h : d23 N a0 = some r) : FunC Try.prog 23 [.agg [.i a0.Tx, .d (.lit (.string a0.Table)), .d (.lit (.string a0.Key)), .i a0.Mode]] (.i r) := by
 unfold d23 at h
 refine FunC.enter 39 [(0, .agg [.i a0.Tx, .d (.lit (.string a0.Table)), .d (.lit (.string a0.Key)), .i a0.Mode])] (by simp) Try.func23 rfl (of_decide_eq_true rfl) rfl rfl ?_
 refine AW.seqR ?_
 refine Chain.runK [] 2 fun K hK => ?_; simp; refine hK _ _ ?_; clear hK K
 refine Chain.sub (S' := mk 39 [] [(1, .ptr 1 0 0)] [(1, some (.box [.i a0.Tx, .d (.lit (.string a0.Table)), .d (.lit (.string a0.Key)), .i a0.Mode]))]) Sub.tt ?_
 refine Chain.nil ?_
 refine AW.seq ?_
 refine AW.block ?_
 refine AW.seqR ?_
 refine Chain.runK [] 2 fun K hK => ?_; simp; refine hK _ _ ?_; clear hK K
 refine Chain.sub (S' := mk 39 [] [(1, .ptr 1 0 0), (5, .i a0.Tx)] [(1, some (.box [.i a0.Tx, .d (.lit (.string a0.Table)), .d (.lit (.string a0.Key)), .i a0.Mode]))]) Sub.tt ?_
 replace h := bsome h; obtain ⟨r1, hr1, h⟩ := h
 refine Chain.callL (d := 6) (p10 N a0.Tx 0 19 r1 hr1) (by simp) rfl rfl (by simp <;> rfl) (by simp <;> rfl) ent10 (by simp <;> rfl) ?_
 refine Chain.sub (S' := mk 39 [] [(1, .ptr 1 0 0), (5, .i a0.Tx), (6, .b r1)] [(1, some (.box [.i a0.Tx, .d (.lit (.string a0.Table)), .d (.lit (.string a0.Key)), .i a0.Mode]))]) (by simp; exact Sub.table (by simp) (by simp)) ?_
 refine Chain.runK [] 2 fun K hK => ?_; simp; refine hK _ _ ?_; clear hK K
 refine Chain.sub (S' := mk 39 [] [(1, .ptr 1 0 0), (3, .b (!r1))] [(1, some (.box [.i a0.Tx, .d (.lit (.string a0.Table)), .d (.lit (.string a0.Key)), .i a0.Mode]))]) Sub.tt ?_
 refine Chain.nil ?_
 replace h := isome h; rcases h with ⟨c2, h⟩ | ⟨c2, h⟩
 ·have c2_ : (!r1) = true := c2
  refine AW.condT (b := (!r1)) rfl c2_ ?_
  refine AW.sub (Sub.bool 3 (b := (!r1)) rfl c2_) ?_
  refine AW.sub (S' := mk 39 [] [(1, .ptr 1 0 0), (3, .b true)] [(1, some (.box [.i a0.Tx, .d (.lit (.string a0.Table)), .d (.lit (.string a0.Key)), .i a0.Mode]))]) (by simp; exact Sub.table (by simp) (by simp)) ?_
  refine AW.seqR ?_
  refine Chain.runK [] 1 fun K hK => ?_; simp; refine hK _ _ ?_; clear hK K
  refine Chain.sub (S' := mk 39 [] [(2, .i 1)] []) Sub.tt ?_
  refine Chain.nil ?_
  refine AW.ret ?_
  cases h
  refine blockQ.ret ?_
  refine thenQ_pass (by simp) ?_
  exact FinC.ret (by simp) (by simp)
 ·have c2_ : (!r1) = false := Bool.eq_false_iff.2 c2
  refine AW.condF (b := (!r1)) rfl c2_ ?_
  refine AW.sub (Sub.bool 3 (b := (!r1)) rfl c2_) ?_
  refine AW.sub (S' := mk 39 [] [(1, .ptr 1 0 0), (3, .b false)] [(1, some (.box [.i a0.Tx, .d (.lit (.string a0.Table)), .d (.lit (.string a0.Key)), .i a0.Mode]))]) (by simp; exact Sub.table (by simp) (by simp)) ?_
  replace h := bsome h; obtain ⟨v7, hj, h⟩ := h
  refine AW.cutR (mk 39 [] [(1, .ptr 1 0 0), (8, .b v7)] [(1, some (.box [.i a0.Tx, .d (.lit (.string a0.Table)), .d (.lit (.string a0.Key)), .i a0.Mode]))]) ?_ ?_
  ·clear h; have h := hj; clear hj
   refine Chain.runK [] 2 fun K hK => ?_; simp; refine hK _ _ ?_; clear hK K
   refine Chain.sub (S' := mk 39 [] [(1, .ptr 1 0 0), (10, .i a0.Mode)] [(1, some (.box [.i a0.Tx, .d (.lit (.string a0.Table)), .d (.lit (.string a0.Key)), .i a0.Mode]))]) Sub.tt ?_
   replace h := bsome h; obtain ⟨r8, hr8, h⟩ := h
   refine Chain.callL (d := 11) (p10 N a0.Mode 1 4 r8 hr8) (by simp) rfl rfl (by simp <;> rfl) (by simp <;> rfl) ent10 (by simp <;> rfl) ?_
   refine Chain.sub (S' := mk 39 [] [(1, .ptr 1 0 0), (10, .i a0.Mode), (11, .b r8)] [(1, some (.box [.i a0.Tx, .d (.lit (.string a0.Table)), .d (.lit (.string a0.Key)), .i a0.Mode]))]) (by simp; exact Sub.table (by simp) (by simp)) ?_
   refine Chain.runK [] 2 fun K hK => ?_; simp; refine hK _ _ ?_; clear hK K
   refine Chain.sub (S' := mk 39 [] [(1, .ptr 1 0 0), (13, .b (!r8))] [(1, some (.box [.i a0.Tx, .d (.lit (.string a0.Table)), .d (.lit (.string a0.Key)), .i a0.Mode]))]) Sub.tt ?_
   replace h := isome h; rcases h with ⟨c9, h⟩ | ⟨c9, h⟩
   ·have c9_ : (!r8) = true := c9
    refine Chain.sub (Sub.bool 13 (b := (!r8)) rfl c9_) ?_
    refine Chain.sub (S' := mk 39 [] [(1, .ptr 1 0 0), (13, .b true)] [(1, some (.box [.i a0.Tx, .d (.lit (.string a0.Table)), .d (.lit (.string a0.Key)), .i a0.Mode]))]) (by simp; exact Sub.table (by simp) (by simp)) ?_
    refine Chain.runK [] 15 fun K hK => ?_; simp; refine hK _ _ ?_; clear hK K
    refine Chain.sub (S' := mk 39 [] [(1, .ptr 1 0 0), (8, .b true)] [(1, some (.box [.i a0.Tx, .d (.lit (.string a0.Table)), .d (.lit (.string a0.Key)), .i a0.Mode]))]) Sub.tt ?_
    cases h
    exact Chain.nil Sub.tt
   ·have c9_ : (!r8) = false := Bool.eq_false_iff.2 c9
    refine Chain.sub (Sub.bool 13 (b := (!r8)) rfl c9_) ?_
    refine Chain.sub (S' := mk 39 [] [(1, .ptr 1 0 0), (13, .b false)] [(1, some (.box [.i a0.Tx, .d (.lit (.string a0.Table)), .d (.lit (.string a0.Key)), .i a0.Mode]))]) (by simp; exact Sub.table (by simp) (by simp)) ?_
    refine Chain.runK [] 4 fun K hK => ?_; simp; refine hK _ _ ?_; clear hK K
    refine Chain.sub (S' := mk 39 [] [(1, .ptr 1 0 0), (13, .b false), (17, .b (decide (a0.Mode > 2)))] [(1, some (.box [.i a0.Tx, .d (.lit (.string a0.Table)), .d (.lit (.string a0.Key)), .i a0.Mode]))]) Sub.tt ?_
    replace h := isome h; rcases h with ⟨c10, h⟩ | ⟨c10, h⟩
    ·have c10_ : decide (a0.Mode > 2) = true := decide_eq_true c10
     refine Chain.sub (Sub.bool 17 (b := decide (a0.Mode > 2)) rfl c10_) ?_
     refine Chain.sub (S' := mk 39 [] [(1, .ptr 1 0 0), (13, .b false), (17, .b true)] [(1, some (.box [.i a0.Tx, .d (.lit (.string a0.Table)), .d (.lit (.string a0.Key)), .i a0.Mode]))]) (by simp; exact Sub.table (by simp) (by simp)) ?_
     refine Chain.runK [] 6 fun K hK => ?_; simp; refine hK _ _ ?_; clear hK K
     refine Chain.sub (S' := mk 39 [] [(1, .ptr 1 0 0), (23, .b (!decide (a0.Key = (ByteArray.mk #[]))))] [(1, some (.box [.i a0.Tx, .d (.lit (.string a0.Table)), .d (.lit (.string a0.Key)), .i a0.Mode]))]) Sub.tt ?_
     replace h := isome h; rcases h with ⟨c11, h⟩ | ⟨c11, h⟩
     ·have c11_ : (!decide (a0.Key = (ByteArray.mk #[]))) = true := c11
      refine Chain.sub (Sub.bool 23 (b := (!decide (a0.Key = (ByteArray.mk #[])))) rfl c11_) ?_
      refine Chain.sub (S' := mk 39 [] [(1, .ptr 1 0 0), (23, .b true)] [(1, some (.box [.i a0.Tx, .d (.lit (.string a0.Table)), .d (.lit (.string a0.Key)), .i a0.Mode]))]) (by simp; exact Sub.table (by simp) (by simp)) ?_
      refine Chain.runK [] 5 fun K hK => ?_; simp; refine hK _ _ ?_; clear hK K
      refine Chain.sub (S' := mk 39 [] [(1, .ptr 1 0 0), (8, .b true)] [(1, some (.box [.i a0.Tx, .d (.lit (.string a0.Table)), .d (.lit (.string a0.Key)), .i a0.Mode]))]) Sub.tt ?_
      cases h
      exact Chain.nil Sub.tt
     ·have c11_ : (!decide (a0.Key = (ByteArray.mk #[]))) = false := Bool.eq_false_iff.2 c11
      refine Chain.sub (Sub.bool 23 (b := (!decide (a0.Key = (ByteArray.mk #[])))) rfl c11_) ?_
      refine Chain.sub (S' := mk 39 [] [(1, .ptr 1 0 0), (23, .b false)] [(1, some (.box [.i a0.Tx, .d (.lit (.string a0.Table)), .d (.lit (.string a0.Key)), .i a0.Mode]))]) (by simp; exact Sub.table (by simp) (by simp)) ?_
      refine Chain.runK [] 5 fun K hK => ?_; simp; refine hK _ _ ?_; clear hK K
      refine Chain.sub (S' := mk 39 [] [(1, .ptr 1 0 0), (8, .b (decide (a0.Table = (ByteArray.mk #[]))))] [(1, some (.box [.i a0.Tx, .d (.lit (.string a0.Table)), .d (.lit (.string a0.Key)), .i a0.Mode]))]) Sub.tt ?_
      cases h
      exact Chain.nil Sub.tt
    ·have c10_ : decide (a0.Mode > 2) = false := decide_eq_false c10
     refine Chain.sub (Sub.bool 17 (b := decide (a0.Mode > 2)) rfl c10_) ?_
     refine Chain.sub (S' := mk 39 [] [(1, .ptr 1 0 0), (13, .b false), (17, .b false)] [(1, some (.box [.i a0.Tx, .d (.lit (.string a0.Table)), .d (.lit (.string a0.Key)), .i a0.Mode]))]) (by simp; exact Sub.table (by simp) (by simp)) ?_
     refine Chain.runK [] 11 fun K hK => ?_; simp; refine hK _ _ ?_; clear hK K
     refine Chain.sub (S' := mk 39 [] [(1, .ptr 1 0 0), (8, .b (decide (a0.Table = (ByteArray.mk #[]))))] [(1, some (.box [.i a0.Tx, .d (.lit (.string a0.Table)), .d (.lit (.string a0.Key)), .i a0.Mode]))]) Sub.tt ?_
     cases h
     exact Chain.nil Sub.tt
  ·clear hj
   replace h := isome h; rcases h with ⟨c12, h⟩ | ⟨c12, h⟩
   ·have c12_ : v7 = true := c12
    refine AW.condT (b := v7) rfl c12_ ?_
    refine AW.sub (Sub.bool 8 (b := v7) rfl c12_) ?_
    refine AW.sub (S' := mk 39 [] [(1, .ptr 1 0 0), (8, .b true)] [(1, some (.box [.i a0.Tx, .d (.lit (.string a0.Table)), .d (.lit (.string a0.Key)), .i a0.Mode]))]) (by simp; exact Sub.table (by simp) (by simp)) ?_
    refine AW.seqR ?_
    refine Chain.runK [] 1 fun K hK => ?_; simp; refine hK _ _ ?_; clear hK K
    refine Chain.sub (S' := mk 39 [] [(2, .i 3)] []) Sub.tt ?_
    refine Chain.nil ?_
    refine AW.ret ?_
    cases h
    refine blockQ.ret ?_
    refine thenQ_pass (by simp) ?_
    exact FinC.ret (by simp) (by simp)
   ·have c12_ : v7 = false := Bool.eq_false_iff.2 c12
    refine AW.condF (b := v7) rfl c12_ ?_
    refine AW.sub (Sub.bool 8 (b := v7) rfl c12_) ?_
    refine AW.sub (S' := mk 39 [] [(1, .ptr 1 0 0), (8, .b false)] [(1, some (.box [.i a0.Tx, .d (.lit (.string a0.Table)), .d (.lit (.string a0.Key)), .i a0.Mode]))]) (by simp; exact Sub.table (by simp) (by simp)) ?_
    replace h := bsome h; obtain ⟨v14, hj, h⟩ := h
    refine AW.cutR (mk 39 [] [(28, .b v14)] []) ?_ ?_
    ·clear h; have h := hj; clear hj
     refine Chain.runK [] 5 fun K hK => ?_; simp; refine hK _ _ ?_; clear hK K
     refine Chain.sub (S' := mk 39 [] [(1, .ptr 1 0 0), (33, .b (decide ((a0.Table.size : Int) > 24)))] [(1, some (.box [.i a0.Tx, .d (.lit (.string a0.Table)), .d (.lit (.string a0.Key)), .i a0.Mode]))]) Sub.tt ?_
     replace h := isome h; rcases h with ⟨c15, h⟩ | ⟨c15, h⟩
     ·have c15_ : decide ((a0.Table.size : Int) > 24) = true := decide_eq_true c15
      refine Chain.sub (Sub.bool 33 (b := decide ((a0.Table.size : Int) > 24)) rfl c15_) ?_
      refine Chain.sub (S' := mk 39 [] [(1, .ptr 1 0 0), (33, .b true)] [(1, some (.box [.i a0.Tx, .d (.lit (.string a0.Table)), .d (.lit (.string a0.Key)), .i a0.Mode]))]) (by simp; exact Sub.table (by simp) (by simp)) ?_
      refine Chain.runK [] 6 fun K hK => ?_; simp; refine hK _ _ ?_; clear hK K
      refine Chain.sub (S' := mk 39 [] [(28, .b true)] []) Sub.tt ?_
      cases h
      exact Chain.nil Sub.tt
     ·have c15_ : decide ((a0.Table.size : Int) > 24) = false := decide_eq_false c15
      refine Chain.sub (Sub.bool 33 (b := decide ((a0.Table.size : Int) > 24)) rfl c15_) ?_
      refine Chain.sub (S' := mk 39 [] [(1, .ptr 1 0 0), (33, .b false)] [(1, some (.box [.i a0.Tx, .d (.lit (.string a0.Table)), .d (.lit (.string a0.Key)), .i a0.Mode]))]) (by simp; exact Sub.table (by simp) (by simp)) ?_
      refine Chain.runK [] 6 fun K hK => ?_; simp; refine hK _ _ ?_; clear hK K
      refine Chain.sub (S' := mk 39 [] [(28, .b (decide ((a0.Key.size : Int) > 24)))] []) Sub.tt ?_
      cases h
      exact Chain.nil Sub.tt
    ·clear hj
     replace h := isome h; rcases h with ⟨c16, h⟩ | ⟨c16, h⟩
     ·have c16_ : v14 = true := c16
      refine AW.condT (b := v14) rfl c16_ ?_
      refine AW.sub (Sub.bool 28 (b := v14) rfl c16_) ?_
      refine AW.sub (S' := mk 39 [] [(28, .b true)] []) (by simp; exact Sub.table (by simp) (by simp)) ?_
      refine AW.seqR ?_
      refine Chain.runK [] 1 fun K hK => ?_; simp; refine hK _ _ ?_; clear hK K
      refine Chain.sub (S' := mk 39 [] [(2, .i 2)] []) Sub.tt ?_
      refine Chain.nil ?_
      refine AW.ret ?_
      cases h
      refine blockQ.ret ?_
      refine thenQ_pass (by simp) ?_
      exact FinC.ret (by simp) (by simp)
     ·have c16_ : v14 = false := Bool.eq_false_iff.2 c16
      refine AW.condF (b := v14) rfl c16_ ?_
      refine AW.sub (Sub.bool 28 (b := v14) rfl c16_) ?_
      refine AW.sub (S' := mk 39 [] [(28, .b false)] []) (by simp; exact Sub.table (by simp) (by simp)) ?_
      refine AW.skip ?_
      refine blockQ.normal ?_
      refine thenQ_normal ?_
      refine AW.seqR ?_
      refine Chain.runK [] 1 fun K hK => ?_; simp; refine hK _ _ ?_; clear hK K
      refine Chain.sub (S' := mk 39 [] [(2, .i 0)] []) Sub.tt ?_
      refine Chain.nil ?_
      refine AW.ret ?_
      cases h
      exact FinC.ret (by simp) (by simp)

/-- (*stemma/stemref5.LockTable).Mode -/
def d25 (N : Nat) (a0 : S33) (a1 : Int) (a2 : ByteArray) (a3 : ByteArray) : Option Int :=
 bindO (β := Unit) (ρ := Int) (
  iterN (σ := Int) (ρ := (Out Unit Int)) (fun (v10 : Int) =>
   if v10 < (a0.Granted.length : Int) then (
    (idx a0.Granted v10).bind fun x33 =>
    Option.bind (α := Bool) (
     if (x33.Tx == a1) then (
      if decide (x33.Table = a2) = true then (
       some (decide (x33.Key = a3))
      ) else
      some false
     ) else
     some false
    ) fun (v37 : Bool) =>
    if v37 = true then (
     some (.inr (.ret x33.Mode))
    ) else
    (chkI (v10 + 1)).bind fun v41 =>
    some (.inl v41)
   ) else
   some (.inr (.go ()))
  ) N 0
 ) fun (_ : Unit) =>
 some 0
set_option maxRecDepth 100000 in
set_option maxHeartbeats 4000000 in
theorem p25 (N : Nat) (a0 : S33) (a1 : Int) (a2 : ByteArray) (a3 : ByteArray) (r : Int) (h : d25 N a0 a1 a2 a3 = some r) : FunC Try.prog 25 [.d (.pim [.sl (a0.Granted.map cS29), .sl (a0.Queue.map cS29)]), .i a1, .d (.lit (.string a2)), .d (.lit (.string a3))] (.i r) := by
 unfold d25 at h
 refine FunC.enter 39 [(0, .d (.pim [.sl (a0.Granted.map cS29), .sl (a0.Queue.map cS29)])), (1, .i a1), (2, .d (.lit (.string a2))), (3, .d (.lit (.string a3)))] (by simp) Try.func25 rfl (of_decide_eq_true rfl) rfl rfl ?_
 refine AW.seqR ?_
 refine Chain.runK [] 1 fun K hK => ?_; simp; refine hK _ _ ?_; clear hK K
 refine Chain.sub (S' := mk 39 [] [(0, .d (.pim [.sl (a0.Granted.map cS29), .sl (a0.Queue.map cS29)])), (1, .i a1), (2, .d (.lit (.string a2))), (3, .d (.lit (.string a3)))] []) Sub.tt ?_
 refine Chain.nil ?_
 refine AW.seq ?_
 refine AW.seqR ?_
 refine Chain.runK [] 6 fun K hK => ?_; simp; refine hK _ _ ?_; clear hK K
 refine Chain.sub (S' := mk 39 [] [(1, .i a1), (2, .d (.lit (.string a2))), (3, .d (.lit (.string a3))), (14, .d (.sl (a0.Granted.map cS29))), (15, .i (a0.Granted.length : Int)), (16, .i 0)] []) Sub.tt ?_
 refine Chain.nil ?_
 refine AW.lastJ (fun (_ : Unit) => mk 39 [] [] []) h ?_ ?_ <;> clear h
 ·intro o h
  refine AW.block ?_
  refine AW.iter (fun (v10 : Int) => mk 39 [] [(1, .i a1), (2, .d (.lit (.string a2))), (3, .d (.lit (.string a3))), (14, .d (.sl (a0.Granted.map cS29))), (15, .i (a0.Granted.length : Int)), (16, .i v10)] []) h Sub.tt ?_
  clear h
  rintro v10 x h
  refine AW.seqR ?_
  refine Chain.runK [] 1 fun K hK => ?_; simp; refine hK _ _ ?_; clear hK K
  refine Chain.sub (S' := mk 39 [] [(1, .i a1), (2, .d (.lit (.string a2))), (3, .d (.lit (.string a3))), (14, .d (.sl (a0.Granted.map cS29))), (15, .i (a0.Granted.length : Int)), (16, .i v10), (17, .b (decide (v10 < (a0.Granted.length : Int))))] []) Sub.tt ?_
  refine Chain.nil ?_
  refine AW.seq ?_
  replace h := isome h; rcases h with ⟨c32, h⟩ | ⟨c32, h⟩
  ·have c32_ : decide (v10 < (a0.Granted.length : Int)) = true := decide_eq_true c32
   refine AW.condT (b := decide (v10 < (a0.Granted.length : Int))) rfl c32_ ?_
   refine AW.sub (Sub.bool 17 (b := decide (v10 < (a0.Granted.length : Int))) rfl c32_) ?_
   refine AW.sub (S' := mk 39 [] [(1, .i a1), (2, .d (.lit (.string a2))), (3, .d (.lit (.string a3))), (14, .d (.sl (a0.Granted.map cS29))), (15, .i (a0.Granted.length : Int)), (16, .i v10), (17, .b true)] []) (by simp; exact Sub.table (by simp) (by simp)) ?_
   refine AW.skip ?_
   refine thenQ_normal ?_
   refine AW.seq ?_
   refine AW.block ?_
   refine AW.seqR ?_
   replace h := bsome h; obtain ⟨x33, hx33, h⟩ := h
   obtain ⟨k34, hx33k, hx33, hx33a, hx33b⟩ := idx_some hx33
   refine Chain.runK [] 4 fun K hK => ?_; simp [hx33, hx33k, hx33a]; refine hK _ _ ?_; clear hK K
   refine Chain.sub (S' := mk 39 [] [(1, .i a1), (2, .d (.lit (.string a2))), (3, .d (.lit (.string a3))), (10, .ptr 10 0 0), (14, .d (.sl (a0.Granted.map cS29))), (15, .i (a0.Granted.length : Int)), (16, .i v10)] [(10, some (.box [.i x33.Tx, .d (.lit (.string x33.Table)), .d (.lit (.string x33.Key)), .i x33.Mode]))]) Sub.tt ?_
   refine Chain.nil ?_
   replace h := bsome h; obtain ⟨v37, hj, h⟩ := h
   refine AW.cutR (mk 39 [] [(1, .i a1), (2, .d (.lit (.string a2))), (3, .d (.lit (.string a3))), (10, .ptr 10 0 0), (14, .d (.sl (a0.Granted.map cS29))), (15, .i (a0.Granted.length : Int)), (16, .i v10), (35, .b v37)] [(10, some (.box [.i x33.Tx, .d (.lit (.string x33.Table)), .d (.lit (.string x33.Key)), .i x33.Mode]))]) ?_ ?_
   ·clear h; have h := hj; clear hj
    refine Chain.runK [] 5 fun K hK => ?_; simp; refine hK _ _ ?_; clear hK K
    refine Chain.sub (S' := mk 39 [] [(1, .i a1), (2, .d (.lit (.string a2))), (3, .d (.lit (.string a3))), (10, .ptr 10 0 0), (14, .d (.sl (a0.Granted.map cS29))), (15, .i (a0.Granted.length : Int)), (16, .i v10), (24, .b (x33.Tx == a1))] [(10, some (.box [.i x33.Tx, .d (.lit (.string x33.Table)), .d (.lit (.string x33.Key)), .i x33.Mode]))]) Sub.tt ?_
    replace h := isome h; rcases h with ⟨c38, h⟩ | ⟨c38, h⟩
    ·have c38_ : (x33.Tx == a1) = true := c38
     refine Chain.sub (Sub.bool 24 (b := (x33.Tx == a1)) rfl c38_) ?_
     refine Chain.sub (S' := mk 39 [] [(1, .i a1), (2, .d (.lit (.string a2))), (3, .d (.lit (.string a3))), (10, .ptr 10 0 0), (14, .d (.sl (a0.Granted.map cS29))), (15, .i (a0.Granted.length : Int)), (16, .i v10), (24, .b true)] [(10, some (.box [.i x33.Tx, .d (.lit (.string x33.Table)), .d (.lit (.string x33.Key)), .i x33.Mode]))]) (by simp; exact Sub.table (by simp) (by simp)) ?_
     refine Chain.runK [] 6 fun K hK => ?_; simp; refine hK _ _ ?_; clear hK K
     refine Chain.sub (S' := mk 39 [] [(1, .i a1), (2, .d (.lit (.string a2))), (3, .d (.lit (.string a3))), (10, .ptr 10 0 0), (14, .d (.sl (a0.Granted.map cS29))), (15, .i (a0.Granted.length : Int)), (16, .i v10), (25, .ptr 10 0 1), (26, .d (.lit (.string x33.Table))), (27, .d (.lit (.string a2))), (28, .b (decide (x33.Table = a2))), (30, .b (decide (x33.Table = a2)))] [(10, some (.box [.i x33.Tx, .d (.lit (.string x33.Table)), .d (.lit (.string x33.Key)), .i x33.Mode]))]) Sub.tt ?_
     replace h := isome h; rcases h with ⟨c39, h⟩ | ⟨c39, h⟩
     ·have c39_ : decide (x33.Table = a2) = true := c39
      refine Chain.sub (Sub.bool 28 (b := decide (x33.Table = a2)) rfl c39_) ?_
      refine Chain.sub (Sub.bool 30 (b := decide (x33.Table = a2)) rfl c39_) ?_
      refine Chain.sub (S' := mk 39 [] [(1, .i a1), (2, .d (.lit (.string a2))), (3, .d (.lit (.string a3))), (10, .ptr 10 0 0), (14, .d (.sl (a0.Granted.map cS29))), (15, .i (a0.Granted.length : Int)), (16, .i v10), (25, .ptr 10 0 1), (26, .d (.lit (.string x33.Table))), (27, .d (.lit (.string a2))), (28, .b true), (30, .b true)] [(10, some (.box [.i x33.Tx, .d (.lit (.string x33.Table)), .d (.lit (.string x33.Key)), .i x33.Mode]))]) (by simp; exact Sub.table (by simp) (by simp)) ?_
      refine Chain.runK [] 5 fun K hK => ?_; simp; refine hK _ _ ?_; clear hK K
      refine Chain.sub (S' := mk 39 [] [(1, .i a1), (2, .d (.lit (.string a2))), (3, .d (.lit (.string a3))), (10, .ptr 10 0 0), (14, .d (.sl (a0.Granted.map cS29))), (15, .i (a0.Granted.length : Int)), (16, .i v10), (25, .ptr 10 0 1), (26, .d (.lit (.string x33.Table))), (27, .d (.lit (.string a2))), (28, .b true), (31, .ptr 10 0 2), (32, .d (.lit (.string x33.Key))), (33, .d (.lit (.string a3))), (34, .b (decide (x33.Key = a3))), (35, .b (decide (x33.Key = a3)))] [(10, some (.box [.i x33.Tx, .d (.lit (.string x33.Table)), .d (.lit (.string x33.Key)), .i x33.Mode]))]) Sub.tt ?_
      cases h
      exact Chain.nil Sub.tt
     ·have c39_ : decide (x33.Table = a2) = false := Bool.eq_false_iff.2 c39
      refine Chain.sub (Sub.bool 28 (b := decide (x33.Table = a2)) rfl c39_) ?_
      refine Chain.sub (Sub.bool 30 (b := decide (x33.Table = a2)) rfl c39_) ?_
      refine Chain.sub (S' := mk 39 [] [(1, .i a1), (2, .d (.lit (.string a2))), (3, .d (.lit (.string a3))), (10, .ptr 10 0 0), (14, .d (.sl (a0.Granted.map cS29))), (15, .i (a0.Granted.length : Int)), (16, .i v10), (25, .ptr 10 0 1), (26, .d (.lit (.string x33.Table))), (27, .d (.lit (.string a2))), (28, .b false), (30, .b false)] [(10, some (.box [.i x33.Tx, .d (.lit (.string x33.Table)), .d (.lit (.string x33.Key)), .i x33.Mode]))]) (by simp; exact Sub.table (by simp) (by simp)) ?_
      refine Chain.runK [] 5 fun K hK => ?_; simp; refine hK _ _ ?_; clear hK K
      refine Chain.sub (S' := mk 39 [] [(1, .i a1), (2, .d (.lit (.string a2))), (3, .d (.lit (.string a3))), (10, .ptr 10 0 0), (14, .d (.sl (a0.Granted.map cS29))), (15, .i (a0.Granted.length : Int)), (16, .i v10), (25, .ptr 10 0 1), (26, .d (.lit (.string x33.Table))), (27, .d (.lit (.string a2))), (28, .b false), (31, .tup []), (32, .tup []), (33, .tup []), (34, .tup []), (35, .b false)] [(10, some (.box [.i x33.Tx, .d (.lit (.string x33.Table)), .d (.lit (.string x33.Key)), .i x33.Mode]))]) Sub.tt ?_
      cases h
      exact Chain.nil Sub.tt
    ·have c38_ : (x33.Tx == a1) = false := Bool.eq_false_iff.2 c38
     refine Chain.sub (Sub.bool 24 (b := (x33.Tx == a1)) rfl c38_) ?_
     refine Chain.sub (S' := mk 39 [] [(1, .i a1), (2, .d (.lit (.string a2))), (3, .d (.lit (.string a3))), (10, .ptr 10 0 0), (14, .d (.sl (a0.Granted.map cS29))), (15, .i (a0.Granted.length : Int)), (16, .i v10), (24, .b false)] [(10, some (.box [.i x33.Tx, .d (.lit (.string x33.Table)), .d (.lit (.string x33.Key)), .i x33.Mode]))]) (by simp; exact Sub.table (by simp) (by simp)) ?_
     refine Chain.runK [] 11 fun K hK => ?_; simp; refine hK _ _ ?_; clear hK K
     refine Chain.sub (S' := mk 39 [] [(1, .i a1), (2, .d (.lit (.string a2))), (3, .d (.lit (.string a3))), (10, .ptr 10 0 0), (14, .d (.sl (a0.Granted.map cS29))), (15, .i (a0.Granted.length : Int)), (16, .i v10), (25, .tup []), (26, .tup []), (27, .tup []), (28, .tup []), (31, .tup []), (32, .tup []), (33, .tup []), (34, .tup []), (35, .b false)] [(10, some (.box [.i x33.Tx, .d (.lit (.string x33.Table)), .d (.lit (.string x33.Key)), .i x33.Mode]))]) Sub.tt ?_
     cases h
     exact Chain.nil Sub.tt
   ·clear hj
    replace h := isome h; rcases h with ⟨c40, h⟩ | ⟨c40, h⟩
    ·have c40_ : v37 = true := c40
     refine AW.condT (b := v37) rfl c40_ ?_
     refine AW.sub (Sub.bool 35 (b := v37) rfl c40_) ?_
     refine AW.sub (S' := mk 39 [] [(1, .i a1), (2, .d (.lit (.string a2))), (3, .d (.lit (.string a3))), (10, .ptr 10 0 0), (14, .d (.sl (a0.Granted.map cS29))), (15, .i (a0.Granted.length : Int)), (16, .i v10), (35, .b true)] [(10, some (.box [.i x33.Tx, .d (.lit (.string x33.Table)), .d (.lit (.string x33.Key)), .i x33.Mode]))]) (by simp; exact Sub.table (by simp) (by simp)) ?_
     refine AW.seqR ?_
     refine Chain.runK [] 3 fun K hK => ?_; simp; refine hK _ _ ?_; clear hK K
     refine Chain.sub (S' := mk 39 [] [(8, .i x33.Mode)] []) Sub.tt ?_
     refine Chain.nil ?_
     refine AW.ret ?_
     cases h
     refine blockQ.ret ?_
     refine thenQ_pass (by simp) ?_
     refine PostI.out (by simp) ?_
     rintro rfl
     refine blockQ.ret ?_
     refine PostJ.out (by simp) ?_
     rintro rfl
     refine thenQ_pass (by simp) ?_
     exact FinC.ret (by simp) (by simp)
    ·have c40_ : v37 = false := Bool.eq_false_iff.2 c40
     refine AW.condF (b := v37) rfl c40_ ?_
     refine AW.sub (Sub.bool 35 (b := v37) rfl c40_) ?_
     refine AW.sub (S' := mk 39 [] [(1, .i a1), (2, .d (.lit (.string a2))), (3, .d (.lit (.string a3))), (10, .ptr 10 0 0), (14, .d (.sl (a0.Granted.map cS29))), (15, .i (a0.Granted.length : Int)), (16, .i v10), (35, .b false)] [(10, some (.box [.i x33.Tx, .d (.lit (.string x33.Table)), .d (.lit (.string x33.Key)), .i x33.Mode]))]) (by simp; exact Sub.table (by simp) (by simp)) ?_
     refine AW.skip ?_
     refine blockQ.normal ?_
     refine thenQ_normal ?_
     refine AW.region ?_
     replace h := bsome h; obtain ⟨v41, hv41, h⟩ := h
     have hv41 := chkI_some hv41
     refine Chain.runK [] 2 fun K hK => ?_; simp [hv41]; refine hK _ _ ?_; clear hK K
     refine Chain.sub (S' := mk 39 [] [(1, .i a1), (2, .d (.lit (.string a2))), (3, .d (.lit (.string a3))), (14, .d (.sl (a0.Granted.map cS29))), (15, .i (a0.Granted.length : Int)), (16, .i v41)] []) Sub.tt ?_
     refine Chain.nil ?_
     cases h
     refine PostI.next ?_
     exact Sub.tt
  ·have c32_ : decide (v10 < (a0.Granted.length : Int)) = false := decide_eq_false c32
   refine AW.condF (b := decide (v10 < (a0.Granted.length : Int))) rfl c32_ ?_
   refine AW.sub (Sub.bool 17 (b := decide (v10 < (a0.Granted.length : Int))) rfl c32_) ?_
   refine AW.sub (S' := mk 39 [] [(1, .i a1), (2, .d (.lit (.string a2))), (3, .d (.lit (.string a3))), (14, .d (.sl (a0.Granted.map cS29))), (15, .i (a0.Granted.length : Int)), (16, .i v10), (17, .b false)] []) (by simp; exact Sub.table (by simp) (by simp)) ?_
   refine AW.exit ?_
   cases h
   refine thenQ_pass (by simp) ?_
   refine PostI.out (by simp) ?_
   rintro rfl
   refine blockQ.hit ?_
   refine PostJ.next ?_
   exact Sub.tt
 ·rintro ⟨⟩ h
  refine thenQ_normal ?_
  refine AW.seqR ?_
  refine Chain.runK [] 1 fun K hK => ?_; simp; refine hK _ _ ?_; clear hK K
  refine Chain.sub (S' := mk 39 [] [(8, .i 0)] []) Sub.tt ?_
  refine Chain.nil ?_
  refine AW.ret ?_
  cases h
  exact FinC.ret (by simp) (by simp)

/-- stemma/stemref5.Covers -/
def d24 (N : Nat) (a0 : Int) (a1 : Int) : Option Bool :=
 letv ([1, 2] : List Int) fun l1 =>
 letv ([1, 2, 3, 4] : List Int) fun l2 =>
 letv ([2, 4] : List Int) fun l3 =>
 letv ([[], l1, ([2] : List Int), l2, l3] : List (List Int)) fun l4 =>
 (idx l4 a1).bind fun x5 =>
 (d42 N x5 a0).bind fun r7 =>
 some r7
set_option maxRecDepth 100000 in
set_option maxHeartbeats 4000000 in
theorem p24 (N : Nat) (a0 : Int) (a1 : Int) (r : Bool) (h : d24 N a0 a1 = some r) : FunC Try.prog 24 [.i a0, .i a1] (.b r) := by
 unfold d24 at h
 refine FunC.enter 17 [(0, .i a0), (1, .i a1)] (by simp) Try.func24 rfl (of_decide_eq_true rfl) rfl rfl ?_
 refine AW.seqR ?_
 refine Chain.runK [] 1 fun K hK => ?_; simp; refine hK _ _ ?_; clear hK K
 refine Chain.sub (S' := mk 17 [] [(0, .i a0), (1, .i a1)] []) Sub.tt ?_
 refine Chain.nil ?_
 refine AW.seqR ?_
 refine Chain.runK [] 1 fun K hK => ?_; simp; refine hK _ _ ?_; clear hK K
 refine Chain.sub (Sub.wkRow 6 rfl) ?_
 replace h := lsome h; obtain ⟨l1, hl1, h⟩ := h
 refine Chain.sub (S' := mk 17 [] [(0, .i a0), (1, .i a1), (6, .ref 6 0 l1.length)] [(6, R3 l1)]) (by simp; subst hl1; exact Sub.table (by simp) (by simp)) ?_
 refine Chain.runK [] 2 fun K hK => ?_; simp; refine hK _ _ ?_; clear hK K
 refine Chain.sub (Sub.wkRow 8 rfl) ?_
 replace h := lsome h; obtain ⟨l2, hl2, h⟩ := h
 refine Chain.sub (S' := mk 17 [] [(0, .i a0), (1, .i a1), (6, .ref 6 0 l1.length), (7, .ref 7 0 (([2] : List Int).length)), (8, .ref 8 0 l2.length)] [(6, R3 l1), (7, R3 ([2] : List Int)), (8, R3 l2)]) (by simp; subst hl2; exact Sub.table (by simp) (by simp)) ?_
 refine Chain.runK [] 1 fun K hK => ?_; simp; refine hK _ _ ?_; clear hK K
 refine Chain.sub (Sub.wkRow 9 rfl) ?_
 replace h := lsome h; obtain ⟨l3, hl3, h⟩ := h
 refine Chain.sub (S' := mk 17 [] [(0, .i a0), (1, .i a1), (6, .ref 6 0 l1.length), (7, .ref 7 0 (([2] : List Int).length)), (8, .ref 8 0 l2.length), (9, .ref 9 0 l3.length)] [(6, R3 l1), (7, R3 ([2] : List Int)), (8, R3 l2), (9, R3 l3)]) (by simp; subst hl3; exact Sub.table (by simp) (by simp)) ?_
 refine Chain.sub (Sub.freeze 6 rfl) ?_
 refine Chain.sub (S' := mk 17 [] [(0, .i a0), (1, .i a1), (6, .d (.sl (l1.map (cI .i64)))), (7, .ref 7 0 (([2] : List Int).length)), (8, .ref 8 0 l2.length), (9, .ref 9 0 l3.length)] [(7, R3 ([2] : List Int)), (8, R3 l2), (9, R3 l3)]) (by simp; exact Sub.table (by simp) (by simp)) ?_
 refine Chain.sub (Sub.freeze 7 rfl) ?_
 refine Chain.sub (S' := mk 17 [] [(0, .i a0), (1, .i a1), (6, .d (.sl (l1.map (cI .i64)))), (7, .d (.sl (([2] : List Int).map (cI .i64)))), (8, .ref 8 0 l2.length), (9, .ref 9 0 l3.length)] [(8, R3 l2), (9, R3 l3)]) (by simp; exact Sub.table (by simp) (by simp)) ?_
 refine Chain.sub (Sub.freeze 8 rfl) ?_
 refine Chain.sub (S' := mk 17 [] [(0, .i a0), (1, .i a1), (6, .d (.sl (l1.map (cI .i64)))), (7, .d (.sl (([2] : List Int).map (cI .i64)))), (8, .d (.sl (l2.map (cI .i64)))), (9, .ref 9 0 l3.length)] [(9, R3 l3)]) (by simp; exact Sub.table (by simp) (by simp)) ?_
 refine Chain.sub (Sub.freeze 9 rfl) ?_
 refine Chain.sub (S' := mk 17 [] [(0, .i a0), (1, .i a1), (6, .d (.sl (l1.map (cI .i64)))), (7, .d (.sl (([2] : List Int).map (cI .i64)))), (8, .d (.sl (l2.map (cI .i64)))), (9, .d (.sl (l3.map (cI .i64))))] []) (by simp; exact Sub.table (by simp) (by simp)) ?_
 refine Chain.runK [] 1 fun K hK => ?_; simp; refine hK _ _ ?_; clear hK K
 refine Chain.sub (Sub.wkRow 10 rfl) ?_
 replace h := lsome h; obtain ⟨l4, hl4, h⟩ := h
 refine Chain.sub (S' := mk 17 [] [(0, .i a0), (1, .i a1), (6, .d (.sl (l1.map (cI .i64)))), (7, .d (.sl (([2] : List Int).map (cI .i64)))), (8, .d (.sl (l2.map (cI .i64)))), (9, .d (.sl (l3.map (cI .i64)))), (10, .ref 10 0 l4.length)] [(10, R34 l4)]) (by simp; subst hl4; exact Sub.table (by simp) (by simp)) ?_
 refine Chain.runK [] 1 fun K hK => ?_; simp; refine hK _ _ ?_; clear hK K
 refine Chain.sub (S' := mk 17 [] [(0, .i a0), (1, .i a1), (5, .ref 10 0 l4.length)] [(10, R34 l4)]) Sub.tt ?_
 refine Chain.nil ?_
 refine AW.seqR ?_
 replace h := bsome h; obtain ⟨x5, hx5, h⟩ := h
 obtain ⟨k6, hx5k, hx5, hx5a, hx5b⟩ := idx_some hx5
 refine Chain.runK [] 5 fun K hK => ?_; simp [hx5, hx5k, hx5a, hx5b]; refine hK _ _ ?_; clear hK K
 refine Chain.sub (S' := mk 17 [] [(14, .d (.sl (x5.map (cI .i64)))), (15, .i a0)] []) Sub.tt ?_
 replace h := bsome h; obtain ⟨r7, hr7, h⟩ := h
 refine Chain.callL (d := 16) (p42 N x5 a0 r7 hr7) (by simp) rfl rfl (by simp <;> rfl) (by simp <;> rfl) ent42 (by simp <;> rfl) ?_
 refine Chain.sub (S' := mk 17 [] [(14, .d (.sl (x5.map (cI .i64)))), (15, .i a0), (16, .b r7)] []) (by simp; exact Sub.table (by simp) (by simp)) ?_
 refine Chain.runK [] 1 fun K hK => ?_; simp; refine hK _ _ ?_; clear hK K
 refine Chain.sub (S' := mk 17 [] [(4, .b r7)] []) Sub.tt ?_
 refine Chain.nil ?_
 refine AW.ret ?_
 cases h
 exact FinC.ret (by simp) (by simp)

/-- stemma/stemref5.Weakest -/
def d26 (N : Nat) (a0 : Int) (a1 : Int) : Option Int :=
 letv ([3, 1, 4, 2] : List Int) fun l1 =>
 bindO (β := Unit) (ρ := Int) (
  iterN (σ := Int) (ρ := (Out Unit Int)) (fun (v13 : Int) =>
   if v13 < (l1.length : Int) then (
    (idx l1 v13).bind fun x40 =>
    Option.bind (α := Bool) (
     (d24 N x40 a0).bind fun r46 =>
     if r46 = true then (
      (d24 N x40 a1).bind fun r48 =>
      some r48
     ) else
     some false
    ) fun (v45 : Bool) =>
    if v45 = true then (
     some (.inr (.ret x40))
    ) else
    (chkI (v13 + 1)).bind fun v50 =>
    some (.inl v50)
   ) else
   some (.inr (.go ()))
  ) N 0
 ) fun (_ : Unit) =>
 some 0
set_option maxRecDepth 100000 in
set_option maxHeartbeats 4000000 in
theorem p26 (N : Nat) (a0 : Int) (a1 : Int) (r : Int) (h : d26 N a0 a1 = some r) : FunC Try.prog 26 [.i a0, .i a1] (.i r) := by
 unfold d26 at h
 refine FunC.enter 23 [(0, .i a0), (1, .i a1)] (by simp) Try.func26 rfl (of_decide_eq_true rfl) rfl rfl ?_
 refine AW.seqR ?_
 refine Chain.runK [] 1 fun K hK => ?_; simp; refine hK _ _ ?_; clear hK K
 refine Chain.sub (S' := mk 23 [] [(0, .i a0), (1, .i a1)] []) Sub.tt ?_
 refine Chain.nil ?_
 refine AW.seq ?_
 refine AW.seqR ?_
 refine Chain.runK [] 1 fun K hK => ?_; simp; refine hK _ _ ?_; clear hK K
 refine Chain.sub (Sub.wkRow 7 rfl) ?_
 replace h := lsome h; obtain ⟨l1, hl1, h⟩ := h
 refine Chain.sub (S' := mk 23 [] [(0, .i a0), (1, .i a1), (7, .ref 7 0 l1.length)] [(7, R3 l1)]) (by simp; subst hl1; exact Sub.table (by simp) (by simp)) ?_
 refine Chain.runK [] 2 fun K hK => ?_; simp; refine hK _ _ ?_; clear hK K
 refine Chain.sub (S' := mk 23 [] [(0, .i a0), (1, .i a1), (7, .ref 7 0 l1.length), (8, .i (l1.length : Int)), (9, .i 0)] [(7, R3 l1)]) Sub.tt ?_
 refine Chain.nil ?_
 refine AW.lastJ (fun (_ : Unit) => mk 23 [] [] []) h ?_ ?_ <;> clear h
 ·intro o h
  refine AW.block ?_
  refine AW.iter (fun (v13 : Int) => mk 23 [] [(0, .i a0), (1, .i a1), (7, .ref 7 0 l1.length), (8, .i (l1.length : Int)), (9, .i v13)] [(7, R3 l1)]) h Sub.tt ?_
  clear h
  rintro v13 x h
  refine AW.seqR ?_
  refine Chain.runK [] 1 fun K hK => ?_; simp; refine hK _ _ ?_; clear hK K
  refine Chain.sub (S' := mk 23 [] [(0, .i a0), (1, .i a1), (7, .ref 7 0 l1.length), (8, .i (l1.length : Int)), (9, .i v13), (10, .b (decide (v13 < (l1.length : Int))))] [(7, R3 l1)]) Sub.tt ?_
  refine Chain.nil ?_
  refine AW.seq ?_
  replace h := isome h; rcases h with ⟨c39, h⟩ | ⟨c39, h⟩
  ·have c39_ : decide (v13 < (l1.length : Int)) = true := decide_eq_true c39
   refine AW.condT (b := decide (v13 < (l1.length : Int))) rfl c39_ ?_
   refine AW.sub (Sub.bool 10 (b := decide (v13 < (l1.length : Int))) rfl c39_) ?_
   refine AW.sub (S' := mk 23 [] [(0, .i a0), (1, .i a1), (7, .ref 7 0 l1.length), (8, .i (l1.length : Int)), (9, .i v13), (10, .b true)] [(7, R3 l1)]) (by simp; exact Sub.table (by simp) (by simp)) ?_
   refine AW.skip ?_
   refine thenQ_normal ?_
   refine AW.seq ?_
   refine AW.block ?_
   refine AW.seqR ?_
   replace h := bsome h; obtain ⟨x40, hx40, h⟩ := h
   obtain ⟨k41, hx40k, hx40, hx40a, hx40b⟩ := idx_some hx40
   refine Chain.runK [] 3 fun K hK => ?_; simp [hx40, hx40k, hx40a, hx40b]; refine hK _ _ ?_; clear hK K
   refine Chain.sub (S' := mk 23 [] [(0, .i a0), (1, .i a1), (6, .i x40), (7, .ref 7 0 l1.length), (8, .i (l1.length : Int)), (9, .i v13)] [(7, R3 l1)]) Sub.tt ?_
   refine Chain.nil ?_
   replace h := bsome h; obtain ⟨v45, hj, h⟩ := h
   refine AW.cutR (mk 23 [] [(0, .i a0), (1, .i a1), (6, .i x40), (7, .ref 7 0 l1.length), (8, .i (l1.length : Int)), (9, .i v13), (20, .b v45)] [(7, R3 l1)]) ?_ ?_
   ·clear h; have h := hj; clear hj
    refine Chain.runK [] 2 fun K hK => ?_; simp; refine hK _ _ ?_; clear hK K
    refine Chain.sub (S' := mk 23 [] [(0, .i a0), (1, .i a1), (6, .i x40), (7, .ref 7 0 l1.length), (8, .i (l1.length : Int)), (9, .i v13), (13, .i x40), (14, .i a0)] [(7, R3 l1)]) Sub.tt ?_
    replace h := bsome h; obtain ⟨r46, hr46, h⟩ := h
    refine Chain.callL (d := 15) (p24 N x40 a0 r46 hr46) (by simp) rfl rfl (by simp <;> rfl) (by simp <;> rfl) ent24 (by simp <;> rfl) ?_
    refine Chain.sub (S' := mk 23 [] [(0, .i a0), (1, .i a1), (6, .i x40), (7, .ref 7 0 l1.length), (8, .i (l1.length : Int)), (9, .i v13), (13, .i x40), (14, .i a0), (15, .b r46)] [(7, R3 l1)]) (by simp; exact Sub.table (by simp) (by simp)) ?_
    refine Chain.runK [] 1 fun K hK => ?_; simp; refine hK _ _ ?_; clear hK K
    refine Chain.sub (S' := mk 23 [] [(0, .i a0), (1, .i a1), (6, .i x40), (7, .ref 7 0 l1.length), (8, .i (l1.length : Int)), (9, .i v13), (16, .b r46)] [(7, R3 l1)]) Sub.tt ?_
    replace h := isome h; rcases h with ⟨c47, h⟩ | ⟨c47, h⟩
    ·have c47_ : r46 = true := c47
     refine Chain.sub (Sub.bool 16 (b := r46) rfl c47_) ?_
     refine Chain.sub (S' := mk 23 [] [(0, .i a0), (1, .i a1), (6, .i x40), (7, .ref 7 0 l1.length), (8, .i (l1.length : Int)), (9, .i v13), (16, .b true)] [(7, R3 l1)]) (by simp; exact Sub.table (by simp) (by simp)) ?_
     refine Chain.runK [] 2 fun K hK => ?_; simp; refine hK _ _ ?_; clear hK K
     refine Chain.sub (S' := mk 23 [] [(0, .i a0), (1, .i a1), (6, .i x40), (7, .ref 7 0 l1.length), (8, .i (l1.length : Int)), (9, .i v13), (16, .b true), (17, .i x40), (18, .i a1)] [(7, R3 l1)]) Sub.tt ?_
     replace h := bsome h; obtain ⟨r48, hr48, h⟩ := h
     refine Chain.callL (d := 19) (p24 N x40 a1 r48 hr48) (by simp) rfl rfl (by simp <;> rfl) (by simp <;> rfl) ent24 (by simp <;> rfl) ?_
     refine Chain.sub (S' := mk 23 [] [(0, .i a0), (1, .i a1), (6, .i x40), (7, .ref 7 0 l1.length), (8, .i (l1.length : Int)), (9, .i v13), (16, .b true), (17, .i x40), (18, .i a1), (19, .b r48)] [(7, R3 l1)]) (by simp; exact Sub.table (by simp) (by simp)) ?_
     refine Chain.runK [] 1 fun K hK => ?_; simp; refine hK _ _ ?_; clear hK K
     refine Chain.sub (S' := mk 23 [] [(0, .i a0), (1, .i a1), (6, .i x40), (7, .ref 7 0 l1.length), (8, .i (l1.length : Int)), (9, .i v13), (17, .i x40), (18, .i a1), (19, .b r48), (20, .b r48)] [(7, R3 l1)]) Sub.tt ?_
     cases h
     exact Chain.nil Sub.tt
    ·have c47_ : r46 = false := Bool.eq_false_iff.2 c47
     refine Chain.sub (Sub.bool 16 (b := r46) rfl c47_) ?_
     refine Chain.sub (S' := mk 23 [] [(0, .i a0), (1, .i a1), (6, .i x40), (7, .ref 7 0 l1.length), (8, .i (l1.length : Int)), (9, .i v13), (16, .b false)] [(7, R3 l1)]) (by simp; exact Sub.table (by simp) (by simp)) ?_
     refine Chain.runK [] 4 fun K hK => ?_; simp; refine hK _ _ ?_; clear hK K
     refine Chain.sub (S' := mk 23 [] [(0, .i a0), (1, .i a1), (6, .i x40), (7, .ref 7 0 l1.length), (8, .i (l1.length : Int)), (9, .i v13), (17, .tup []), (18, .tup []), (19, .tup []), (20, .b false)] [(7, R3 l1)]) Sub.tt ?_
     cases h
     exact Chain.nil Sub.tt
   ·clear hj
    replace h := isome h; rcases h with ⟨c49, h⟩ | ⟨c49, h⟩
    ·have c49_ : v45 = true := c49
     refine AW.condT (b := v45) rfl c49_ ?_
     refine AW.sub (Sub.bool 20 (b := v45) rfl c49_) ?_
     refine AW.sub (S' := mk 23 [] [(0, .i a0), (1, .i a1), (6, .i x40), (7, .ref 7 0 l1.length), (8, .i (l1.length : Int)), (9, .i v13), (20, .b true)] [(7, R3 l1)]) (by simp; exact Sub.table (by simp) (by simp)) ?_
     refine AW.seqR ?_
     refine Chain.runK [] 2 fun K hK => ?_; simp; refine hK _ _ ?_; clear hK K
     refine Chain.sub (S' := mk 23 [] [(4, .i x40)] []) Sub.tt ?_
     refine Chain.nil ?_
     refine AW.ret ?_
     cases h
     refine blockQ.ret ?_
     refine thenQ_pass (by simp) ?_
     refine PostI.out (by simp) ?_
     rintro rfl
     refine blockQ.ret ?_
     refine PostJ.out (by simp) ?_
     rintro rfl
     refine thenQ_pass (by simp) ?_
     exact FinC.ret (by simp) (by simp)
    ·have c49_ : v45 = false := Bool.eq_false_iff.2 c49
     refine AW.condF (b := v45) rfl c49_ ?_
     refine AW.sub (Sub.bool 20 (b := v45) rfl c49_) ?_
     refine AW.sub (S' := mk 23 [] [(0, .i a0), (1, .i a1), (6, .i x40), (7, .ref 7 0 l1.length), (8, .i (l1.length : Int)), (9, .i v13), (20, .b false)] [(7, R3 l1)]) (by simp; exact Sub.table (by simp) (by simp)) ?_
     refine AW.skip ?_
     refine blockQ.normal ?_
     refine thenQ_normal ?_
     refine AW.region ?_
     replace h := bsome h; obtain ⟨v50, hv50, h⟩ := h
     have hv50 := chkI_some hv50
     refine Chain.runK [] 2 fun K hK => ?_; simp [hv50]; refine hK _ _ ?_; clear hK K
     refine Chain.sub (S' := mk 23 [] [(0, .i a0), (1, .i a1), (7, .ref 7 0 l1.length), (8, .i (l1.length : Int)), (9, .i v50)] [(7, R3 l1)]) Sub.tt ?_
     refine Chain.nil ?_
     cases h
     refine PostI.next ?_
     exact Sub.tt
  ·have c39_ : decide (v13 < (l1.length : Int)) = false := decide_eq_false c39
   refine AW.condF (b := decide (v13 < (l1.length : Int))) rfl c39_ ?_
   refine AW.sub (Sub.bool 10 (b := decide (v13 < (l1.length : Int))) rfl c39_) ?_
   refine AW.sub (S' := mk 23 [] [(0, .i a0), (1, .i a1), (7, .ref 7 0 l1.length), (8, .i (l1.length : Int)), (9, .i v13), (10, .b false)] [(7, R3 l1)]) (by simp; exact Sub.table (by simp) (by simp)) ?_
   refine AW.exit ?_
   cases h
   refine thenQ_pass (by simp) ?_
   refine PostI.out (by simp) ?_
   rintro rfl
   refine blockQ.hit ?_
   refine PostJ.next ?_
   exact Sub.tt
 ·rintro ⟨⟩ h
  refine thenQ_normal ?_
  refine AW.seqR ?_
  refine Chain.runK [] 1 fun K hK => ?_; simp; refine hK _ _ ?_; clear hK K
  refine Chain.sub (S' := mk 23 [] [(4, .i 0)] []) Sub.tt ?_
  refine Chain.nil ?_
  refine AW.ret ?_
  cases h
  exact FinC.ret (by simp) (by simp)

/-- stemma/stemref5.compatible -/
def d57 (_N : Nat) (a0 : Int) (a1 : Int) : Option Bool :=
 (lenL 25 (List.replicate 25 false)).bind fun _ =>
 (lenL 25 [false, false, false, false, false, false, true, false, true, false, false, false, false, false, false, false, true, false, true, true, false, false, false, true, true]).bind fun _ =>
 letv ([false, false, false, false, false, false, true, false, true, false, false, false, false, false, false, false, true, false, true, true, false, false, false, true, true] : List Bool) fun l3 =>
 (arrI a0 5).bind fun k4 =>
 (arrI a1 5).bind fun k5 =>
 (l3[k4 * 5 + k5]?).bind fun x6 =>
 some x6
set_option maxRecDepth 100000 in
set_option maxHeartbeats 4000000 in
theorem p57 (N : Nat) (a0 : Int) (a1 : Int) (r : Bool) (h : d57 N a0 a1 = some r) : FunC Try.prog 57 [.i a0, .i a1] (.b r) := by
 unfold d57 at h
 refine FunC.enter 15 [(0, .i a0), (1, .i a1)] (by simp) Try.func57 rfl (of_decide_eq_true rfl) rfl rfl ?_
 refine AW.seqR ?_
 refine Chain.runK [] 1 fun K hK => ?_; simp; refine hK _ _ ?_; clear hK K
 refine Chain.sub (S' := mk 15 [] [(0, .i a0), (1, .i a1)] []) Sub.tt ?_
 refine Chain.nil ?_
 refine AW.seqR ?_
 refine Chain.runK [] 5 fun K hK => ?_; simp; refine hK _ _ ?_; clear hK K
 refine Chain.sub (S' := mk 15 [] [(0, .i a0), (1, .i a1), (5, .ptr 5 0 0), (9, .agg ([false, false, false, false, false, false, true, false, true, false, false, false, false, false, false, false, true, false, true, true, false, false, false, true, true].map vB))] [(5, some (.box ((List.replicate 25 false).map vB)))]) Sub.tt ?_
 replace h := bsome h; obtain ⟨q1, gq1, h⟩ := h
 have hq1 := (lenL_some gq1).1
 replace h := bsome h; obtain ⟨q2, gq2, h⟩ := h
 have hq2 := (lenL_some gq2).1
 refine Chain.runK [] 1 fun K hK => ?_; simp; refine hK _ _ ?_; clear hK K
 replace h := lsome h; obtain ⟨l3, hl3, h⟩ := h
 refine Chain.sub (S' := mk 15 [] [(0, .i a0), (1, .i a1), (5, .ptr 5 0 0), (9, .agg ([false, false, false, false, false, false, true, false, true, false, false, false, false, false, false, false, true, false, true, true, false, false, false, true, true].map vB))] [(5, some (.box (l3.map vB)))]) (by simp; subst hl3; exact Sub.table (by simp) (by simp)) ?_
 refine Chain.nil ?_
 refine AW.seqR ?_
 replace h := bsome h; obtain ⟨k4, gk4, h⟩ := h
 obtain ⟨hk4, hk4a, hk4b, hk4c⟩ := arrI_some gk4
 have hk4b : a0 < 5 := hk4b
 replace h := bsome h; obtain ⟨k5, gk5, h⟩ := h
 obtain ⟨hk5, hk5a, hk5b, hk5c⟩ := arrI_some gk5
 have hk5b : a1 < 5 := hk5b
 replace h := bsome h; obtain ⟨x6, hx6, h⟩ := h
 refine Chain.runK [] 6 fun K hK => ?_; simp [hk4, hk4a, hk4b, hk5, hk5a, hk5b, hx6]; refine hK _ _ ?_; clear hK K
 refine Chain.sub (S' := mk 15 [] [(4, .b x6)] []) Sub.tt ?_
 refine Chain.nil ?_
 refine AW.ret ?_
 cases h
 exact FinC.ret (by simp) (by simp)

end Go.Proofs.Ytdiekinmoklonaa
