/- Functions of the program as functional programs; the code computes them. -/
import Derived.Test.YtifcmomjjkbboacMv1
namespace Go.Proofs.Ytifcmomjjkbboac
open Go.Ab Go.Rp
attribute [-simp] List.all_eq_true Array.all_toList Array.all_eq_true

/-- (*stemma/mvcc.Store).add -/
def d23 (N : Nat) (a0 : S63) (a1 : ByteArray) (a2 : S67) : Option (S63 × Int) :=
 Option.bind (α := Bool) (
  if (a1.size : Int) > 24 then (
   some true
  ) else
  some (decide ((a2.row.length : Int) > 6))
 ) fun (v2 : Bool) =>
 if v2 = true then (
  some (a0, 2)
 ) else
 Option.bind (α := Bool) (
  if a2.timestamp < 1 then (
   some true
  ) else
  some (decide (a2.timestamp > 1099511627776))
 ) fun (v6 : Bool) =>
 if v6 = true then (
  some (a0, 1)
 ) else
 if a2.timestamp ≤ a0.horizon then (
  some (a0, 21)
 ) else
 (d25 N a0 a1).bind fun r10 =>
 Option.bind (α := (Bool × Bool)) (
  if r10.2 = true then (
   (idx a0.chains r10.1).bind fun x21 =>
   (chkI ((x21.versions.length : Int) - 1)).bind fun v24 =>
   (idx x21.versions v24).bind fun x25 =>
   some (true, decide (x25.timestamp ≥ a2.timestamp))
  ) else
  some (false, false)
 ) fun ((v18, v19) : (Bool × Bool)) =>
 if v19 = true then (
  some (a0, 6)
 ) else
 (d21 N a0).bind fun r28 =>
 if (r28 == 400) then (
  some (a0, 18)
 ) else
 Option.bind (α := List S72) (
  if (!v18) = true then (
   letv ([(S72.mk a1 [])] : List S72) fun l35 =>
   (d32 N a0.chains r10.1 l35).bind fun l36 =>
   some l36
  ) else
  some a0.chains
 ) fun (l33 : List S72) =>
 (idx l33 r10.1).bind fun x37 =>
 (appL 40 x37.versions [a2]).bind fun _l40 =>
 letv (setI l33 r10.1 (S72.mk x37.key (x37.versions ++ [a2]))) fun l41 =>
 some ((S63.mk l41 a0.horizon), 0)
set_option maxRecDepth 100000 in
set_option maxHeartbeats 4000000 in
theorem p23 (N : Nat) (a0 : S63) (a1 : ByteArray) (a2 : S67) (r : (S63 × Int)) (h : d23 N a0 a1 a2 = some r) : FunM Try.prog 23 [.ptr 1000 0 0, .d (.lit (.string a1)), .agg [.i a2.timestamp, .b a2.tombstone, .d (.sl (a2.row.map cS53))]] [(1000, some (.box [.ref 25000 0 a0.chains.length, .i a0.horizon])), (25000, some (.nest 72 2 [none, some (67, 3)] (a0.chains.map cS72) []))] [1000] (.i r.2) ([(1000, (.box [.ref 25000 0 r.1.chains.length, .i r.1.horizon])), (25000, (.nest 72 2 [none, some (67, 3)] (r.1.chains.map cS72) []))]) := by
 unfold d23 at h
 refine FunM.enter 101 [(0, .ptr 1000 0 0), (1, .d (.lit (.string a1))), (2, .agg [.i a2.timestamp, .b a2.tombstone, .d (.sl (a2.row.map cS53))])] Try.func23 rfl (of_decide_eq_true rfl) rfl rfl ?_
 refine AW.seqR ?_
 refine Chain.runK [] 2 fun K hK => ?_; simp; refine hK _ _ ?_; clear hK K
 refine Chain.sub (S' := mk 101 [1000] [(0, .ptr 1000 0 0), (1, .d (.lit (.string a1))), (5, .ptr 5 0 0)] [(5, some (.box [.i a2.timestamp, .b a2.tombstone, .d (.sl (a2.row.map cS53))])), (1000, some (.box [.ref 25000 0 a0.chains.length, .i a0.horizon])), (25000, some (.nest 72 2 [none, some (67, 3)] (a0.chains.map cS72) []))]) Sub.tt ?_
 refine Chain.nil ?_
 refine AW.seq ?_
 replace h := bsome h; obtain ⟨v2, hj, h⟩ := h
 refine AW.cutR (mk 101 [1000] [(0, .ptr 1000 0 0), (1, .d (.lit (.string a1))), (5, .ptr 5 0 0), (17, .b v2)] [(5, some (.box [.i a2.timestamp, .b a2.tombstone, .d (.sl (a2.row.map cS53))])), (1000, some (.box [.ref 25000 0 a0.chains.length, .i a0.horizon])), (25000, some (.nest 72 2 [none, some (67, 3)] (a0.chains.map cS72) []))]) ?_ ?_
 ·clear h; have h := hj; clear hj
  refine Chain.runK [] 4 fun K hK => ?_; simp; refine hK _ _ ?_; clear hK K
  refine Chain.sub (S' := mk 101 [1000] [(0, .ptr 1000 0 0), (1, .d (.lit (.string a1))), (5, .ptr 5 0 0), (12, .b (decide ((a1.size : Int) > 24)))] [(5, some (.box [.i a2.timestamp, .b a2.tombstone, .d (.sl (a2.row.map cS53))])), (1000, some (.box [.ref 25000 0 a0.chains.length, .i a0.horizon])), (25000, some (.nest 72 2 [none, some (67, 3)] (a0.chains.map cS72) []))]) Sub.tt ?_
  replace h := isome h; rcases h with ⟨c3, h⟩ | ⟨c3, h⟩
  ·have c3_ : decide ((a1.size : Int) > 24) = true := decide_eq_true c3
   refine Chain.sub (Sub.bool 12 (b := decide ((a1.size : Int) > 24)) rfl c3_) ?_
   refine Chain.sub (S' := mk 101 [1000] [(0, .ptr 1000 0 0), (1, .d (.lit (.string a1))), (5, .ptr 5 0 0), (12, .b true)] [(5, some (.box [.i a2.timestamp, .b a2.tombstone, .d (.sl (a2.row.map cS53))])), (1000, some (.box [.ref 25000 0 a0.chains.length, .i a0.horizon])), (25000, some (.nest 72 2 [none, some (67, 3)] (a0.chains.map cS72) []))]) (by simp; exact Sub.table (by simp) (by simp)) ?_
   refine Chain.runK [] 5 fun K hK => ?_; simp; refine hK _ _ ?_; clear hK K
   refine Chain.sub (S' := mk 101 [1000] [(0, .ptr 1000 0 0), (1, .d (.lit (.string a1))), (5, .ptr 5 0 0), (17, .b true)] [(5, some (.box [.i a2.timestamp, .b a2.tombstone, .d (.sl (a2.row.map cS53))])), (1000, some (.box [.ref 25000 0 a0.chains.length, .i a0.horizon])), (25000, some (.nest 72 2 [none, some (67, 3)] (a0.chains.map cS72) []))]) Sub.tt ?_
   cases h
   exact Chain.nil Sub.tt
  ·have c3_ : decide ((a1.size : Int) > 24) = false := decide_eq_false c3
   refine Chain.sub (Sub.bool 12 (b := decide ((a1.size : Int) > 24)) rfl c3_) ?_
   refine Chain.sub (S' := mk 101 [1000] [(0, .ptr 1000 0 0), (1, .d (.lit (.string a1))), (5, .ptr 5 0 0), (12, .b false)] [(5, some (.box [.i a2.timestamp, .b a2.tombstone, .d (.sl (a2.row.map cS53))])), (1000, some (.box [.ref 25000 0 a0.chains.length, .i a0.horizon])), (25000, some (.nest 72 2 [none, some (67, 3)] (a0.chains.map cS72) []))]) (by simp; exact Sub.table (by simp) (by simp)) ?_
   refine Chain.runK [] 5 fun K hK => ?_; simp; refine hK _ _ ?_; clear hK K
   refine Chain.sub (S' := mk 101 [1000] [(0, .ptr 1000 0 0), (1, .d (.lit (.string a1))), (5, .ptr 5 0 0), (17, .b (decide ((a2.row.length : Int) > 6)))] [(5, some (.box [.i a2.timestamp, .b a2.tombstone, .d (.sl (a2.row.map cS53))])), (1000, some (.box [.ref 25000 0 a0.chains.length, .i a0.horizon])), (25000, some (.nest 72 2 [none, some (67, 3)] (a0.chains.map cS72) []))]) Sub.tt ?_
   cases h
   exact Chain.nil Sub.tt
 ·clear hj
  replace h := isome h; rcases h with ⟨c4, h⟩ | ⟨c4, h⟩
  ·have c4_ : v2 = true := c4
   refine AW.condT (b := v2) rfl c4_ ?_
   refine AW.sub (Sub.bool 17 (b := v2) rfl c4_) ?_
   refine AW.sub (S' := mk 101 [1000] [(0, .ptr 1000 0 0), (1, .d (.lit (.string a1))), (5, .ptr 5 0 0), (17, .b true)] [(5, some (.box [.i a2.timestamp, .b a2.tombstone, .d (.sl (a2.row.map cS53))])), (1000, some (.box [.ref 25000 0 a0.chains.length, .i a0.horizon])), (25000, some (.nest 72 2 [none, some (67, 3)] (a0.chains.map cS72) []))]) (by simp; exact Sub.table (by simp) (by simp)) ?_
   refine AW.seqR ?_
   refine Chain.runK [] 1 fun K hK => ?_; simp; refine hK _ _ ?_; clear hK K
   refine Chain.sub (S' := mk 101 [1000] [(6, .i 2)] [(1000, some (.box [.ref 25000 0 a0.chains.length, .i a0.horizon])), (25000, some (.nest 72 2 [none, some (67, 3)] (a0.chains.map cS72) []))]) Sub.tt ?_
   refine Chain.nil ?_
   refine AW.ret ?_
   cases h
   refine thenQ_pass (by simp) ?_
   exact FinF.ret (by simp) (by simp)
  ·have c4_ : v2 = false := Bool.eq_false_iff.2 c4
   refine AW.condF (b := v2) rfl c4_ ?_
   refine AW.sub (Sub.bool 17 (b := v2) rfl c4_) ?_
   refine AW.sub (S' := mk 101 [1000] [(0, .ptr 1000 0 0), (1, .d (.lit (.string a1))), (5, .ptr 5 0 0), (17, .b false)] [(5, some (.box [.i a2.timestamp, .b a2.tombstone, .d (.sl (a2.row.map cS53))])), (1000, some (.box [.ref 25000 0 a0.chains.length, .i a0.horizon])), (25000, some (.nest 72 2 [none, some (67, 3)] (a0.chains.map cS72) []))]) (by simp; exact Sub.table (by simp) (by simp)) ?_
   refine AW.skip ?_
   refine thenQ_normal ?_
   refine AW.seq ?_
   replace h := bsome h; obtain ⟨v6, hj, h⟩ := h
   refine AW.cutR (mk 101 [1000] [(0, .ptr 1000 0 0), (1, .d (.lit (.string a1))), (5, .ptr 5 0 0), (25, .b v6)] [(5, some (.box [.i a2.timestamp, .b a2.tombstone, .d (.sl (a2.row.map cS53))])), (1000, some (.box [.ref 25000 0 a0.chains.length, .i a0.horizon])), (25000, some (.nest 72 2 [none, some (67, 3)] (a0.chains.map cS72) []))]) ?_ ?_
   ·clear h; have h := hj; clear hj
    refine Chain.runK [] 4 fun K hK => ?_; simp; refine hK _ _ ?_; clear hK K
    refine Chain.sub (S' := mk 101 [1000] [(0, .ptr 1000 0 0), (1, .d (.lit (.string a1))), (5, .ptr 5 0 0), (21, .b (decide (a2.timestamp < 1)))] [(5, some (.box [.i a2.timestamp, .b a2.tombstone, .d (.sl (a2.row.map cS53))])), (1000, some (.box [.ref 25000 0 a0.chains.length, .i a0.horizon])), (25000, some (.nest 72 2 [none, some (67, 3)] (a0.chains.map cS72) []))]) Sub.tt ?_
    replace h := isome h; rcases h with ⟨c7, h⟩ | ⟨c7, h⟩
    ·have c7_ : decide (a2.timestamp < 1) = true := decide_eq_true c7
     refine Chain.sub (Sub.bool 21 (b := decide (a2.timestamp < 1)) rfl c7_) ?_
     refine Chain.sub (S' := mk 101 [1000] [(0, .ptr 1000 0 0), (1, .d (.lit (.string a1))), (5, .ptr 5 0 0), (21, .b true)] [(5, some (.box [.i a2.timestamp, .b a2.tombstone, .d (.sl (a2.row.map cS53))])), (1000, some (.box [.ref 25000 0 a0.chains.length, .i a0.horizon])), (25000, some (.nest 72 2 [none, some (67, 3)] (a0.chains.map cS72) []))]) (by simp; exact Sub.table (by simp) (by simp)) ?_
     refine Chain.runK [] 4 fun K hK => ?_; simp; refine hK _ _ ?_; clear hK K
     refine Chain.sub (S' := mk 101 [1000] [(0, .ptr 1000 0 0), (1, .d (.lit (.string a1))), (5, .ptr 5 0 0), (25, .b true)] [(5, some (.box [.i a2.timestamp, .b a2.tombstone, .d (.sl (a2.row.map cS53))])), (1000, some (.box [.ref 25000 0 a0.chains.length, .i a0.horizon])), (25000, some (.nest 72 2 [none, some (67, 3)] (a0.chains.map cS72) []))]) Sub.tt ?_
     cases h
     exact Chain.nil Sub.tt
    ·have c7_ : decide (a2.timestamp < 1) = false := decide_eq_false c7
     refine Chain.sub (Sub.bool 21 (b := decide (a2.timestamp < 1)) rfl c7_) ?_
     refine Chain.sub (S' := mk 101 [1000] [(0, .ptr 1000 0 0), (1, .d (.lit (.string a1))), (5, .ptr 5 0 0), (21, .b false)] [(5, some (.box [.i a2.timestamp, .b a2.tombstone, .d (.sl (a2.row.map cS53))])), (1000, some (.box [.ref 25000 0 a0.chains.length, .i a0.horizon])), (25000, some (.nest 72 2 [none, some (67, 3)] (a0.chains.map cS72) []))]) (by simp; exact Sub.table (by simp) (by simp)) ?_
     refine Chain.runK [] 4 fun K hK => ?_; simp; refine hK _ _ ?_; clear hK K
     refine Chain.sub (S' := mk 101 [1000] [(0, .ptr 1000 0 0), (1, .d (.lit (.string a1))), (5, .ptr 5 0 0), (25, .b (decide (a2.timestamp > 1099511627776)))] [(5, some (.box [.i a2.timestamp, .b a2.tombstone, .d (.sl (a2.row.map cS53))])), (1000, some (.box [.ref 25000 0 a0.chains.length, .i a0.horizon])), (25000, some (.nest 72 2 [none, some (67, 3)] (a0.chains.map cS72) []))]) Sub.tt ?_
     cases h
     exact Chain.nil Sub.tt
   ·clear hj
    replace h := isome h; rcases h with ⟨c8, h⟩ | ⟨c8, h⟩
    ·have c8_ : v6 = true := c8
     refine AW.condT (b := v6) rfl c8_ ?_
     refine AW.sub (Sub.bool 25 (b := v6) rfl c8_) ?_
     refine AW.sub (S' := mk 101 [1000] [(0, .ptr 1000 0 0), (1, .d (.lit (.string a1))), (5, .ptr 5 0 0), (25, .b true)] [(5, some (.box [.i a2.timestamp, .b a2.tombstone, .d (.sl (a2.row.map cS53))])), (1000, some (.box [.ref 25000 0 a0.chains.length, .i a0.horizon])), (25000, some (.nest 72 2 [none, some (67, 3)] (a0.chains.map cS72) []))]) (by simp; exact Sub.table (by simp) (by simp)) ?_
     refine AW.seqR ?_
     refine Chain.runK [] 1 fun K hK => ?_; simp; refine hK _ _ ?_; clear hK K
     refine Chain.sub (S' := mk 101 [1000] [(6, .i 1)] [(1000, some (.box [.ref 25000 0 a0.chains.length, .i a0.horizon])), (25000, some (.nest 72 2 [none, some (67, 3)] (a0.chains.map cS72) []))]) Sub.tt ?_
     refine Chain.nil ?_
     refine AW.ret ?_
     cases h
     refine thenQ_pass (by simp) ?_
     exact FinF.ret (by simp) (by simp)
    ·have c8_ : v6 = false := Bool.eq_false_iff.2 c8
     refine AW.condF (b := v6) rfl c8_ ?_
     refine AW.sub (Sub.bool 25 (b := v6) rfl c8_) ?_
     refine AW.sub (S' := mk 101 [1000] [(0, .ptr 1000 0 0), (1, .d (.lit (.string a1))), (5, .ptr 5 0 0), (25, .b false)] [(5, some (.box [.i a2.timestamp, .b a2.tombstone, .d (.sl (a2.row.map cS53))])), (1000, some (.box [.ref 25000 0 a0.chains.length, .i a0.horizon])), (25000, some (.nest 72 2 [none, some (67, 3)] (a0.chains.map cS72) []))]) (by simp; exact Sub.table (by simp) (by simp)) ?_
     refine AW.skip ?_
     refine thenQ_normal ?_
     refine AW.seq ?_
     refine AW.seqQ (by kernel_rfl) (by kernel_rfl) ?_
     refine Chain.runQ 7 fun K hK => ?_; simp; refine hK _ _ ?_; clear hK K
     refine Chain.sub (S' := mk 101 [1000] [(0, .ptr 1000 0 0), (1, .d (.lit (.string a1))), (5, .ptr 5 0 0), (32, .b (decide (a2.timestamp ≤ a0.horizon)))] [(5, some (.box [.i a2.timestamp, .b a2.tombstone, .d (.sl (a2.row.map cS53))])), (1000, some (.box [.ref 25000 0 a0.chains.length, .i a0.horizon])), (25000, some (.nest 72 2 [none, some (67, 3)] (a0.chains.map cS72) []))]) Sub.tt ?_
     refine Chain.nil ?_
     replace h := isome h; rcases h with ⟨c9, h⟩ | ⟨c9, h⟩
     ·have c9_ : decide (a2.timestamp ≤ a0.horizon) = true := decide_eq_true c9
      refine AW.condT (b := decide (a2.timestamp ≤ a0.horizon)) rfl c9_ ?_
      refine AW.sub (Sub.bool 32 (b := decide (a2.timestamp ≤ a0.horizon)) rfl c9_) ?_
      refine AW.sub (S' := mk 101 [1000] [(0, .ptr 1000 0 0), (1, .d (.lit (.string a1))), (5, .ptr 5 0 0), (32, .b true)] [(5, some (.box [.i a2.timestamp, .b a2.tombstone, .d (.sl (a2.row.map cS53))])), (1000, some (.box [.ref 25000 0 a0.chains.length, .i a0.horizon])), (25000, some (.nest 72 2 [none, some (67, 3)] (a0.chains.map cS72) []))]) (by simp; exact Sub.table (by simp) (by simp)) ?_
      refine AW.seqR ?_
      refine Chain.runK [] 1 fun K hK => ?_; simp; refine hK _ _ ?_; clear hK K
      refine Chain.sub (S' := mk 101 [1000] [(6, .i 21)] [(1000, some (.box [.ref 25000 0 a0.chains.length, .i a0.horizon])), (25000, some (.nest 72 2 [none, some (67, 3)] (a0.chains.map cS72) []))]) Sub.tt ?_
      refine Chain.nil ?_
      refine AW.ret ?_
      cases h
      refine thenQ_pass (by simp) ?_
      exact FinF.ret (by simp) (by simp)
     ·have c9_ : decide (a2.timestamp ≤ a0.horizon) = false := decide_eq_false c9
      refine AW.condF (b := decide (a2.timestamp ≤ a0.horizon)) rfl c9_ ?_
      refine AW.sub (Sub.bool 32 (b := decide (a2.timestamp ≤ a0.horizon)) rfl c9_) ?_
      refine AW.sub (S' := mk 101 [1000] [(0, .ptr 1000 0 0), (1, .d (.lit (.string a1))), (5, .ptr 5 0 0), (32, .b false)] [(5, some (.box [.i a2.timestamp, .b a2.tombstone, .d (.sl (a2.row.map cS53))])), (1000, some (.box [.ref 25000 0 a0.chains.length, .i a0.horizon])), (25000, some (.nest 72 2 [none, some (67, 3)] (a0.chains.map cS72) []))]) (by simp; exact Sub.table (by simp) (by simp)) ?_
      refine AW.skip ?_
      refine thenQ_normal ?_
      refine AW.seqR ?_
      refine Chain.runK [] 2 fun K hK => ?_; simp; refine hK _ _ ?_; clear hK K
      refine Chain.sub (S' := mk 101 [1000] [(0, .ptr 1000 0 0), (1, .d (.lit (.string a1))), (5, .ptr 5 0 0), (34, .ptr 1000 0 0), (35, .d (.lit (.string a1)))] [(5, some (.box [.i a2.timestamp, .b a2.tombstone, .d (.sl (a2.row.map cS53))])), (1000, some (.box [.ref 25000 0 a0.chains.length, .i a0.horizon])), (25000, some (.nest 72 2 [none, some (67, 3)] (a0.chains.map cS72) []))]) Sub.tt ?_
      replace h := bsome h; obtain ⟨r10, hr10, h⟩ := h
      refine Chain.callL (d := 36) (p25 N a0 a1 r10 hr10) (by simp) rfl rfl (by simp <;> rfl) (by simp <;> rfl) ent25 (by simp <;> rfl) ?_
      refine Chain.sub (S' := mk 101 [1000] [(0, .ptr 1000 0 0), (1, .d (.lit (.string a1))), (5, .ptr 5 0 0), (34, .ptr 1000 0 0), (35, .d (.lit (.string a1))), (36, .tup [.i r10.1, .b r10.2])] [(5, some (.box [.i a2.timestamp, .b a2.tombstone, .d (.sl (a2.row.map cS53))])), (1000, some (.box [.ref 25000 0 a0.chains.length, .i a0.horizon])), (25000, some (.nest 72 2 [none, some (67, 3)] (a0.chains.map cS72) []))]) (by simp; exact Sub.table (by simp) (by simp)) ?_
      refine Chain.runK [] 5 fun K hK => ?_; simp; refine hK _ _ ?_; clear hK K
      refine Chain.sub (S' := mk 101 [1000] [(0, .ptr 1000 0 0), (1, .d (.lit (.string a1))), (5, .ptr 5 0 0), (7, .i r10.1), (8, .b r10.2)] [(5, some (.box [.i a2.timestamp, .b a2.tombstone, .d (.sl (a2.row.map cS53))])), (1000, some (.box [.ref 25000 0 a0.chains.length, .i a0.horizon])), (25000, some (.nest 72 2 [none, some (67, 3)] (a0.chains.map cS72) []))]) Sub.tt ?_
      refine Chain.nil ?_
      refine AW.seq ?_
      replace h := bsome h; obtain ⟨⟨v18, v19⟩, hj, h⟩ := h
      dsimp only at h
      refine AW.cutQ (by kernel_rfl) (by kernel_rfl) (mk 101 [1000] [(0, .ptr 1000 0 0), (1, .d (.lit (.string a1))), (5, .ptr 5 0 0), (7, .i r10.1), (8, .b v18), (65, .b v19)] [(5, some (.box [.i a2.timestamp, .b a2.tombstone, .d (.sl (a2.row.map cS53))])), (1000, some (.box [.ref 25000 0 a0.chains.length, .i a0.horizon])), (25000, some (.nest 72 2 [none, some (67, 3)] (a0.chains.map cS72) []))]) ?_ ?_
      ·clear h; have h := hj; clear hj
       refine Chain.runQ 2 fun K hK => ?_; simp; refine hK _ _ ?_; clear hK K
       refine Chain.sub (S' := mk 101 [1000] [(0, .ptr 1000 0 0), (1, .d (.lit (.string a1))), (5, .ptr 5 0 0), (7, .i r10.1), (8, .b r10.2), (40, .b r10.2)] [(5, some (.box [.i a2.timestamp, .b a2.tombstone, .d (.sl (a2.row.map cS53))])), (1000, some (.box [.ref 25000 0 a0.chains.length, .i a0.horizon])), (25000, some (.nest 72 2 [none, some (67, 3)] (a0.chains.map cS72) []))]) Sub.tt ?_
       replace h := isome h; rcases h with ⟨c20, h⟩ | ⟨c20, h⟩
       ·have c20_ : r10.2 = true := c20
        refine Chain.sub (Sub.bool 8 (b := r10.2) rfl c20_) ?_
        refine Chain.sub (Sub.bool 40 (b := r10.2) rfl c20_) ?_
        refine Chain.sub (S' := mk 101 [1000] [(0, .ptr 1000 0 0), (1, .d (.lit (.string a1))), (5, .ptr 5 0 0), (7, .i r10.1), (8, .b true), (40, .b true)] [(5, some (.box [.i a2.timestamp, .b a2.tombstone, .d (.sl (a2.row.map cS53))])), (1000, some (.box [.ref 25000 0 a0.chains.length, .i a0.horizon])), (25000, some (.nest 72 2 [none, some (67, 3)] (a0.chains.map cS72) []))]) (by simp; exact Sub.table (by simp) (by simp)) ?_
        refine Chain.runQ 5 fun K hK => ?_; simp; refine hK _ _ ?_; clear hK K
        refine Chain.sub (S' := mk 101 [1000] [(0, .ptr 1000 0 0), (1, .d (.lit (.string a1))), (5, .ptr 5 0 0), (7, .i r10.1), (8, .b true), (40, .b true), (44, .ref 25000 0 a0.chains.length), (45, .i r10.1)] [(5, some (.box [.i a2.timestamp, .b a2.tombstone, .d (.sl (a2.row.map cS53))])), (1000, some (.box [.ref 25000 0 a0.chains.length, .i a0.horizon])), (25000, some (.nest 72 2 [none, some (67, 3)] (a0.chains.map cS72) []))]) Sub.tt ?_
        replace h := bsome h; obtain ⟨x21, hx21, h⟩ := h
        obtain ⟨k22, hx21k, hx21, hx21a, hx21b⟩ := idx_some hx21
        refine Chain.sub (Sub.open 25000 k22 [9023] (e := cS72 x21) rfl rfl (by simp [hx21]) rfl (by simp) rfl) ?_
        refine Chain.sub (S' := mk 101 [1000] [(0, .ptr 1000 0 0), (1, .d (.lit (.string a1))), (5, .ptr 5 0 0), (7, .i r10.1), (8, .b true), (40, .b true), (44, .ref 25000 0 a0.chains.length), (45, .i r10.1)] [(5, some (.box [.i a2.timestamp, .b a2.tombstone, .d (.sl (a2.row.map cS53))])), (1000, some (.box [.ref 25000 0 a0.chains.length, .i a0.horizon])), (9023, R67 x21.versions), (25000, some (.nest 72 2 [none, some (67, 3)] (a0.chains.map cS72) [(k22, [.d (.lit (.string x21.key)), .ref 9023 0 x21.versions.length])]))]) (by simp; exact Sub.table (by simp) (by simp)) ?_
        replace h := bsome h; obtain ⟨v24, hv24, h⟩ := h
        have hv24 := chkI_some hv24
        replace h := bsome h; obtain ⟨x25, hx25, h⟩ := h
        obtain ⟨k26, hx25k, hx25, hx25a, hx25b⟩ := idx_some hx25
        refine Chain.runQ 20 fun K hK => ?_; simp [hx21k, hx21a, hx21b, hv24, hx25, hx25k, hx25a, hx25b]; refine hK _ _ ?_; clear hK K
        refine Chain.sub (S' := mk 101 [1000] [(0, .ptr 1000 0 0), (1, .d (.lit (.string a1))), (5, .ptr 5 0 0), (7, .i r10.1), (8, .b true), (65, .b (decide (x25.timestamp ≥ a2.timestamp)))] [(5, some (.box [.i a2.timestamp, .b a2.tombstone, .d (.sl (a2.row.map cS53))])), (1000, some (.box [.ref 25000 0 a0.chains.length, .i a0.horizon])), (9023, R67 x21.versions), (25000, some (.nest 72 2 [none, some (67, 3)] (a0.chains.map cS72) [(k22, [.d (.lit (.string x21.key)), .ref 9023 0 x21.versions.length])]))]) Sub.tt ?_
        refine Chain.sub (Sub.closeSame 25000 k22 (e := cS72 x21) (cs := [.d (.lit (.string x21.key)), .ref 9023 0 x21.versions.length]) (ks := [9023]) rfl rfl (by simp [hx21]) (by simp) (by decide) rfl) ?_
        refine Chain.sub (S' := mk 101 [1000] [(0, .ptr 1000 0 0), (1, .d (.lit (.string a1))), (5, .ptr 5 0 0), (7, .i r10.1), (8, .b true), (65, .b (decide (x25.timestamp ≥ a2.timestamp)))] [(5, some (.box [.i a2.timestamp, .b a2.tombstone, .d (.sl (a2.row.map cS53))])), (1000, some (.box [.ref 25000 0 a0.chains.length, .i a0.horizon])), (25000, some (.nest 72 2 [none, some (67, 3)] (a0.chains.map cS72) []))]) (by simp; exact Sub.table (by simp) (by simp)) ?_
        cases h
        exact Chain.nil Sub.tt
       ·have c20_ : r10.2 = false := Bool.eq_false_iff.2 c20
        refine Chain.sub (Sub.bool 8 (b := r10.2) rfl c20_) ?_
        refine Chain.sub (Sub.bool 40 (b := r10.2) rfl c20_) ?_
        refine Chain.sub (S' := mk 101 [1000] [(0, .ptr 1000 0 0), (1, .d (.lit (.string a1))), (5, .ptr 5 0 0), (7, .i r10.1), (8, .b false), (40, .b false)] [(5, some (.box [.i a2.timestamp, .b a2.tombstone, .d (.sl (a2.row.map cS53))])), (1000, some (.box [.ref 25000 0 a0.chains.length, .i a0.horizon])), (25000, some (.nest 72 2 [none, some (67, 3)] (a0.chains.map cS72) []))]) (by simp; exact Sub.table (by simp) (by simp)) ?_
        refine Chain.runQ 25 fun K hK => ?_; simp; refine hK _ _ ?_; clear hK K
        refine Chain.sub (S' := mk 101 [1000] [(0, .ptr 1000 0 0), (1, .d (.lit (.string a1))), (5, .ptr 5 0 0), (7, .i r10.1), (8, .b false), (65, .b false)] [(5, some (.box [.i a2.timestamp, .b a2.tombstone, .d (.sl (a2.row.map cS53))])), (1000, some (.box [.ref 25000 0 a0.chains.length, .i a0.horizon])), (25000, some (.nest 72 2 [none, some (67, 3)] (a0.chains.map cS72) []))]) Sub.tt ?_
        cases h
        exact Chain.nil Sub.tt
      ·clear hj
       replace h := isome h; rcases h with ⟨c27, h⟩ | ⟨c27, h⟩
       ·have c27_ : v19 = true := c27
        refine AW.condT (b := v19) rfl c27_ ?_
        refine AW.sub (Sub.bool 65 (b := v19) rfl c27_) ?_
        refine AW.sub (S' := mk 101 [1000] [(0, .ptr 1000 0 0), (1, .d (.lit (.string a1))), (5, .ptr 5 0 0), (7, .i r10.1), (8, .b v18), (65, .b true)] [(5, some (.box [.i a2.timestamp, .b a2.tombstone, .d (.sl (a2.row.map cS53))])), (1000, some (.box [.ref 25000 0 a0.chains.length, .i a0.horizon])), (25000, some (.nest 72 2 [none, some (67, 3)] (a0.chains.map cS72) []))]) (by simp; exact Sub.table (by simp) (by simp)) ?_
        refine AW.seqR ?_
        refine Chain.runK [] 1 fun K hK => ?_; simp; refine hK _ _ ?_; clear hK K
        refine Chain.sub (S' := mk 101 [1000] [(6, .i 6)] [(1000, some (.box [.ref 25000 0 a0.chains.length, .i a0.horizon])), (25000, some (.nest 72 2 [none, some (67, 3)] (a0.chains.map cS72) []))]) Sub.tt ?_
        refine Chain.nil ?_
        refine AW.ret ?_
        cases h
        refine thenQ_pass (by simp) ?_
        exact FinF.ret (by simp) (by simp)
       ·have c27_ : v19 = false := Bool.eq_false_iff.2 c27
        refine AW.condF (b := v19) rfl c27_ ?_
        refine AW.sub (Sub.bool 65 (b := v19) rfl c27_) ?_
        refine AW.sub (S' := mk 101 [1000] [(0, .ptr 1000 0 0), (1, .d (.lit (.string a1))), (5, .ptr 5 0 0), (7, .i r10.1), (8, .b v18), (65, .b false)] [(5, some (.box [.i a2.timestamp, .b a2.tombstone, .d (.sl (a2.row.map cS53))])), (1000, some (.box [.ref 25000 0 a0.chains.length, .i a0.horizon])), (25000, some (.nest 72 2 [none, some (67, 3)] (a0.chains.map cS72) []))]) (by simp; exact Sub.table (by simp) (by simp)) ?_
        refine AW.skip ?_
        refine thenQ_normal ?_
        refine AW.seq ?_
        refine AW.seqR ?_
        refine Chain.runK [] 1 fun K hK => ?_; simp; refine hK _ _ ?_; clear hK K
        refine Chain.sub (S' := mk 101 [1000] [(0, .ptr 1000 0 0), (1, .d (.lit (.string a1))), (5, .ptr 5 0 0), (7, .i r10.1), (8, .b v18), (66, .ptr 1000 0 0)] [(5, some (.box [.i a2.timestamp, .b a2.tombstone, .d (.sl (a2.row.map cS53))])), (1000, some (.box [.ref 25000 0 a0.chains.length, .i a0.horizon])), (25000, some (.nest 72 2 [none, some (67, 3)] (a0.chains.map cS72) []))]) Sub.tt ?_
        replace h := bsome h; obtain ⟨r28, hr28, h⟩ := h
        refine Chain.callL (d := 67) (p21 N a0 r28 hr28) (by simp) rfl rfl (by simp <;> rfl) (by simp <;> rfl) ent21 (by simp <;> rfl) ?_
        refine Chain.sub (S' := mk 101 [1000] [(0, .ptr 1000 0 0), (1, .d (.lit (.string a1))), (5, .ptr 5 0 0), (7, .i r10.1), (8, .b v18), (66, .ptr 1000 0 0), (67, .i r28)] [(5, some (.box [.i a2.timestamp, .b a2.tombstone, .d (.sl (a2.row.map cS53))])), (1000, some (.box [.ref 25000 0 a0.chains.length, .i a0.horizon])), (25000, some (.nest 72 2 [none, some (67, 3)] (a0.chains.map cS72) []))]) (by simp; exact Sub.table (by simp) (by simp)) ?_
        refine Chain.runK [] 1 fun K hK => ?_; simp; refine hK _ _ ?_; clear hK K
        refine Chain.sub (S' := mk 101 [1000] [(0, .ptr 1000 0 0), (1, .d (.lit (.string a1))), (5, .ptr 5 0 0), (7, .i r10.1), (8, .b v18), (68, .b (r28 == 400))] [(5, some (.box [.i a2.timestamp, .b a2.tombstone, .d (.sl (a2.row.map cS53))])), (1000, some (.box [.ref 25000 0 a0.chains.length, .i a0.horizon])), (25000, some (.nest 72 2 [none, some (67, 3)] (a0.chains.map cS72) []))]) Sub.tt ?_
        refine Chain.nil ?_
        replace h := isome h; rcases h with ⟨c29, h⟩ | ⟨c29, h⟩
        ·have c29_ : (r28 == 400) = true := c29
         refine AW.condT (b := (r28 == 400)) rfl c29_ ?_
         refine AW.sub (Sub.bool 68 (b := (r28 == 400)) rfl c29_) ?_
         refine AW.sub (S' := mk 101 [1000] [(0, .ptr 1000 0 0), (1, .d (.lit (.string a1))), (5, .ptr 5 0 0), (7, .i r10.1), (8, .b v18), (68, .b true)] [(5, some (.box [.i a2.timestamp, .b a2.tombstone, .d (.sl (a2.row.map cS53))])), (1000, some (.box [.ref 25000 0 a0.chains.length, .i a0.horizon])), (25000, some (.nest 72 2 [none, some (67, 3)] (a0.chains.map cS72) []))]) (by simp; exact Sub.table (by simp) (by simp)) ?_
         refine AW.seqR ?_
         refine Chain.runK [] 1 fun K hK => ?_; simp; refine hK _ _ ?_; clear hK K
         refine Chain.sub (S' := mk 101 [1000] [(6, .i 18)] [(1000, some (.box [.ref 25000 0 a0.chains.length, .i a0.horizon])), (25000, some (.nest 72 2 [none, some (67, 3)] (a0.chains.map cS72) []))]) Sub.tt ?_
         refine Chain.nil ?_
         refine AW.ret ?_
         cases h
         refine thenQ_pass (by simp) ?_
         exact FinF.ret (by simp) (by simp)
        ·have c29_ : (r28 == 400) = false := Bool.eq_false_iff.2 c29
         refine AW.condF (b := (r28 == 400)) rfl c29_ ?_
         refine AW.sub (Sub.bool 68 (b := (r28 == 400)) rfl c29_) ?_
         refine AW.sub (S' := mk 101 [1000] [(0, .ptr 1000 0 0), (1, .d (.lit (.string a1))), (5, .ptr 5 0 0), (7, .i r10.1), (8, .b v18), (68, .b false)] [(5, some (.box [.i a2.timestamp, .b a2.tombstone, .d (.sl (a2.row.map cS53))])), (1000, some (.box [.ref 25000 0 a0.chains.length, .i a0.horizon])), (25000, some (.nest 72 2 [none, some (67, 3)] (a0.chains.map cS72) []))]) (by simp; exact Sub.table (by simp) (by simp)) ?_
         refine AW.skip ?_
         refine thenQ_normal ?_
         refine AW.seq ?_
         refine AW.seqR ?_
         refine Chain.runK [] 2 fun K hK => ?_; simp; refine hK _ _ ?_; clear hK K
         refine Chain.sub (S' := mk 101 [1000] [(0, .ptr 1000 0 0), (1, .d (.lit (.string a1))), (5, .ptr 5 0 0), (7, .i r10.1), (70, .b (!v18))] [(5, some (.box [.i a2.timestamp, .b a2.tombstone, .d (.sl (a2.row.map cS53))])), (1000, some (.box [.ref 25000 0 a0.chains.length, .i a0.horizon])), (25000, some (.nest 72 2 [none, some (67, 3)] (a0.chains.map cS72) []))]) Sub.tt ?_
         refine Chain.nil ?_
         refine AW.lastN (fun (l33 : List S72) => mk 101 [1000] [(0, .ptr 1000 0 0), (5, .ptr 5 0 0), (7, .i r10.1)] [(5, some (.box [.i a2.timestamp, .b a2.tombstone, .d (.sl (a2.row.map cS53))])), (1000, some (.box [.ref 25000 0 l33.length, .i a0.horizon])), (25000, some (.nest 72 2 [none, some (67, 3)] (l33.map cS72) []))]) h ?_ ?_ <;> clear h
         ·intro o h
          replace h := isome h; rcases h with ⟨c34, h⟩ | ⟨c34, h⟩
          ·have c34_ : (!v18) = true := c34
           refine AW.condT (b := (!v18)) rfl c34_ ?_
           refine AW.sub (Sub.bool 70 (b := (!v18)) rfl c34_) ?_
           refine AW.sub (S' := mk 101 [1000] [(0, .ptr 1000 0 0), (1, .d (.lit (.string a1))), (5, .ptr 5 0 0), (7, .i r10.1), (70, .b true)] [(5, some (.box [.i a2.timestamp, .b a2.tombstone, .d (.sl (a2.row.map cS53))])), (1000, some (.box [.ref 25000 0 a0.chains.length, .i a0.horizon])), (25000, some (.nest 72 2 [none, some (67, 3)] (a0.chains.map cS72) []))]) (by simp; exact Sub.table (by simp) (by simp)) ?_
           refine AW.region ?_
           refine Chain.runK [] 8 fun K hK => ?_; simp; refine hK _ _ ?_; clear hK K
           refine Chain.sub (S' := mk 101 [1000] [(0, .ptr 1000 0 0), (5, .ptr 5 0 0), (7, .i r10.1), (71, .ptr 1000 0 0), (75, .ref 25000 0 a0.chains.length), (76, .i r10.1), (78, .agg [.d (.lit (.string a1)), .d (.lit (.slice none 0 0))])] [(5, some (.box [.i a2.timestamp, .b a2.tombstone, .d (.sl (a2.row.map cS53))])), (1000, some (.box [.ref 25000 0 a0.chains.length, .i a0.horizon])), (25000, some (.nest 72 2 [none, some (67, 3)] (a0.chains.map cS72) []))]) Sub.tt ?_
           replace h := lsome h; obtain ⟨l35, gl35, h⟩ := h
           have hl35 : [[.lit (.string a1), .sl []]] = l35.map cS72 := by rw [← gl35]; rfl
           have hl35n : l35.length = 1 := by rw [← gl35]; rfl
           clear gl35
           refine Chain.buildN (d := 79) (cs := [.d (.lit (.string a1)), .d (.lit (.slice none 0 0))]) (te := ⟨_, 2, 40, _⟩) [none, some (67, 3)] (by simp) rfl rfl ty61 rfl ty72 (by simp) rfl rfl rfl rfl (by decide) (by decide) rfl rfl rfl ?_
           refine Chain.sub (Sub.close 79 0 (e := [.lit (.string a1), .sl []]) (cs := [.d (.lit (.string a1)), .d (.lit (.slice none 0 0))]) (ks := []) rfl rfl (by simp) (by decide) rfl) ?_
           refine Chain.sub (S' := mk 101 [1000] [(0, .ptr 1000 0 0), (5, .ptr 5 0 0), (7, .i r10.1), (71, .ptr 1000 0 0), (75, .ref 25000 0 a0.chains.length), (76, .i r10.1), (78, .agg [.d (.lit (.string a1)), .d (.lit (.slice none 0 0))]), (79, .ref 79 0 l35.length)] [(5, some (.box [.i a2.timestamp, .b a2.tombstone, .d (.sl (a2.row.map cS53))])), (79, some (.nest 72 2 [none, some (67, 3)] (l35.map cS72) [])), (1000, some (.box [.ref 25000 0 a0.chains.length, .i a0.horizon])), (25000, some (.nest 72 2 [none, some (67, 3)] (a0.chains.map cS72) []))]) (by simp [hl35]; exact Sub.table (by simp [hl35n]) (by simp)) ?_
           replace h := bsome h; obtain ⟨l36, hl36, h⟩ := h
           refine Chain.callF (p32 N a0.chains r10.1 l35 l36 hl36) [(25000, 1000), (79, 1001)] [] [(1000, 25000)] [(25000, .nest 72 2 [none, some (67, 3)] (l36.map cS72) [])] (.ref 25000 0 l36.length) (by simp) rfl (by simp <;> rfl) (by simp) (by simp) (by simp) (by simp) (by simp) ent32 (by simp) (by simp) (by simp) (by simp) (by simp) (by simp) ?_
           refine Chain.sub (S' := mk 101 [1000] [(0, .ptr 1000 0 0), (5, .ptr 5 0 0), (7, .i r10.1), (71, .ptr 1000 0 0), (76, .i r10.1), (78, .agg [.d (.lit (.string a1)), .d (.lit (.slice none 0 0))]), (80, .ref 25000 0 l36.length)] [(5, some (.box [.i a2.timestamp, .b a2.tombstone, .d (.sl (a2.row.map cS53))])), (1000, some (.box [.hole, .i a0.horizon])), (25000, some (.nest 72 2 [none, some (67, 3)] (l36.map cS72) []))]) (by simp; exact Sub.table (by simp) (by simp)) ?_
           refine Chain.runK [] 3 fun K hK => ?_; simp; refine hK _ _ ?_; clear hK K
           refine Chain.sub (S' := mk 101 [1000] [(0, .ptr 1000 0 0), (5, .ptr 5 0 0), (7, .i r10.1)] [(5, some (.box [.i a2.timestamp, .b a2.tombstone, .d (.sl (a2.row.map cS53))])), (1000, some (.box [.ref 25000 0 l36.length, .i a0.horizon])), (25000, some (.nest 72 2 [none, some (67, 3)] (l36.map cS72) []))]) Sub.tt ?_
           refine Chain.nil ?_
           cases h
           refine PostN.next ?_
           exact Sub.tt
          ·have c34_ : (!v18) = false := Bool.eq_false_iff.2 c34
           refine AW.condF (b := (!v18)) rfl c34_ ?_
           refine AW.sub (Sub.bool 70 (b := (!v18)) rfl c34_) ?_
           refine AW.sub (S' := mk 101 [1000] [(0, .ptr 1000 0 0), (1, .d (.lit (.string a1))), (5, .ptr 5 0 0), (7, .i r10.1), (70, .b false)] [(5, some (.box [.i a2.timestamp, .b a2.tombstone, .d (.sl (a2.row.map cS53))])), (1000, some (.box [.ref 25000 0 a0.chains.length, .i a0.horizon])), (25000, some (.nest 72 2 [none, some (67, 3)] (a0.chains.map cS72) []))]) (by simp; exact Sub.table (by simp) (by simp)) ?_
           refine AW.skip ?_
           cases h
           refine PostN.next ?_
           exact Sub.tt
         ·rintro l33 h
          refine thenQ_normal ?_
          replace h := bsome h; obtain ⟨x37, hx37, h⟩ := h
          obtain ⟨k38, hx37k, hx37, hx37a, hx37b⟩ := idx_some hx37
          refine AW.sub (Sub.open 25000 k38 [9039] (e := cS72 x37) rfl rfl (by simp [hx37]) rfl (by simp) rfl) ?_
          refine AW.sub (S' := mk 101 [1000] [(0, .ptr 1000 0 0), (5, .ptr 5 0 0), (7, .i r10.1)] [(5, some (.box [.i a2.timestamp, .b a2.tombstone, .d (.sl (a2.row.map cS53))])), (1000, some (.box [.ref 25000 0 l33.length, .i a0.horizon])), (9039, R67 x37.versions), (25000, some (.nest 72 2 [none, some (67, 3)] (l33.map cS72) [(k38, [.d (.lit (.string x37.key)), .ref 9039 0 x37.versions.length])]))]) (by simp; exact Sub.table (by simp) (by simp)) ?_
          replace h := bsome h; obtain ⟨l40, hl40, h⟩ := h
          obtain ⟨hl40a, hl40⟩ := appL_some hl40
          subst hl40
          try simp only [List.length_cons, List.length_nil, Nat.zero_add] at hl40a
          refine AW.seqAnyS [[], [0], [0, 1], [0, 1, 2], [], [], [5], [5, 6], [5, 6, 7], [], [5, 6, 7, 8, 9], [5, 6, 7, 8, 9, 10], [5, 6, 7, 8, 9, 10, 11], [], [13], [5, 6, 7, 8, 9, 10, 11, 12, 13, 14], [0, 1, 2, 3, 4, 5, 6, 7, 8, 9, 10, 11, 12, 13, 14, 15], [0, 1, 2, 3, 4, 5, 6, 7, 8, 9, 10, 11, 12, 13, 14, 15, 16], [0, 1, 2, 3, 4, 5, 6, 7, 8, 9, 10, 11, 12, 13, 14, 15, 16, 17]] (fun (b : Nat → Bool) => mk 101 [1000] [(0, .ptr 1000 0 0), (5, .ptr 5 0 0), (7, .i r10.1), (83, (if b 0 then .ptr 1000 0 0 else .junk)), (84, (if b 1 then .ptr 1000 0 0 else .junk)), (85, (if b 2 then .ptr 1000 0 0 else .junk)), (86, (if b 3 then .ref 25000 0 l33.length else .junk)), (87, (if b 4 then .i r10.1 else .junk)), (88, (if b 5 then .ptr 1000 0 0 else .junk)), (89, (if b 6 then .ptr 1000 0 0 else .junk)), (90, (if b 7 then .ptr 1000 0 0 else .junk)), (91, (if b 8 then .ref 25000 0 l33.length else .junk)), (92, (if b 9 then .i r10.1 else .junk)), (93, (if b 10 then .ptr 25000 k38 0 else .junk)), (94, (if b 11 then .ptr 25000 k38 1 else .junk)), (95, (if b 15 then .junk else (if b 12 then .ref 9039 0 x37.versions.length else .junk))), (96, (if b 13 then .agg [.i a2.timestamp, .b a2.tombstone, .d (.sl (a2.row.map cS53))] else .junk)), (97, (if b 14 then .d (.sl ([a2].map cS67)) else .junk)), (98, (if b 15 then .ref 9039 0 ((x37.versions ++ [a2]).length) else .junk)), (99, (if b 16 then .ptr 25000 k38 0 else .junk)), (100, (if b 17 then .ptr 25000 k38 1 else .junk))] [(5, some (.box [.i a2.timestamp, .b a2.tombstone, .d (.sl (a2.row.map cS53))])), (1000, some (.box [.ref 25000 0 l33.length, .i a0.horizon])), (9039, (if b 15 then R67 (x37.versions ++ [a2]) else R67 x37.versions)), (25000, (if b 18 then some (.nest 72 2 [none, some (67, 3)] (l33.map cS72) [(k38, [.d (.lit (.string x37.key)), .ref 9039 0 ((x37.versions ++ [a2]).length)])]) else (if b 15 then some (.nest 72 2 [none, some (67, 3)] (l33.map cS72) [(k38, [.d (.lit (.string x37.key)), .hole])]) else some (.nest 72 2 [none, some (67, 3)] (l33.map cS72) [(k38, [.d (.lit (.string x37.key)), .ref 9039 0 x37.versions.length])]))))]) (mk 101 [1000] [] [(1000, some (.box [.ref 25000 0 l33.length, .i a0.horizon])), (9039, R67 (x37.versions ++ [a2])), (25000, some (.nest 72 2 [none, some (67, 3)] (l33.map cS72) [(k38, [.d (.lit (.string x37.key)), .ref 9039 0 ((x37.versions ++ [a2]).length)])]))]) (by kernel_rfl) (by kernel_rfl) Sub.tt (Steps.cons ?_ (Steps.cons ?_ (Steps.cons ?_ (Steps.cons ?_ (Steps.cons ?_ (Steps.cons ?_ (Steps.cons ?_ (Steps.cons ?_ (Steps.cons ?_ (Steps.cons ?_ (Steps.cons ?_ (Steps.cons ?_ (Steps.cons ?_ (Steps.cons ?_ (Steps.cons ?_ (Steps.cons ?_ (Steps.cons ?_ (Steps.cons ?_ (Steps.cons ?_ (Steps.nil)))))))))))))))))))) ?_ ?_
          ·intro b h0 ha hd
           have f1 : b 1 = false := hd 1 (by decide)
           have f2 : b 2 = false := hd 2 (by decide)
           have f3 : b 3 = false := hd 3 (by decide)
           have f16 : b 16 = false := hd 16 (by decide)
           have f17 : b 17 = false := hd 17 (by decide)
           have f18 : b 18 = false := hd 18 (by decide)
           refine Chain.runK [97] 1 fun K hK => ?_; simp [h0, f1, f2, f3, f16, f17, f18]; refine hK _ _ ?_; clear hK K
           exact Chain.nil (Sub.table (by simp [f1, f2, f3, f16, f17]) (by simp [f18]))
          ·intro b h0 ha hd
           have t0 : b 0 = true := ha 0 (by decide)
           have f2 : b 2 = false := hd 2 (by decide)
           have f3 : b 3 = false := hd 3 (by decide)
           have f16 : b 16 = false := hd 16 (by decide)
           have f17 : b 17 = false := hd 17 (by decide)
           have f18 : b 18 = false := hd 18 (by decide)
           refine Chain.runK [97] 1 fun K hK => ?_; simp [h0, t0, f2, f3, f16, f17, f18]; refine hK _ _ ?_; clear hK K
           exact Chain.nil (Sub.table (by simp [t0, f2, f3, f16, f17]) (by simp [f18]))
          ·intro b h0 ha hd
           have t0 : b 0 = true := ha 0 (by decide)
           have t1 : b 1 = true := ha 1 (by decide)
           have f3 : b 3 = false := hd 3 (by decide)
           have f16 : b 16 = false := hd 16 (by decide)
           have f17 : b 17 = false := hd 17 (by decide)
           have f18 : b 18 = false := hd 18 (by decide)
           refine Chain.runK [97] 1 fun K hK => ?_; simp [h0, t0, t1, f3, f16, f17, f18]; refine hK _ _ ?_; clear hK K
           exact Chain.nil (Sub.table (by simp [t0, t1, f3, f16, f17]) (by simp [f18]))
          ·intro b h0 ha hd
           have t0 : b 0 = true := ha 0 (by decide)
           have t1 : b 1 = true := ha 1 (by decide)
           have t2 : b 2 = true := ha 2 (by decide)
           have f16 : b 16 = false := hd 16 (by decide)
           have f17 : b 17 = false := hd 17 (by decide)
           have f18 : b 18 = false := hd 18 (by decide)
           refine Chain.runK [97] 1 fun K hK => ?_; simp [h0, t0, t1, t2, f16, f17, f18]; refine hK _ _ ?_; clear hK K
           exact Chain.nil (Sub.table (by simp [t0, t1, t2, f16, f17]) (by simp [f18]))
          ·intro b h0 ha hd
           have f16 : b 16 = false := hd 16 (by decide)
           have f17 : b 17 = false := hd 17 (by decide)
           have f18 : b 18 = false := hd 18 (by decide)
           refine Chain.runK [97] 1 fun K hK => ?_; simp [h0, f16, f17, f18]; refine hK _ _ ?_; clear hK K
           exact Chain.nil (Sub.table (by simp [f16, f17]) (by simp [f18]))
          ·intro b h0 ha hd
           have f6 : b 6 = false := hd 6 (by decide)
           have f7 : b 7 = false := hd 7 (by decide)
           have f8 : b 8 = false := hd 8 (by decide)
           have f10 : b 10 = false := hd 10 (by decide)
           have f11 : b 11 = false := hd 11 (by decide)
           have f12 : b 12 = false := hd 12 (by decide)
           have f15 : b 15 = false := hd 15 (by decide)
           have f16 : b 16 = false := hd 16 (by decide)
           have f17 : b 17 = false := hd 17 (by decide)
           have f18 : b 18 = false := hd 18 (by decide)
           refine Chain.runK [97] 1 fun K hK => ?_; simp [h0, f6, f7, f8, f10, f11, f12, f15, f16, f17, f18]; refine hK _ _ ?_; clear hK K
           exact Chain.nil (Sub.table (by simp [f6, f7, f8, f10, f11, f12, f15, f16, f17]) (by simp [f15, f18]))
          ·intro b h0 ha hd
           have t5 : b 5 = true := ha 5 (by decide)
           have f7 : b 7 = false := hd 7 (by decide)
           have f8 : b 8 = false := hd 8 (by decide)
           have f10 : b 10 = false := hd 10 (by decide)
           have f11 : b 11 = false := hd 11 (by decide)
           have f12 : b 12 = false := hd 12 (by decide)
           have f15 : b 15 = false := hd 15 (by decide)
           have f16 : b 16 = false := hd 16 (by decide)
           have f17 : b 17 = false := hd 17 (by decide)
           have f18 : b 18 = false := hd 18 (by decide)
           refine Chain.runK [97] 1 fun K hK => ?_; simp [h0, t5, f7, f8, f10, f11, f12, f15, f16, f17, f18]; refine hK _ _ ?_; clear hK K
           exact Chain.nil (Sub.table (by simp [t5, f7, f8, f10, f11, f12, f15, f16, f17]) (by simp [f15, f18]))
          ·intro b h0 ha hd
           have t5 : b 5 = true := ha 5 (by decide)
           have t6 : b 6 = true := ha 6 (by decide)
           have f8 : b 8 = false := hd 8 (by decide)
           have f10 : b 10 = false := hd 10 (by decide)
           have f11 : b 11 = false := hd 11 (by decide)
           have f12 : b 12 = false := hd 12 (by decide)
           have f15 : b 15 = false := hd 15 (by decide)
           have f16 : b 16 = false := hd 16 (by decide)
           have f17 : b 17 = false := hd 17 (by decide)
           have f18 : b 18 = false := hd 18 (by decide)
           refine Chain.runK [97] 1 fun K hK => ?_; simp [h0, t5, t6, f8, f10, f11, f12, f15, f16, f17, f18]; refine hK _ _ ?_; clear hK K
           exact Chain.nil (Sub.table (by simp [t5, t6, f8, f10, f11, f12, f15, f16, f17]) (by simp [f15, f18]))
          ·intro b h0 ha hd
           have t5 : b 5 = true := ha 5 (by decide)
           have t6 : b 6 = true := ha 6 (by decide)
           have t7 : b 7 = true := ha 7 (by decide)
           have f10 : b 10 = false := hd 10 (by decide)
           have f11 : b 11 = false := hd 11 (by decide)
           have f12 : b 12 = false := hd 12 (by decide)
           have f15 : b 15 = false := hd 15 (by decide)
           have f16 : b 16 = false := hd 16 (by decide)
           have f17 : b 17 = false := hd 17 (by decide)
           have f18 : b 18 = false := hd 18 (by decide)
           refine Chain.runK [97] 1 fun K hK => ?_; simp [h0, t5, t6, t7, f10, f11, f12, f15, f16, f17, f18]; refine hK _ _ ?_; clear hK K
           exact Chain.nil (Sub.table (by simp [t5, t6, t7, f10, f11, f12, f15, f16, f17]) (by simp [f15, f18]))
          ·intro b h0 ha hd
           have f10 : b 10 = false := hd 10 (by decide)
           have f11 : b 11 = false := hd 11 (by decide)
           have f12 : b 12 = false := hd 12 (by decide)
           have f15 : b 15 = false := hd 15 (by decide)
           have f16 : b 16 = false := hd 16 (by decide)
           have f17 : b 17 = false := hd 17 (by decide)
           have f18 : b 18 = false := hd 18 (by decide)
           refine Chain.runK [97] 1 fun K hK => ?_; simp [h0, f10, f11, f12, f15, f16, f17, f18]; refine hK _ _ ?_; clear hK K
           exact Chain.nil (Sub.table (by simp [f10, f11, f12, f15, f16, f17]) (by simp [f15, f18]))
          ·intro b h0 ha hd
           have t5 : b 5 = true := ha 5 (by decide)
           have t6 : b 6 = true := ha 6 (by decide)
           have t7 : b 7 = true := ha 7 (by decide)
           have t8 : b 8 = true := ha 8 (by decide)
           have t9 : b 9 = true := ha 9 (by decide)
           have f11 : b 11 = false := hd 11 (by decide)
           have f12 : b 12 = false := hd 12 (by decide)
           have f15 : b 15 = false := hd 15 (by decide)
           have f16 : b 16 = false := hd 16 (by decide)
           have f17 : b 17 = false := hd 17 (by decide)
           have f18 : b 18 = false := hd 18 (by decide)
           refine Chain.runK [97] 1 fun K hK => ?_; simp [h0, t5, t6, t7, t8, t9, f11, f12, f15, f16, f17, f18, hx37k, hx37a, hx37b]; refine hK _ _ ?_; clear hK K
           exact Chain.nil (Sub.table (by simp [t5, t6, t7, t8, t9, f11, f12, f15, f16, f17]) (by simp [f15, f18]))
          ·intro b h0 ha hd
           have t5 : b 5 = true := ha 5 (by decide)
           have t6 : b 6 = true := ha 6 (by decide)
           have t7 : b 7 = true := ha 7 (by decide)
           have t8 : b 8 = true := ha 8 (by decide)
           have t9 : b 9 = true := ha 9 (by decide)
           have t10 : b 10 = true := ha 10 (by decide)
           have f12 : b 12 = false := hd 12 (by decide)
           have f15 : b 15 = false := hd 15 (by decide)
           have f16 : b 16 = false := hd 16 (by decide)
           have f17 : b 17 = false := hd 17 (by decide)
           have f18 : b 18 = false := hd 18 (by decide)
           refine Chain.runK [97] 1 fun K hK => ?_; simp [h0, t5, t6, t7, t8, t9, t10, f12, f15, f16, f17, f18]; refine hK _ _ ?_; clear hK K
           exact Chain.nil (Sub.table (by simp [t5, t6, t7, t8, t9, t10, f12, f15, f16, f17]) (by simp [f15, f18]))
          ·intro b h0 ha hd
           have t5 : b 5 = true := ha 5 (by decide)
           have t6 : b 6 = true := ha 6 (by decide)
           have t7 : b 7 = true := ha 7 (by decide)
           have t8 : b 8 = true := ha 8 (by decide)
           have t9 : b 9 = true := ha 9 (by decide)
           have t10 : b 10 = true := ha 10 (by decide)
           have t11 : b 11 = true := ha 11 (by decide)
           have f15 : b 15 = false := hd 15 (by decide)
           have f16 : b 16 = false := hd 16 (by decide)
           have f17 : b 17 = false := hd 17 (by decide)
           have f18 : b 18 = false := hd 18 (by decide)
           refine Chain.runK [97] 1 fun K hK => ?_; simp [h0, t5, t6, t7, t8, t9, t10, t11, f15, f16, f17, f18]; refine hK _ _ ?_; clear hK K
           exact Chain.nil (Sub.table (by simp [t5, t6, t7, t8, t9, t10, t11, f15, f16, f17]) (by simp [f15, f18]))
          ·intro b h0 ha hd
           have f14 : b 14 = false := hd 14 (by decide)
           have f15 : b 15 = false := hd 15 (by decide)
           have f16 : b 16 = false := hd 16 (by decide)
           have f17 : b 17 = false := hd 17 (by decide)
           have f18 : b 18 = false := hd 18 (by decide)
           refine Chain.runK [97] 1 fun K hK => ?_; simp [h0, f14, f15, f16, f17, f18]; refine hK _ _ ?_; clear hK K
           exact Chain.nil (Sub.table (by simp [f14, f15, f16, f17]) (by simp [f15, f18]))
          ·intro b h0 ha hd
           have t13 : b 13 = true := ha 13 (by decide)
           have f15 : b 15 = false := hd 15 (by decide)
           have f16 : b 16 = false := hd 16 (by decide)
           have f17 : b 17 = false := hd 17 (by decide)
           have f18 : b 18 = false := hd 18 (by decide)
           refine Chain.runK [97] 1 fun K hK => ?_; simp [h0, t13, f15, f16, f17, f18]; refine hK _ _ ?_; clear hK K
           exact Chain.nil (Sub.table (by simp [t13, f15, f16, f17]) (by simp [f15, f18]))
          ·intro b h0 ha hd
           have t5 : b 5 = true := ha 5 (by decide)
           have t6 : b 6 = true := ha 6 (by decide)
           have t7 : b 7 = true := ha 7 (by decide)
           have t8 : b 8 = true := ha 8 (by decide)
           have t9 : b 9 = true := ha 9 (by decide)
           have t10 : b 10 = true := ha 10 (by decide)
           have t11 : b 11 = true := ha 11 (by decide)
           have t12 : b 12 = true := ha 12 (by decide)
           have t13 : b 13 = true := ha 13 (by decide)
           have t14 : b 14 = true := ha 14 (by decide)
           have f16 : b 16 = false := hd 16 (by decide)
           have f17 : b 17 = false := hd 17 (by decide)
           have f18 : b 18 = false := hd 18 (by decide)
           refine Chain.runK [97] 1 fun K hK => ?_; simp [h0, t5, t6, t7, t8, t9, t10, t11, t12, t13, t14, f16, f17, f18, hl40a]; refine hK _ _ ?_; clear hK K
           exact Chain.nil (Sub.table (by simp [t5, t6, t7, t8, t9, t10, t11, t13, t14, f16, f17]) (by simp [f18]))
          ·intro b h0 ha hd
           have t0 : b 0 = true := ha 0 (by decide)
           have t1 : b 1 = true := ha 1 (by decide)
           have t2 : b 2 = true := ha 2 (by decide)
           have t3 : b 3 = true := ha 3 (by decide)
           have t4 : b 4 = true := ha 4 (by decide)
           have t5 : b 5 = true := ha 5 (by decide)
           have t6 : b 6 = true := ha 6 (by decide)
           have t7 : b 7 = true := ha 7 (by decide)
           have t8 : b 8 = true := ha 8 (by decide)
           have t9 : b 9 = true := ha 9 (by decide)
           have t10 : b 10 = true := ha 10 (by decide)
           have t11 : b 11 = true := ha 11 (by decide)
           have t12 : b 12 = true := ha 12 (by decide)
           have t13 : b 13 = true := ha 13 (by decide)
           have t14 : b 14 = true := ha 14 (by decide)
           have t15 : b 15 = true := ha 15 (by decide)
           have f17 : b 17 = false := hd 17 (by decide)
           have f18 : b 18 = false := hd 18 (by decide)
           refine Chain.runK [97] 1 fun K hK => ?_; simp [h0, t0, t1, t2, t3, t4, t5, t6, t7, t8, t9, t10, t11, t13, t14, t15, f17, f18, hx37k, hx37a, hx37b]; refine hK _ _ ?_; clear hK K
           exact Chain.nil (Sub.table (by simp [t0, t1, t2, t3, t4, t5, t6, t7, t8, t9, t10, t11, t13, t14, t15, f17]) (by simp [t15, f18]))
          ·intro b h0 ha hd
           have t0 : b 0 = true := ha 0 (by decide)
           have t1 : b 1 = true := ha 1 (by decide)
           have t2 : b 2 = true := ha 2 (by decide)
           have t3 : b 3 = true := ha 3 (by decide)
           have t4 : b 4 = true := ha 4 (by decide)
           have t5 : b 5 = true := ha 5 (by decide)
           have t6 : b 6 = true := ha 6 (by decide)
           have t7 : b 7 = true := ha 7 (by decide)
           have t8 : b 8 = true := ha 8 (by decide)
           have t9 : b 9 = true := ha 9 (by decide)
           have t10 : b 10 = true := ha 10 (by decide)
           have t11 : b 11 = true := ha 11 (by decide)
           have t12 : b 12 = true := ha 12 (by decide)
           have t13 : b 13 = true := ha 13 (by decide)
           have t14 : b 14 = true := ha 14 (by decide)
           have t15 : b 15 = true := ha 15 (by decide)
           have t16 : b 16 = true := ha 16 (by decide)
           have f18 : b 18 = false := hd 18 (by decide)
           refine Chain.runK [97] 1 fun K hK => ?_; simp [h0, t0, t1, t2, t3, t4, t5, t6, t7, t8, t9, t10, t11, t13, t14, t15, t16, f18]; refine hK _ _ ?_; clear hK K
           exact Chain.nil (Sub.table (by simp [t0, t1, t2, t3, t4, t5, t6, t7, t8, t9, t10, t11, t13, t14, t15, t16]) (by simp [t15, f18]))
          ·intro b h0 ha hd
           have t0 : b 0 = true := ha 0 (by decide)
           have t1 : b 1 = true := ha 1 (by decide)
           have t2 : b 2 = true := ha 2 (by decide)
           have t3 : b 3 = true := ha 3 (by decide)
           have t4 : b 4 = true := ha 4 (by decide)
           have t5 : b 5 = true := ha 5 (by decide)
           have t6 : b 6 = true := ha 6 (by decide)
           have t7 : b 7 = true := ha 7 (by decide)
           have t8 : b 8 = true := ha 8 (by decide)
           have t9 : b 9 = true := ha 9 (by decide)
           have t10 : b 10 = true := ha 10 (by decide)
           have t11 : b 11 = true := ha 11 (by decide)
           have t12 : b 12 = true := ha 12 (by decide)
           have t13 : b 13 = true := ha 13 (by decide)
           have t14 : b 14 = true := ha 14 (by decide)
           have t15 : b 15 = true := ha 15 (by decide)
           have t16 : b 16 = true := ha 16 (by decide)
           have t17 : b 17 = true := ha 17 (by decide)
           refine Chain.runK [97] 1 fun K hK => ?_; simp [h0, t0, t1, t2, t3, t4, t5, t6, t7, t8, t9, t10, t11, t13, t14, t15, t16, t17]; refine hK _ _ ?_; clear hK K
           exact Chain.nil (Sub.table (by simp [t0, t1, t2, t3, t4, t5, t6, t7, t8, t9, t10, t11, t13, t14, t15, t16, t17]) (by simp [t15]))
          ·intro b hb
           have t0 := hb 0 (by decide)
           have t1 := hb 1 (by decide)
           have t2 := hb 2 (by decide)
           have t3 := hb 3 (by decide)
           have t4 := hb 4 (by decide)
           have t5 := hb 5 (by decide)
           have t6 := hb 6 (by decide)
           have t7 := hb 7 (by decide)
           have t8 := hb 8 (by decide)
           have t9 := hb 9 (by decide)
           have t10 := hb 10 (by decide)
           have t11 := hb 11 (by decide)
           have t12 := hb 12 (by decide)
           have t13 := hb 13 (by decide)
           have t14 := hb 14 (by decide)
           have t15 := hb 15 (by decide)
           have t16 := hb 16 (by decide)
           have t17 := hb 17 (by decide)
           have t18 := hb 18 (by decide)
           exact Sub.table (by simp [t0, t1, t2, t3, t4, t5, t6, t7, t8, t9, t10, t11, t13, t14, t15, t16, t17]) (by simp [t15, t18])
          ·skip
           replace h := lsome h; obtain ⟨l41, gl41, h⟩ := h
           obtain ⟨hl41, hl41n⟩ := setI_some cS72 gl41 hx37k
           replace hl41 : (l33.map cS72).set k38 [.lit (.string x37.key), .sl ((x37.versions ++ [a2]).map cS67)] = l41.map cS72 := hl41
           clear gl41
           try simp only [List.map_append, List.map_cons, List.map_nil, cS67] at hl41
           refine AW.sub (show Sub _ (mk 101 [1000] [] [(1000, some (.box [.ref 25000 0 l41.length, .i a0.horizon])), (25000, some (.nest 72 2 [none, some (67, 3)] (l41.map cS72) []))]) from (Sub.trans (Sub.close 25000 k38 (e := [.lit (.string x37.key), .sl ((x37.versions ++ [a2]).map cS67)]) (cs := [.d (.lit (.string x37.key)), .ref 9039 0 ((x37.versions ++ [a2]).length)]) (ks := [9039]) rfl rfl (by simp) (by decide) rfl) (by simp [hl41]; exact Sub.table (by simp) (by simp [hl41n])))) ?_
           refine AW.seqR ?_
           refine Chain.runK [] 1 fun K hK => ?_; simp; refine hK _ _ ?_; clear hK K
           refine Chain.sub (S' := mk 101 [1000] [(6, .i 0)] [(1000, some (.box [.ref 25000 0 l41.length, .i a0.horizon])), (25000, some (.nest 72 2 [none, some (67, 3)] (l41.map cS72) []))]) Sub.tt ?_
           refine Chain.nil ?_
           refine AW.ret ?_
           cases h
           exact FinF.ret (by simp) (by simp)

end Go.Proofs.Ytifcmomjjkbboac
