/- Functions of the program as functional programs; the code computes them. -/
import Derived.Test.YtiikoldaocnilaaRc10
namespace Go.Proofs.Ytiikoldaocnilaa
open Go.Ab Go.Rp
attribute [-simp] List.all_eq_true Array.all_toList Array.all_eq_true

/-- (*stemma/recovery.Engine).LogLength -/
def d21 (_N : Nat) (a0 : S74) : Option (Int × Int) :=
 some ((a0.log.length : Int), a0.flushed)
set_option maxRecDepth 100000 in
set_option maxHeartbeats 4000000 in
theorem p21 (N : Nat) (a0 : S74) (r : (Int × Int)) (h : d21 N a0 = some r) : FunC Try.prog 21 [.d (.pim [.sl (a0.buffer.map cS78), .sl (a0.disk.map cS78), .sl (a0.log.map cS80), .lit (.int .i64 a0.flushed), .lit (.int .i64 a0.lastID), .sl (a0.active.map (cI .i64)), .sl (a0.writer.map (cI .i64))])] (.tup [.i r.1, .i r.2]) := by
 unfold d21 at h
 refine FunC.enter 13 [(0, .d (.pim [.sl (a0.buffer.map cS78), .sl (a0.disk.map cS78), .sl (a0.log.map cS80), .lit (.int .i64 a0.flushed), .lit (.int .i64 a0.lastID), .sl (a0.active.map (cI .i64)), .sl (a0.writer.map (cI .i64))]))] (by simp) Try.func21 rfl (of_decide_eq_true rfl) rfl rfl ?_
 refine AW.seqR ?_
 refine Chain.runK [] 2 fun K hK => ?_; simp; refine hK _ _ ?_; clear hK K
 refine Chain.sub (S' := mk 13 [] [(0, .d (.pim [.sl (a0.buffer.map cS78), .sl (a0.disk.map cS78), .sl (a0.log.map cS80), .lit (.int .i64 a0.flushed), .lit (.int .i64 a0.lastID), .sl (a0.active.map (cI .i64)), .sl (a0.writer.map (cI .i64))]))] []) Sub.tt ?_
 refine Chain.nil ?_
 refine AW.seqQ (by kernel_rfl) (by kernel_rfl) ?_
 refine Chain.runQ 11 fun K hK => ?_; simp; refine hK _ _ ?_; clear hK K
 refine Chain.sub (S' := mk 13 [] [(2, .i (a0.log.length : Int)), (3, .i a0.flushed)] []) Sub.tt ?_
 refine Chain.nil ?_
 refine AW.ret ?_
 cases h
 exact FinC.ret (by simp) (by simp)

/-- (*stemma/recovery.Engine).Read -/
def d22 (_N : Nat) (a0 : S74) (a1 : Int) : Option (Int × Int) :=
 Option.bind (α := Bool) (
  if a1 < 0 then (
   some true
  ) else
  some (decide (a1 ≥ (a0.buffer.length : Int)))
 ) fun (v2 : Bool) =>
 if v2 = true then (
  some (0, 1)
 ) else
 (idx a0.buffer a1).bind fun x5 =>
 some (x5.value, 0)
set_option maxRecDepth 100000 in
set_option maxHeartbeats 4000000 in
theorem p22 (N : Nat) (a0 : S74) (a1 : Int) (r : (Int × Int)) (h : d22 N a0 a1 = some r) : FunC Try.prog 22 [.d (.pim [.sl (a0.buffer.map cS78), .sl (a0.disk.map cS78), .sl (a0.log.map cS80), .lit (.int .i64 a0.flushed), .lit (.int .i64 a0.lastID), .sl (a0.active.map (cI .i64)), .sl (a0.writer.map (cI .i64))]), .i a1] (.tup [.i r.1, .i r.2]) := by
 unfold d22 at h
 refine FunC.enter 25 [(0, .d (.pim [.sl (a0.buffer.map cS78), .sl (a0.disk.map cS78), .sl (a0.log.map cS80), .lit (.int .i64 a0.flushed), .lit (.int .i64 a0.lastID), .sl (a0.active.map (cI .i64)), .sl (a0.writer.map (cI .i64))])), (1, .i a1)] (by simp) Try.func22 rfl (of_decide_eq_true rfl) rfl rfl ?_
 refine AW.seqR ?_
 refine Chain.runK [] 2 fun K hK => ?_; simp; refine hK _ _ ?_; clear hK K
 refine Chain.sub (S' := mk 25 [] [(0, .d (.pim [.sl (a0.buffer.map cS78), .sl (a0.disk.map cS78), .sl (a0.log.map cS80), .lit (.int .i64 a0.flushed), .lit (.int .i64 a0.lastID), .sl (a0.active.map (cI .i64)), .sl (a0.writer.map (cI .i64))])), (1, .i a1)] []) Sub.tt ?_
 refine Chain.nil ?_
 refine AW.seq ?_
 replace h := bsome h; obtain ⟨v2, hj, h⟩ := h
 refine AW.cutR (mk 25 [] [(0, .d (.pim [.sl (a0.buffer.map cS78), .sl (a0.disk.map cS78), .sl (a0.log.map cS80), .lit (.int .i64 a0.flushed), .lit (.int .i64 a0.lastID), .sl (a0.active.map (cI .i64)), .sl (a0.writer.map (cI .i64))])), (1, .i a1), (16, .b v2)] []) ?_ ?_
 ·clear h; have h := hj; clear hj
  refine Chain.runK [] 3 fun K hK => ?_; simp; refine hK _ _ ?_; clear hK K
  refine Chain.sub (S' := mk 25 [] [(0, .d (.pim [.sl (a0.buffer.map cS78), .sl (a0.disk.map cS78), .sl (a0.log.map cS80), .lit (.int .i64 a0.flushed), .lit (.int .i64 a0.lastID), .sl (a0.active.map (cI .i64)), .sl (a0.writer.map (cI .i64))])), (1, .i a1), (8, .b (decide (a1 < 0)))] []) Sub.tt ?_
  replace h := isome h; rcases h with ⟨c3, h⟩ | ⟨c3, h⟩
  ·have c3_ : decide (a1 < 0) = true := decide_eq_true c3
   refine Chain.sub (Sub.bool 8 (b := decide (a1 < 0)) rfl c3_) ?_
   refine Chain.sub (S' := mk 25 [] [(0, .d (.pim [.sl (a0.buffer.map cS78), .sl (a0.disk.map cS78), .sl (a0.log.map cS80), .lit (.int .i64 a0.flushed), .lit (.int .i64 a0.lastID), .sl (a0.active.map (cI .i64)), .sl (a0.writer.map (cI .i64))])), (1, .i a1), (8, .b true)] []) (by simp; exact Sub.table (by simp) (by simp)) ?_
   refine Chain.runK [] 8 fun K hK => ?_; simp; refine hK _ _ ?_; clear hK K
   refine Chain.sub (S' := mk 25 [] [(0, .d (.pim [.sl (a0.buffer.map cS78), .sl (a0.disk.map cS78), .sl (a0.log.map cS80), .lit (.int .i64 a0.flushed), .lit (.int .i64 a0.lastID), .sl (a0.active.map (cI .i64)), .sl (a0.writer.map (cI .i64))])), (1, .i a1), (16, .b true)] []) Sub.tt ?_
   cases h
   exact Chain.nil Sub.tt
  ·have c3_ : decide (a1 < 0) = false := decide_eq_false c3
   refine Chain.sub (Sub.bool 8 (b := decide (a1 < 0)) rfl c3_) ?_
   refine Chain.sub (S' := mk 25 [] [(0, .d (.pim [.sl (a0.buffer.map cS78), .sl (a0.disk.map cS78), .sl (a0.log.map cS80), .lit (.int .i64 a0.flushed), .lit (.int .i64 a0.lastID), .sl (a0.active.map (cI .i64)), .sl (a0.writer.map (cI .i64))])), (1, .i a1), (8, .b false)] []) (by simp; exact Sub.table (by simp) (by simp)) ?_
   refine Chain.runK [] 8 fun K hK => ?_; simp; refine hK _ _ ?_; clear hK K
   refine Chain.sub (S' := mk 25 [] [(0, .d (.pim [.sl (a0.buffer.map cS78), .sl (a0.disk.map cS78), .sl (a0.log.map cS80), .lit (.int .i64 a0.flushed), .lit (.int .i64 a0.lastID), .sl (a0.active.map (cI .i64)), .sl (a0.writer.map (cI .i64))])), (1, .i a1), (16, .b (decide (a1 ≥ (a0.buffer.length : Int))))] []) Sub.tt ?_
   cases h
   exact Chain.nil Sub.tt
 ·clear hj
  replace h := isome h; rcases h with ⟨c4, h⟩ | ⟨c4, h⟩
  ·have c4_ : v2 = true := c4
   refine AW.condT (b := v2) rfl c4_ ?_
   refine AW.sub (Sub.bool 16 (b := v2) rfl c4_) ?_
   refine AW.sub (S' := mk 25 [] [(0, .d (.pim [.sl (a0.buffer.map cS78), .sl (a0.disk.map cS78), .sl (a0.log.map cS80), .lit (.int .i64 a0.flushed), .lit (.int .i64 a0.lastID), .sl (a0.active.map (cI .i64)), .sl (a0.writer.map (cI .i64))])), (1, .i a1), (16, .b true)] []) (by simp; exact Sub.table (by simp) (by simp)) ?_
   refine AW.seqR ?_
   refine Chain.runK [] 2 fun K hK => ?_; simp; refine hK _ _ ?_; clear hK K
   refine Chain.sub (S' := mk 25 [] [(4, .i 0), (5, .i 1)] []) Sub.tt ?_
   refine Chain.nil ?_
   refine AW.ret ?_
   cases h
   refine thenQ_pass (by simp) ?_
   exact FinC.ret (by simp) (by simp)
  ·have c4_ : v2 = false := Bool.eq_false_iff.2 c4
   refine AW.condF (b := v2) rfl c4_ ?_
   refine AW.sub (Sub.bool 16 (b := v2) rfl c4_) ?_
   refine AW.sub (S' := mk 25 [] [(0, .d (.pim [.sl (a0.buffer.map cS78), .sl (a0.disk.map cS78), .sl (a0.log.map cS80), .lit (.int .i64 a0.flushed), .lit (.int .i64 a0.lastID), .sl (a0.active.map (cI .i64)), .sl (a0.writer.map (cI .i64))])), (1, .i a1), (16, .b false)] []) (by simp; exact Sub.table (by simp) (by simp)) ?_
   refine AW.skip ?_
   refine thenQ_normal ?_
   refine AW.seqR ?_
   replace h := bsome h; obtain ⟨x5, hx5, h⟩ := h
   obtain ⟨k6, hx5k, hx5, hx5a, hx5b⟩ := idx_some hx5
   refine Chain.runK [] 10 fun K hK => ?_; simp [hx5, hx5k, hx5a]; refine hK _ _ ?_; clear hK K
   refine Chain.sub (S' := mk 25 [] [(4, .i x5.value), (5, .i 0)] []) Sub.tt ?_
   refine Chain.nil ?_
   refine AW.ret ?_
   cases h
   exact FinC.ret (by simp) (by simp)

end Go.Proofs.Ytiikoldaocnilaa
