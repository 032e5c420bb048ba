/- Functions of the program as functional programs; the code computes them. -/
import Derived.Test.YtiikoldaocnilaaRc1
namespace Go.Proofs.Ytiikoldaocnilaa
open Go.Ab Go.Rp
attribute [-simp] List.all_eq_true Array.all_toList Array.all_eq_true

/-- (*stemma/recovery.Engine).Write -/
def d18 (N : Nat) (a0 : S74) (a1 : Int) (a2 : Int) (a3 : Int) : Option (S74 × Int) :=
 (d24 N a0.active a1).bind fun r1 =>
 if (!r1) = true then (
  some (a0, 4)
 ) else
 Option.bind (α := Bool) (
  if a2 < 0 then (
   some true
  ) else
  some (decide (a2 ≥ (a0.buffer.length : Int)))
 ) fun (v4 : Bool) =>
 if v4 = true then (
  some (a0, 1)
 ) else
 (idx a0.writer a2).bind fun x7 =>
 Option.bind (α := Bool) (
  if (x7 != 0) then (
   some (x7 != a1)
  ) else
  some false
 ) fun (v10 : Bool) =>
 if v10 = true then (
  some (a0, 16)
 ) else
 if (a0.log.length : Int) ≥ 2000 then (
  some (a0, 18)
 ) else
 (idx a0.writer a2).bind fun _x14 =>
 letv (setI a0.writer a2 a1) fun l16 =>
 (idx a0.buffer a2).bind fun x17 =>
 (d25 N (S74.mk a0.buffer a0.disk a0.log a0.flushed a0.lastID a0.active l16) (S80.mk 1 a1 a2 x17.value a3)).bind fun r18 =>
 some (r18, 0)
set_option maxRecDepth 100000 in
set_option maxHeartbeats 4000000 in
theorem p18 (N : Nat) (a0 : S74) (a1 : Int) (a2 : Int) (a3 : Int) (r : (S74 × Int)) (h : d18 N a0 a1 a2 a3 = some r) : FunM Try.prog 18 [.ptr 1000 0 0, .i a1, .i a2, .i a3] [(1000, some (.box [.ref 25000 0 a0.buffer.length, .ref 25001 0 a0.disk.length, .ref 25002 0 a0.log.length, .i a0.flushed, .i a0.lastID, .ref 25005 0 a0.active.length, .ref 25006 0 a0.writer.length])), (25000, R78 a0.buffer), (25001, R78 a0.disk), (25002, R80 a0.log), (25005, R3 a0.active), (25006, R3 a0.writer)] [1000] (.i r.2) ([(1000, (.box [.ref 25000 0 r.1.buffer.length, .ref 25001 0 r.1.disk.length, .ref 25002 0 r.1.log.length, .i r.1.flushed, .i r.1.lastID, .ref 25005 0 r.1.active.length, .ref 25006 0 r.1.writer.length])), (25000, (.arr 78 2 (r.1.buffer.map cS78))), (25001, (.arr 78 2 (r.1.disk.map cS78))), (25002, (.arr 80 5 (r.1.log.map cS80))), (25005, (.arr 3 1 (r.1.active.map (cI .i64)))), (25006, (.arr 3 1 (r.1.writer.map (cI .i64))))]) := by
 unfold d18 at h
 refine FunM.enter 69 [(0, .ptr 1000 0 0), (1, .i a1), (2, .i a2), (3, .i a3)] Try.func18 rfl (of_decide_eq_true rfl) rfl rfl ?_
 refine AW.seqR ?_
 refine Chain.runK [] 1 fun K hK => ?_; simp; refine hK _ _ ?_; clear hK K
 refine Chain.sub (S' := mk 69 [1000] [(0, .ptr 1000 0 0), (1, .i a1), (2, .i a2), (3, .i a3)] [(1000, some (.box [.ref 25000 0 a0.buffer.length, .ref 25001 0 a0.disk.length, .ref 25002 0 a0.log.length, .i a0.flushed, .i a0.lastID, .ref 25005 0 a0.active.length, .ref 25006 0 a0.writer.length])), (25000, R78 a0.buffer), (25001, R78 a0.disk), (25002, R80 a0.log), (25005, R3 a0.active), (25006, R3 a0.writer)]) Sub.tt ?_
 refine Chain.nil ?_
 refine AW.seq ?_
 refine AW.seqR ?_
 refine Chain.runK [] 5 fun K hK => ?_; simp; refine hK _ _ ?_; clear hK K
 refine Chain.sub (S' := mk 69 [1000] [(0, .ptr 1000 0 0), (1, .i a1), (2, .i a2), (3, .i a3), (13, .ref 25005 0 a0.active.length), (14, .i a1)] [(1000, some (.box [.ref 25000 0 a0.buffer.length, .ref 25001 0 a0.disk.length, .ref 25002 0 a0.log.length, .i a0.flushed, .i a0.lastID, .ref 25005 0 a0.active.length, .ref 25006 0 a0.writer.length])), (25000, R78 a0.buffer), (25001, R78 a0.disk), (25002, R80 a0.log), (25005, R3 a0.active), (25006, R3 a0.writer)]) Sub.tt ?_
 replace h := bsome h; obtain ⟨r1, hr1, h⟩ := h
 refine Chain.callL (d := 15) (p24 N a0.active a1 r1 hr1) (by simp) rfl rfl (by simp <;> rfl) (by simp <;> rfl) ent24 (by simp <;> rfl) ?_
 refine Chain.sub (S' := mk 69 [1000] [(0, .ptr 1000 0 0), (1, .i a1), (2, .i a2), (3, .i a3), (13, .ref 25005 0 a0.active.length), (14, .i a1), (15, .b r1)] [(1000, some (.box [.ref 25000 0 a0.buffer.length, .ref 25001 0 a0.disk.length, .ref 25002 0 a0.log.length, .i a0.flushed, .i a0.lastID, .ref 25005 0 a0.active.length, .ref 25006 0 a0.writer.length])), (25000, R78 a0.buffer), (25001, R78 a0.disk), (25002, R80 a0.log), (25005, R3 a0.active), (25006, R3 a0.writer)]) (by simp; exact Sub.table (by simp) (by simp)) ?_
 refine Chain.runK [] 1 fun K hK => ?_; simp; refine hK _ _ ?_; clear hK K
 refine Chain.sub (S' := mk 69 [1000] [(0, .ptr 1000 0 0), (1, .i a1), (2, .i a2), (3, .i a3), (16, .b (!r1))] [(1000, some (.box [.ref 25000 0 a0.buffer.length, .ref 25001 0 a0.disk.length, .ref 25002 0 a0.log.length, .i a0.flushed, .i a0.lastID, .ref 25005 0 a0.active.length, .ref 25006 0 a0.writer.length])), (25000, R78 a0.buffer), (25001, R78 a0.disk), (25002, R80 a0.log), (25005, R3 a0.active), (25006, R3 a0.writer)]) Sub.tt ?_
 refine Chain.nil ?_
 replace h := isome h; rcases h with ⟨c2, h⟩ | ⟨c2, h⟩
 ·have c2_ : (!r1) = true := c2
  refine AW.condT (b := (!r1)) rfl c2_ ?_
  refine AW.sub (Sub.bool 16 (b := (!r1)) rfl c2_) ?_
  refine AW.sub (S' := mk 69 [1000] [(0, .ptr 1000 0 0), (1, .i a1), (2, .i a2), (3, .i a3), (16, .b true)] [(1000, some (.box [.ref 25000 0 a0.buffer.length, .ref 25001 0 a0.disk.length, .ref 25002 0 a0.log.length, .i a0.flushed, .i a0.lastID, .ref 25005 0 a0.active.length, .ref 25006 0 a0.writer.length])), (25000, R78 a0.buffer), (25001, R78 a0.disk), (25002, R80 a0.log), (25005, R3 a0.active), (25006, R3 a0.writer)]) (by simp; exact Sub.table (by simp) (by simp)) ?_
  refine AW.seqR ?_
  refine Chain.runK [] 1 fun K hK => ?_; simp; refine hK _ _ ?_; clear hK K
  refine Chain.sub (S' := mk 69 [1000] [(8, .i 4)] [(1000, some (.box [.ref 25000 0 a0.buffer.length, .ref 25001 0 a0.disk.length, .ref 25002 0 a0.log.length, .i a0.flushed, .i a0.lastID, .ref 25005 0 a0.active.length, .ref 25006 0 a0.writer.length])), (25000, R78 a0.buffer), (25001, R78 a0.disk), (25002, R80 a0.log), (25005, R3 a0.active), (25006, R3 a0.writer)]) Sub.tt ?_
  refine Chain.nil ?_
  refine AW.ret ?_
  cases h
  refine thenQ_pass (by simp) ?_
  exact FinF.ret (by simp) (by simp)
 ·have c2_ : (!r1) = false := Bool.eq_false_iff.2 c2
  refine AW.condF (b := (!r1)) rfl c2_ ?_
  refine AW.sub (Sub.bool 16 (b := (!r1)) rfl c2_) ?_
  refine AW.sub (S' := mk 69 [1000] [(0, .ptr 1000 0 0), (1, .i a1), (2, .i a2), (3, .i a3), (16, .b false)] [(1000, some (.box [.ref 25000 0 a0.buffer.length, .ref 25001 0 a0.disk.length, .ref 25002 0 a0.log.length, .i a0.flushed, .i a0.lastID, .ref 25005 0 a0.active.length, .ref 25006 0 a0.writer.length])), (25000, R78 a0.buffer), (25001, R78 a0.disk), (25002, R80 a0.log), (25005, R3 a0.active), (25006, R3 a0.writer)]) (by simp; exact Sub.table (by simp) (by simp)) ?_
  refine AW.skip ?_
  refine thenQ_normal ?_
  refine AW.seq ?_
  replace h := bsome h; obtain ⟨v4, hj, h⟩ := h
  refine AW.cutR (mk 69 [1000] [(0, .ptr 1000 0 0), (1, .i a1), (2, .i a2), (3, .i a3), (27, .b v4)] [(1000, some (.box [.ref 25000 0 a0.buffer.length, .ref 25001 0 a0.disk.length, .ref 25002 0 a0.log.length, .i a0.flushed, .i a0.lastID, .ref 25005 0 a0.active.length, .ref 25006 0 a0.writer.length])), (25000, R78 a0.buffer), (25001, R78 a0.disk), (25002, R80 a0.log), (25005, R3 a0.active), (25006, R3 a0.writer)]) ?_ ?_
  ·clear h; have h := hj; clear hj
   refine Chain.runK [] 3 fun K hK => ?_; simp; refine hK _ _ ?_; clear hK K
   refine Chain.sub (S' := mk 69 [1000] [(0, .ptr 1000 0 0), (1, .i a1), (2, .i a2), (3, .i a3), (19, .b (decide (a2 < 0)))] [(1000, some (.box [.ref 25000 0 a0.buffer.length, .ref 25001 0 a0.disk.length, .ref 25002 0 a0.log.length, .i a0.flushed, .i a0.lastID, .ref 25005 0 a0.active.length, .ref 25006 0 a0.writer.length])), (25000, R78 a0.buffer), (25001, R78 a0.disk), (25002, R80 a0.log), (25005, R3 a0.active), (25006, R3 a0.writer)]) Sub.tt ?_
   replace h := isome h; rcases h with ⟨c5, h⟩ | ⟨c5, h⟩
   ·have c5_ : decide (a2 < 0) = true := decide_eq_true c5
    refine Chain.sub (Sub.bool 19 (b := decide (a2 < 0)) rfl c5_) ?_
    refine Chain.sub (S' := mk 69 [1000] [(0, .ptr 1000 0 0), (1, .i a1), (2, .i a2), (3, .i a3), (19, .b true)] [(1000, some (.box [.ref 25000 0 a0.buffer.length, .ref 25001 0 a0.disk.length, .ref 25002 0 a0.log.length, .i a0.flushed, .i a0.lastID, .ref 25005 0 a0.active.length, .ref 25006 0 a0.writer.length])), (25000, R78 a0.buffer), (25001, R78 a0.disk), (25002, R80 a0.log), (25005, R3 a0.active), (25006, R3 a0.writer)]) (by simp; exact Sub.table (by simp) (by simp)) ?_
    refine Chain.runK [] 8 fun K hK => ?_; simp; refine hK _ _ ?_; clear hK K
    refine Chain.sub (S' := mk 69 [1000] [(0, .ptr 1000 0 0), (1, .i a1), (2, .i a2), (3, .i a3), (27, .b true)] [(1000, some (.box [.ref 25000 0 a0.buffer.length, .ref 25001 0 a0.disk.length, .ref 25002 0 a0.log.length, .i a0.flushed, .i a0.lastID, .ref 25005 0 a0.active.length, .ref 25006 0 a0.writer.length])), (25000, R78 a0.buffer), (25001, R78 a0.disk), (25002, R80 a0.log), (25005, R3 a0.active), (25006, R3 a0.writer)]) Sub.tt ?_
    cases h
    exact Chain.nil Sub.tt
   ·have c5_ : decide (a2 < 0) = false := decide_eq_false c5
    refine Chain.sub (Sub.bool 19 (b := decide (a2 < 0)) rfl c5_) ?_
    refine Chain.sub (S' := mk 69 [1000] [(0, .ptr 1000 0 0), (1, .i a1), (2, .i a2), (3, .i a3), (19, .b false)] [(1000, some (.box [.ref 25000 0 a0.buffer.length, .ref 25001 0 a0.disk.length, .ref 25002 0 a0.log.length, .i a0.flushed, .i a0.lastID, .ref 25005 0 a0.active.length, .ref 25006 0 a0.writer.length])), (25000, R78 a0.buffer), (25001, R78 a0.disk), (25002, R80 a0.log), (25005, R3 a0.active), (25006, R3 a0.writer)]) (by simp; exact Sub.table (by simp) (by simp)) ?_
    refine Chain.runK [] 8 fun K hK => ?_; simp; refine hK _ _ ?_; clear hK K
    refine Chain.sub (S' := mk 69 [1000] [(0, .ptr 1000 0 0), (1, .i a1), (2, .i a2), (3, .i a3), (27, .b (decide (a2 ≥ (a0.buffer.length : Int))))] [(1000, some (.box [.ref 25000 0 a0.buffer.length, .ref 25001 0 a0.disk.length, .ref 25002 0 a0.log.length, .i a0.flushed, .i a0.lastID, .ref 25005 0 a0.active.length, .ref 25006 0 a0.writer.length])), (25000, R78 a0.buffer), (25001, R78 a0.disk), (25002, R80 a0.log), (25005, R3 a0.active), (25006, R3 a0.writer)]) Sub.tt ?_
    cases h
    exact Chain.nil Sub.tt
  ·clear hj
   replace h := isome h; rcases h with ⟨c6, h⟩ | ⟨c6, h⟩
   ·have c6_ : v4 = true := c6
    refine AW.condT (b := v4) rfl c6_ ?_
    refine AW.sub (Sub.bool 27 (b := v4) rfl c6_) ?_
    refine AW.sub (S' := mk 69 [1000] [(0, .ptr 1000 0 0), (1, .i a1), (2, .i a2), (3, .i a3), (27, .b true)] [(1000, some (.box [.ref 25000 0 a0.buffer.length, .ref 25001 0 a0.disk.length, .ref 25002 0 a0.log.length, .i a0.flushed, .i a0.lastID, .ref 25005 0 a0.active.length, .ref 25006 0 a0.writer.length])), (25000, R78 a0.buffer), (25001, R78 a0.disk), (25002, R80 a0.log), (25005, R3 a0.active), (25006, R3 a0.writer)]) (by simp; exact Sub.table (by simp) (by simp)) ?_
    refine AW.seqR ?_
    refine Chain.runK [] 1 fun K hK => ?_; simp; refine hK _ _ ?_; clear hK K
    refine Chain.sub (S' := mk 69 [1000] [(8, .i 1)] [(1000, some (.box [.ref 25000 0 a0.buffer.length, .ref 25001 0 a0.disk.length, .ref 25002 0 a0.log.length, .i a0.flushed, .i a0.lastID, .ref 25005 0 a0.active.length, .ref 25006 0 a0.writer.length])), (25000, R78 a0.buffer), (25001, R78 a0.disk), (25002, R80 a0.log), (25005, R3 a0.active), (25006, R3 a0.writer)]) Sub.tt ?_
    refine Chain.nil ?_
    refine AW.ret ?_
    cases h
    refine thenQ_pass (by simp) ?_
    exact FinF.ret (by simp) (by simp)
   ·have c6_ : v4 = false := Bool.eq_false_iff.2 c6
    refine AW.condF (b := v4) rfl c6_ ?_
    refine AW.sub (Sub.bool 27 (b := v4) rfl c6_) ?_
    refine AW.sub (S' := mk 69 [1000] [(0, .ptr 1000 0 0), (1, .i a1), (2, .i a2), (3, .i a3), (27, .b false)] [(1000, some (.box [.ref 25000 0 a0.buffer.length, .ref 25001 0 a0.disk.length, .ref 25002 0 a0.log.length, .i a0.flushed, .i a0.lastID, .ref 25005 0 a0.active.length, .ref 25006 0 a0.writer.length])), (25000, R78 a0.buffer), (25001, R78 a0.disk), (25002, R80 a0.log), (25005, R3 a0.active), (25006, R3 a0.writer)]) (by simp; exact Sub.table (by simp) (by simp)) ?_
    refine AW.skip ?_
    refine thenQ_normal ?_
    refine AW.seq ?_
    refine AW.seqR ?_
    replace h := bsome h; obtain ⟨x7, hx7, h⟩ := h
    obtain ⟨k8, hx7k, hx7, hx7a, hx7b⟩ := idx_some hx7
    refine Chain.runK [] 8 fun K hK => ?_; simp [hx7, hx7k, hx7a, hx7b]; refine hK _ _ ?_; clear hK K
    refine Chain.sub (S' := mk 69 [1000] [(0, .ptr 1000 0 0), (1, .i a1), (2, .i a2), (3, .i a3), (9, .i x7)] [(1000, some (.box [.ref 25000 0 a0.buffer.length, .ref 25001 0 a0.disk.length, .ref 25002 0 a0.log.length, .i a0.flushed, .i a0.lastID, .ref 25005 0 a0.active.length, .ref 25006 0 a0.writer.length])), (25000, R78 a0.buffer), (25001, R78 a0.disk), (25002, R80 a0.log), (25005, R3 a0.active), (25006, R3 a0.writer)]) Sub.tt ?_
    refine Chain.nil ?_
    replace h := bsome h; obtain ⟨v10, hj, h⟩ := h
    refine AW.cutR (mk 69 [1000] [(0, .ptr 1000 0 0), (1, .i a1), (2, .i a2), (3, .i a3), (41, .b v10)] [(1000, some (.box [.ref 25000 0 a0.buffer.length, .ref 25001 0 a0.disk.length, .ref 25002 0 a0.log.length, .i a0.flushed, .i a0.lastID, .ref 25005 0 a0.active.length, .ref 25006 0 a0.writer.length])), (25000, R78 a0.buffer), (25001, R78 a0.disk), (25002, R80 a0.log), (25005, R3 a0.active), (25006, R3 a0.writer)]) ?_ ?_
    ·clear h; have h := hj; clear hj
     refine Chain.runK [] 3 fun K hK => ?_; simp; refine hK _ _ ?_; clear hK K
     refine Chain.sub (S' := mk 69 [1000] [(0, .ptr 1000 0 0), (1, .i a1), (2, .i a2), (3, .i a3), (9, .i x7), (37, .b (x7 != 0))] [(1000, some (.box [.ref 25000 0 a0.buffer.length, .ref 25001 0 a0.disk.length, .ref 25002 0 a0.log.length, .i a0.flushed, .i a0.lastID, .ref 25005 0 a0.active.length, .ref 25006 0 a0.writer.length])), (25000, R78 a0.buffer), (25001, R78 a0.disk), (25002, R80 a0.log), (25005, R3 a0.active), (25006, R3 a0.writer)]) Sub.tt ?_
     replace h := isome h; rcases h with ⟨c11, h⟩ | ⟨c11, h⟩
     ·have c11_ : (x7 != 0) = true := c11
      refine Chain.sub (Sub.bool 37 (b := (x7 != 0)) rfl c11_) ?_
      refine Chain.sub (S' := mk 69 [1000] [(0, .ptr 1000 0 0), (1, .i a1), (2, .i a2), (3, .i a3), (9, .i x7), (37, .b true)] [(1000, some (.box [.ref 25000 0 a0.buffer.length, .ref 25001 0 a0.disk.length, .ref 25002 0 a0.log.length, .i a0.flushed, .i a0.lastID, .ref 25005 0 a0.active.length, .ref 25006 0 a0.writer.length])), (25000, R78 a0.buffer), (25001, R78 a0.disk), (25002, R80 a0.log), (25005, R3 a0.active), (25006, R3 a0.writer)]) (by simp; exact Sub.table (by simp) (by simp)) ?_
      refine Chain.runK [] 4 fun K hK => ?_; simp; refine hK _ _ ?_; clear hK K
      refine Chain.sub (S' := mk 69 [1000] [(0, .ptr 1000 0 0), (1, .i a1), (2, .i a2), (3, .i a3), (41, .b (x7 != a1))] [(1000, some (.box [.ref 25000 0 a0.buffer.length, .ref 25001 0 a0.disk.length, .ref 25002 0 a0.log.length, .i a0.flushed, .i a0.lastID, .ref 25005 0 a0.active.length, .ref 25006 0 a0.writer.length])), (25000, R78 a0.buffer), (25001, R78 a0.disk), (25002, R80 a0.log), (25005, R3 a0.active), (25006, R3 a0.writer)]) Sub.tt ?_
      cases h
      exact Chain.nil Sub.tt
     ·have c11_ : (x7 != 0) = false := Bool.eq_false_iff.2 c11
      refine Chain.sub (Sub.bool 37 (b := (x7 != 0)) rfl c11_) ?_
      refine Chain.sub (S' := mk 69 [1000] [(0, .ptr 1000 0 0), (1, .i a1), (2, .i a2), (3, .i a3), (9, .i x7), (37, .b false)] [(1000, some (.box [.ref 25000 0 a0.buffer.length, .ref 25001 0 a0.disk.length, .ref 25002 0 a0.log.length, .i a0.flushed, .i a0.lastID, .ref 25005 0 a0.active.length, .ref 25006 0 a0.writer.length])), (25000, R78 a0.buffer), (25001, R78 a0.disk), (25002, R80 a0.log), (25005, R3 a0.active), (25006, R3 a0.writer)]) (by simp; exact Sub.table (by simp) (by simp)) ?_
      refine Chain.runK [] 4 fun K hK => ?_; simp; refine hK _ _ ?_; clear hK K
      refine Chain.sub (S' := mk 69 [1000] [(0, .ptr 1000 0 0), (1, .i a1), (2, .i a2), (3, .i a3), (41, .b false)] [(1000, some (.box [.ref 25000 0 a0.buffer.length, .ref 25001 0 a0.disk.length, .ref 25002 0 a0.log.length, .i a0.flushed, .i a0.lastID, .ref 25005 0 a0.active.length, .ref 25006 0 a0.writer.length])), (25000, R78 a0.buffer), (25001, R78 a0.disk), (25002, R80 a0.log), (25005, R3 a0.active), (25006, R3 a0.writer)]) Sub.tt ?_
      cases h
      exact Chain.nil Sub.tt
    ·clear hj
     replace h := isome h; rcases h with ⟨c12, h⟩ | ⟨c12, h⟩
     ·have c12_ : v10 = true := c12
      refine AW.condT (b := v10) rfl c12_ ?_
      refine AW.sub (Sub.bool 41 (b := v10) rfl c12_) ?_
      refine AW.sub (S' := mk 69 [1000] [(0, .ptr 1000 0 0), (1, .i a1), (2, .i a2), (3, .i a3), (41, .b true)] [(1000, some (.box [.ref 25000 0 a0.buffer.length, .ref 25001 0 a0.disk.length, .ref 25002 0 a0.log.length, .i a0.flushed, .i a0.lastID, .ref 25005 0 a0.active.length, .ref 25006 0 a0.writer.length])), (25000, R78 a0.buffer), (25001, R78 a0.disk), (25002, R80 a0.log), (25005, R3 a0.active), (25006, R3 a0.writer)]) (by simp; exact Sub.table (by simp) (by simp)) ?_
      refine AW.seqR ?_
      refine Chain.runK [] 1 fun K hK => ?_; simp; refine hK _ _ ?_; clear hK K
      refine Chain.sub (S' := mk 69 [1000] [(8, .i 16)] [(1000, some (.box [.ref 25000 0 a0.buffer.length, .ref 25001 0 a0.disk.length, .ref 25002 0 a0.log.length, .i a0.flushed, .i a0.lastID, .ref 25005 0 a0.active.length, .ref 25006 0 a0.writer.length])), (25000, R78 a0.buffer), (25001, R78 a0.disk), (25002, R80 a0.log), (25005, R3 a0.active), (25006, R3 a0.writer)]) Sub.tt ?_
      refine Chain.nil ?_
      refine AW.ret ?_
      cases h
      refine thenQ_pass (by simp) ?_
      exact FinF.ret (by simp) (by simp)
     ·have c12_ : v10 = false := Bool.eq_false_iff.2 c12
      refine AW.condF (b := v10) rfl c12_ ?_
      refine AW.sub (Sub.bool 41 (b := v10) rfl c12_) ?_
      refine AW.sub (S' := mk 69 [1000] [(0, .ptr 1000 0 0), (1, .i a1), (2, .i a2), (3, .i a3), (41, .b false)] [(1000, some (.box [.ref 25000 0 a0.buffer.length, .ref 25001 0 a0.disk.length, .ref 25002 0 a0.log.length, .i a0.flushed, .i a0.lastID, .ref 25005 0 a0.active.length, .ref 25006 0 a0.writer.length])), (25000, R78 a0.buffer), (25001, R78 a0.disk), (25002, R80 a0.log), (25005, R3 a0.active), (25006, R3 a0.writer)]) (by simp; exact Sub.table (by simp) (by simp)) ?_
      refine AW.skip ?_
      refine thenQ_normal ?_
      refine AW.seq ?_
      refine AW.seqR ?_
      refine Chain.runK [] 6 fun K hK => ?_; simp; refine hK _ _ ?_; clear hK K
      refine Chain.sub (S' := mk 69 [1000] [(0, .ptr 1000 0 0), (1, .i a1), (2, .i a2), (3, .i a3), (47, .b (decide ((a0.log.length : Int) ≥ 2000)))] [(1000, some (.box [.ref 25000 0 a0.buffer.length, .ref 25001 0 a0.disk.length, .ref 25002 0 a0.log.length, .i a0.flushed, .i a0.lastID, .ref 25005 0 a0.active.length, .ref 25006 0 a0.writer.length])), (25000, R78 a0.buffer), (25001, R78 a0.disk), (25002, R80 a0.log), (25005, R3 a0.active), (25006, R3 a0.writer)]) Sub.tt ?_
      refine Chain.nil ?_
      replace h := isome h; rcases h with ⟨c13, h⟩ | ⟨c13, h⟩
      ·have c13_ : decide ((a0.log.length : Int) ≥ 2000) = true := decide_eq_true c13
       refine AW.condT (b := decide ((a0.log.length : Int) ≥ 2000)) rfl c13_ ?_
       refine AW.sub (Sub.bool 47 (b := decide ((a0.log.length : Int) ≥ 2000)) rfl c13_) ?_
       refine AW.sub (S' := mk 69 [1000] [(0, .ptr 1000 0 0), (1, .i a1), (2, .i a2), (3, .i a3), (47, .b true)] [(1000, some (.box [.ref 25000 0 a0.buffer.length, .ref 25001 0 a0.disk.length, .ref 25002 0 a0.log.length, .i a0.flushed, .i a0.lastID, .ref 25005 0 a0.active.length, .ref 25006 0 a0.writer.length])), (25000, R78 a0.buffer), (25001, R78 a0.disk), (25002, R80 a0.log), (25005, R3 a0.active), (25006, R3 a0.writer)]) (by simp; exact Sub.table (by simp) (by simp)) ?_
       refine AW.seqR ?_
       refine Chain.runK [] 1 fun K hK => ?_; simp; refine hK _ _ ?_; clear hK K
       refine Chain.sub (S' := mk 69 [1000] [(8, .i 18)] [(1000, some (.box [.ref 25000 0 a0.buffer.length, .ref 25001 0 a0.disk.length, .ref 25002 0 a0.log.length, .i a0.flushed, .i a0.lastID, .ref 25005 0 a0.active.length, .ref 25006 0 a0.writer.length])), (25000, R78 a0.buffer), (25001, R78 a0.disk), (25002, R80 a0.log), (25005, R3 a0.active), (25006, R3 a0.writer)]) Sub.tt ?_
       refine Chain.nil ?_
       refine AW.ret ?_
       cases h
       refine thenQ_pass (by simp) ?_
       exact FinF.ret (by simp) (by simp)
      ·have c13_ : decide ((a0.log.length : Int) ≥ 2000) = false := decide_eq_false c13
       refine AW.condF (b := decide ((a0.log.length : Int) ≥ 2000)) rfl c13_ ?_
       refine AW.sub (Sub.bool 47 (b := decide ((a0.log.length : Int) ≥ 2000)) rfl c13_) ?_
       refine AW.sub (S' := mk 69 [1000] [(0, .ptr 1000 0 0), (1, .i a1), (2, .i a2), (3, .i a3), (47, .b false)] [(1000, some (.box [.ref 25000 0 a0.buffer.length, .ref 25001 0 a0.disk.length, .ref 25002 0 a0.log.length, .i a0.flushed, .i a0.lastID, .ref 25005 0 a0.active.length, .ref 25006 0 a0.writer.length])), (25000, R78 a0.buffer), (25001, R78 a0.disk), (25002, R80 a0.log), (25005, R3 a0.active), (25006, R3 a0.writer)]) (by simp; exact Sub.table (by simp) (by simp)) ?_
       refine AW.skip ?_
       refine thenQ_normal ?_
       refine AW.seqR ?_
       replace h := bsome h; obtain ⟨x14, hx14, h⟩ := h
       obtain ⟨k15, hx14k, hx14, hx14a, hx14b⟩ := idx_some hx14
       replace h := lsome h; obtain ⟨l16, gl16, h⟩ := h
       obtain ⟨hl16, hl16n⟩ := setI_some (cI .i64) gl16 hx14k
       replace hl16 : (a0.writer.map (cI .i64)).set k15 [.lit (.int .i64 a1)] = l16.map (cI .i64) := hl16
       clear gl16
       refine Chain.runK [] 8 fun K hK => ?_; simp [hx14, hx14k, hx14a, hx14b, hl16]; refine hK _ _ ?_; clear hK K
       refine Chain.sub (S' := mk 69 [1000] [(0, .ptr 1000 0 0), (1, .i a1), (2, .i a2), (3, .i a3)] [(1000, some (.box [.ref 25000 0 a0.buffer.length, .ref 25001 0 a0.disk.length, .ref 25002 0 a0.log.length, .i a0.flushed, .i a0.lastID, .ref 25005 0 a0.active.length, .ref 25006 0 l16.length])), (25000, R78 a0.buffer), (25001, R78 a0.disk), (25002, R80 a0.log), (25005, R3 a0.active), (25006, R3 l16)]) (Sub.table (by simp) (by simp [hl16n])) ?_
       refine Chain.nil ?_
       refine AW.seqR ?_
       replace h := bsome h; obtain ⟨x17, hx17, h⟩ := h
       obtain ⟨hx17, hx17a, hx17b⟩ := idx_some2 hx17 hx14k
       refine Chain.runK [] 13 fun K hK => ?_; simp [hx17, hx14k, hx17a, hx17b]; refine hK _ _ ?_; clear hK K
       refine Chain.sub (S' := mk 69 [1000] [(55, .ptr 1000 0 0), (67, .agg [.i 1, .i a1, .i a2, .i x17.value, .i a3])] [(1000, some (.box [.ref 25000 0 a0.buffer.length, .ref 25001 0 a0.disk.length, .ref 25002 0 a0.log.length, .i a0.flushed, .i a0.lastID, .ref 25005 0 a0.active.length, .ref 25006 0 l16.length])), (25000, R78 a0.buffer), (25001, R78 a0.disk), (25002, R80 a0.log), (25005, R3 a0.active), (25006, R3 l16)]) Sub.tt ?_
       replace h := bsome h; obtain ⟨r18, hr18, h⟩ := h
       refine Chain.callF (p25 N (S74.mk a0.buffer a0.disk a0.log a0.flushed a0.lastID a0.active l16) (S80.mk 1 a1 a2 x17.value a3) r18 hr18) [(1000, 1000), (25000, 25000), (25001, 25001), (25002, 25002), (25005, 25005), (25006, 25006)] [1000] [(1000, 1000), (25000, 25000), (25001, 25001), (25002, 25002), (25005, 25005), (25006, 25006)] [(1000, (.box [.ref 25000 0 r18.buffer.length, .ref 25001 0 r18.disk.length, .ref 25002 0 r18.log.length, .i r18.flushed, .i r18.lastID, .ref 25005 0 r18.active.length, .ref 25006 0 r18.writer.length])), (25000, (.arr 78 2 (r18.buffer.map cS78))), (25001, (.arr 78 2 (r18.disk.map cS78))), (25002, (.arr 80 5 (r18.log.map cS80))), (25005, (.arr 3 1 (r18.active.map (cI .i64)))), (25006, (.arr 3 1 (r18.writer.map (cI .i64))))] (.tup []) (by simp) rfl (by simp <;> rfl) (by simp) (by simp) (by simp) (by simp) (by simp) ent25 (by simp) (by simp) (by simp) (by simp) (by simp) (by simp) ?_
       refine Chain.sub (S' := mk 69 [1000] [(55, .ptr 1000 0 0), (67, .agg [.i 1, .i a1, .i a2, .i x17.value, .i a3]), (68, .tup [])] [(1000, some (.box [.ref 25000 0 r18.buffer.length, .ref 25001 0 r18.disk.length, .ref 25002 0 r18.log.length, .i r18.flushed, .i r18.lastID, .ref 25005 0 r18.active.length, .ref 25006 0 r18.writer.length])), (25000, R78 r18.buffer), (25001, R78 r18.disk), (25002, R80 r18.log), (25005, R3 r18.active), (25006, R3 r18.writer)]) (by simp; exact Sub.table (by simp) (by simp)) ?_
       refine Chain.nil ?_
       refine AW.seqR ?_
       refine Chain.runK [] 1 fun K hK => ?_; simp; refine hK _ _ ?_; clear hK K
       refine Chain.sub (S' := mk 69 [1000] [(8, .i 0)] [(1000, some (.box [.ref 25000 0 r18.buffer.length, .ref 25001 0 r18.disk.length, .ref 25002 0 r18.log.length, .i r18.flushed, .i r18.lastID, .ref 25005 0 r18.active.length, .ref 25006 0 r18.writer.length])), (25000, R78 r18.buffer), (25001, R78 r18.disk), (25002, R80 r18.log), (25005, R3 r18.active), (25006, R3 r18.writer)]) Sub.tt ?_
       refine Chain.nil ?_
       refine AW.ret ?_
       cases h
       exact FinF.ret (by simp) (by simp)

/-- (*stemma/recovery.Engine).Begin -/
def d19 (_N : Nat) (a0 : S74) : Option (S74 × Int × Int) :=
 if ((a0.active.length : Int) == 10) then (
  some (a0, 0, 18)
 ) else
 (chkI (a0.lastID + 1)).bind fun v2 =>
 (appL 8 a0.active [v2]).bind fun _l3 =>
 some ((S74.mk a0.buffer a0.disk a0.log a0.flushed v2 (a0.active ++ [v2]) a0.writer), v2, 0)
set_option maxRecDepth 100000 in
set_option maxHeartbeats 4000000 in
theorem p19 (N : Nat) (a0 : S74) (r : (S74 × Int × Int)) (h : d19 N a0 = some r) : FunM Try.prog 19 [.ptr 1000 0 0] [(1000, some (.box [.ref 25000 0 a0.buffer.length, .ref 25001 0 a0.disk.length, .ref 25002 0 a0.log.length, .i a0.flushed, .i a0.lastID, .ref 25005 0 a0.active.length, .ref 25006 0 a0.writer.length])), (25000, R78 a0.buffer), (25001, R78 a0.disk), (25002, R80 a0.log), (25005, R3 a0.active), (25006, R3 a0.writer)] [1000] (.tup [.i r.2.1, .i r.2.2]) ([(1000, (.box [.ref 25000 0 r.1.buffer.length, .ref 25001 0 r.1.disk.length, .ref 25002 0 r.1.log.length, .i r.1.flushed, .i r.1.lastID, .ref 25005 0 r.1.active.length, .ref 25006 0 r.1.writer.length])), (25000, (.arr 78 2 (r.1.buffer.map cS78))), (25001, (.arr 78 2 (r.1.disk.map cS78))), (25002, (.arr 80 5 (r.1.log.map cS80))), (25005, (.arr 3 1 (r.1.active.map (cI .i64)))), (25006, (.arr 3 1 (r.1.writer.map (cI .i64))))]) := by
 unfold d19 at h
 refine FunM.enter 34 [(0, .ptr 1000 0 0)] Try.func19 rfl (of_decide_eq_true rfl) rfl rfl ?_
 refine AW.seqR ?_
 refine Chain.runK [] 2 fun K hK => ?_; simp; refine hK _ _ ?_; clear hK K
 refine Chain.sub (S' := mk 34 [1000] [(0, .ptr 1000 0 0)] [(1000, some (.box [.ref 25000 0 a0.buffer.length, .ref 25001 0 a0.disk.length, .ref 25002 0 a0.log.length, .i a0.flushed, .i a0.lastID, .ref 25005 0 a0.active.length, .ref 25006 0 a0.writer.length])), (25000, R78 a0.buffer), (25001, R78 a0.disk), (25002, R80 a0.log), (25005, R3 a0.active), (25006, R3 a0.writer)]) Sub.tt ?_
 refine Chain.nil ?_
 refine AW.seq ?_
 refine AW.seqR ?_
 refine Chain.runK [] 6 fun K hK => ?_; simp; refine hK _ _ ?_; clear hK K
 refine Chain.sub (S' := mk 34 [1000] [(0, .ptr 1000 0 0), (9, .b ((a0.active.length : Int) == 10))] [(1000, some (.box [.ref 25000 0 a0.buffer.length, .ref 25001 0 a0.disk.length, .ref 25002 0 a0.log.length, .i a0.flushed, .i a0.lastID, .ref 25005 0 a0.active.length, .ref 25006 0 a0.writer.length])), (25000, R78 a0.buffer), (25001, R78 a0.disk), (25002, R80 a0.log), (25005, R3 a0.active), (25006, R3 a0.writer)]) Sub.tt ?_
 refine Chain.nil ?_
 replace h := isome h; rcases h with ⟨c1, h⟩ | ⟨c1, h⟩
 ·have c1_ : ((a0.active.length : Int) == 10) = true := c1
  refine AW.condT (b := ((a0.active.length : Int) == 10)) rfl c1_ ?_
  refine AW.sub (Sub.bool 9 (b := ((a0.active.length : Int) == 10)) rfl c1_) ?_
  refine AW.sub (S' := mk 34 [1000] [(0, .ptr 1000 0 0), (9, .b true)] [(1000, some (.box [.ref 25000 0 a0.buffer.length, .ref 25001 0 a0.disk.length, .ref 25002 0 a0.log.length, .i a0.flushed, .i a0.lastID, .ref 25005 0 a0.active.length, .ref 25006 0 a0.writer.length])), (25000, R78 a0.buffer), (25001, R78 a0.disk), (25002, R80 a0.log), (25005, R3 a0.active), (25006, R3 a0.writer)]) (by simp; exact Sub.table (by simp) (by simp)) ?_
  refine AW.seqR ?_
  refine Chain.runK [] 2 fun K hK => ?_; simp; refine hK _ _ ?_; clear hK K
  refine Chain.sub (S' := mk 34 [1000] [(2, .i 0), (3, .i 18)] [(1000, some (.box [.ref 25000 0 a0.buffer.length, .ref 25001 0 a0.disk.length, .ref 25002 0 a0.log.length, .i a0.flushed, .i a0.lastID, .ref 25005 0 a0.active.length, .ref 25006 0 a0.writer.length])), (25000, R78 a0.buffer), (25001, R78 a0.disk), (25002, R80 a0.log), (25005, R3 a0.active), (25006, R3 a0.writer)]) Sub.tt ?_
  refine Chain.nil ?_
  refine AW.ret ?_
  cases h
  refine thenQ_pass (by simp) ?_
  exact FinF.ret (by simp) (by simp)
 ·have c1_ : ((a0.active.length : Int) == 10) = false := Bool.eq_false_iff.2 c1
  refine AW.condF (b := ((a0.active.length : Int) == 10)) rfl c1_ ?_
  refine AW.sub (Sub.bool 9 (b := ((a0.active.length : Int) == 10)) rfl c1_) ?_
  refine AW.sub (S' := mk 34 [1000] [(0, .ptr 1000 0 0), (9, .b false)] [(1000, some (.box [.ref 25000 0 a0.buffer.length, .ref 25001 0 a0.disk.length, .ref 25002 0 a0.log.length, .i a0.flushed, .i a0.lastID, .ref 25005 0 a0.active.length, .ref 25006 0 a0.writer.length])), (25000, R78 a0.buffer), (25001, R78 a0.disk), (25002, R80 a0.log), (25005, R3 a0.active), (25006, R3 a0.writer)]) (by simp; exact Sub.table (by simp) (by simp)) ?_
  refine AW.skip ?_
  refine thenQ_normal ?_
  refine AW.seqR ?_
  replace h := bsome h; obtain ⟨v2, hv2, h⟩ := h
  have hv2 := chkI_some hv2
  refine Chain.runK [] 8 fun K hK => ?_; simp [hv2]; refine hK _ _ ?_; clear hK K
  refine Chain.sub (S' := mk 34 [1000] [(0, .ptr 1000 0 0)] [(1000, some (.box [.ref 25000 0 a0.buffer.length, .ref 25001 0 a0.disk.length, .ref 25002 0 a0.log.length, .i a0.flushed, .i v2, .ref 25005 0 a0.active.length, .ref 25006 0 a0.writer.length])), (25000, R78 a0.buffer), (25001, R78 a0.disk), (25002, R80 a0.log), (25005, R3 a0.active), (25006, R3 a0.writer)]) Sub.tt ?_
  refine Chain.nil ?_
  replace h := bsome h; obtain ⟨l3, hl3, h⟩ := h
  obtain ⟨hl3a, hl3⟩ := appL_some hl3
  subst hl3
  try simp only [List.length_cons, List.length_nil, Nat.zero_add] at hl3a
  refine AW.seqAnyS [[], [], [1], [1, 2], [1, 2, 3], [], [5], [5, 6], [5, 6, 7], [5, 6, 7, 8], [1, 2, 3, 4, 5, 6, 7, 8, 9], [0, 1, 2, 3, 4, 5, 6, 7, 8, 9, 10], [0, 1, 2, 3, 4, 5, 6, 7, 8, 9, 10, 11], [0, 1, 2, 3, 4, 5, 6, 7, 8, 9, 10, 11, 12]] (fun (b : Nat → Bool) => mk 34 [1000] [(0, .ptr 1000 0 0), (17, (if b 0 then .ptr 1000 0 0 else .junk)), (18, (if b 1 then .ptr 1000 0 0 else .junk)), (19, (if b 2 then .ptr 1000 0 0 else .junk)), (20, (if b 3 then .ptr 1000 0 5 else .junk)), (21, (if b 10 then .junk else (if b 4 then .ref 25005 0 a0.active.length else .junk))), (22, (if b 5 then .ptr 1000 0 0 else .junk)), (23, (if b 6 then .ptr 1000 0 0 else .junk)), (24, (if b 7 then .ptr 1000 0 4 else .junk)), (25, (if b 8 then .i v2 else .junk)), (26, (if b 9 then .d (.sl ([v2].map (cI .i64))) else .junk)), (27, (if b 10 then .ref 25005 0 ((a0.active ++ [v2]).length) else .junk)), (28, (if b 11 then .ptr 1000 0 0 else .junk)), (29, (if b 12 then .ptr 1000 0 5 else .junk))] [(1000, (if b 13 then some (.box [.ref 25000 0 a0.buffer.length, .ref 25001 0 a0.disk.length, .ref 25002 0 a0.log.length, .i a0.flushed, .i v2, .ref 25005 0 ((a0.active ++ [v2]).length), .ref 25006 0 a0.writer.length]) else (if b 10 then some (.box [.ref 25000 0 a0.buffer.length, .ref 25001 0 a0.disk.length, .ref 25002 0 a0.log.length, .i a0.flushed, .i v2, .hole, .ref 25006 0 a0.writer.length]) else some (.box [.ref 25000 0 a0.buffer.length, .ref 25001 0 a0.disk.length, .ref 25002 0 a0.log.length, .i a0.flushed, .i v2, .ref 25005 0 a0.active.length, .ref 25006 0 a0.writer.length])))), (25000, R78 a0.buffer), (25001, R78 a0.disk), (25002, R80 a0.log), (25005, (if b 10 then R3 (a0.active ++ [v2]) else R3 a0.active)), (25006, R3 a0.writer)]) (mk 34 [1000] [(0, .ptr 1000 0 0)] [(1000, some (.box [.ref 25000 0 a0.buffer.length, .ref 25001 0 a0.disk.length, .ref 25002 0 a0.log.length, .i a0.flushed, .i v2, .ref 25005 0 ((a0.active ++ [v2]).length), .ref 25006 0 a0.writer.length])), (25000, R78 a0.buffer), (25001, R78 a0.disk), (25002, R80 a0.log), (25005, R3 (a0.active ++ [v2])), (25006, R3 a0.writer)]) (by kernel_rfl) (by kernel_rfl) Sub.tt (Steps.cons ?_ (Steps.cons ?_ (Steps.cons ?_ (Steps.cons ?_ (Steps.cons ?_ (Steps.cons ?_ (Steps.cons ?_ (Steps.cons ?_ (Steps.cons ?_ (Steps.cons ?_ (Steps.cons ?_ (Steps.cons ?_ (Steps.cons ?_ (Steps.cons ?_ (Steps.nil))))))))))))))) ?_ ?_
  ·intro b h0 ha hd
   have f11 : b 11 = false := hd 11 (by decide)
   have f12 : b 12 = false := hd 12 (by decide)
   have f13 : b 13 = false := hd 13 (by decide)
   refine Chain.runK [26] 1 fun K hK => ?_; simp [h0, f11, f12, f13]; refine hK _ _ ?_; clear hK K
   exact Chain.nil (Sub.table (by simp [f11, f12]) (by simp [f13]))
  ·intro b h0 ha hd
   have f2 : b 2 = false := hd 2 (by decide)
   have f3 : b 3 = false := hd 3 (by decide)
   have f4 : b 4 = false := hd 4 (by decide)
   have f10 : b 10 = false := hd 10 (by decide)
   have f11 : b 11 = false := hd 11 (by decide)
   have f12 : b 12 = false := hd 12 (by decide)
   have f13 : b 13 = false := hd 13 (by decide)
   refine Chain.runK [26] 1 fun K hK => ?_; simp [h0, f2, f3, f4, f10, f11, f12, f13]; refine hK _ _ ?_; clear hK K
   exact Chain.nil (Sub.table (by simp [f2, f3, f4, f10, f11, f12]) (by simp [f10, f13]))
  ·intro b h0 ha hd
   have t1 : b 1 = true := ha 1 (by decide)
   have f3 : b 3 = false := hd 3 (by decide)
   have f4 : b 4 = false := hd 4 (by decide)
   have f10 : b 10 = false := hd 10 (by decide)
   have f11 : b 11 = false := hd 11 (by decide)
   have f12 : b 12 = false := hd 12 (by decide)
   have f13 : b 13 = false := hd 13 (by decide)
   refine Chain.runK [26] 1 fun K hK => ?_; simp [h0, t1, f3, f4, f10, f11, f12, f13]; refine hK _ _ ?_; clear hK K
   exact Chain.nil (Sub.table (by simp [t1, f3, f4, f10, f11, f12]) (by simp [f10, f13]))
  ·intro b h0 ha hd
   have t1 : b 1 = true := ha 1 (by decide)
   have t2 : b 2 = true := ha 2 (by decide)
   have f4 : b 4 = false := hd 4 (by decide)
   have f10 : b 10 = false := hd 10 (by decide)
   have f11 : b 11 = false := hd 11 (by decide)
   have f12 : b 12 = false := hd 12 (by decide)
   have f13 : b 13 = false := hd 13 (by decide)
   refine Chain.runK [26] 1 fun K hK => ?_; simp [h0, t1, t2, f4, f10, f11, f12, f13]; refine hK _ _ ?_; clear hK K
   exact Chain.nil (Sub.table (by simp [t1, t2, f4, f10, f11, f12]) (by simp [f10, f13]))
  ·intro b h0 ha hd
   have t1 : b 1 = true := ha 1 (by decide)
   have t2 : b 2 = true := ha 2 (by decide)
   have t3 : b 3 = true := ha 3 (by decide)
   have f10 : b 10 = false := hd 10 (by decide)
   have f11 : b 11 = false := hd 11 (by decide)
   have f12 : b 12 = false := hd 12 (by decide)
   have f13 : b 13 = false := hd 13 (by decide)
   refine Chain.runK [26] 1 fun K hK => ?_; simp [h0, t1, t2, t3, f10, f11, f12, f13]; refine hK _ _ ?_; clear hK K
   exact Chain.nil (Sub.table (by simp [t1, t2, t3, f10, f11, f12]) (by simp [f10, f13]))
  ·intro b h0 ha hd
   have f6 : b 6 = false := hd 6 (by decide)
   have f7 : b 7 = false := hd 7 (by decide)
   have f8 : b 8 = false := hd 8 (by decide)
   have f9 : b 9 = false := hd 9 (by decide)
   have f10 : b 10 = false := hd 10 (by decide)
   have f11 : b 11 = false := hd 11 (by decide)
   have f12 : b 12 = false := hd 12 (by decide)
   have f13 : b 13 = false := hd 13 (by decide)
   refine Chain.runK [26] 1 fun K hK => ?_; simp [h0, f6, f7, f8, f9, f10, f11, f12, f13]; refine hK _ _ ?_; clear hK K
   exact Chain.nil (Sub.table (by simp [f6, f7, f8, f9, f10, f11, f12]) (by simp [f10, f13]))
  ·intro b h0 ha hd
   have t5 : b 5 = true := ha 5 (by decide)
   have f7 : b 7 = false := hd 7 (by decide)
   have f8 : b 8 = false := hd 8 (by decide)
   have f9 : b 9 = false := hd 9 (by decide)
   have f10 : b 10 = false := hd 10 (by decide)
   have f11 : b 11 = false := hd 11 (by decide)
   have f12 : b 12 = false := hd 12 (by decide)
   have f13 : b 13 = false := hd 13 (by decide)
   refine Chain.runK [26] 1 fun K hK => ?_; simp [h0, t5, f7, f8, f9, f10, f11, f12, f13]; refine hK _ _ ?_; clear hK K
   exact Chain.nil (Sub.table (by simp [t5, f7, f8, f9, f10, f11, f12]) (by simp [f10, f13]))
  ·intro b h0 ha hd
   have t5 : b 5 = true := ha 5 (by decide)
   have t6 : b 6 = true := ha 6 (by decide)
   have f8 : b 8 = false := hd 8 (by decide)
   have f9 : b 9 = false := hd 9 (by decide)
   have f10 : b 10 = false := hd 10 (by decide)
   have f11 : b 11 = false := hd 11 (by decide)
   have f12 : b 12 = false := hd 12 (by decide)
   have f13 : b 13 = false := hd 13 (by decide)
   refine Chain.runK [26] 1 fun K hK => ?_; simp [h0, t5, t6, f8, f9, f10, f11, f12, f13]; refine hK _ _ ?_; clear hK K
   exact Chain.nil (Sub.table (by simp [t5, t6, f8, f9, f10, f11, f12]) (by simp [f10, f13]))
  ·intro b h0 ha hd
   have t5 : b 5 = true := ha 5 (by decide)
   have t6 : b 6 = true := ha 6 (by decide)
   have t7 : b 7 = true := ha 7 (by decide)
   have f9 : b 9 = false := hd 9 (by decide)
   have f10 : b 10 = false := hd 10 (by decide)
   have f11 : b 11 = false := hd 11 (by decide)
   have f12 : b 12 = false := hd 12 (by decide)
   have f13 : b 13 = false := hd 13 (by decide)
   refine Chain.runK [26] 1 fun K hK => ?_; simp [h0, t5, t6, t7, f9, f10, f11, f12, f13]; refine hK _ _ ?_; clear hK K
   exact Chain.nil (Sub.table (by simp [t5, t6, t7, f9, f10, f11, f12]) (by simp [f10, f13]))
  ·intro b h0 ha hd
   have t5 : b 5 = true := ha 5 (by decide)
   have t6 : b 6 = true := ha 6 (by decide)
   have t7 : b 7 = true := ha 7 (by decide)
   have t8 : b 8 = true := ha 8 (by decide)
   have f10 : b 10 = false := hd 10 (by decide)
   have f11 : b 11 = false := hd 11 (by decide)
   have f12 : b 12 = false := hd 12 (by decide)
   have f13 : b 13 = false := hd 13 (by decide)
   refine Chain.runK [26] 1 fun K hK => ?_; simp [h0, t5, t6, t7, t8, f10, f11, f12, f13]; refine hK _ _ ?_; clear hK K
   exact Chain.nil (Sub.table (by simp [t5, t6, t7, t8, f10, f11, f12]) (by simp [f10, f13]))
  ·intro b h0 ha hd
   have t1 : b 1 = true := ha 1 (by decide)
   have t2 : b 2 = true := ha 2 (by decide)
   have t3 : b 3 = true := ha 3 (by decide)
   have t4 : b 4 = true := ha 4 (by decide)
   have t5 : b 5 = true := ha 5 (by decide)
   have t6 : b 6 = true := ha 6 (by decide)
   have t7 : b 7 = true := ha 7 (by decide)
   have t8 : b 8 = true := ha 8 (by decide)
   have t9 : b 9 = true := ha 9 (by decide)
   have f11 : b 11 = false := hd 11 (by decide)
   have f12 : b 12 = false := hd 12 (by decide)
   have f13 : b 13 = false := hd 13 (by decide)
   refine Chain.runK [26] 1 fun K hK => ?_; simp [h0, t1, t2, t3, t4, t5, t6, t7, t8, t9, f11, f12, f13, hl3a]; refine hK _ _ ?_; clear hK K
   exact Chain.nil (Sub.table (by simp [t1, t2, t3, t5, t6, t7, t8, t9, f11, f12]) (by simp [f13]))
  ·intro b h0 ha hd
   have t0 : b 0 = true := ha 0 (by decide)
   have t1 : b 1 = true := ha 1 (by decide)
   have t2 : b 2 = true := ha 2 (by decide)
   have t3 : b 3 = true := ha 3 (by decide)
   have t4 : b 4 = true := ha 4 (by decide)
   have t5 : b 5 = true := ha 5 (by decide)
   have t6 : b 6 = true := ha 6 (by decide)
   have t7 : b 7 = true := ha 7 (by decide)
   have t8 : b 8 = true := ha 8 (by decide)
   have t9 : b 9 = true := ha 9 (by decide)
   have t10 : b 10 = true := ha 10 (by decide)
   have f12 : b 12 = false := hd 12 (by decide)
   have f13 : b 13 = false := hd 13 (by decide)
   refine Chain.runK [26] 1 fun K hK => ?_; simp [h0, t0, t1, t2, t3, t5, t6, t7, t8, t9, t10, f12, f13]; refine hK _ _ ?_; clear hK K
   exact Chain.nil (Sub.table (by simp [t0, t1, t2, t3, t5, t6, t7, t8, t9, t10, f12]) (by simp [t10, f13]))
  ·intro b h0 ha hd
   have t0 : b 0 = true := ha 0 (by decide)
   have t1 : b 1 = true := ha 1 (by decide)
   have t2 : b 2 = true := ha 2 (by decide)
   have t3 : b 3 = true := ha 3 (by decide)
   have t4 : b 4 = true := ha 4 (by decide)
   have t5 : b 5 = true := ha 5 (by decide)
   have t6 : b 6 = true := ha 6 (by decide)
   have t7 : b 7 = true := ha 7 (by decide)
   have t8 : b 8 = true := ha 8 (by decide)
   have t9 : b 9 = true := ha 9 (by decide)
   have t10 : b 10 = true := ha 10 (by decide)
   have t11 : b 11 = true := ha 11 (by decide)
   have f13 : b 13 = false := hd 13 (by decide)
   refine Chain.runK [26] 1 fun K hK => ?_; simp [h0, t0, t1, t2, t3, t5, t6, t7, t8, t9, t10, t11, f13]; refine hK _ _ ?_; clear hK K
   exact Chain.nil (Sub.table (by simp [t0, t1, t2, t3, t5, t6, t7, t8, t9, t10, t11]) (by simp [t10, f13]))
  ·intro b h0 ha hd
   have t0 : b 0 = true := ha 0 (by decide)
   have t1 : b 1 = true := ha 1 (by decide)
   have t2 : b 2 = true := ha 2 (by decide)
   have t3 : b 3 = true := ha 3 (by decide)
   have t4 : b 4 = true := ha 4 (by decide)
   have t5 : b 5 = true := ha 5 (by decide)
   have t6 : b 6 = true := ha 6 (by decide)
   have t7 : b 7 = true := ha 7 (by decide)
   have t8 : b 8 = true := ha 8 (by decide)
   have t9 : b 9 = true := ha 9 (by decide)
   have t10 : b 10 = true := ha 10 (by decide)
   have t11 : b 11 = true := ha 11 (by decide)
   have t12 : b 12 = true := ha 12 (by decide)
   refine Chain.runK [26] 1 fun K hK => ?_; simp [h0, t0, t1, t2, t3, t5, t6, t7, t8, t9, t10, t11, t12]; refine hK _ _ ?_; clear hK K
   exact Chain.nil (Sub.table (by simp [t0, t1, t2, t3, t5, t6, t7, t8, t9, t10, t11, t12]) (by simp [t10]))
  ·intro b hb
   have t0 := hb 0 (by decide)
   have t1 := hb 1 (by decide)
   have t2 := hb 2 (by decide)
   have t3 := hb 3 (by decide)
   have t4 := hb 4 (by decide)
   have t5 := hb 5 (by decide)
   have t6 := hb 6 (by decide)
   have t7 := hb 7 (by decide)
   have t8 := hb 8 (by decide)
   have t9 := hb 9 (by decide)
   have t10 := hb 10 (by decide)
   have t11 := hb 11 (by decide)
   have t12 := hb 12 (by decide)
   have t13 := hb 13 (by decide)
   exact Sub.table (by simp [t0, t1, t2, t3, t5, t6, t7, t8, t9, t10, t11, t12]) (by simp [t10, t13])
  ·skip
   refine AW.seqR ?_
   refine Chain.runK [] 6 fun K hK => ?_; simp; refine hK _ _ ?_; clear hK K
   refine Chain.sub (S' := mk 34 [1000] [(2, .i v2), (3, .i 0)] [(1000, some (.box [.ref 25000 0 a0.buffer.length, .ref 25001 0 a0.disk.length, .ref 25002 0 a0.log.length, .i a0.flushed, .i v2, .ref 25005 0 ((a0.active ++ [v2]).length), .ref 25006 0 a0.writer.length])), (25000, R78 a0.buffer), (25001, R78 a0.disk), (25002, R80 a0.log), (25005, R3 (a0.active ++ [v2])), (25006, R3 a0.writer)]) Sub.tt ?_
   refine Chain.nil ?_
   refine AW.ret ?_
   cases h
   exact FinF.ret (by simp) (by simp)

/-- stemma/stemlaw5.arg -/
def d9 (_N : Nat) (a0 : (List Int)) (a1 : Int) : Option Int :=
 if a1 < (a0.length : Int) then (
  (idx a0 a1).bind fun x2 =>
  some x2
 ) else
 some 0
set_option maxRecDepth 100000 in
set_option maxHeartbeats 4000000 in
theorem p9 (N : Nat) (a0 : (List Int)) (a1 : Int) (r : Int) (h : d9 N a0 a1 = some r) : FunC Try.prog 9 [.d (.sl (a0.map (cI .i64))), .i a1] (.i r) := by
 unfold d9 at h
 refine FunC.enter 13 [(0, .d (.sl (a0.map (cI .i64)))), (1, .i a1)] (by simp) Try.func9 rfl (of_decide_eq_true rfl) rfl rfl ?_
 refine AW.seqR ?_
 refine Chain.runK [] 1 fun K hK => ?_; simp; refine hK _ _ ?_; clear hK K
 refine Chain.sub (S' := mk 13 [] [(0, .d (.sl (a0.map (cI .i64)))), (1, .i a1)] []) Sub.tt ?_
 refine Chain.nil ?_
 refine AW.seq ?_
 refine AW.seqR ?_
 refine Chain.runK [] 4 fun K hK => ?_; simp; refine hK _ _ ?_; clear hK K
 refine Chain.sub (S' := mk 13 [] [(0, .d (.sl (a0.map (cI .i64)))), (1, .i a1), (8, .b (decide (a1 < (a0.length : Int))))] []) Sub.tt ?_
 refine Chain.nil ?_
 replace h := isome h; rcases h with ⟨c1, h⟩ | ⟨c1, h⟩
 ·have c1_ : decide (a1 < (a0.length : Int)) = true := decide_eq_true c1
  refine AW.condT (b := decide (a1 < (a0.length : Int))) rfl c1_ ?_
  refine AW.sub (Sub.bool 8 (b := decide (a1 < (a0.length : Int))) rfl c1_) ?_
  refine AW.sub (S' := mk 13 [] [(0, .d (.sl (a0.map (cI .i64)))), (1, .i a1), (8, .b true)] []) (by simp; exact Sub.table (by simp) (by simp)) ?_
  refine AW.seqR ?_
  replace h := bsome h; obtain ⟨x2, hx2, h⟩ := h
  obtain ⟨k3, hx2k, hx2, hx2a, hx2b⟩ := idx_some hx2
  refine Chain.runK [] 5 fun K hK => ?_; simp [hx2, hx2k, hx2a]; refine hK _ _ ?_; clear hK K
  refine Chain.sub (S' := mk 13 [] [(4, .i x2)] []) Sub.tt ?_
  refine Chain.nil ?_
  refine AW.ret ?_
  cases h
  refine thenQ_pass (by simp) ?_
  exact FinC.ret (by simp) (by simp)
 ·have c1_ : decide (a1 < (a0.length : Int)) = false := decide_eq_false c1
  refine AW.condF (b := decide (a1 < (a0.length : Int))) rfl c1_ ?_
  refine AW.sub (Sub.bool 8 (b := decide (a1 < (a0.length : Int))) rfl c1_) ?_
  refine AW.sub (S' := mk 13 [] [(0, .d (.sl (a0.map (cI .i64)))), (1, .i a1), (8, .b false)] []) (by simp; exact Sub.table (by simp) (by simp)) ?_
  refine AW.skip ?_
  refine thenQ_normal ?_
  refine AW.seqR ?_
  refine Chain.runK [] 1 fun K hK => ?_; simp; refine hK _ _ ?_; clear hK K
  refine Chain.sub (S' := mk 13 [] [(4, .i 0)] []) Sub.tt ?_
  refine Chain.nil ?_
  refine AW.ret ?_
  cases h
  exact FinC.ret (by simp) (by simp)

end Go.Proofs.Ytiikoldaocnilaa
