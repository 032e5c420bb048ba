/- Functions of the program as functional programs; the code computes them. -/
import Derived.Test.YtiikoldaocnilaaRc3
namespace Go.Proofs.Ytiikoldaocnilaa
open Go.Ab Go.Rp
attribute [-simp] List.all_eq_true Array.all_toList Array.all_eq_true

/-- (*stemma/recovery.Engine).finish -/
def d40 (N : Nat) (a0 : S74) (a1 : Int) : Option S74 :=
 (d25 N a0 (S80.mk 3 a1 0 0 0)).bind fun r1 =>
 (d31 N r1.active (fun b0 => d46 N b0 a1)).bind fun r2 =>
 Option.bind (α := List Int) (
  iterN (σ := ((List Int) × Int)) (ρ := List Int) (fun ((l9, v10) : ((List Int) × Int)) =>
   if v10 < (r1.writer.length : Int) then (
    (idx l9 v10).bind fun x29 =>
    if (x29 == a1) then (
     letv (setI l9 v10 0) fun l32 =>
     (chkI (v10 + 1)).bind fun v33 =>
     some (.inl (l32, v33))
    ) else
    (chkI (v10 + 1)).bind fun v34 =>
    some (.inl (l9, v34))
   ) else
   some (.inr l9)
  ) N (r1.writer, 0)
 ) fun (l27 : List Int) =>
 some (S74.mk r1.buffer r1.disk r1.log r1.flushed r1.lastID r2 l27)
set_option maxRecDepth 100000 in
set_option maxHeartbeats 4000000 in
theorem p40 (N : Nat) (a0 : S74) (a1 : Int) (r : S74) (h : d40 N a0 a1 = some r) : FunM Try.prog 40 [.ptr 1000 0 0, .i a1] [(1000, some (.box [.ref 25000 0 a0.buffer.length, .ref 25001 0 a0.disk.length, .ref 25002 0 a0.log.length, .i a0.flushed, .i a0.lastID, .ref 25005 0 a0.active.length, .ref 25006 0 a0.writer.length])), (25000, R78 a0.buffer), (25001, R78 a0.disk), (25002, R80 a0.log), (25005, R3 a0.active), (25006, R3 a0.writer)] [1000] (.tup []) ([(1000, (.box [.ref 25000 0 r.buffer.length, .ref 25001 0 r.disk.length, .ref 25002 0 r.log.length, .i r.flushed, .i r.lastID, .ref 25005 0 r.active.length, .ref 25006 0 r.writer.length])), (25000, (.arr 78 2 (r.buffer.map cS78))), (25001, (.arr 78 2 (r.disk.map cS78))), (25002, (.arr 80 5 (r.log.map cS80))), (25005, (.arr 3 1 (r.active.map (cI .i64)))), (25006, (.arr 3 1 (r.writer.map (cI .i64))))]) := by
 unfold d40 at h
 refine FunM.enter 39 [(0, .ptr 1000 0 0), (1, .i a1)] Try.func40 rfl (of_decide_eq_true rfl) rfl rfl ?_
 refine AW.seqR ?_
 refine Chain.runK [] 1 fun K hK => ?_; simp; refine hK _ _ ?_; clear hK K
 refine Chain.sub (S' := mk 39 [1000] [(0, .ptr 1000 0 0), (3, .ptr 3 0 0)] [(3, some (.box [.i a1])), (1000, some (.box [.ref 25000 0 a0.buffer.length, .ref 25001 0 a0.disk.length, .ref 25002 0 a0.log.length, .i a0.flushed, .i a0.lastID, .ref 25005 0 a0.active.length, .ref 25006 0 a0.writer.length])), (25000, R78 a0.buffer), (25001, R78 a0.disk), (25002, R80 a0.log), (25005, R3 a0.active), (25006, R3 a0.writer)]) Sub.tt ?_
 refine Chain.nil ?_
 refine AW.seqR ?_
 refine Chain.runK [] 3 fun K hK => ?_; simp; refine hK _ _ ?_; clear hK K
 refine Chain.sub (S' := mk 39 [1000] [(0, .ptr 1000 0 0), (3, .ptr 3 0 0), (6, .ptr 1000 0 0), (8, .agg [.i 3, .i a1, .i 0, .i 0, .i 0])] [(3, some (.box [.i a1])), (1000, some (.box [.ref 25000 0 a0.buffer.length, .ref 25001 0 a0.disk.length, .ref 25002 0 a0.log.length, .i a0.flushed, .i a0.lastID, .ref 25005 0 a0.active.length, .ref 25006 0 a0.writer.length])), (25000, R78 a0.buffer), (25001, R78 a0.disk), (25002, R80 a0.log), (25005, R3 a0.active), (25006, R3 a0.writer)]) Sub.tt ?_
 replace h := bsome h; obtain ⟨r1, hr1, h⟩ := h
 refine Chain.callF (p25 N a0 (S80.mk 3 a1 0 0 0) r1 hr1) [(1000, 1000), (25000, 25000), (25001, 25001), (25002, 25002), (25005, 25005), (25006, 25006)] [1000] [(1000, 1000), (25000, 25000), (25001, 25001), (25002, 25002), (25005, 25005), (25006, 25006)] [(1000, (.box [.ref 25000 0 r1.buffer.length, .ref 25001 0 r1.disk.length, .ref 25002 0 r1.log.length, .i r1.flushed, .i r1.lastID, .ref 25005 0 r1.active.length, .ref 25006 0 r1.writer.length])), (25000, (.arr 78 2 (r1.buffer.map cS78))), (25001, (.arr 78 2 (r1.disk.map cS78))), (25002, (.arr 80 5 (r1.log.map cS80))), (25005, (.arr 3 1 (r1.active.map (cI .i64)))), (25006, (.arr 3 1 (r1.writer.map (cI .i64))))] (.tup []) (by simp) rfl (by simp <;> rfl) (by simp) (by simp) (by simp) (by simp) (by simp) ent25 (by simp) (by simp) (by simp) (by simp) (by simp) (by simp) ?_
 refine Chain.sub (S' := mk 39 [1000] [(0, .ptr 1000 0 0), (3, .ptr 3 0 0), (6, .ptr 1000 0 0), (8, .agg [.i 3, .i a1, .i 0, .i 0, .i 0]), (9, .tup [])] [(3, some (.box [.i a1])), (1000, some (.box [.ref 25000 0 r1.buffer.length, .ref 25001 0 r1.disk.length, .ref 25002 0 r1.log.length, .i r1.flushed, .i r1.lastID, .ref 25005 0 r1.active.length, .ref 25006 0 r1.writer.length])), (25000, R78 r1.buffer), (25001, R78 r1.disk), (25002, R80 r1.log), (25005, R3 r1.active), (25006, R3 r1.writer)]) (by simp; exact Sub.table (by simp) (by simp)) ?_
 refine Chain.nil ?_
 refine AW.seqR ?_
 refine Chain.runK [] 6 fun K hK => ?_; simp; refine hK _ _ ?_; clear hK K
 refine Chain.sub (S' := mk 39 [1000] [(0, .ptr 1000 0 0), (3, .ptr 3 0 0), (10, .ptr 1000 0 0), (14, .ref 25005 0 r1.active.length), (15, .fn (.func 46) [.ptr 3 0 0])] [(3, some (.box [.i a1])), (1000, some (.box [.ref 25000 0 r1.buffer.length, .ref 25001 0 r1.disk.length, .ref 25002 0 r1.log.length, .i r1.flushed, .i r1.lastID, .ref 25005 0 r1.active.length, .ref 25006 0 r1.writer.length])), (25000, R78 r1.buffer), (25001, R78 r1.disk), (25002, R80 r1.log), (25005, R3 r1.active), (25006, R3 r1.writer)]) Sub.tt ?_
 refine Chain.sub (Sub.freezeBox 3 [.lit (.int .i64 a1)] rfl) ?_
 refine Chain.sub (S' := mk 39 [1000] [(0, .ptr 1000 0 0), (3, .d (.pim [.lit (.int .i64 a1)])), (10, .ptr 1000 0 0), (14, .ref 25005 0 r1.active.length), (15, .fn (.func 46) [.d (.pim [.lit (.int .i64 a1)])])] [(1000, some (.box [.ref 25000 0 r1.buffer.length, .ref 25001 0 r1.disk.length, .ref 25002 0 r1.log.length, .i r1.flushed, .i r1.lastID, .ref 25005 0 r1.active.length, .ref 25006 0 r1.writer.length])), (25000, R78 r1.buffer), (25001, R78 r1.disk), (25002, R80 r1.log), (25005, R3 r1.active), (25006, R3 r1.writer)]) (by simp; exact Sub.table (by simp) (by simp)) ?_
 replace h := bsome h; obtain ⟨r2, hr2, h⟩ := h
 refine Chain.callF (p31 N r1.active 46 [.pim [.lit (.int .i64 a1)]] (fun b0 => d46 N b0 a1) ent46 (fun b0 r h => p46 N b0 a1 r h) r2 hr2) [(25005, 1000)] [25005] [(1000, 25005)] [(25005, .arr 3 1 (r2.map (cI .i64)))] (.ref 25005 0 r2.length) (by simp) rfl (by simp <;> rfl) (by simp) (by simp) (by simp) (by simp) (by simp) ent31 (by simp) (by simp) (by simp) (by simp) (by simp) (by simp) ?_
 refine Chain.sub (S' := mk 39 [1000] [(0, .ptr 1000 0 0), (3, .d (.pim [.lit (.int .i64 a1)])), (10, .ptr 1000 0 0), (15, .fn (.func 46) [.d (.pim [.lit (.int .i64 a1)])]), (16, .ref 25005 0 r2.length)] [(1000, some (.box [.ref 25000 0 r1.buffer.length, .ref 25001 0 r1.disk.length, .ref 25002 0 r1.log.length, .i r1.flushed, .i r1.lastID, .ref 25005 0 r1.active.length, .ref 25006 0 r1.writer.length])), (25000, R78 r1.buffer), (25001, R78 r1.disk), (25002, R80 r1.log), (25005, R3 r2), (25006, R3 r1.writer)]) (by simp; exact Sub.table (by simp) (by simp)) ?_
 refine Chain.runK [] 3 fun K hK => ?_; simp; refine hK _ _ ?_; clear hK K
 refine Chain.sub (S' := mk 39 [1000] [(0, .ptr 1000 0 0), (3, .d (.pim [.lit (.int .i64 a1)]))] [(1000, some (.box [.ref 25000 0 r1.buffer.length, .ref 25001 0 r1.disk.length, .ref 25002 0 r1.log.length, .i r1.flushed, .i r1.lastID, .ref 25005 0 r2.length, .ref 25006 0 r1.writer.length])), (25000, R78 r1.buffer), (25001, R78 r1.disk), (25002, R80 r1.log), (25005, R3 r2), (25006, R3 r1.writer)]) Sub.tt ?_
 refine Chain.nil ?_
 refine AW.seqR ?_
 refine Chain.runK [] 6 fun K hK => ?_; simp; refine hK _ _ ?_; clear hK K
 refine Chain.sub (S' := mk 39 [1000] [(0, .ptr 1000 0 0), (3, .d (.pim [.lit (.int .i64 a1)])), (22, .ref 25006 0 r1.writer.length), (23, .i (r1.writer.length : Int)), (24, .i 0)] [(1000, some (.box [.ref 25000 0 r1.buffer.length, .ref 25001 0 r1.disk.length, .ref 25002 0 r1.log.length, .i r1.flushed, .i r1.lastID, .ref 25005 0 r2.length, .ref 25006 0 r1.writer.length])), (25000, R78 r1.buffer), (25001, R78 r1.disk), (25002, R80 r1.log), (25005, R3 r2), (25006, R3 r1.writer)]) Sub.tt ?_
 refine Chain.nil ?_
 refine AW.lastN (fun (l27 : List Int) => mk 39 [1000] [] [(1000, some (.box [.ref 25000 0 r1.buffer.length, .ref 25001 0 r1.disk.length, .ref 25002 0 r1.log.length, .i r1.flushed, .i r1.lastID, .ref 25005 0 r2.length, .ref 25006 0 l27.length])), (25000, R78 r1.buffer), (25001, R78 r1.disk), (25002, R80 r1.log), (25005, R3 r2), (25006, R3 l27)]) h ?_ ?_ <;> clear h
 ·intro o h
  refine AW.block ?_
  refine AW.iter (fun ((l9, v10) : ((List Int) × Int)) => mk 39 [1000] [(0, .ptr 1000 0 0), (3, .d (.pim [.lit (.int .i64 a1)])), (22, .ref 25006 0 l9.length), (23, .i (r1.writer.length : Int)), (24, .i v10)] [(1000, some (.box [.ref 25000 0 r1.buffer.length, .ref 25001 0 r1.disk.length, .ref 25002 0 r1.log.length, .i r1.flushed, .i r1.lastID, .ref 25005 0 r2.length, .ref 25006 0 l9.length])), (25000, R78 r1.buffer), (25001, R78 r1.disk), (25002, R80 r1.log), (25005, R3 r2), (25006, R3 l9)]) h Sub.tt ?_
  clear h
  rintro ⟨l9, v10⟩ x h
  dsimp only at h ⊢
  refine AW.seqR ?_
  refine Chain.runK [] 1 fun K hK => ?_; simp; refine hK _ _ ?_; clear hK K
  refine Chain.sub (S' := mk 39 [1000] [(0, .ptr 1000 0 0), (3, .d (.pim [.lit (.int .i64 a1)])), (22, .ref 25006 0 l9.length), (23, .i (r1.writer.length : Int)), (24, .i v10), (25, .b (decide (v10 < (r1.writer.length : Int))))] [(1000, some (.box [.ref 25000 0 r1.buffer.length, .ref 25001 0 r1.disk.length, .ref 25002 0 r1.log.length, .i r1.flushed, .i r1.lastID, .ref 25005 0 r2.length, .ref 25006 0 l9.length])), (25000, R78 r1.buffer), (25001, R78 r1.disk), (25002, R80 r1.log), (25005, R3 r2), (25006, R3 l9)]) Sub.tt ?_
  refine Chain.nil ?_
  refine AW.seq ?_
  replace h := isome h; rcases h with ⟨c28, h⟩ | ⟨c28, h⟩
  ·have c28_ : decide (v10 < (r1.writer.length : Int)) = true := decide_eq_true c28
   refine AW.condT (b := decide (v10 < (r1.writer.length : Int))) rfl c28_ ?_
   refine AW.sub (Sub.bool 25 (b := decide (v10 < (r1.writer.length : Int))) rfl c28_) ?_
   refine AW.sub (S' := mk 39 [1000] [(0, .ptr 1000 0 0), (3, .d (.pim [.lit (.int .i64 a1)])), (22, .ref 25006 0 l9.length), (23, .i (r1.writer.length : Int)), (24, .i v10), (25, .b true)] [(1000, some (.box [.ref 25000 0 r1.buffer.length, .ref 25001 0 r1.disk.length, .ref 25002 0 r1.log.length, .i r1.flushed, .i r1.lastID, .ref 25005 0 r2.length, .ref 25006 0 l9.length])), (25000, R78 r1.buffer), (25001, R78 r1.disk), (25002, R80 r1.log), (25005, R3 r2), (25006, R3 l9)]) (by simp; exact Sub.table (by simp) (by simp)) ?_
   refine AW.skip ?_
   refine thenQ_normal ?_
   refine AW.seq ?_
   refine AW.block ?_
   refine AW.seqR ?_
   replace h := bsome h; obtain ⟨x29, hx29, h⟩ := h
   obtain ⟨k30, hx29k, hx29, hx29a, hx29b⟩ := idx_some hx29
   refine Chain.runK [] 5 fun K hK => ?_; simp [hx29, hx29k, hx29a, hx29b]; refine hK _ _ ?_; clear hK K
   refine Chain.sub (S' := mk 39 [1000] [(0, .ptr 1000 0 0), (3, .d (.pim [.lit (.int .i64 a1)])), (4, .i v10), (5, .i x29), (22, .ref 25006 0 l9.length), (23, .i (r1.writer.length : Int)), (24, .i v10)] [(1000, some (.box [.ref 25000 0 r1.buffer.length, .ref 25001 0 r1.disk.length, .ref 25002 0 r1.log.length, .i r1.flushed, .i r1.lastID, .ref 25005 0 r2.length, .ref 25006 0 l9.length])), (25000, R78 r1.buffer), (25001, R78 r1.disk), (25002, R80 r1.log), (25005, R3 r2), (25006, R3 l9)]) Sub.tt ?_
   refine Chain.nil ?_
   refine AW.seqR ?_
   refine Chain.runK [] 3 fun K hK => ?_; simp; refine hK _ _ ?_; clear hK K
   refine Chain.sub (S' := mk 39 [1000] [(0, .ptr 1000 0 0), (3, .d (.pim [.lit (.int .i64 a1)])), (4, .i v10), (22, .ref 25006 0 l9.length), (23, .i (r1.writer.length : Int)), (24, .i v10), (31, .b (x29 == a1))] [(1000, some (.box [.ref 25000 0 r1.buffer.length, .ref 25001 0 r1.disk.length, .ref 25002 0 r1.log.length, .i r1.flushed, .i r1.lastID, .ref 25005 0 r2.length, .ref 25006 0 l9.length])), (25000, R78 r1.buffer), (25001, R78 r1.disk), (25002, R80 r1.log), (25005, R3 r2), (25006, R3 l9)]) Sub.tt ?_
   refine Chain.nil ?_
   replace h := isome h; rcases h with ⟨c31, h⟩ | ⟨c31, h⟩
   ·have c31_ : (x29 == a1) = true := c31
    refine AW.condT (b := (x29 == a1)) rfl c31_ ?_
    refine AW.sub (Sub.bool 31 (b := (x29 == a1)) rfl c31_) ?_
    refine AW.sub (S' := mk 39 [1000] [(0, .ptr 1000 0 0), (3, .d (.pim [.lit (.int .i64 a1)])), (4, .i v10), (22, .ref 25006 0 l9.length), (23, .i (r1.writer.length : Int)), (24, .i v10), (31, .b true)] [(1000, some (.box [.ref 25000 0 r1.buffer.length, .ref 25001 0 r1.disk.length, .ref 25002 0 r1.log.length, .i r1.flushed, .i r1.lastID, .ref 25005 0 r2.length, .ref 25006 0 l9.length])), (25000, R78 r1.buffer), (25001, R78 r1.disk), (25002, R80 r1.log), (25005, R3 r2), (25006, R3 l9)]) (by simp; exact Sub.table (by simp) (by simp)) ?_
    refine AW.region ?_
    replace h := lsome h; obtain ⟨l32, gl32, h⟩ := h
    obtain ⟨hl32, hl32n⟩ := setI_some (cI .i64) gl32 hx29k
    replace hl32 : (l9.map (cI .i64)).set k30 [.lit (.int .i64 0)] = l32.map (cI .i64) := hl32
    clear gl32
    refine Chain.runK [] 7 fun K hK => ?_; simp [hx29, hx29k, hx29a, hx29b, hl32]; refine hK _ _ ?_; clear hK K
    refine Chain.sub (S' := mk 39 [1000] [(0, .ptr 1000 0 0), (3, .d (.pim [.lit (.int .i64 a1)])), (22, .ref 25006 0 l32.length), (23, .i (r1.writer.length : Int)), (24, .i v10)] [(1000, some (.box [.ref 25000 0 r1.buffer.length, .ref 25001 0 r1.disk.length, .ref 25002 0 r1.log.length, .i r1.flushed, .i r1.lastID, .ref 25005 0 r2.length, .ref 25006 0 l32.length])), (25000, R78 r1.buffer), (25001, R78 r1.disk), (25002, R80 r1.log), (25005, R3 r2), (25006, R3 l32)]) (Sub.table (by simp [hl32n]) (by simp [hl32n])) ?_
    refine Chain.nil ?_
    refine blockQ.normal ?_
    refine thenQ_normal ?_
    refine AW.region ?_
    replace h := bsome h; obtain ⟨v33, hv33, h⟩ := h
    have hv33 := chkI_some hv33
    refine Chain.runK [] 2 fun K hK => ?_; simp [hv33]; refine hK _ _ ?_; clear hK K
    refine Chain.sub (S' := mk 39 [1000] [(0, .ptr 1000 0 0), (3, .d (.pim [.lit (.int .i64 a1)])), (22, .ref 25006 0 l32.length), (23, .i (r1.writer.length : Int)), (24, .i v33)] [(1000, some (.box [.ref 25000 0 r1.buffer.length, .ref 25001 0 r1.disk.length, .ref 25002 0 r1.log.length, .i r1.flushed, .i r1.lastID, .ref 25005 0 r2.length, .ref 25006 0 l32.length])), (25000, R78 r1.buffer), (25001, R78 r1.disk), (25002, R80 r1.log), (25005, R3 r2), (25006, R3 l32)]) Sub.tt ?_
    refine Chain.nil ?_
    cases h
    refine PostI.next ?_
    exact Sub.tt
   ·have c31_ : (x29 == a1) = false := Bool.eq_false_iff.2 c31
    refine AW.condF (b := (x29 == a1)) rfl c31_ ?_
    refine AW.sub (Sub.bool 31 (b := (x29 == a1)) rfl c31_) ?_
    refine AW.sub (S' := mk 39 [1000] [(0, .ptr 1000 0 0), (3, .d (.pim [.lit (.int .i64 a1)])), (4, .i v10), (22, .ref 25006 0 l9.length), (23, .i (r1.writer.length : Int)), (24, .i v10), (31, .b false)] [(1000, some (.box [.ref 25000 0 r1.buffer.length, .ref 25001 0 r1.disk.length, .ref 25002 0 r1.log.length, .i r1.flushed, .i r1.lastID, .ref 25005 0 r2.length, .ref 25006 0 l9.length])), (25000, R78 r1.buffer), (25001, R78 r1.disk), (25002, R80 r1.log), (25005, R3 r2), (25006, R3 l9)]) (by simp; exact Sub.table (by simp) (by simp)) ?_
    refine AW.skip ?_
    refine blockQ.normal ?_
    refine thenQ_normal ?_
    refine AW.region ?_
    replace h := bsome h; obtain ⟨v34, hv34, h⟩ := h
    have hv34 := chkI_some hv34
    refine Chain.runK [] 2 fun K hK => ?_; simp [hv34]; refine hK _ _ ?_; clear hK K
    refine Chain.sub (S' := mk 39 [1000] [(0, .ptr 1000 0 0), (3, .d (.pim [.lit (.int .i64 a1)])), (22, .ref 25006 0 l9.length), (23, .i (r1.writer.length : Int)), (24, .i v34)] [(1000, some (.box [.ref 25000 0 r1.buffer.length, .ref 25001 0 r1.disk.length, .ref 25002 0 r1.log.length, .i r1.flushed, .i r1.lastID, .ref 25005 0 r2.length, .ref 25006 0 l9.length])), (25000, R78 r1.buffer), (25001, R78 r1.disk), (25002, R80 r1.log), (25005, R3 r2), (25006, R3 l9)]) Sub.tt ?_
    refine Chain.nil ?_
    cases h
    refine PostI.next ?_
    exact Sub.tt
  ·have c28_ : decide (v10 < (r1.writer.length : Int)) = false := decide_eq_false c28
   refine AW.condF (b := decide (v10 < (r1.writer.length : Int))) rfl c28_ ?_
   refine AW.sub (Sub.bool 25 (b := decide (v10 < (r1.writer.length : Int))) rfl c28_) ?_
   refine AW.sub (S' := mk 39 [1000] [(0, .ptr 1000 0 0), (3, .d (.pim [.lit (.int .i64 a1)])), (22, .ref 25006 0 l9.length), (23, .i (r1.writer.length : Int)), (24, .i v10), (25, .b false)] [(1000, some (.box [.ref 25000 0 r1.buffer.length, .ref 25001 0 r1.disk.length, .ref 25002 0 r1.log.length, .i r1.flushed, .i r1.lastID, .ref 25005 0 r2.length, .ref 25006 0 l9.length])), (25000, R78 r1.buffer), (25001, R78 r1.disk), (25002, R80 r1.log), (25005, R3 r2), (25006, R3 l9)]) (by simp; exact Sub.table (by simp) (by simp)) ?_
   refine AW.exit ?_
   cases h
   refine thenQ_pass (by simp) ?_
   refine PostI.out (by simp) ?_
   rintro rfl
   refine blockQ.hit ?_
   refine PostN.next ?_
   exact Sub.tt
 ·rintro l27 h
  cases h
  exact FinF.normal (by simp) (by simp)

/-- (*stemma/recovery.Engine).Commit -/
def d28 (N : Nat) (a0 : S74) (a1 : Int) : Option (S74 × Int) :=
 (d24 N a0.active a1).bind fun r1 =>
 if (!r1) = true then (
  some (a0, 4)
 ) else
 (d40 N a0 a1).bind fun r3 =>
 some ((S74.mk r3.buffer r3.disk r3.log (r3.log.length : Int) r3.lastID r3.active r3.writer), 0)
set_option maxRecDepth 100000 in
set_option maxHeartbeats 4000000 in
theorem p28 (N : Nat) (a0 : S74) (a1 : Int) (r : (S74 × Int)) (h : d28 N a0 a1 = some r) : FunM Try.prog 28 [.ptr 1000 0 0, .i a1] [(1000, some (.box [.ref 25000 0 a0.buffer.length, .ref 25001 0 a0.disk.length, .ref 25002 0 a0.log.length, .i a0.flushed, .i a0.lastID, .ref 25005 0 a0.active.length, .ref 25006 0 a0.writer.length])), (25000, R78 a0.buffer), (25001, R78 a0.disk), (25002, R80 a0.log), (25005, R3 a0.active), (25006, R3 a0.writer)] [1000] (.i r.2) ([(1000, (.box [.ref 25000 0 r.1.buffer.length, .ref 25001 0 r.1.disk.length, .ref 25002 0 r.1.log.length, .i r.1.flushed, .i r.1.lastID, .ref 25005 0 r.1.active.length, .ref 25006 0 r.1.writer.length])), (25000, (.arr 78 2 (r.1.buffer.map cS78))), (25001, (.arr 78 2 (r.1.disk.map cS78))), (25002, (.arr 80 5 (r.1.log.map cS80))), (25005, (.arr 3 1 (r.1.active.map (cI .i64)))), (25006, (.arr 3 1 (r.1.writer.map (cI .i64))))]) := by
 unfold d28 at h
 refine FunM.enter 23 [(0, .ptr 1000 0 0), (1, .i a1)] Try.func28 rfl (of_decide_eq_true rfl) rfl rfl ?_
 refine AW.seqR ?_
 refine Chain.runK [] 1 fun K hK => ?_; simp; refine hK _ _ ?_; clear hK K
 refine Chain.sub (S' := mk 23 [1000] [(0, .ptr 1000 0 0), (1, .i a1)] [(1000, some (.box [.ref 25000 0 a0.buffer.length, .ref 25001 0 a0.disk.length, .ref 25002 0 a0.log.length, .i a0.flushed, .i a0.lastID, .ref 25005 0 a0.active.length, .ref 25006 0 a0.writer.length])), (25000, R78 a0.buffer), (25001, R78 a0.disk), (25002, R80 a0.log), (25005, R3 a0.active), (25006, R3 a0.writer)]) Sub.tt ?_
 refine Chain.nil ?_
 refine AW.seq ?_
 refine AW.seqR ?_
 refine Chain.runK [] 5 fun K hK => ?_; simp; refine hK _ _ ?_; clear hK K
 refine Chain.sub (S' := mk 23 [1000] [(0, .ptr 1000 0 0), (1, .i a1), (8, .ref 25005 0 a0.active.length), (9, .i a1)] [(1000, some (.box [.ref 25000 0 a0.buffer.length, .ref 25001 0 a0.disk.length, .ref 25002 0 a0.log.length, .i a0.flushed, .i a0.lastID, .ref 25005 0 a0.active.length, .ref 25006 0 a0.writer.length])), (25000, R78 a0.buffer), (25001, R78 a0.disk), (25002, R80 a0.log), (25005, R3 a0.active), (25006, R3 a0.writer)]) Sub.tt ?_
 replace h := bsome h; obtain ⟨r1, hr1, h⟩ := h
 refine Chain.callL (d := 10) (p24 N a0.active a1 r1 hr1) (by simp) rfl rfl (by simp <;> rfl) (by simp <;> rfl) ent24 (by simp <;> rfl) ?_
 refine Chain.sub (S' := mk 23 [1000] [(0, .ptr 1000 0 0), (1, .i a1), (8, .ref 25005 0 a0.active.length), (9, .i a1), (10, .b r1)] [(1000, some (.box [.ref 25000 0 a0.buffer.length, .ref 25001 0 a0.disk.length, .ref 25002 0 a0.log.length, .i a0.flushed, .i a0.lastID, .ref 25005 0 a0.active.length, .ref 25006 0 a0.writer.length])), (25000, R78 a0.buffer), (25001, R78 a0.disk), (25002, R80 a0.log), (25005, R3 a0.active), (25006, R3 a0.writer)]) (by simp; exact Sub.table (by simp) (by simp)) ?_
 refine Chain.runK [] 1 fun K hK => ?_; simp; refine hK _ _ ?_; clear hK K
 refine Chain.sub (S' := mk 23 [1000] [(0, .ptr 1000 0 0), (1, .i a1), (11, .b (!r1))] [(1000, some (.box [.ref 25000 0 a0.buffer.length, .ref 25001 0 a0.disk.length, .ref 25002 0 a0.log.length, .i a0.flushed, .i a0.lastID, .ref 25005 0 a0.active.length, .ref 25006 0 a0.writer.length])), (25000, R78 a0.buffer), (25001, R78 a0.disk), (25002, R80 a0.log), (25005, R3 a0.active), (25006, R3 a0.writer)]) Sub.tt ?_
 refine Chain.nil ?_
 replace h := isome h; rcases h with ⟨c2, h⟩ | ⟨c2, h⟩
 ·have c2_ : (!r1) = true := c2
  refine AW.condT (b := (!r1)) rfl c2_ ?_
  refine AW.sub (Sub.bool 11 (b := (!r1)) rfl c2_) ?_
  refine AW.sub (S' := mk 23 [1000] [(0, .ptr 1000 0 0), (1, .i a1), (11, .b true)] [(1000, some (.box [.ref 25000 0 a0.buffer.length, .ref 25001 0 a0.disk.length, .ref 25002 0 a0.log.length, .i a0.flushed, .i a0.lastID, .ref 25005 0 a0.active.length, .ref 25006 0 a0.writer.length])), (25000, R78 a0.buffer), (25001, R78 a0.disk), (25002, R80 a0.log), (25005, R3 a0.active), (25006, R3 a0.writer)]) (by simp; exact Sub.table (by simp) (by simp)) ?_
  refine AW.seqR ?_
  refine Chain.runK [] 1 fun K hK => ?_; simp; refine hK _ _ ?_; clear hK K
  refine Chain.sub (S' := mk 23 [1000] [(4, .i 4)] [(1000, some (.box [.ref 25000 0 a0.buffer.length, .ref 25001 0 a0.disk.length, .ref 25002 0 a0.log.length, .i a0.flushed, .i a0.lastID, .ref 25005 0 a0.active.length, .ref 25006 0 a0.writer.length])), (25000, R78 a0.buffer), (25001, R78 a0.disk), (25002, R80 a0.log), (25005, R3 a0.active), (25006, R3 a0.writer)]) Sub.tt ?_
  refine Chain.nil ?_
  refine AW.ret ?_
  cases h
  refine thenQ_pass (by simp) ?_
  exact FinF.ret (by simp) (by simp)
 ·have c2_ : (!r1) = false := Bool.eq_false_iff.2 c2
  refine AW.condF (b := (!r1)) rfl c2_ ?_
  refine AW.sub (Sub.bool 11 (b := (!r1)) rfl c2_) ?_
  refine AW.sub (S' := mk 23 [1000] [(0, .ptr 1000 0 0), (1, .i a1), (11, .b false)] [(1000, some (.box [.ref 25000 0 a0.buffer.length, .ref 25001 0 a0.disk.length, .ref 25002 0 a0.log.length, .i a0.flushed, .i a0.lastID, .ref 25005 0 a0.active.length, .ref 25006 0 a0.writer.length])), (25000, R78 a0.buffer), (25001, R78 a0.disk), (25002, R80 a0.log), (25005, R3 a0.active), (25006, R3 a0.writer)]) (by simp; exact Sub.table (by simp) (by simp)) ?_
  refine AW.skip ?_
  refine thenQ_normal ?_
  refine AW.seqR ?_
  refine Chain.runK [] 2 fun K hK => ?_; simp; refine hK _ _ ?_; clear hK K
  refine Chain.sub (S' := mk 23 [1000] [(0, .ptr 1000 0 0), (12, .ptr 1000 0 0), (13, .i a1)] [(1000, some (.box [.ref 25000 0 a0.buffer.length, .ref 25001 0 a0.disk.length, .ref 25002 0 a0.log.length, .i a0.flushed, .i a0.lastID, .ref 25005 0 a0.active.length, .ref 25006 0 a0.writer.length])), (25000, R78 a0.buffer), (25001, R78 a0.disk), (25002, R80 a0.log), (25005, R3 a0.active), (25006, R3 a0.writer)]) Sub.tt ?_
  replace h := bsome h; obtain ⟨r3, hr3, h⟩ := h
  refine Chain.callF (p40 N a0 a1 r3 hr3) [(1000, 1000), (25000, 25000), (25001, 25001), (25002, 25002), (25005, 25005), (25006, 25006)] [1000] [(1000, 1000), (25000, 25000), (25001, 25001), (25002, 25002), (25005, 25005), (25006, 25006)] [(1000, (.box [.ref 25000 0 r3.buffer.length, .ref 25001 0 r3.disk.length, .ref 25002 0 r3.log.length, .d (.lit (.int .i64 r3.flushed)), .d (.lit (.int .i64 r3.lastID)), .ref 25005 0 r3.active.length, .ref 25006 0 r3.writer.length])), (25000, (.arr 78 2 (r3.buffer.map cS78))), (25001, (.arr 78 2 (r3.disk.map cS78))), (25002, (.arr 80 5 (r3.log.map cS80))), (25005, (.arr 3 1 (r3.active.map (cI .i64)))), (25006, (.arr 3 1 (r3.writer.map (cI .i64))))] (.tup []) (by simp) rfl (by simp <;> rfl) (by simp) (by simp) (by simp) (by simp) (by simp) ent40 (by simp) (by simp) (by simp) (by simp) (by simp) (by simp) ?_
  refine Chain.sub (S' := mk 23 [1000] [(0, .ptr 1000 0 0), (12, .ptr 1000 0 0), (13, .i a1), (14, .tup [])] [(1000, some (.box [.ref 25000 0 r3.buffer.length, .ref 25001 0 r3.disk.length, .ref 25002 0 r3.log.length, .i r3.flushed, .i r3.lastID, .ref 25005 0 r3.active.length, .ref 25006 0 r3.writer.length])), (25000, R78 r3.buffer), (25001, R78 r3.disk), (25002, R80 r3.log), (25005, R3 r3.active), (25006, R3 r3.writer)]) (by simp; exact Sub.table (by simp) (by simp)) ?_
  refine Chain.nil ?_
  refine AW.seqR ?_
  refine Chain.runK [] 9 fun K hK => ?_; simp; refine hK _ _ ?_; clear hK K
  refine Chain.sub (S' := mk 23 [1000] [] [(1000, some (.box [.ref 25000 0 r3.buffer.length, .ref 25001 0 r3.disk.length, .ref 25002 0 r3.log.length, .i (r3.log.length : Int), .i r3.lastID, .ref 25005 0 r3.active.length, .ref 25006 0 r3.writer.length])), (25000, R78 r3.buffer), (25001, R78 r3.disk), (25002, R80 r3.log), (25005, R3 r3.active), (25006, R3 r3.writer)]) Sub.tt ?_
  refine Chain.nil ?_
  refine AW.seqR ?_
  refine Chain.runK [] 1 fun K hK => ?_; simp; refine hK _ _ ?_; clear hK K
  refine Chain.sub (S' := mk 23 [1000] [(4, .i 0)] [(1000, some (.box [.ref 25000 0 r3.buffer.length, .ref 25001 0 r3.disk.length, .ref 25002 0 r3.log.length, .i (r3.log.length : Int), .i r3.lastID, .ref 25005 0 r3.active.length, .ref 25006 0 r3.writer.length])), (25000, R78 r3.buffer), (25001, R78 r3.disk), (25002, R80 r3.log), (25005, R3 r3.active), (25006, R3 r3.writer)]) Sub.tt ?_
  refine Chain.nil ?_
  refine AW.ret ?_
  cases h
  exact FinF.ret (by simp) (by simp)

/-- slices.Clone[[]stemma/recovery.record,stemma/recovery.record] -/
def d44 (_ : Nat) (a0 : (List S80)) : Option (List S80) := if a0.length * 40 ≤ Rp.reach then some a0 else none
theorem p44 (N : Nat) (a0 : (List S80)) (r : (List S80)) (h : d44 N a0 = some r) : FunO Try.prog 44 [.d (.sl (a0.map cS80))] (.ref 0 0 r.length) (.arr 80 5 (r.map cS80)) := by
 obtain ⟨hz, h⟩ := gsome h
 cases h
 refine FunO.enter 8 [(0, .d (.sl (a0.map cS80)))] Try.func44 rfl (of_decide_eq_true rfl) rfl rfl ?_
 refine AW.goR [] 1 fun K hK => ?_; simp; refine hK _ ?_; clear hK K
 refine AW.seq ?_
 refine AW.seqR ?_
 refine Chain.runK [] 1 fun K hK => ?_; simp; refine hK _ _ ?_; clear hK K
 refine Chain.eqNilE (es := a0.map cS80) (by simp) rfl ty72 rfl (by simp) (by simp) fun b hb => ?_
 refine Chain.nil ?_
 cases b with
 | true =>
  have he : a0 = [] := by
   cases a0 with
   | nil => rfl
   | cons x xs => exact absurd (hb (by simp)) (by simp)
  subst he
  refine AW.condK fun K1 K2 k1 k2 => ?_; simp; refine k1 ?_; clear k1 k2 K1 K2
  refine AW.goR [] 1 fun K hK => ?_; simp; refine hK _ ?_; clear hK K
  refine AW.sub (Sub.nilOwn (t := 2) (id := 902) (T := 80) (n := 5) rfl rfl (by decide)) ?_
  refine AW.sub (S' := mk 8 [] [(2, .ref 902 0 0)] [(902, some (.arr 80 5 []))]) (by simp; exact Sub.table (by simp) (by simp)) ?_
  refine AW.ret ?_
  exact thenQ_pass (by simp) (FinO.ret (.ref 902 0 0) 902 (by simp) (by simp) (by simp) (by simp) rfl)
 | false =>
  refine AW.condK fun K1 K2 k1 k2 => ?_; simp; refine k2 ?_; clear k1 k2 K1 K2
  refine AW.skip ?_
  refine thenQ_normal ?_
  refine AW.goR [] 4 fun K hK => ?_; simp [hz]; refine hK _ ?_; clear hK K
  refine AW.sub (S' := mk 8 [] [(2, .ref 5 0 a0.length)] [(5, R80 a0)]) Sub.tt ?_
  refine AW.ret ?_
  exact FinO.ret (.ref 5 0 a0.length) 5 (by simp) (by simp) (by simp) (by simp) rfl

set_option maxRecDepth 100000 in
set_option maxHeartbeats 2000000 in
attribute [local go_sem] Oper.semAt_some in
open Go.RowKit Go.Shelf in
theorem bc48 : BackC Try.prog 48 5 := by
 intro pb po l N J Jx W hN hbase hY h0
 refine callsIn_of_wp Try.func48 rfl trivial ?_ rfl
 simp only [show Try.f48.ntmps = 19 from rfl, List.size_toArray, List.length_cons, List.length_nil, Nat.reduceAdd, Nat.reduceSub, Array.replicate_succ, Array.replicate_zero, List.push_toArray, List.append_toArray, List.nil_append, List.cons_append]
 have hN : N ≤ 9223372036854775807 := hN
 obtain ⟨A, cap, hb0⟩ := hbase 0 W (Nat.zero_le _) h0
 gi_wp2
 gi_loopw [3] (fun i wr => ∃ k : Nat, k ≤ N ∧ i = .int .i64 ((N : Int) - 1 - k) ∧ J k wr) (fun i _ => (intOf i + 1).toNat)
 case atStart => exact ⟨0, Nat.zero_le _, by simp, h0⟩
 case round =>
  obtain ⟨k, hk, rfl, hJs⟩ := hrel
  by_cases hlt : k < N
  ·obtain ⟨args, ⟨b, off, cap, vs, hc, hra, hvl, rfl⟩, fn, tmps, assign, body, hy, hR⟩ := hY k wr hlt hJs
   obtain ⟨j, hj⟩ : ∃ j : Nat, N - 1 - k = j := ⟨_, rfl⟩
   have hji : (N : Int) - 1 - k = (j : Int) := by omega
   have hjl : j < N := by omega
   rw [hj] at hra hy
   rw [hji]
   obtain ⟨c0_, c1_, c2_, c3_, c4_, rfl⟩ : ∃ c0_ c1_ c2_ c3_ c4_, vs = [c0_, c1_, c2_, c3_, c4_] := by
    match vs, hvl with
    | [c0_, c1_, c2_, c3_, c4_], _ => exact ⟨c0_, c1_, c2_, c3_, c4_, rfl⟩
   have hc0_ := hra 0 c0_ rfl; have hc1_ := hra 1 c1_ rfl; have hc2_ := hra 2 c2_ rfl; have hc3_ := hra 3 c3_ rfl; have hc4_ := hra 4 c4_ rfl
   simp only [Nat.add_zero] at hc0_
   simp only [elemW] at hy
   gi_wp2
   refine hR.mono ?_
   rintro e W3 (⟨rfl, hJ3⟩ | ⟨rfl, hJx3⟩)
   ·gi_wp2
    go_roundw
    case rel => exact ⟨k + 1, by omega, by simp; omega, hJ3⟩
    case measure => simp [intOf]
   ·gi_wp2
    refine bodyPost_ret (results_none rfl _ _ _) rfl ?_
    exact ⟨⟨_, rfl⟩, .inr hJx3⟩
  ·obtain rfl : k = N := by omega
   have hji : (k : Int) - 1 - k = -1 := by omega
   rw [hji]
   gi_wp2
   go_end0
   exact ⟨⟨_, rfl⟩, .inl hJs⟩

theorem pbo47 {α : Type} (c : α → List D) (xs : List α) : FunM Try.prog 47 [.ref 1000 0 xs.length] [(1000, some (.arr 80 5 (xs.map c)))] [1000] (.fn (.func 48) [.ptr 1 0 0]) [(1, .box [.ref 1000 0 xs.length]), (1000, .arr 80 5 (xs.map c))] := by
 refine FunM.enter 4 [(0, .ref 1000 0 xs.length)] Try.func47 rfl (of_decide_eq_true rfl) rfl rfl ?_
 refine AW.goR [] 2 fun K hK => ?_; simp; refine hK _ ?_; clear hK K
 refine AW.goR [] 2 fun K hK => ?_; simp; refine hK _ ?_; clear hK K
 refine AW.ret ?_
 exact FinF.ret (by simp) (by simp)
theorem pbd47 (es : List (List D)) : FunM Try.prog 47 [.d (.sl es)] [] [] (.fn (.func 48) [.ptr 1 0 0]) [(1, .box [.d (.sl es)])] := by
 refine FunM.enter 4 [(0, .d (.sl es))] Try.func47 rfl (of_decide_eq_true rfl) rfl rfl ?_
 refine AW.goR [] 2 fun K hK => ?_; simp; refine hK _ ?_; clear hK K
 refine AW.goR [] 2 fun K hK => ?_; simp; refine hK _ ?_; clear hK K
 refine AW.ret ?_
 exact FinF.ret (by simp) (by simp)

end Go.Proofs.Ytiikoldaocnilaa
