/- Functions of the program as functional programs; the code computes them. -/
import Derived.Test.YtiikoldaocnilaaRc4
namespace Go.Proofs.Ytiikoldaocnilaa
open Go.Ab Go.Rp
attribute [-simp] List.all_eq_true Array.all_toList Array.all_eq_true

/-- (*stemma/recovery.Engine).undo -/
def d41 (N : Nat) (a0 : S74) (a1 : Int) : Option S74 :=
 (d44 N a0.log).bind fun r1 =>
 bindO (β := ((List S78) × (List S78) × (List S80) × Int × Int × (List Int) × (List Int) × Int)) (ρ := S74) (
  rangeL (α := S80) (β := ((List S78) × (List S78) × (List S80) × Int × Int × (List Int) × (List Int) × Int)) (ρ := S74) (fun (x2 : S80) => fun ((l13, l14, l15, v16, v17, l18, l19, v20) : ((List S78) × (List S78) × (List S80) × Int × Int × (List Int) × (List Int) × Int)) =>
   if (x2.tx != a1) then (
    some (.go (l13, l14, l15, v16, v17, l18, l19, v20))
   ) else
   if (x2.kind == 2) then (
    (chkI (v20 + 1)).bind fun v41 =>
    some (.go (l13, l14, l15, v16, v17, l18, l19, v41))
   ) else
   Option.bind (α := Bool) (
    if (x2.kind == 1) then (
     some (decide (v20 > 0))
    ) else
    some false
   ) fun (v43 : Bool) =>
   if v43 = true then (
    (chkI (v20 - 1)).bind fun v46 =>
    some (.go (l13, l14, l15, v16, v17, l18, l19, v46))
   ) else
   if (x2.kind == 1) then (
    (d25 N (S74.mk l13 l14 l15 v16 v17 l18 l19) (S80.mk 2 a1 x2.page x2.after x2.before)).bind fun r48 =>
    some (.go (r48.buffer, r48.disk, r48.log, r48.flushed, r48.lastID, r48.active, r48.writer, v20))
   ) else
   some (.go (l13, l14, l15, v16, v17, l18, l19, v20))
  ) (r1).reverse (a0.buffer, a0.disk, a0.log, a0.flushed, a0.lastID, a0.active, a0.writer, 0)
 ) fun ((l13, l14, l15, v16, v17, l18, l19, _v20) : ((List S78) × (List S78) × (List S80) × Int × Int × (List Int) × (List Int) × Int)) =>
 some (S74.mk l13 l14 l15 v16 v17 l18 l19)
set_option maxRecDepth 100000 in
set_option maxHeartbeats 4000000 in
theorem p41 (N : Nat) (a0 : S74) (a1 : Int) (r : S74) (h : d41 N a0 a1 = some r) : FunM Try.prog 41 [.ptr 1000 0 0, .i a1] [(1000, some (.box [.ref 25000 0 a0.buffer.length, .ref 25001 0 a0.disk.length, .ref 25002 0 a0.log.length, .i a0.flushed, .i a0.lastID, .ref 25005 0 a0.active.length, .ref 25006 0 a0.writer.length])), (25000, R78 a0.buffer), (25001, R78 a0.disk), (25002, R80 a0.log), (25005, R3 a0.active), (25006, R3 a0.writer)] [1000] (.tup []) ([(1000, (.box [.ref 25000 0 r.buffer.length, .ref 25001 0 r.disk.length, .ref 25002 0 r.log.length, .i r.flushed, .i r.lastID, .ref 25005 0 r.active.length, .ref 25006 0 r.writer.length])), (25000, (.arr 78 2 (r.buffer.map cS78))), (25001, (.arr 78 2 (r.disk.map cS78))), (25002, (.arr 80 5 (r.log.map cS80))), (25005, (.arr 3 1 (r.active.map (cI .i64)))), (25006, (.arr 3 1 (r.writer.map (cI .i64))))]) := by
 unfold d41 at h
 refine FunM.enter 49 [(0, .ptr 1000 0 0), (1, .i a1)] Try.func41 rfl (of_decide_eq_true rfl) rfl rfl ?_
 refine AW.seqR ?_
 refine Chain.runK [] 2 fun K hK => ?_; simp; refine hK _ _ ?_; clear hK K
 refine Chain.sub (S' := mk 49 [1000] [(2, .ptr 2 0 0), (3, .ptr 3 0 0)] [(2, some (.box [.ptr 1000 0 0])), (3, some (.box [.i a1])), (1000, some (.box [.ref 25000 0 a0.buffer.length, .ref 25001 0 a0.disk.length, .ref 25002 0 a0.log.length, .i a0.flushed, .i a0.lastID, .ref 25005 0 a0.active.length, .ref 25006 0 a0.writer.length])), (25000, R78 a0.buffer), (25001, R78 a0.disk), (25002, R80 a0.log), (25005, R3 a0.active), (25006, R3 a0.writer)]) Sub.tt ?_
 refine Chain.nil ?_
 refine AW.seqR ?_
 refine Chain.runK [] 2 fun K hK => ?_; simp; refine hK _ _ ?_; clear hK K
 refine Chain.sub (S' := mk 49 [1000] [(2, .ptr 2 0 0), (3, .ptr 3 0 0), (4, .ptr 4 0 0)] [(2, some (.box [.ptr 1000 0 0])), (3, some (.box [.i a1])), (4, some (.box [.i 0])), (1000, some (.box [.ref 25000 0 a0.buffer.length, .ref 25001 0 a0.disk.length, .ref 25002 0 a0.log.length, .i a0.flushed, .i a0.lastID, .ref 25005 0 a0.active.length, .ref 25006 0 a0.writer.length])), (25000, R78 a0.buffer), (25001, R78 a0.disk), (25002, R80 a0.log), (25005, R3 a0.active), (25006, R3 a0.writer)]) Sub.tt ?_
 refine Chain.nil ?_
 refine AW.seqR ?_
 refine Chain.runK [] 4 fun K hK => ?_; simp; refine hK _ _ ?_; clear hK K
 refine Chain.sub (S' := mk 49 [1000] [(2, .ptr 2 0 0), (3, .ptr 3 0 0), (4, .ptr 4 0 0), (10, .ref 25002 0 a0.log.length)] [(2, some (.box [.ptr 1000 0 0])), (3, some (.box [.i a1])), (4, some (.box [.i 0])), (1000, some (.box [.ref 25000 0 a0.buffer.length, .ref 25001 0 a0.disk.length, .ref 25002 0 a0.log.length, .i a0.flushed, .i a0.lastID, .ref 25005 0 a0.active.length, .ref 25006 0 a0.writer.length])), (25000, R78 a0.buffer), (25001, R78 a0.disk), (25002, R80 a0.log), (25005, R3 a0.active), (25006, R3 a0.writer)]) Sub.tt ?_
 replace h := bsome h; obtain ⟨r1, hr1, h⟩ := h
 refine Chain.callOF (d := 11) (p44 N a0.log r1 hr1) (by simp) rfl rfl (by simp <;> rfl) (by simp <;> rfl) ent44 (by simp) (fun r h => flat_of_ren r h) (flat_map (by simp) _) ?_
 refine Chain.sub (S' := mk 49 [1000] [(2, .ptr 2 0 0), (3, .ptr 3 0 0), (4, .ptr 4 0 0), (10, .ref 25002 0 a0.log.length), (11, .ref 11 0 r1.length)] [(2, some (.box [.ptr 1000 0 0])), (3, some (.box [.i a1])), (4, some (.box [.i 0])), (11, R80 r1), (1000, some (.box [.ref 25000 0 a0.buffer.length, .ref 25001 0 a0.disk.length, .ref 25002 0 a0.log.length, .i a0.flushed, .i a0.lastID, .ref 25005 0 a0.active.length, .ref 25006 0 a0.writer.length])), (25000, R78 a0.buffer), (25001, R78 a0.disk), (25002, R80 a0.log), (25005, R3 a0.active), (25006, R3 a0.writer)]) (by simp; exact Sub.table (by simp) (by simp)) ?_
 refine Chain.callF (pbo47 cS80 r1) [(11, 1000)] [11] [(1, 12), (1000, 11)] [(12, .box [.ref 11 0 r1.length]), (11, (.arr 80 5 (r1.map cS80)))] (.fn (.func 48) [.ptr 12 0 0]) (by simp) rfl (by simp <;> rfl) (by simp) (by simp) (by simp) (by simp) (by simp) ent47 (by simp) (by simp) (by simp) (by simp) (by simp) (by simp) ?_
 refine Chain.sub (S' := mk 49 [1000] [(2, .ptr 2 0 0), (3, .ptr 3 0 0), (4, .ptr 4 0 0), (10, .ref 25002 0 a0.log.length), (11, .ref 11 0 r1.length), (12, .fn (.func 48) [.ptr 12 0 0])] [(2, some (.box [.ptr 1000 0 0])), (3, some (.box [.i a1])), (4, some (.box [.i 0])), (11, R80 r1), (12, some (.box [.ref 11 0 r1.length])), (1000, some (.box [.ref 25000 0 a0.buffer.length, .ref 25001 0 a0.disk.length, .ref 25002 0 a0.log.length, .i a0.flushed, .i a0.lastID, .ref 25005 0 a0.active.length, .ref 25006 0 a0.writer.length])), (25000, R78 a0.buffer), (25001, R78 a0.disk), (25002, R80 a0.log), (25005, R3 a0.active), (25006, R3 a0.writer)]) (by simp; exact Sub.table (by simp) (by simp)) ?_
 refine Chain.nil ?_
 refine AW.block ?_
 refine AW.lastJ (fun b => mk 49 [1000] [(2, .ptr 2 0 0), (3, .ptr 3 0 0), (4, .ptr 4 0 0), (12, .fn (.func 48) [.ptr 12 0 0])] ((fun (b : ((List S78) × (List S78) × (List S80) × Int × Int × (List Int) × (List Int) × Int)) => [(2, some (.box [.ptr 1000 0 0])), (3, some (.box [.i a1])), (4, some (.box [.i b.2.2.2.2.2.2.2])), (11, R80 r1), (12, some (.box [.ref 11 0 r1.length])), (1000, some (.box [.ref 25000 0 b.1.length, .ref 25001 0 b.2.1.length, .ref 25002 0 b.2.2.1.length, .i b.2.2.2.1, .i b.2.2.2.2.1, .ref 25005 0 b.2.2.2.2.2.1.length, .ref 25006 0 b.2.2.2.2.2.2.1.length])), (25000, R78 b.1), (25001, R78 b.2.1), (25002, R80 b.2.2.1), (25005, R3 b.2.2.2.2.2.1), (25006, R3 b.2.2.2.2.2.2.1)]) b)) h ?_ ?_ <;> clear h
 ·intro o h
  refine AW.back (nt := 49) (rts := [1000]) (l := [(2, .ptr 2 0 0), (3, .ptr 3 0 0), (4, .ptr 4 0 0), (12, .fn (.func 48) [.ptr 12 0 0])]) (c := cS80) (xs := r1) (B := 12) (fun (b : ((List S78) × (List S78) × (List S80) × Int × Int × (List Int) × (List Int) × Int)) => [(2, some (.box [.ptr 1000 0 0])), (3, some (.box [.d (.lit (.int .i64 a1))])), (4, some (.box [.d (.lit (.int .i64 b.2.2.2.2.2.2.2))])), (11, some (.arr 80 5 (r1.map cS80))), (12, some (.box [.ref 11 0 r1.length])), (1000, some (.box [.ref 25000 0 b.1.length, .ref 25001 0 b.2.1.length, .ref 25002 0 b.2.2.1.length, .d (.lit (.int .i64 b.2.2.2.1)), .d (.lit (.int .i64 b.2.2.2.2.1)), .ref 25005 0 b.2.2.2.2.2.1.length, .ref 25006 0 b.2.2.2.2.2.2.1.length])), (25000, some (.arr 78 2 (b.1.map cS78))), (25001, some (.arr 78 2 (b.2.1.map cS78))), (25002, some (.arr 80 5 (b.2.2.1.map cS80))), (25005, some (.arr 3 1 (b.2.2.2.2.2.1.map (cI .i64)))), (25006, some (.arr 3 1 (b.2.2.2.2.2.2.1.map (cI .i64))))]) [1000, 2, 3, 4, 12] bc48 ent48 Sub.tt rfl (by intros; rfl) (by intros; exact SrcOk.own' (T := 80) (by simp)) (fun _ => rfl) (by simp) (by simp [V.has]) h ?_
  clear h
  rintro ⟨l13, l14, l15, v16, v17, l18, l19, v20⟩ x2 o' h
  dsimp only at h ⊢
  refine AW.sub (S' := mk 49 [1000, 2, 3, 4, 12] [(2, .ptr 2 0 0), (3, .ptr 3 0 0), (4, .ptr 4 0 0), (14, .agg [.i x2.kind, .i x2.tx, .i x2.page, .i x2.before, .i x2.after])] [(2, some (.box [.ptr 1000 0 0])), (3, some (.box [.i a1])), (4, some (.box [.i v20])), (11, R80 r1), (12, some (.box [.ref 11 0 r1.length])), (1000, some (.box [.ref 25000 0 l13.length, .ref 25001 0 l14.length, .ref 25002 0 l15.length, .i v16, .i v17, .ref 25005 0 l18.length, .ref 25006 0 l19.length])), (25000, R78 l13), (25001, R78 l14), (25002, R80 l15), (25005, R3 l18), (25006, R3 l19)]) (by simp; exact Sub.table (by simp) (by simp)) ?_
  refine AW.region ?_
  refine Chain.runK [] 2 fun K hK => ?_; simp; refine hK _ _ ?_; clear hK K
  refine Chain.sub (S' := mk 49 [1000, 2, 3, 4, 12] [(2, .ptr 2 0 0), (3, .ptr 3 0 0), (4, .ptr 4 0 0), (6, .ptr 6 0 0)] [(2, some (.box [.ptr 1000 0 0])), (3, some (.box [.i a1])), (4, some (.box [.i v20])), (6, some (.box [.i x2.kind, .i x2.tx, .i x2.page, .i x2.before, .i x2.after])), (11, R80 r1), (12, some (.box [.ref 11 0 r1.length])), (1000, some (.box [.ref 25000 0 l13.length, .ref 25001 0 l14.length, .ref 25002 0 l15.length, .i v16, .i v17, .ref 25005 0 l18.length, .ref 25006 0 l19.length])), (25000, R78 l13), (25001, R78 l14), (25002, R80 l15), (25005, R3 l18), (25006, R3 l19)]) Sub.tt ?_
  refine Chain.nil ?_
  refine thenQ_normal ?_
  refine AW.block ?_
  refine AW.seq ?_
  refine AW.seqR ?_
  refine Chain.runK [] 4 fun K hK => ?_; simp; refine hK _ _ ?_; clear hK K
  refine Chain.sub (S' := mk 49 [1000, 2, 3, 4, 12] [(2, .ptr 2 0 0), (3, .ptr 3 0 0), (4, .ptr 4 0 0), (6, .ptr 6 0 0), (18, .b (x2.tx != a1))] [(2, some (.box [.ptr 1000 0 0])), (3, some (.box [.i a1])), (4, some (.box [.i v20])), (6, some (.box [.i x2.kind, .i x2.tx, .i x2.page, .i x2.before, .i x2.after])), (11, R80 r1), (12, some (.box [.ref 11 0 r1.length])), (1000, some (.box [.ref 25000 0 l13.length, .ref 25001 0 l14.length, .ref 25002 0 l15.length, .i v16, .i v17, .ref 25005 0 l18.length, .ref 25006 0 l19.length])), (25000, R78 l13), (25001, R78 l14), (25002, R80 l15), (25005, R3 l18), (25006, R3 l19)]) Sub.tt ?_
  refine Chain.nil ?_
  replace h := isome h; rcases h with ⟨c39, h⟩ | ⟨c39, h⟩
  ·have c39_ : (x2.tx != a1) = true := c39
   refine AW.condT (b := (x2.tx != a1)) rfl c39_ ?_
   refine AW.sub (Sub.bool 18 (b := (x2.tx != a1)) rfl c39_) ?_
   refine AW.sub (S' := mk 49 [1000, 2, 3, 4, 12] [(2, .ptr 2 0 0), (3, .ptr 3 0 0), (4, .ptr 4 0 0), (6, .ptr 6 0 0), (18, .b true)] [(2, some (.box [.ptr 1000 0 0])), (3, some (.box [.i a1])), (4, some (.box [.i v20])), (6, some (.box [.i x2.kind, .i x2.tx, .i x2.page, .i x2.before, .i x2.after])), (11, R80 r1), (12, some (.box [.ref 11 0 r1.length])), (1000, some (.box [.ref 25000 0 l13.length, .ref 25001 0 l14.length, .ref 25002 0 l15.length, .i v16, .i v17, .ref 25005 0 l18.length, .ref 25006 0 l19.length])), (25000, R78 l13), (25001, R78 l14), (25002, R80 l15), (25005, R3 l18), (25006, R3 l19)]) (by simp; exact Sub.table (by simp) (by simp)) ?_
   refine AW.exit ?_
   cases h
   refine thenQ_pass (by simp) ?_
   refine blockQ.hit ?_
   exact ⟨rfl, Sub.tt⟩
  ·have c39_ : (x2.tx != a1) = false := Bool.eq_false_iff.2 c39
   refine AW.condF (b := (x2.tx != a1)) rfl c39_ ?_
   refine AW.sub (Sub.bool 18 (b := (x2.tx != a1)) rfl c39_) ?_
   refine AW.sub (S' := mk 49 [1000, 2, 3, 4, 12] [(2, .ptr 2 0 0), (3, .ptr 3 0 0), (4, .ptr 4 0 0), (6, .ptr 6 0 0), (18, .b false)] [(2, some (.box [.ptr 1000 0 0])), (3, some (.box [.i a1])), (4, some (.box [.i v20])), (6, some (.box [.i x2.kind, .i x2.tx, .i x2.page, .i x2.before, .i x2.after])), (11, R80 r1), (12, some (.box [.ref 11 0 r1.length])), (1000, some (.box [.ref 25000 0 l13.length, .ref 25001 0 l14.length, .ref 25002 0 l15.length, .i v16, .i v17, .ref 25005 0 l18.length, .ref 25006 0 l19.length])), (25000, R78 l13), (25001, R78 l14), (25002, R80 l15), (25005, R3 l18), (25006, R3 l19)]) (by simp; exact Sub.table (by simp) (by simp)) ?_
   refine AW.skip ?_
   refine thenQ_normal ?_
   refine AW.block ?_
   refine AW.seqR ?_
   refine Chain.runK [] 4 fun K hK => ?_; simp; refine hK _ _ ?_; clear hK K
   refine Chain.sub (S' := mk 49 [1000, 2, 3, 4, 12] [(2, .ptr 2 0 0), (3, .ptr 3 0 0), (4, .ptr 4 0 0), (6, .ptr 6 0 0), (19, .b (x2.kind == 2))] [(2, some (.box [.ptr 1000 0 0])), (3, some (.box [.i a1])), (4, some (.box [.i v20])), (6, some (.box [.i x2.kind, .i x2.tx, .i x2.page, .i x2.before, .i x2.after])), (11, R80 r1), (12, some (.box [.ref 11 0 r1.length])), (1000, some (.box [.ref 25000 0 l13.length, .ref 25001 0 l14.length, .ref 25002 0 l15.length, .i v16, .i v17, .ref 25005 0 l18.length, .ref 25006 0 l19.length])), (25000, R78 l13), (25001, R78 l14), (25002, R80 l15), (25005, R3 l18), (25006, R3 l19)]) Sub.tt ?_
   refine Chain.nil ?_
   replace h := isome h; rcases h with ⟨c40, h⟩ | ⟨c40, h⟩
   ·have c40_ : (x2.kind == 2) = true := c40
    refine AW.condT (b := (x2.kind == 2)) rfl c40_ ?_
    refine AW.sub (Sub.bool 19 (b := (x2.kind == 2)) rfl c40_) ?_
    refine AW.sub (S' := mk 49 [1000, 2, 3, 4, 12] [(2, .ptr 2 0 0), (3, .ptr 3 0 0), (4, .ptr 4 0 0), (6, .ptr 6 0 0), (19, .b true)] [(2, some (.box [.ptr 1000 0 0])), (3, some (.box [.i a1])), (4, some (.box [.i v20])), (6, some (.box [.i x2.kind, .i x2.tx, .i x2.page, .i x2.before, .i x2.after])), (11, R80 r1), (12, some (.box [.ref 11 0 r1.length])), (1000, some (.box [.ref 25000 0 l13.length, .ref 25001 0 l14.length, .ref 25002 0 l15.length, .i v16, .i v17, .ref 25005 0 l18.length, .ref 25006 0 l19.length])), (25000, R78 l13), (25001, R78 l14), (25002, R80 l15), (25005, R3 l18), (25006, R3 l19)]) (by simp; exact Sub.table (by simp) (by simp)) ?_
    refine AW.region ?_
    replace h := bsome h; obtain ⟨v41, hv41, h⟩ := h
    have hv41 := chkI_some hv41
    refine Chain.runK [] 3 fun K hK => ?_; simp [hv41]; refine hK _ _ ?_; clear hK K
    refine Chain.sub (S' := mk 49 [1000, 2, 3, 4, 12] [] [(2, some (.box [.ptr 1000 0 0])), (3, some (.box [.i a1])), (4, some (.box [.i v41])), (11, R80 r1), (12, some (.box [.ref 11 0 r1.length])), (1000, some (.box [.ref 25000 0 l13.length, .ref 25001 0 l14.length, .ref 25002 0 l15.length, .i v16, .i v17, .ref 25005 0 l18.length, .ref 25006 0 l19.length])), (25000, R78 l13), (25001, R78 l14), (25002, R80 l15), (25005, R3 l18), (25006, R3 l19)]) Sub.tt ?_
    refine Chain.nil ?_
    cases h
    refine blockQ.normal ?_
    refine blockQ.normal ?_
    exact ⟨rfl, Sub.tt⟩
   ·have c40_ : (x2.kind == 2) = false := Bool.eq_false_iff.2 c40
    refine AW.condF (b := (x2.kind == 2)) rfl c40_ ?_
    refine AW.sub (Sub.bool 19 (b := (x2.kind == 2)) rfl c40_) ?_
    refine AW.sub (S' := mk 49 [1000, 2, 3, 4, 12] [(2, .ptr 2 0 0), (3, .ptr 3 0 0), (4, .ptr 4 0 0), (6, .ptr 6 0 0), (19, .b false)] [(2, some (.box [.ptr 1000 0 0])), (3, some (.box [.i a1])), (4, some (.box [.i v20])), (6, some (.box [.i x2.kind, .i x2.tx, .i x2.page, .i x2.before, .i x2.after])), (11, R80 r1), (12, some (.box [.ref 11 0 r1.length])), (1000, some (.box [.ref 25000 0 l13.length, .ref 25001 0 l14.length, .ref 25002 0 l15.length, .i v16, .i v17, .ref 25005 0 l18.length, .ref 25006 0 l19.length])), (25000, R78 l13), (25001, R78 l14), (25002, R80 l15), (25005, R3 l18), (25006, R3 l19)]) (by simp; exact Sub.table (by simp) (by simp)) ?_
    replace h := bsome h; obtain ⟨v43, hj, h⟩ := h
    refine AW.cutR (mk 49 [1000, 2, 3, 4, 12] [(2, .ptr 2 0 0), (3, .ptr 3 0 0), (4, .ptr 4 0 0), (6, .ptr 6 0 0), (25, .b v43)] [(2, some (.box [.ptr 1000 0 0])), (3, some (.box [.i a1])), (4, some (.box [.i v20])), (6, some (.box [.i x2.kind, .i x2.tx, .i x2.page, .i x2.before, .i x2.after])), (11, R80 r1), (12, some (.box [.ref 11 0 r1.length])), (1000, some (.box [.ref 25000 0 l13.length, .ref 25001 0 l14.length, .ref 25002 0 l15.length, .i v16, .i v17, .ref 25005 0 l18.length, .ref 25006 0 l19.length])), (25000, R78 l13), (25001, R78 l14), (25002, R80 l15), (25005, R3 l18), (25006, R3 l19)]) ?_ ?_
    ·clear h; have h := hj; clear hj
     refine Chain.runK [] 4 fun K hK => ?_; simp; refine hK _ _ ?_; clear hK K
     refine Chain.sub (S' := mk 49 [1000, 2, 3, 4, 12] [(2, .ptr 2 0 0), (3, .ptr 3 0 0), (4, .ptr 4 0 0), (6, .ptr 6 0 0), (29, .b (x2.kind == 1))] [(2, some (.box [.ptr 1000 0 0])), (3, some (.box [.i a1])), (4, some (.box [.i v20])), (6, some (.box [.i x2.kind, .i x2.tx, .i x2.page, .i x2.before, .i x2.after])), (11, R80 r1), (12, some (.box [.ref 11 0 r1.length])), (1000, some (.box [.ref 25000 0 l13.length, .ref 25001 0 l14.length, .ref 25002 0 l15.length, .i v16, .i v17, .ref 25005 0 l18.length, .ref 25006 0 l19.length])), (25000, R78 l13), (25001, R78 l14), (25002, R80 l15), (25005, R3 l18), (25006, R3 l19)]) Sub.tt ?_
     replace h := isome h; rcases h with ⟨c44, h⟩ | ⟨c44, h⟩
     ·have c44_ : (x2.kind == 1) = true := c44
      refine Chain.sub (Sub.bool 29 (b := (x2.kind == 1)) rfl c44_) ?_
      refine Chain.sub (S' := mk 49 [1000, 2, 3, 4, 12] [(2, .ptr 2 0 0), (3, .ptr 3 0 0), (4, .ptr 4 0 0), (6, .ptr 6 0 0), (29, .b true)] [(2, some (.box [.ptr 1000 0 0])), (3, some (.box [.i a1])), (4, some (.box [.i v20])), (6, some (.box [.i x2.kind, .i x2.tx, .i x2.page, .i x2.before, .i x2.after])), (11, R80 r1), (12, some (.box [.ref 11 0 r1.length])), (1000, some (.box [.ref 25000 0 l13.length, .ref 25001 0 l14.length, .ref 25002 0 l15.length, .i v16, .i v17, .ref 25005 0 l18.length, .ref 25006 0 l19.length])), (25000, R78 l13), (25001, R78 l14), (25002, R80 l15), (25005, R3 l18), (25006, R3 l19)]) (by simp; exact Sub.table (by simp) (by simp)) ?_
      refine Chain.runK [] 4 fun K hK => ?_; simp; refine hK _ _ ?_; clear hK K
      refine Chain.sub (S' := mk 49 [1000, 2, 3, 4, 12] [(2, .ptr 2 0 0), (3, .ptr 3 0 0), (4, .ptr 4 0 0), (6, .ptr 6 0 0), (25, .b (decide (v20 > 0)))] [(2, some (.box [.ptr 1000 0 0])), (3, some (.box [.i a1])), (4, some (.box [.i v20])), (6, some (.box [.i x2.kind, .i x2.tx, .i x2.page, .i x2.before, .i x2.after])), (11, R80 r1), (12, some (.box [.ref 11 0 r1.length])), (1000, some (.box [.ref 25000 0 l13.length, .ref 25001 0 l14.length, .ref 25002 0 l15.length, .i v16, .i v17, .ref 25005 0 l18.length, .ref 25006 0 l19.length])), (25000, R78 l13), (25001, R78 l14), (25002, R80 l15), (25005, R3 l18), (25006, R3 l19)]) Sub.tt ?_
      cases h
      exact Chain.nil Sub.tt
     ·have c44_ : (x2.kind == 1) = false := Bool.eq_false_iff.2 c44
      refine Chain.sub (Sub.bool 29 (b := (x2.kind == 1)) rfl c44_) ?_
      refine Chain.sub (S' := mk 49 [1000, 2, 3, 4, 12] [(2, .ptr 2 0 0), (3, .ptr 3 0 0), (4, .ptr 4 0 0), (6, .ptr 6 0 0), (29, .b false)] [(2, some (.box [.ptr 1000 0 0])), (3, some (.box [.i a1])), (4, some (.box [.i v20])), (6, some (.box [.i x2.kind, .i x2.tx, .i x2.page, .i x2.before, .i x2.after])), (11, R80 r1), (12, some (.box [.ref 11 0 r1.length])), (1000, some (.box [.ref 25000 0 l13.length, .ref 25001 0 l14.length, .ref 25002 0 l15.length, .i v16, .i v17, .ref 25005 0 l18.length, .ref 25006 0 l19.length])), (25000, R78 l13), (25001, R78 l14), (25002, R80 l15), (25005, R3 l18), (25006, R3 l19)]) (by simp; exact Sub.table (by simp) (by simp)) ?_
      refine Chain.runK [] 4 fun K hK => ?_; simp; refine hK _ _ ?_; clear hK K
      refine Chain.sub (S' := mk 49 [1000, 2, 3, 4, 12] [(2, .ptr 2 0 0), (3, .ptr 3 0 0), (4, .ptr 4 0 0), (6, .ptr 6 0 0), (25, .b false)] [(2, some (.box [.ptr 1000 0 0])), (3, some (.box [.i a1])), (4, some (.box [.i v20])), (6, some (.box [.i x2.kind, .i x2.tx, .i x2.page, .i x2.before, .i x2.after])), (11, R80 r1), (12, some (.box [.ref 11 0 r1.length])), (1000, some (.box [.ref 25000 0 l13.length, .ref 25001 0 l14.length, .ref 25002 0 l15.length, .i v16, .i v17, .ref 25005 0 l18.length, .ref 25006 0 l19.length])), (25000, R78 l13), (25001, R78 l14), (25002, R80 l15), (25005, R3 l18), (25006, R3 l19)]) Sub.tt ?_
      cases h
      exact Chain.nil Sub.tt
    ·clear hj
     replace h := isome h; rcases h with ⟨c45, h⟩ | ⟨c45, h⟩
     ·have c45_ : v43 = true := c45
      refine AW.condT (b := v43) rfl c45_ ?_
      refine AW.sub (Sub.bool 25 (b := v43) rfl c45_) ?_
      refine AW.sub (S' := mk 49 [1000, 2, 3, 4, 12] [(2, .ptr 2 0 0), (3, .ptr 3 0 0), (4, .ptr 4 0 0), (6, .ptr 6 0 0), (25, .b true)] [(2, some (.box [.ptr 1000 0 0])), (3, some (.box [.i a1])), (4, some (.box [.i v20])), (6, some (.box [.i x2.kind, .i x2.tx, .i x2.page, .i x2.before, .i x2.after])), (11, R80 r1), (12, some (.box [.ref 11 0 r1.length])), (1000, some (.box [.ref 25000 0 l13.length, .ref 25001 0 l14.length, .ref 25002 0 l15.length, .i v16, .i v17, .ref 25005 0 l18.length, .ref 25006 0 l19.length])), (25000, R78 l13), (25001, R78 l14), (25002, R80 l15), (25005, R3 l18), (25006, R3 l19)]) (by simp; exact Sub.table (by simp) (by simp)) ?_
      refine AW.region ?_
      replace h := bsome h; obtain ⟨v46, hv46, h⟩ := h
      have hv46 := chkI_some hv46
      refine Chain.runK [] 3 fun K hK => ?_; simp [hv46]; refine hK _ _ ?_; clear hK K
      refine Chain.sub (S' := mk 49 [1000, 2, 3, 4, 12] [] [(2, some (.box [.ptr 1000 0 0])), (3, some (.box [.i a1])), (4, some (.box [.i v46])), (11, R80 r1), (12, some (.box [.ref 11 0 r1.length])), (1000, some (.box [.ref 25000 0 l13.length, .ref 25001 0 l14.length, .ref 25002 0 l15.length, .i v16, .i v17, .ref 25005 0 l18.length, .ref 25006 0 l19.length])), (25000, R78 l13), (25001, R78 l14), (25002, R80 l15), (25005, R3 l18), (25006, R3 l19)]) Sub.tt ?_
      refine Chain.nil ?_
      cases h
      refine blockQ.normal ?_
      refine blockQ.normal ?_
      exact ⟨rfl, Sub.tt⟩
     ·have c45_ : v43 = false := Bool.eq_false_iff.2 c45
      refine AW.condF (b := v43) rfl c45_ ?_
      refine AW.sub (Sub.bool 25 (b := v43) rfl c45_) ?_
      refine AW.sub (S' := mk 49 [1000, 2, 3, 4, 12] [(2, .ptr 2 0 0), (3, .ptr 3 0 0), (4, .ptr 4 0 0), (6, .ptr 6 0 0), (25, .b false)] [(2, some (.box [.ptr 1000 0 0])), (3, some (.box [.i a1])), (4, some (.box [.i v20])), (6, some (.box [.i x2.kind, .i x2.tx, .i x2.page, .i x2.before, .i x2.after])), (11, R80 r1), (12, some (.box [.ref 11 0 r1.length])), (1000, some (.box [.ref 25000 0 l13.length, .ref 25001 0 l14.length, .ref 25002 0 l15.length, .i v16, .i v17, .ref 25005 0 l18.length, .ref 25006 0 l19.length])), (25000, R78 l13), (25001, R78 l14), (25002, R80 l15), (25005, R3 l18), (25006, R3 l19)]) (by simp; exact Sub.table (by simp) (by simp)) ?_
      refine AW.seqR ?_
      refine Chain.runK [] 4 fun K hK => ?_; simp; refine hK _ _ ?_; clear hK K
      refine Chain.sub (S' := mk 49 [1000, 2, 3, 4, 12] [(2, .ptr 2 0 0), (3, .ptr 3 0 0), (6, .ptr 6 0 0), (35, .b (x2.kind == 1))] [(2, some (.box [.ptr 1000 0 0])), (3, some (.box [.i a1])), (4, some (.box [.i v20])), (6, some (.box [.i x2.kind, .i x2.tx, .i x2.page, .i x2.before, .i x2.after])), (11, R80 r1), (12, some (.box [.ref 11 0 r1.length])), (1000, some (.box [.ref 25000 0 l13.length, .ref 25001 0 l14.length, .ref 25002 0 l15.length, .i v16, .i v17, .ref 25005 0 l18.length, .ref 25006 0 l19.length])), (25000, R78 l13), (25001, R78 l14), (25002, R80 l15), (25005, R3 l18), (25006, R3 l19)]) Sub.tt ?_
      refine Chain.nil ?_
      replace h := isome h; rcases h with ⟨c47, h⟩ | ⟨c47, h⟩
      ·have c47_ : (x2.kind == 1) = true := c47
       refine AW.condT (b := (x2.kind == 1)) rfl c47_ ?_
       refine AW.sub (Sub.bool 35 (b := (x2.kind == 1)) rfl c47_) ?_
       refine AW.sub (S' := mk 49 [1000, 2, 3, 4, 12] [(2, .ptr 2 0 0), (3, .ptr 3 0 0), (6, .ptr 6 0 0), (35, .b true)] [(2, some (.box [.ptr 1000 0 0])), (3, some (.box [.i a1])), (4, some (.box [.i v20])), (6, some (.box [.i x2.kind, .i x2.tx, .i x2.page, .i x2.before, .i x2.after])), (11, R80 r1), (12, some (.box [.ref 11 0 r1.length])), (1000, some (.box [.ref 25000 0 l13.length, .ref 25001 0 l14.length, .ref 25002 0 l15.length, .i v16, .i v17, .ref 25005 0 l18.length, .ref 25006 0 l19.length])), (25000, R78 l13), (25001, R78 l14), (25002, R80 l15), (25005, R3 l18), (25006, R3 l19)]) (by simp; exact Sub.table (by simp) (by simp)) ?_
       refine AW.region ?_
       refine Chain.runK [] 9 fun K hK => ?_; simp; refine hK _ _ ?_; clear hK K
       refine Chain.sub (S' := mk 49 [1000, 2, 3, 4, 12] [(39, .ptr 1000 0 0), (47, .agg [.i 2, .i a1, .i x2.page, .i x2.after, .i x2.before])] [(2, some (.box [.ptr 1000 0 0])), (3, some (.box [.i a1])), (4, some (.box [.i v20])), (11, R80 r1), (12, some (.box [.ref 11 0 r1.length])), (1000, some (.box [.ref 25000 0 l13.length, .ref 25001 0 l14.length, .ref 25002 0 l15.length, .i v16, .i v17, .ref 25005 0 l18.length, .ref 25006 0 l19.length])), (25000, R78 l13), (25001, R78 l14), (25002, R80 l15), (25005, R3 l18), (25006, R3 l19)]) Sub.tt ?_
       replace h := bsome h; obtain ⟨r48, hr48, h⟩ := h
       refine Chain.callF (p25 N (S74.mk l13 l14 l15 v16 v17 l18 l19) (S80.mk 2 a1 x2.page x2.after x2.before) r48 hr48) [(1000, 1000), (25000, 25000), (25001, 25001), (25002, 25002), (25005, 25005), (25006, 25006)] [1000] [(1000, 1000), (25000, 25000), (25001, 25001), (25002, 25002), (25005, 25005), (25006, 25006)] [(1000, (.box [.ref 25000 0 r48.buffer.length, .ref 25001 0 r48.disk.length, .ref 25002 0 r48.log.length, .i r48.flushed, .i r48.lastID, .ref 25005 0 r48.active.length, .ref 25006 0 r48.writer.length])), (25000, (.arr 78 2 (r48.buffer.map cS78))), (25001, (.arr 78 2 (r48.disk.map cS78))), (25002, (.arr 80 5 (r48.log.map cS80))), (25005, (.arr 3 1 (r48.active.map (cI .i64)))), (25006, (.arr 3 1 (r48.writer.map (cI .i64))))] (.tup []) (by simp) rfl (by simp <;> rfl) (by simp) (by simp) (by simp) (by simp) (by simp) ent25 (by simp) (by simp) (by simp) (by simp) (by simp) (by simp) ?_
       refine Chain.sub (S' := mk 49 [1000, 2, 3, 4, 12] [(39, .ptr 1000 0 0), (47, .agg [.i 2, .i a1, .i x2.page, .i x2.after, .i x2.before]), (48, .tup [])] [(2, some (.box [.ptr 1000 0 0])), (3, some (.box [.i a1])), (4, some (.box [.i v20])), (11, R80 r1), (12, some (.box [.ref 11 0 r1.length])), (1000, some (.box [.ref 25000 0 r48.buffer.length, .ref 25001 0 r48.disk.length, .ref 25002 0 r48.log.length, .i r48.flushed, .i r48.lastID, .ref 25005 0 r48.active.length, .ref 25006 0 r48.writer.length])), (25000, R78 r48.buffer), (25001, R78 r48.disk), (25002, R80 r48.log), (25005, R3 r48.active), (25006, R3 r48.writer)]) (by simp; exact Sub.table (by simp) (by simp)) ?_
       refine Chain.nil ?_
       cases h
       refine blockQ.normal ?_
       refine blockQ.normal ?_
       exact ⟨rfl, Sub.tt⟩
      ·have c47_ : (x2.kind == 1) = false := Bool.eq_false_iff.2 c47
       refine AW.condF (b := (x2.kind == 1)) rfl c47_ ?_
       refine AW.sub (Sub.bool 35 (b := (x2.kind == 1)) rfl c47_) ?_
       refine AW.sub (S' := mk 49 [1000, 2, 3, 4, 12] [(2, .ptr 2 0 0), (3, .ptr 3 0 0), (6, .ptr 6 0 0), (35, .b false)] [(2, some (.box [.ptr 1000 0 0])), (3, some (.box [.i a1])), (4, some (.box [.i v20])), (6, some (.box [.i x2.kind, .i x2.tx, .i x2.page, .i x2.before, .i x2.after])), (11, R80 r1), (12, some (.box [.ref 11 0 r1.length])), (1000, some (.box [.ref 25000 0 l13.length, .ref 25001 0 l14.length, .ref 25002 0 l15.length, .i v16, .i v17, .ref 25005 0 l18.length, .ref 25006 0 l19.length])), (25000, R78 l13), (25001, R78 l14), (25002, R80 l15), (25005, R3 l18), (25006, R3 l19)]) (by simp; exact Sub.table (by simp) (by simp)) ?_
       refine AW.skip ?_
       cases h
       refine blockQ.normal ?_
       refine blockQ.normal ?_
       exact ⟨rfl, Sub.tt⟩
 ·rintro ⟨l13, l14, l15, v16, v17, l18, l19, v20⟩ h
  dsimp only at h ⊢
  cases h
  refine blockQ.normal ?_
  exact FinF.normal (by simp) (by simp)

/-- (*stemma/recovery.Engine).Rollback -/
def d29 (N : Nat) (a0 : S74) (a1 : Int) : Option (S74 × Int) :=
 (d24 N a0.active a1).bind fun r1 =>
 if (!r1) = true then (
  some (a0, 4)
 ) else
 (d41 N a0 a1).bind fun r3 =>
 (d40 N r3 a1).bind fun r4 =>
 some (r4, 0)
set_option maxRecDepth 100000 in
set_option maxHeartbeats 4000000 in
theorem p29 (N : Nat) (a0 : S74) (a1 : Int) (r : (S74 × Int)) (h : d29 N a0 a1 = some r) : FunM Try.prog 29 [.ptr 1000 0 0, .i a1] [(1000, some (.box [.ref 25000 0 a0.buffer.length, .ref 25001 0 a0.disk.length, .ref 25002 0 a0.log.length, .i a0.flushed, .i a0.lastID, .ref 25005 0 a0.active.length, .ref 25006 0 a0.writer.length])), (25000, R78 a0.buffer), (25001, R78 a0.disk), (25002, R80 a0.log), (25005, R3 a0.active), (25006, R3 a0.writer)] [1000] (.i r.2) ([(1000, (.box [.ref 25000 0 r.1.buffer.length, .ref 25001 0 r.1.disk.length, .ref 25002 0 r.1.log.length, .i r.1.flushed, .i r.1.lastID, .ref 25005 0 r.1.active.length, .ref 25006 0 r.1.writer.length])), (25000, (.arr 78 2 (r.1.buffer.map cS78))), (25001, (.arr 78 2 (r.1.disk.map cS78))), (25002, (.arr 80 5 (r.1.log.map cS80))), (25005, (.arr 3 1 (r.1.active.map (cI .i64)))), (25006, (.arr 3 1 (r.1.writer.map (cI .i64))))]) := by
 unfold d29 at h
 refine FunM.enter 18 [(0, .ptr 1000 0 0), (1, .i a1)] Try.func29 rfl (of_decide_eq_true rfl) rfl rfl ?_
 refine AW.seqR ?_
 refine Chain.runK [] 1 fun K hK => ?_; simp; refine hK _ _ ?_; clear hK K
 refine Chain.sub (S' := mk 18 [1000] [(0, .ptr 1000 0 0), (1, .i a1)] [(1000, some (.box [.ref 25000 0 a0.buffer.length, .ref 25001 0 a0.disk.length, .ref 25002 0 a0.log.length, .i a0.flushed, .i a0.lastID, .ref 25005 0 a0.active.length, .ref 25006 0 a0.writer.length])), (25000, R78 a0.buffer), (25001, R78 a0.disk), (25002, R80 a0.log), (25005, R3 a0.active), (25006, R3 a0.writer)]) Sub.tt ?_
 refine Chain.nil ?_
 refine AW.seq ?_
 refine AW.seqR ?_
 refine Chain.runK [] 5 fun K hK => ?_; simp; refine hK _ _ ?_; clear hK K
 refine Chain.sub (S' := mk 18 [1000] [(0, .ptr 1000 0 0), (1, .i a1), (8, .ref 25005 0 a0.active.length), (9, .i a1)] [(1000, some (.box [.ref 25000 0 a0.buffer.length, .ref 25001 0 a0.disk.length, .ref 25002 0 a0.log.length, .i a0.flushed, .i a0.lastID, .ref 25005 0 a0.active.length, .ref 25006 0 a0.writer.length])), (25000, R78 a0.buffer), (25001, R78 a0.disk), (25002, R80 a0.log), (25005, R3 a0.active), (25006, R3 a0.writer)]) Sub.tt ?_
 replace h := bsome h; obtain ⟨r1, hr1, h⟩ := h
 refine Chain.callL (d := 10) (p24 N a0.active a1 r1 hr1) (by simp) rfl rfl (by simp <;> rfl) (by simp <;> rfl) ent24 (by simp <;> rfl) ?_
 refine Chain.sub (S' := mk 18 [1000] [(0, .ptr 1000 0 0), (1, .i a1), (8, .ref 25005 0 a0.active.length), (9, .i a1), (10, .b r1)] [(1000, some (.box [.ref 25000 0 a0.buffer.length, .ref 25001 0 a0.disk.length, .ref 25002 0 a0.log.length, .i a0.flushed, .i a0.lastID, .ref 25005 0 a0.active.length, .ref 25006 0 a0.writer.length])), (25000, R78 a0.buffer), (25001, R78 a0.disk), (25002, R80 a0.log), (25005, R3 a0.active), (25006, R3 a0.writer)]) (by simp; exact Sub.table (by simp) (by simp)) ?_
 refine Chain.runK [] 1 fun K hK => ?_; simp; refine hK _ _ ?_; clear hK K
 refine Chain.sub (S' := mk 18 [1000] [(0, .ptr 1000 0 0), (1, .i a1), (11, .b (!r1))] [(1000, some (.box [.ref 25000 0 a0.buffer.length, .ref 25001 0 a0.disk.length, .ref 25002 0 a0.log.length, .i a0.flushed, .i a0.lastID, .ref 25005 0 a0.active.length, .ref 25006 0 a0.writer.length])), (25000, R78 a0.buffer), (25001, R78 a0.disk), (25002, R80 a0.log), (25005, R3 a0.active), (25006, R3 a0.writer)]) Sub.tt ?_
 refine Chain.nil ?_
 replace h := isome h; rcases h with ⟨c2, h⟩ | ⟨c2, h⟩
 ·have c2_ : (!r1) = true := c2
  refine AW.condT (b := (!r1)) rfl c2_ ?_
  refine AW.sub (Sub.bool 11 (b := (!r1)) rfl c2_) ?_
  refine AW.sub (S' := mk 18 [1000] [(0, .ptr 1000 0 0), (1, .i a1), (11, .b true)] [(1000, some (.box [.ref 25000 0 a0.buffer.length, .ref 25001 0 a0.disk.length, .ref 25002 0 a0.log.length, .i a0.flushed, .i a0.lastID, .ref 25005 0 a0.active.length, .ref 25006 0 a0.writer.length])), (25000, R78 a0.buffer), (25001, R78 a0.disk), (25002, R80 a0.log), (25005, R3 a0.active), (25006, R3 a0.writer)]) (by simp; exact Sub.table (by simp) (by simp)) ?_
  refine AW.seqR ?_
  refine Chain.runK [] 1 fun K hK => ?_; simp; refine hK _ _ ?_; clear hK K
  refine Chain.sub (S' := mk 18 [1000] [(4, .i 4)] [(1000, some (.box [.ref 25000 0 a0.buffer.length, .ref 25001 0 a0.disk.length, .ref 25002 0 a0.log.length, .i a0.flushed, .i a0.lastID, .ref 25005 0 a0.active.length, .ref 25006 0 a0.writer.length])), (25000, R78 a0.buffer), (25001, R78 a0.disk), (25002, R80 a0.log), (25005, R3 a0.active), (25006, R3 a0.writer)]) Sub.tt ?_
  refine Chain.nil ?_
  refine AW.ret ?_
  cases h
  refine thenQ_pass (by simp) ?_
  exact FinF.ret (by simp) (by simp)
 ·have c2_ : (!r1) = false := Bool.eq_false_iff.2 c2
  refine AW.condF (b := (!r1)) rfl c2_ ?_
  refine AW.sub (Sub.bool 11 (b := (!r1)) rfl c2_) ?_
  refine AW.sub (S' := mk 18 [1000] [(0, .ptr 1000 0 0), (1, .i a1), (11, .b false)] [(1000, some (.box [.ref 25000 0 a0.buffer.length, .ref 25001 0 a0.disk.length, .ref 25002 0 a0.log.length, .i a0.flushed, .i a0.lastID, .ref 25005 0 a0.active.length, .ref 25006 0 a0.writer.length])), (25000, R78 a0.buffer), (25001, R78 a0.disk), (25002, R80 a0.log), (25005, R3 a0.active), (25006, R3 a0.writer)]) (by simp; exact Sub.table (by simp) (by simp)) ?_
  refine AW.skip ?_
  refine thenQ_normal ?_
  refine AW.seqR ?_
  refine Chain.runK [] 2 fun K hK => ?_; simp; refine hK _ _ ?_; clear hK K
  refine Chain.sub (S' := mk 18 [1000] [(0, .ptr 1000 0 0), (1, .i a1), (12, .ptr 1000 0 0), (13, .i a1)] [(1000, some (.box [.ref 25000 0 a0.buffer.length, .ref 25001 0 a0.disk.length, .ref 25002 0 a0.log.length, .i a0.flushed, .i a0.lastID, .ref 25005 0 a0.active.length, .ref 25006 0 a0.writer.length])), (25000, R78 a0.buffer), (25001, R78 a0.disk), (25002, R80 a0.log), (25005, R3 a0.active), (25006, R3 a0.writer)]) Sub.tt ?_
  replace h := bsome h; obtain ⟨r3, hr3, h⟩ := h
  refine Chain.callF (p41 N a0 a1 r3 hr3) [(1000, 1000), (25000, 25000), (25001, 25001), (25002, 25002), (25005, 25005), (25006, 25006)] [1000] [(1000, 1000), (25000, 25000), (25001, 25001), (25002, 25002), (25005, 25005), (25006, 25006)] [(1000, (.box [.ref 25000 0 r3.buffer.length, .ref 25001 0 r3.disk.length, .ref 25002 0 r3.log.length, .d (.lit (.int .i64 r3.flushed)), .d (.lit (.int .i64 r3.lastID)), .ref 25005 0 r3.active.length, .ref 25006 0 r3.writer.length])), (25000, (.arr 78 2 (r3.buffer.map cS78))), (25001, (.arr 78 2 (r3.disk.map cS78))), (25002, (.arr 80 5 (r3.log.map cS80))), (25005, (.arr 3 1 (r3.active.map (cI .i64)))), (25006, (.arr 3 1 (r3.writer.map (cI .i64))))] (.tup []) (by simp) rfl (by simp <;> rfl) (by simp) (by simp) (by simp) (by simp) (by simp) ent41 (by simp) (by simp) (by simp) (by simp) (by simp) (by simp) ?_
  refine Chain.sub (S' := mk 18 [1000] [(0, .ptr 1000 0 0), (1, .i a1), (12, .ptr 1000 0 0), (13, .i a1), (14, .tup [])] [(1000, some (.box [.ref 25000 0 r3.buffer.length, .ref 25001 0 r3.disk.length, .ref 25002 0 r3.log.length, .i r3.flushed, .i r3.lastID, .ref 25005 0 r3.active.length, .ref 25006 0 r3.writer.length])), (25000, R78 r3.buffer), (25001, R78 r3.disk), (25002, R80 r3.log), (25005, R3 r3.active), (25006, R3 r3.writer)]) (by simp; exact Sub.table (by simp) (by simp)) ?_
  refine Chain.nil ?_
  refine AW.seqR ?_
  refine Chain.runK [] 2 fun K hK => ?_; simp; refine hK _ _ ?_; clear hK K
  refine Chain.sub (S' := mk 18 [1000] [(15, .ptr 1000 0 0), (16, .i a1)] [(1000, some (.box [.ref 25000 0 r3.buffer.length, .ref 25001 0 r3.disk.length, .ref 25002 0 r3.log.length, .i r3.flushed, .i r3.lastID, .ref 25005 0 r3.active.length, .ref 25006 0 r3.writer.length])), (25000, R78 r3.buffer), (25001, R78 r3.disk), (25002, R80 r3.log), (25005, R3 r3.active), (25006, R3 r3.writer)]) Sub.tt ?_
  replace h := bsome h; obtain ⟨r4, hr4, h⟩ := h
  refine Chain.callF (p40 N r3 a1 r4 hr4) [(1000, 1000), (25000, 25000), (25001, 25001), (25002, 25002), (25005, 25005), (25006, 25006)] [1000] [(1000, 1000), (25000, 25000), (25001, 25001), (25002, 25002), (25005, 25005), (25006, 25006)] [(1000, (.box [.ref 25000 0 r4.buffer.length, .ref 25001 0 r4.disk.length, .ref 25002 0 r4.log.length, .d (.lit (.int .i64 r4.flushed)), .d (.lit (.int .i64 r4.lastID)), .ref 25005 0 r4.active.length, .ref 25006 0 r4.writer.length])), (25000, (.arr 78 2 (r4.buffer.map cS78))), (25001, (.arr 78 2 (r4.disk.map cS78))), (25002, (.arr 80 5 (r4.log.map cS80))), (25005, (.arr 3 1 (r4.active.map (cI .i64)))), (25006, (.arr 3 1 (r4.writer.map (cI .i64))))] (.tup []) (by simp) rfl (by simp <;> rfl) (by simp) (by simp) (by simp) (by simp) (by simp) ent40 (by simp) (by simp) (by simp) (by simp) (by simp) (by simp) ?_
  refine Chain.sub (S' := mk 18 [1000] [(15, .ptr 1000 0 0), (16, .i a1), (17, .tup [])] [(1000, some (.box [.ref 25000 0 r4.buffer.length, .ref 25001 0 r4.disk.length, .ref 25002 0 r4.log.length, .i r4.flushed, .i r4.lastID, .ref 25005 0 r4.active.length, .ref 25006 0 r4.writer.length])), (25000, R78 r4.buffer), (25001, R78 r4.disk), (25002, R80 r4.log), (25005, R3 r4.active), (25006, R3 r4.writer)]) (by simp; exact Sub.table (by simp) (by simp)) ?_
  refine Chain.nil ?_
  refine AW.seqR ?_
  refine Chain.runK [] 1 fun K hK => ?_; simp; refine hK _ _ ?_; clear hK K
  refine Chain.sub (S' := mk 18 [1000] [(4, .i 0)] [(1000, some (.box [.ref 25000 0 r4.buffer.length, .ref 25001 0 r4.disk.length, .ref 25002 0 r4.log.length, .i r4.flushed, .i r4.lastID, .ref 25005 0 r4.active.length, .ref 25006 0 r4.writer.length])), (25000, R78 r4.buffer), (25001, R78 r4.disk), (25002, R80 r4.log), (25005, R3 r4.active), (25006, R3 r4.writer)]) Sub.tt ?_
  refine Chain.nil ?_
  refine AW.ret ?_
  cases h
  exact FinF.ret (by simp) (by simp)

/-- (*stemma/stemref5.Engine).Rollback$1 -/
def d42 (_N : Nat) (a0 : Int) (a1 : Int) : Option Bool :=
 some (a0 == a1)
set_option maxRecDepth 100000 in
set_option maxHeartbeats 4000000 in
theorem p42 (N : Nat) (a0 : Int) (a1 : Int) (r : Bool) (h : d42 N a0 a1 = some r) : FunC Try.prog 42 [.i a0, .d (.pim [.lit (.int .i64 a1)])] (.b r) := by
 unfold d42 at h
 refine FunC.enter 7 [(0, .i a0), (1, .d (.pim [.lit (.int .i64 a1)]))] (by simp) Try.func42 rfl (of_decide_eq_true rfl) rfl rfl ?_
 refine AW.seqR ?_
 refine Chain.runK [] 1 fun K hK => ?_; simp; refine hK _ _ ?_; clear hK K
 refine Chain.sub (S' := mk 7 [] [(0, .i a0), (1, .d (.pim [.lit (.int .i64 a1)]))] []) Sub.tt ?_
 refine Chain.nil ?_
 refine AW.seqR ?_
 refine Chain.runK [] 4 fun K hK => ?_; simp; refine hK _ _ ?_; clear hK K
 refine Chain.sub (S' := mk 7 [] [(3, .b (a0 == a1))] []) Sub.tt ?_
 refine Chain.nil ?_
 refine AW.ret ?_
 cases h
 exact FinC.ret (by simp) (by simp)

end Go.Proofs.Ytiikoldaocnilaa
