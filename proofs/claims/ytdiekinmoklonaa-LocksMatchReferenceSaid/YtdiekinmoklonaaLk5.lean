/- Functions of the program as functional programs; the code computes them. -/
import Derived.Test.YtdiekinmoklonaaLk4
namespace Go.Proofs.Ytdiekinmoklonaa
open Go.Ab Go.Rp
attribute [-simp] List.all_eq_true Array.all_toList Array.all_eq_true

/-- (*stemma/locks.Manager).Acquire -/
def d5 (N : Nat) (a0 : S48) (a1 : S29) : Option (S48 × Int) :=
 (d14 N a1).bind fun r1 =>
 if (r1 != 0) then (
  some (a0, r1)
 ) else
 (d15 N a0.queue (fun b0 => d16 N b0 a1)).bind fun r3 =>
 if r3 = true then (
  some (a0, 15)
 ) else
 bindO (β := Unit) (ρ := (S48 × Int)) (
  if (!decide (a1.Key = (ByteArray.mk #[]))) = true then (
   (chkI (a1.Mode + 3)).bind fun v16 =>
   (chkI (v16 - 1)).bind fun v17 =>
   (d17 N a0 (S29.mk a1.Tx a1.Table (ByteArray.mk #[]) v17)).bind fun r18 =>
   Option.bind (α := Bool) (
    if (r18 == 0) then (
     some true
    ) else
    (d18 N r18 v17).bind fun r23 =>
    some (!r23)
   ) fun (v21 : Bool) =>
   if v21 = true then (
    some (.ret (a0, 6))
   ) else
   some (.go ())
  ) else
  some (.go ())
 ) fun (_ : Unit) =>
 (d17 N a0 a1).bind fun r25 =>
 bindO (β := Int) (ρ := (S48 × Int)) (
  if r25 > 0 then (
   (d18 N r25 a1.Mode).bind fun r32 =>
   if r32 = true then (
    some (.ret (a0, 0))
   ) else
   (d19 N r25 a1.Mode).bind fun r34 =>
   some (.go r34)
  ) else
  some (.go a1.Mode)
 ) fun (v30 : Int) =>
 Option.bind (α := Bool) (
  if (r25 == 0) then (
   (chkI ((a0.granted.length : Int) + (a0.queue.length : Int))).bind fun v39 =>
   some (decide (v39 ≥ 200))
  ) else
  some false
 ) fun (v37 : Bool) =>
 if v37 = true then (
  some (a0, 18)
 ) else
 (d20 N a0 (S29.mk a1.Tx a1.Table a1.Key v30) (a0.queue.length : Int)).bind fun r41 =>
 if ((r41.length : Int) == 0) then (
  (d21 N a0 (S29.mk a1.Tx a1.Table a1.Key v30)).bind fun r43 =>
  some (r43, 0)
 ) else
 (d22 N a0 r41 a1.Tx).bind fun r44 =>
 if r44 = true then (
  some (a0, 14)
 ) else
 (appL 48 a0.queue [(S29.mk a1.Tx a1.Table a1.Key v30)]).bind fun _l46 =>
 some ((S48.mk a0.granted (a0.queue ++ [(S29.mk a1.Tx a1.Table a1.Key v30)])), 16)
set_option maxRecDepth 100000 in
set_option maxHeartbeats 4000000 in
theorem p5 (N : Nat) (a0 : S48) (a1 : S29) (r : (S48 × Int)) (h : d5 N a0 a1 = some r) : FunM Try.prog 5 [.ptr 1000 0 0, .agg [.i a1.Tx, .d (.lit (.string a1.Table)), .d (.lit (.string a1.Key)), .i a1.Mode]] [(1000, some (.box [.ref 25000 0 a0.granted.length, .ref 25001 0 a0.queue.length])), (25000, R29 a0.granted), (25001, R29 a0.queue)] [1000] (.i r.2) ([(1000, (.box [.ref 25000 0 r.1.granted.length, .ref 25001 0 r.1.queue.length])), (25000, (.arr 29 4 (r.1.granted.map cS29))), (25001, (.arr 29 4 (r.1.queue.map cS29)))]) := by
 unfold d5 at h
 refine FunM.enter 104 [(0, .ptr 1000 0 0), (1, .agg [.i a1.Tx, .d (.lit (.string a1.Table)), .d (.lit (.string a1.Key)), .i a1.Mode])] Try.func5 rfl (of_decide_eq_true rfl) rfl rfl ?_
 refine AW.seqR ?_
 refine Chain.runK [] 2 fun K hK => ?_; simp; refine hK _ _ ?_; clear hK K
 refine Chain.sub (S' := mk 104 [1000] [(0, .ptr 1000 0 0), (3, .ptr 3 0 0)] [(3, some (.box [.i a1.Tx, .d (.lit (.string a1.Table)), .d (.lit (.string a1.Key)), .i a1.Mode])), (1000, some (.box [.ref 25000 0 a0.granted.length, .ref 25001 0 a0.queue.length])), (25000, R29 a0.granted), (25001, R29 a0.queue)]) Sub.tt ?_
 refine Chain.nil ?_
 refine AW.seq ?_
 refine AW.seqR ?_
 refine Chain.runK [] 1 fun K hK => ?_; simp; refine hK _ _ ?_; clear hK K
 refine Chain.sub (S' := mk 104 [1000] [(0, .ptr 1000 0 0), (3, .ptr 3 0 0), (10, .agg [.i a1.Tx, .d (.lit (.string a1.Table)), .d (.lit (.string a1.Key)), .i a1.Mode])] [(3, some (.box [.i a1.Tx, .d (.lit (.string a1.Table)), .d (.lit (.string a1.Key)), .i a1.Mode])), (1000, some (.box [.ref 25000 0 a0.granted.length, .ref 25001 0 a0.queue.length])), (25000, R29 a0.granted), (25001, R29 a0.queue)]) Sub.tt ?_
 replace h := bsome h; obtain ⟨r1, hr1, h⟩ := h
 refine Chain.callL (d := 11) (p14 N a1 r1 hr1) (by simp) rfl rfl (by simp <;> rfl) (by simp <;> rfl) ent14 (by simp <;> rfl) ?_
 refine Chain.sub (S' := mk 104 [1000] [(0, .ptr 1000 0 0), (3, .ptr 3 0 0), (10, .agg [.i a1.Tx, .d (.lit (.string a1.Table)), .d (.lit (.string a1.Key)), .i a1.Mode]), (11, .i r1)] [(3, some (.box [.i a1.Tx, .d (.lit (.string a1.Table)), .d (.lit (.string a1.Key)), .i a1.Mode])), (1000, some (.box [.ref 25000 0 a0.granted.length, .ref 25001 0 a0.queue.length])), (25000, R29 a0.granted), (25001, R29 a0.queue)]) (by simp; exact Sub.table (by simp) (by simp)) ?_
 refine Chain.runK [] 1 fun K hK => ?_; simp; refine hK _ _ ?_; clear hK K
 refine Chain.sub (S' := mk 104 [1000] [(0, .ptr 1000 0 0), (3, .ptr 3 0 0), (5, .i r1)] [(3, some (.box [.i a1.Tx, .d (.lit (.string a1.Table)), .d (.lit (.string a1.Key)), .i a1.Mode])), (1000, some (.box [.ref 25000 0 a0.granted.length, .ref 25001 0 a0.queue.length])), (25000, R29 a0.granted), (25001, R29 a0.queue)]) Sub.tt ?_
 refine Chain.nil ?_
 refine AW.seqR ?_
 refine Chain.runK [] 2 fun K hK => ?_; simp; refine hK _ _ ?_; clear hK K
 refine Chain.sub (S' := mk 104 [1000] [(0, .ptr 1000 0 0), (3, .ptr 3 0 0), (5, .i r1), (13, .b (r1 != 0))] [(3, some (.box [.i a1.Tx, .d (.lit (.string a1.Table)), .d (.lit (.string a1.Key)), .i a1.Mode])), (1000, some (.box [.ref 25000 0 a0.granted.length, .ref 25001 0 a0.queue.length])), (25000, R29 a0.granted), (25001, R29 a0.queue)]) Sub.tt ?_
 refine Chain.nil ?_
 replace h := isome h; rcases h with ⟨c2, h⟩ | ⟨c2, h⟩
 ·have c2_ : (r1 != 0) = true := c2
  refine AW.condT (b := (r1 != 0)) rfl c2_ ?_
  refine AW.sub (Sub.bool 13 (b := (r1 != 0)) rfl c2_) ?_
  refine AW.sub (S' := mk 104 [1000] [(0, .ptr 1000 0 0), (3, .ptr 3 0 0), (5, .i r1), (13, .b true)] [(3, some (.box [.i a1.Tx, .d (.lit (.string a1.Table)), .d (.lit (.string a1.Key)), .i a1.Mode])), (1000, some (.box [.ref 25000 0 a0.granted.length, .ref 25001 0 a0.queue.length])), (25000, R29 a0.granted), (25001, R29 a0.queue)]) (by simp; exact Sub.table (by simp) (by simp)) ?_
  refine AW.seqR ?_
  refine Chain.runK [] 2 fun K hK => ?_; simp; refine hK _ _ ?_; clear hK K
  refine Chain.sub (S' := mk 104 [1000] [(4, .i r1)] [(1000, some (.box [.ref 25000 0 a0.granted.length, .ref 25001 0 a0.queue.length])), (25000, R29 a0.granted), (25001, R29 a0.queue)]) Sub.tt ?_
  refine Chain.nil ?_
  refine AW.ret ?_
  cases h
  refine thenQ_pass (by simp) ?_
  exact FinF.ret (by simp) (by simp)
 ·have c2_ : (r1 != 0) = false := Bool.eq_false_iff.2 c2
  refine AW.condF (b := (r1 != 0)) rfl c2_ ?_
  refine AW.sub (Sub.bool 13 (b := (r1 != 0)) rfl c2_) ?_
  refine AW.sub (S' := mk 104 [1000] [(0, .ptr 1000 0 0), (3, .ptr 3 0 0), (5, .i r1), (13, .b false)] [(3, some (.box [.i a1.Tx, .d (.lit (.string a1.Table)), .d (.lit (.string a1.Key)), .i a1.Mode])), (1000, some (.box [.ref 25000 0 a0.granted.length, .ref 25001 0 a0.queue.length])), (25000, R29 a0.granted), (25001, R29 a0.queue)]) (by simp; exact Sub.table (by simp) (by simp)) ?_
  refine AW.skip ?_
  refine thenQ_normal ?_
  refine AW.seq ?_
  refine AW.seqR ?_
  refine Chain.runK [] 5 fun K hK => ?_; simp; refine hK _ _ ?_; clear hK K
  refine Chain.sub (S' := mk 104 [1000] [(0, .ptr 1000 0 0), (3, .ptr 3 0 0), (18, .ref 25001 0 a0.queue.length), (19, .fn (.func 16) [.ptr 3 0 0])] [(3, some (.box [.i a1.Tx, .d (.lit (.string a1.Table)), .d (.lit (.string a1.Key)), .i a1.Mode])), (1000, some (.box [.ref 25000 0 a0.granted.length, .ref 25001 0 a0.queue.length])), (25000, R29 a0.granted), (25001, R29 a0.queue)]) Sub.tt ?_
  replace h := bsome h; obtain ⟨r3, hr3, h⟩ := h
  refine Chain.callL (d := 20) (p15 N a0.queue 16 [.pim [.lit (.int .i64 a1.Tx), .lit (.string a1.Table), .lit (.string a1.Key), .lit (.int .i64 a1.Mode)]] (fun b0 => d16 N b0 a1) ent16 (fun b0 r h => p16 N b0 a1 r h) r3 hr3) (by simp) rfl rfl (by simp <;> rfl) (by simp <;> rfl) ent15 (by simp <;> rfl) ?_
  refine Chain.sub (S' := mk 104 [1000] [(0, .ptr 1000 0 0), (3, .ptr 3 0 0), (18, .ref 25001 0 a0.queue.length), (19, .fn (.func 16) [.ptr 3 0 0]), (20, .b r3)] [(3, some (.box [.i a1.Tx, .d (.lit (.string a1.Table)), .d (.lit (.string a1.Key)), .i a1.Mode])), (1000, some (.box [.ref 25000 0 a0.granted.length, .ref 25001 0 a0.queue.length])), (25000, R29 a0.granted), (25001, R29 a0.queue)]) (by simp; exact Sub.table (by simp) (by simp)) ?_
  refine Chain.nil ?_
  replace h := isome h; rcases h with ⟨c4, h⟩ | ⟨c4, h⟩
  ·have c4_ : r3 = true := c4
   refine AW.condT (b := r3) rfl c4_ ?_
   refine AW.sub (Sub.bool 20 (b := r3) rfl c4_) ?_
   refine AW.sub (S' := mk 104 [1000] [(0, .ptr 1000 0 0), (3, .ptr 3 0 0), (18, .ref 25001 0 a0.queue.length), (19, .fn (.func 16) [.ptr 3 0 0]), (20, .b true)] [(3, some (.box [.i a1.Tx, .d (.lit (.string a1.Table)), .d (.lit (.string a1.Key)), .i a1.Mode])), (1000, some (.box [.ref 25000 0 a0.granted.length, .ref 25001 0 a0.queue.length])), (25000, R29 a0.granted), (25001, R29 a0.queue)]) (by simp; exact Sub.table (by simp) (by simp)) ?_
   refine AW.seqR ?_
   refine Chain.runK [] 1 fun K hK => ?_; simp; refine hK _ _ ?_; clear hK K
   refine Chain.sub (S' := mk 104 [1000] [(4, .i 15)] [(1000, some (.box [.ref 25000 0 a0.granted.length, .ref 25001 0 a0.queue.length])), (25000, R29 a0.granted), (25001, R29 a0.queue)]) Sub.tt ?_
   refine Chain.nil ?_
   refine AW.ret ?_
   cases h
   refine thenQ_pass (by simp) ?_
   exact FinF.ret (by simp) (by simp)
  ·have c4_ : r3 = false := Bool.eq_false_iff.2 c4
   refine AW.condF (b := r3) rfl c4_ ?_
   refine AW.sub (Sub.bool 20 (b := r3) rfl c4_) ?_
   refine AW.sub (S' := mk 104 [1000] [(0, .ptr 1000 0 0), (3, .ptr 3 0 0), (18, .ref 25001 0 a0.queue.length), (19, .fn (.func 16) [.ptr 3 0 0]), (20, .b false)] [(3, some (.box [.i a1.Tx, .d (.lit (.string a1.Table)), .d (.lit (.string a1.Key)), .i a1.Mode])), (1000, some (.box [.ref 25000 0 a0.granted.length, .ref 25001 0 a0.queue.length])), (25000, R29 a0.granted), (25001, R29 a0.queue)]) (by simp; exact Sub.table (by simp) (by simp)) ?_
   refine AW.skip ?_
   refine thenQ_normal ?_
   refine AW.seq ?_
   refine AW.seqR ?_
   refine Chain.runK [] 3 fun K hK => ?_; simp; refine hK _ _ ?_; clear hK K
   refine Chain.sub (S' := mk 104 [1000] [(0, .ptr 1000 0 0), (3, .ptr 3 0 0), (23, .b (!decide (a1.Key = (ByteArray.mk #[]))))] [(3, some (.box [.i a1.Tx, .d (.lit (.string a1.Table)), .d (.lit (.string a1.Key)), .i a1.Mode])), (1000, some (.box [.ref 25000 0 a0.granted.length, .ref 25001 0 a0.queue.length])), (25000, R29 a0.granted), (25001, R29 a0.queue)]) Sub.tt ?_
   refine Chain.nil ?_
   refine AW.lastJ (fun (_ : Unit) => mk 104 [1000] [(0, .ptr 1000 0 0), (3, .ptr 3 0 0)] [(3, some (.box [.i a1.Tx, .d (.lit (.string a1.Table)), .d (.lit (.string a1.Key)), .i a1.Mode])), (1000, some (.box [.ref 25000 0 a0.granted.length, .ref 25001 0 a0.queue.length])), (25000, R29 a0.granted), (25001, R29 a0.queue)]) h ?_ ?_ <;> clear h
   ·intro o h
    replace h := isome h; rcases h with ⟨c15, h⟩ | ⟨c15, h⟩
    ·have c15_ : (!decide (a1.Key = (ByteArray.mk #[]))) = true := c15
     refine AW.condT (b := (!decide (a1.Key = (ByteArray.mk #[])))) rfl c15_ ?_
     refine AW.sub (Sub.bool 23 (b := (!decide (a1.Key = (ByteArray.mk #[])))) rfl c15_) ?_
     refine AW.sub (S' := mk 104 [1000] [(0, .ptr 1000 0 0), (3, .ptr 3 0 0), (23, .b true)] [(3, some (.box [.i a1.Tx, .d (.lit (.string a1.Table)), .d (.lit (.string a1.Key)), .i a1.Mode])), (1000, some (.box [.ref 25000 0 a0.granted.length, .ref 25001 0 a0.queue.length])), (25000, R29 a0.granted), (25001, R29 a0.queue)]) (by simp; exact Sub.table (by simp) (by simp)) ?_
     refine AW.seqR ?_
     replace h := bsome h; obtain ⟨v16, hv16, h⟩ := h
     have hv16 := chkI_some hv16
     replace h := bsome h; obtain ⟨v17, hv17, h⟩ := h
     have hv17 := chkI_some hv17
     refine Chain.runK [] 11 fun K hK => ?_; simp [hv16, hv17]; refine hK _ _ ?_; clear hK K
     refine Chain.sub (S' := mk 104 [1000] [(0, .ptr 1000 0 0), (3, .ptr 3 0 0), (6, .ptr 6 0 0)] [(3, some (.box [.i a1.Tx, .d (.lit (.string a1.Table)), .d (.lit (.string a1.Key)), .i a1.Mode])), (6, some (.box [.i a1.Tx, .d (.lit (.string a1.Table)), .d (.lit (.string (ByteArray.mk #[]))), .i v17])), (1000, some (.box [.ref 25000 0 a0.granted.length, .ref 25001 0 a0.queue.length])), (25000, R29 a0.granted), (25001, R29 a0.queue)]) Sub.tt ?_
     refine Chain.nil ?_
     refine AW.seqR ?_
     refine Chain.runK [] 2 fun K hK => ?_; simp; refine hK _ _ ?_; clear hK K
     refine Chain.sub (S' := mk 104 [1000] [(0, .ptr 1000 0 0), (3, .ptr 3 0 0), (6, .ptr 6 0 0), (33, .ptr 1000 0 0), (34, .agg [.i a1.Tx, .d (.lit (.string a1.Table)), .d (.lit (.string (ByteArray.mk #[]))), .i v17])] [(3, some (.box [.i a1.Tx, .d (.lit (.string a1.Table)), .d (.lit (.string a1.Key)), .i a1.Mode])), (6, some (.box [.i a1.Tx, .d (.lit (.string a1.Table)), .d (.lit (.string (ByteArray.mk #[]))), .i v17])), (1000, some (.box [.ref 25000 0 a0.granted.length, .ref 25001 0 a0.queue.length])), (25000, R29 a0.granted), (25001, R29 a0.queue)]) Sub.tt ?_
     replace h := bsome h; obtain ⟨r18, hr18, h⟩ := h
     refine Chain.callL (d := 35) (p17 N a0 (S29.mk a1.Tx a1.Table (ByteArray.mk #[]) v17) r18 hr18) (by simp) rfl rfl (by simp <;> rfl) (by simp <;> rfl) ent17 (by simp <;> rfl) ?_
     refine Chain.sub (S' := mk 104 [1000] [(0, .ptr 1000 0 0), (3, .ptr 3 0 0), (6, .ptr 6 0 0), (33, .ptr 1000 0 0), (34, .agg [.i a1.Tx, .d (.lit (.string a1.Table)), .d (.lit (.string (ByteArray.mk #[]))), .i v17]), (35, .i r18)] [(3, some (.box [.i a1.Tx, .d (.lit (.string a1.Table)), .d (.lit (.string a1.Key)), .i a1.Mode])), (6, some (.box [.i a1.Tx, .d (.lit (.string a1.Table)), .d (.lit (.string (ByteArray.mk #[]))), .i v17])), (1000, some (.box [.ref 25000 0 a0.granted.length, .ref 25001 0 a0.queue.length])), (25000, R29 a0.granted), (25001, R29 a0.queue)]) (by simp; exact Sub.table (by simp) (by simp)) ?_
     refine Chain.runK [] 1 fun K hK => ?_; simp; refine hK _ _ ?_; clear hK K
     refine Chain.sub (S' := mk 104 [1000] [(0, .ptr 1000 0 0), (3, .ptr 3 0 0), (6, .ptr 6 0 0), (7, .i r18)] [(3, some (.box [.i a1.Tx, .d (.lit (.string a1.Table)), .d (.lit (.string a1.Key)), .i a1.Mode])), (6, some (.box [.i a1.Tx, .d (.lit (.string a1.Table)), .d (.lit (.string (ByteArray.mk #[]))), .i v17])), (1000, some (.box [.ref 25000 0 a0.granted.length, .ref 25001 0 a0.queue.length])), (25000, R29 a0.granted), (25001, R29 a0.queue)]) Sub.tt ?_
     refine Chain.nil ?_
     replace h := bsome h; obtain ⟨v21, hj, h⟩ := h
     refine AW.cutR (mk 104 [1000] [(0, .ptr 1000 0 0), (3, .ptr 3 0 0), (44, .b v21)] [(3, some (.box [.i a1.Tx, .d (.lit (.string a1.Table)), .d (.lit (.string a1.Key)), .i a1.Mode])), (1000, some (.box [.ref 25000 0 a0.granted.length, .ref 25001 0 a0.queue.length])), (25000, R29 a0.granted), (25001, R29 a0.queue)]) ?_ ?_
     ·clear h; have h := hj; clear hj
      refine Chain.runK [] 3 fun K hK => ?_; simp; refine hK _ _ ?_; clear hK K
      refine Chain.sub (S' := mk 104 [1000] [(0, .ptr 1000 0 0), (3, .ptr 3 0 0), (6, .ptr 6 0 0), (7, .i r18), (38, .b (r18 == 0))] [(3, some (.box [.i a1.Tx, .d (.lit (.string a1.Table)), .d (.lit (.string a1.Key)), .i a1.Mode])), (6, some (.box [.i a1.Tx, .d (.lit (.string a1.Table)), .d (.lit (.string (ByteArray.mk #[]))), .i v17])), (1000, some (.box [.ref 25000 0 a0.granted.length, .ref 25001 0 a0.queue.length])), (25000, R29 a0.granted), (25001, R29 a0.queue)]) Sub.tt ?_
      replace h := isome h; rcases h with ⟨c22, h⟩ | ⟨c22, h⟩
      ·have c22_ : (r18 == 0) = true := c22
       refine Chain.sub (Sub.bool 38 (b := (r18 == 0)) rfl c22_) ?_
       refine Chain.sub (S' := mk 104 [1000] [(0, .ptr 1000 0 0), (3, .ptr 3 0 0), (6, .ptr 6 0 0), (7, .i r18), (38, .b true)] [(3, some (.box [.i a1.Tx, .d (.lit (.string a1.Table)), .d (.lit (.string a1.Key)), .i a1.Mode])), (6, some (.box [.i a1.Tx, .d (.lit (.string a1.Table)), .d (.lit (.string (ByteArray.mk #[]))), .i v17])), (1000, some (.box [.ref 25000 0 a0.granted.length, .ref 25001 0 a0.queue.length])), (25000, R29 a0.granted), (25001, R29 a0.queue)]) (by simp; exact Sub.table (by simp) (by simp)) ?_
       refine Chain.runK [] 6 fun K hK => ?_; simp; refine hK _ _ ?_; clear hK K
       refine Chain.sub (S' := mk 104 [1000] [(0, .ptr 1000 0 0), (3, .ptr 3 0 0), (44, .b true)] [(3, some (.box [.i a1.Tx, .d (.lit (.string a1.Table)), .d (.lit (.string a1.Key)), .i a1.Mode])), (1000, some (.box [.ref 25000 0 a0.granted.length, .ref 25001 0 a0.queue.length])), (25000, R29 a0.granted), (25001, R29 a0.queue)]) Sub.tt ?_
       cases h
       exact Chain.nil Sub.tt
      ·have c22_ : (r18 == 0) = false := Bool.eq_false_iff.2 c22
       refine Chain.sub (Sub.bool 38 (b := (r18 == 0)) rfl c22_) ?_
       refine Chain.sub (S' := mk 104 [1000] [(0, .ptr 1000 0 0), (3, .ptr 3 0 0), (6, .ptr 6 0 0), (7, .i r18), (38, .b false)] [(3, some (.box [.i a1.Tx, .d (.lit (.string a1.Table)), .d (.lit (.string a1.Key)), .i a1.Mode])), (6, some (.box [.i a1.Tx, .d (.lit (.string a1.Table)), .d (.lit (.string (ByteArray.mk #[]))), .i v17])), (1000, some (.box [.ref 25000 0 a0.granted.length, .ref 25001 0 a0.queue.length])), (25000, R29 a0.granted), (25001, R29 a0.queue)]) (by simp; exact Sub.table (by simp) (by simp)) ?_
       refine Chain.runK [] 3 fun K hK => ?_; simp; refine hK _ _ ?_; clear hK K
       refine Chain.sub (S' := mk 104 [1000] [(0, .ptr 1000 0 0), (3, .ptr 3 0 0), (38, .b false), (39, .i r18), (41, .i v17)] [(3, some (.box [.i a1.Tx, .d (.lit (.string a1.Table)), .d (.lit (.string a1.Key)), .i a1.Mode])), (1000, some (.box [.ref 25000 0 a0.granted.length, .ref 25001 0 a0.queue.length])), (25000, R29 a0.granted), (25001, R29 a0.queue)]) Sub.tt ?_
       replace h := bsome h; obtain ⟨r23, hr23, h⟩ := h
       refine Chain.callL (d := 42) (p18 N r18 v17 r23 hr23) (by simp) rfl rfl (by simp <;> rfl) (by simp <;> rfl) ent18 (by simp <;> rfl) ?_
       refine Chain.sub (S' := mk 104 [1000] [(0, .ptr 1000 0 0), (3, .ptr 3 0 0), (38, .b false), (39, .i r18), (41, .i v17), (42, .b r23)] [(3, some (.box [.i a1.Tx, .d (.lit (.string a1.Table)), .d (.lit (.string a1.Key)), .i a1.Mode])), (1000, some (.box [.ref 25000 0 a0.granted.length, .ref 25001 0 a0.queue.length])), (25000, R29 a0.granted), (25001, R29 a0.queue)]) (by simp; exact Sub.table (by simp) (by simp)) ?_
       refine Chain.runK [] 2 fun K hK => ?_; simp; refine hK _ _ ?_; clear hK K
       refine Chain.sub (S' := mk 104 [1000] [(0, .ptr 1000 0 0), (3, .ptr 3 0 0), (44, .b (!r23))] [(3, some (.box [.i a1.Tx, .d (.lit (.string a1.Table)), .d (.lit (.string a1.Key)), .i a1.Mode])), (1000, some (.box [.ref 25000 0 a0.granted.length, .ref 25001 0 a0.queue.length])), (25000, R29 a0.granted), (25001, R29 a0.queue)]) Sub.tt ?_
       cases h
       exact Chain.nil Sub.tt
     ·clear hj
      replace h := isome h; rcases h with ⟨c24, h⟩ | ⟨c24, h⟩
      ·have c24_ : v21 = true := c24
       refine AW.condT (b := v21) rfl c24_ ?_
       refine AW.sub (Sub.bool 44 (b := v21) rfl c24_) ?_
       refine AW.sub (S' := mk 104 [1000] [(0, .ptr 1000 0 0), (3, .ptr 3 0 0), (44, .b true)] [(3, some (.box [.i a1.Tx, .d (.lit (.string a1.Table)), .d (.lit (.string a1.Key)), .i a1.Mode])), (1000, some (.box [.ref 25000 0 a0.granted.length, .ref 25001 0 a0.queue.length])), (25000, R29 a0.granted), (25001, R29 a0.queue)]) (by simp; exact Sub.table (by simp) (by simp)) ?_
       refine AW.seqR ?_
       refine Chain.runK [] 1 fun K hK => ?_; simp; refine hK _ _ ?_; clear hK K
       refine Chain.sub (S' := mk 104 [1000] [(4, .i 6)] [(1000, some (.box [.ref 25000 0 a0.granted.length, .ref 25001 0 a0.queue.length])), (25000, R29 a0.granted), (25001, R29 a0.queue)]) Sub.tt ?_
       refine Chain.nil ?_
       refine AW.ret ?_
       cases h
       refine PostJ.out (by simp) ?_
       rintro rfl
       refine thenQ_pass (by simp) ?_
       exact FinF.ret (by simp) (by simp)
      ·have c24_ : v21 = false := Bool.eq_false_iff.2 c24
       refine AW.condF (b := v21) rfl c24_ ?_
       refine AW.sub (Sub.bool 44 (b := v21) rfl c24_) ?_
       refine AW.sub (S' := mk 104 [1000] [(0, .ptr 1000 0 0), (3, .ptr 3 0 0), (44, .b false)] [(3, some (.box [.i a1.Tx, .d (.lit (.string a1.Table)), .d (.lit (.string a1.Key)), .i a1.Mode])), (1000, some (.box [.ref 25000 0 a0.granted.length, .ref 25001 0 a0.queue.length])), (25000, R29 a0.granted), (25001, R29 a0.queue)]) (by simp; exact Sub.table (by simp) (by simp)) ?_
       refine AW.skip ?_
       cases h
       refine PostJ.next ?_
       exact Sub.tt
    ·have c15_ : (!decide (a1.Key = (ByteArray.mk #[]))) = false := Bool.eq_false_iff.2 c15
     refine AW.condF (b := (!decide (a1.Key = (ByteArray.mk #[])))) rfl c15_ ?_
     refine AW.sub (Sub.bool 23 (b := (!decide (a1.Key = (ByteArray.mk #[])))) rfl c15_) ?_
     refine AW.sub (S' := mk 104 [1000] [(0, .ptr 1000 0 0), (3, .ptr 3 0 0), (23, .b false)] [(3, some (.box [.i a1.Tx, .d (.lit (.string a1.Table)), .d (.lit (.string a1.Key)), .i a1.Mode])), (1000, some (.box [.ref 25000 0 a0.granted.length, .ref 25001 0 a0.queue.length])), (25000, R29 a0.granted), (25001, R29 a0.queue)]) (by simp; exact Sub.table (by simp) (by simp)) ?_
     refine AW.skip ?_
     cases h
     refine PostJ.next ?_
     exact Sub.tt
   ·rintro ⟨⟩ h
    refine thenQ_normal ?_
    refine AW.seqR ?_
    refine Chain.runK [] 2 fun K hK => ?_; simp; refine hK _ _ ?_; clear hK K
    refine Chain.sub (S' := mk 104 [1000] [(0, .ptr 1000 0 0), (3, .ptr 3 0 0), (45, .ptr 1000 0 0), (46, .agg [.i a1.Tx, .d (.lit (.string a1.Table)), .d (.lit (.string a1.Key)), .i a1.Mode])] [(3, some (.box [.i a1.Tx, .d (.lit (.string a1.Table)), .d (.lit (.string a1.Key)), .i a1.Mode])), (1000, some (.box [.ref 25000 0 a0.granted.length, .ref 25001 0 a0.queue.length])), (25000, R29 a0.granted), (25001, R29 a0.queue)]) Sub.tt ?_
    replace h := bsome h; obtain ⟨r25, hr25, h⟩ := h
    refine Chain.callL (d := 47) (p17 N a0 a1 r25 hr25) (by simp) rfl rfl (by simp <;> rfl) (by simp <;> rfl) ent17 (by simp <;> rfl) ?_
    refine Chain.sub (S' := mk 104 [1000] [(0, .ptr 1000 0 0), (3, .ptr 3 0 0), (45, .ptr 1000 0 0), (46, .agg [.i a1.Tx, .d (.lit (.string a1.Table)), .d (.lit (.string a1.Key)), .i a1.Mode]), (47, .i r25)] [(3, some (.box [.i a1.Tx, .d (.lit (.string a1.Table)), .d (.lit (.string a1.Key)), .i a1.Mode])), (1000, some (.box [.ref 25000 0 a0.granted.length, .ref 25001 0 a0.queue.length])), (25000, R29 a0.granted), (25001, R29 a0.queue)]) (by simp; exact Sub.table (by simp) (by simp)) ?_
    refine Chain.runK [] 1 fun K hK => ?_; simp; refine hK _ _ ?_; clear hK K
    refine Chain.sub (S' := mk 104 [1000] [(0, .ptr 1000 0 0), (3, .ptr 3 0 0), (8, .i r25)] [(3, some (.box [.i a1.Tx, .d (.lit (.string a1.Table)), .d (.lit (.string a1.Key)), .i a1.Mode])), (1000, some (.box [.ref 25000 0 a0.granted.length, .ref 25001 0 a0.queue.length])), (25000, R29 a0.granted), (25001, R29 a0.queue)]) Sub.tt ?_
    refine Chain.nil ?_
    refine AW.seq ?_
    refine AW.seqR ?_
    refine Chain.runK [] 2 fun K hK => ?_; simp; refine hK _ _ ?_; clear hK K
    refine Chain.sub (S' := mk 104 [1000] [(0, .ptr 1000 0 0), (3, .ptr 3 0 0), (8, .i r25), (49, .b (decide (r25 > 0)))] [(3, some (.box [.i a1.Tx, .d (.lit (.string a1.Table)), .d (.lit (.string a1.Key)), .i a1.Mode])), (1000, some (.box [.ref 25000 0 a0.granted.length, .ref 25001 0 a0.queue.length])), (25000, R29 a0.granted), (25001, R29 a0.queue)]) Sub.tt ?_
    refine Chain.nil ?_
    refine AW.lastJ (fun (v30 : Int) => mk 104 [1000] [(0, .ptr 1000 0 0), (3, .ptr 3 0 0), (8, .i r25)] [(3, some (.box [.i a1.Tx, .d (.lit (.string a1.Table)), .d (.lit (.string a1.Key)), .i v30])), (1000, some (.box [.ref 25000 0 a0.granted.length, .ref 25001 0 a0.queue.length])), (25000, R29 a0.granted), (25001, R29 a0.queue)]) h ?_ ?_ <;> clear h
    ·intro o h
     replace h := isome h; rcases h with ⟨c31, h⟩ | ⟨c31, h⟩
     ·have c31_ : decide (r25 > 0) = true := decide_eq_true c31
      refine AW.condT (b := decide (r25 > 0)) rfl c31_ ?_
      refine AW.sub (Sub.bool 49 (b := decide (r25 > 0)) rfl c31_) ?_
      refine AW.sub (S' := mk 104 [1000] [(0, .ptr 1000 0 0), (3, .ptr 3 0 0), (8, .i r25), (49, .b true)] [(3, some (.box [.i a1.Tx, .d (.lit (.string a1.Table)), .d (.lit (.string a1.Key)), .i a1.Mode])), (1000, some (.box [.ref 25000 0 a0.granted.length, .ref 25001 0 a0.queue.length])), (25000, R29 a0.granted), (25001, R29 a0.queue)]) (by simp; exact Sub.table (by simp) (by simp)) ?_
      refine AW.seq ?_
      refine AW.seqR ?_
      refine Chain.runK [] 3 fun K hK => ?_; simp; refine hK _ _ ?_; clear hK K
      refine Chain.sub (S' := mk 104 [1000] [(0, .ptr 1000 0 0), (3, .ptr 3 0 0), (8, .i r25), (50, .i r25), (52, .i a1.Mode)] [(3, some (.box [.i a1.Tx, .d (.lit (.string a1.Table)), .d (.lit (.string a1.Key)), .i a1.Mode])), (1000, some (.box [.ref 25000 0 a0.granted.length, .ref 25001 0 a0.queue.length])), (25000, R29 a0.granted), (25001, R29 a0.queue)]) Sub.tt ?_
      replace h := bsome h; obtain ⟨r32, hr32, h⟩ := h
      refine Chain.callL (d := 53) (p18 N r25 a1.Mode r32 hr32) (by simp) rfl rfl (by simp <;> rfl) (by simp <;> rfl) ent18 (by simp <;> rfl) ?_
      refine Chain.sub (S' := mk 104 [1000] [(0, .ptr 1000 0 0), (3, .ptr 3 0 0), (8, .i r25), (50, .i r25), (52, .i a1.Mode), (53, .b r32)] [(3, some (.box [.i a1.Tx, .d (.lit (.string a1.Table)), .d (.lit (.string a1.Key)), .i a1.Mode])), (1000, some (.box [.ref 25000 0 a0.granted.length, .ref 25001 0 a0.queue.length])), (25000, R29 a0.granted), (25001, R29 a0.queue)]) (by simp; exact Sub.table (by simp) (by simp)) ?_
      refine Chain.nil ?_
      replace h := isome h; rcases h with ⟨c33, h⟩ | ⟨c33, h⟩
      ·have c33_ : r32 = true := c33
       refine AW.condT (b := r32) rfl c33_ ?_
       refine AW.sub (Sub.bool 53 (b := r32) rfl c33_) ?_
       refine AW.sub (S' := mk 104 [1000] [(0, .ptr 1000 0 0), (3, .ptr 3 0 0), (8, .i r25), (50, .i r25), (52, .i a1.Mode), (53, .b true)] [(3, some (.box [.i a1.Tx, .d (.lit (.string a1.Table)), .d (.lit (.string a1.Key)), .i a1.Mode])), (1000, some (.box [.ref 25000 0 a0.granted.length, .ref 25001 0 a0.queue.length])), (25000, R29 a0.granted), (25001, R29 a0.queue)]) (by simp; exact Sub.table (by simp) (by simp)) ?_
       refine AW.seqR ?_
       refine Chain.runK [] 1 fun K hK => ?_; simp; refine hK _ _ ?_; clear hK K
       refine Chain.sub (S' := mk 104 [1000] [(4, .i 0)] [(1000, some (.box [.ref 25000 0 a0.granted.length, .ref 25001 0 a0.queue.length])), (25000, R29 a0.granted), (25001, R29 a0.queue)]) Sub.tt ?_
       refine Chain.nil ?_
       refine AW.ret ?_
       cases h
       refine thenQ_pass (by simp) ?_
       refine PostJ.out (by simp) ?_
       rintro rfl
       refine thenQ_pass (by simp) ?_
       exact FinF.ret (by simp) (by simp)
      ·have c33_ : r32 = false := Bool.eq_false_iff.2 c33
       refine AW.condF (b := r32) rfl c33_ ?_
       refine AW.sub (Sub.bool 53 (b := r32) rfl c33_) ?_
       refine AW.sub (S' := mk 104 [1000] [(0, .ptr 1000 0 0), (3, .ptr 3 0 0), (8, .i r25), (50, .i r25), (52, .i a1.Mode), (53, .b false)] [(3, some (.box [.i a1.Tx, .d (.lit (.string a1.Table)), .d (.lit (.string a1.Key)), .i a1.Mode])), (1000, some (.box [.ref 25000 0 a0.granted.length, .ref 25001 0 a0.queue.length])), (25000, R29 a0.granted), (25001, R29 a0.queue)]) (by simp; exact Sub.table (by simp) (by simp)) ?_
       refine AW.skip ?_
       refine thenQ_normal ?_
       refine AW.region ?_
       refine Chain.runK [] 3 fun K hK => ?_; simp; refine hK _ _ ?_; clear hK K
       refine Chain.sub (S' := mk 104 [1000] [(0, .ptr 1000 0 0), (3, .ptr 3 0 0), (8, .i r25), (54, .i r25), (56, .i a1.Mode)] [(3, some (.box [.i a1.Tx, .d (.lit (.string a1.Table)), .d (.lit (.string a1.Key)), .i a1.Mode])), (1000, some (.box [.ref 25000 0 a0.granted.length, .ref 25001 0 a0.queue.length])), (25000, R29 a0.granted), (25001, R29 a0.queue)]) Sub.tt ?_
       replace h := bsome h; obtain ⟨r34, hr34, h⟩ := h
       refine Chain.callL (d := 57) (p19 N r25 a1.Mode r34 hr34) (by simp) rfl rfl (by simp <;> rfl) (by simp <;> rfl) ent19 (by simp <;> rfl) ?_
       refine Chain.sub (S' := mk 104 [1000] [(0, .ptr 1000 0 0), (3, .ptr 3 0 0), (8, .i r25), (54, .i r25), (56, .i a1.Mode), (57, .i r34)] [(3, some (.box [.i a1.Tx, .d (.lit (.string a1.Table)), .d (.lit (.string a1.Key)), .i a1.Mode])), (1000, some (.box [.ref 25000 0 a0.granted.length, .ref 25001 0 a0.queue.length])), (25000, R29 a0.granted), (25001, R29 a0.queue)]) (by simp; exact Sub.table (by simp) (by simp)) ?_
       refine Chain.runK [] 2 fun K hK => ?_; simp; refine hK _ _ ?_; clear hK K
       refine Chain.sub (S' := mk 104 [1000] [(0, .ptr 1000 0 0), (3, .ptr 3 0 0), (8, .i r25)] [(3, some (.box [.i a1.Tx, .d (.lit (.string a1.Table)), .d (.lit (.string a1.Key)), .i r34])), (1000, some (.box [.ref 25000 0 a0.granted.length, .ref 25001 0 a0.queue.length])), (25000, R29 a0.granted), (25001, R29 a0.queue)]) Sub.tt ?_
       refine Chain.nil ?_
       cases h
       refine PostJ.next ?_
       exact Sub.tt
     ·have c31_ : decide (r25 > 0) = false := decide_eq_false c31
      refine AW.condF (b := decide (r25 > 0)) rfl c31_ ?_
      refine AW.sub (Sub.bool 49 (b := decide (r25 > 0)) rfl c31_) ?_
      refine AW.sub (S' := mk 104 [1000] [(0, .ptr 1000 0 0), (3, .ptr 3 0 0), (8, .i r25), (49, .b false)] [(3, some (.box [.i a1.Tx, .d (.lit (.string a1.Table)), .d (.lit (.string a1.Key)), .i a1.Mode])), (1000, some (.box [.ref 25000 0 a0.granted.length, .ref 25001 0 a0.queue.length])), (25000, R29 a0.granted), (25001, R29 a0.queue)]) (by simp; exact Sub.table (by simp) (by simp)) ?_
      refine AW.skip ?_
      cases h
      refine PostJ.next ?_
      exact Sub.tt
    ·rintro v30 h
     refine thenQ_normal ?_
     refine AW.seq ?_
     replace h := bsome h; obtain ⟨v37, hj, h⟩ := h
     refine AW.cutQ (by kernel_rfl) (by kernel_rfl) (mk 104 [1000] [(0, .ptr 1000 0 0), (3, .ptr 3 0 0), (74, .b v37)] [(3, some (.box [.i a1.Tx, .d (.lit (.string a1.Table)), .d (.lit (.string a1.Key)), .i v30])), (1000, some (.box [.ref 25000 0 a0.granted.length, .ref 25001 0 a0.queue.length])), (25000, R29 a0.granted), (25001, R29 a0.queue)]) ?_ ?_
     ·clear h; have h := hj; clear hj
      refine Chain.runQ 3 fun K hK => ?_; simp; refine hK _ _ ?_; clear hK K
      refine Chain.sub (S' := mk 104 [1000] [(0, .ptr 1000 0 0), (3, .ptr 3 0 0), (61, .b (r25 == 0))] [(3, some (.box [.i a1.Tx, .d (.lit (.string a1.Table)), .d (.lit (.string a1.Key)), .i v30])), (1000, some (.box [.ref 25000 0 a0.granted.length, .ref 25001 0 a0.queue.length])), (25000, R29 a0.granted), (25001, R29 a0.queue)]) Sub.tt ?_
      replace h := isome h; rcases h with ⟨c38, h⟩ | ⟨c38, h⟩
      ·have c38_ : (r25 == 0) = true := c38
       refine Chain.sub (Sub.bool 61 (b := (r25 == 0)) rfl c38_) ?_
       refine Chain.sub (S' := mk 104 [1000] [(0, .ptr 1000 0 0), (3, .ptr 3 0 0), (61, .b true)] [(3, some (.box [.i a1.Tx, .d (.lit (.string a1.Table)), .d (.lit (.string a1.Key)), .i v30])), (1000, some (.box [.ref 25000 0 a0.granted.length, .ref 25001 0 a0.queue.length])), (25000, R29 a0.granted), (25001, R29 a0.queue)]) (by simp; exact Sub.table (by simp) (by simp)) ?_
       replace h := bsome h; obtain ⟨v39, hv39, h⟩ := h
       have hv39 := chkI_some hv39
       refine Chain.runQ 13 fun K hK => ?_; simp [hv39]; refine hK _ _ ?_; clear hK K
       refine Chain.sub (S' := mk 104 [1000] [(0, .ptr 1000 0 0), (3, .ptr 3 0 0), (74, .b (decide (v39 ≥ 200)))] [(3, some (.box [.i a1.Tx, .d (.lit (.string a1.Table)), .d (.lit (.string a1.Key)), .i v30])), (1000, some (.box [.ref 25000 0 a0.granted.length, .ref 25001 0 a0.queue.length])), (25000, R29 a0.granted), (25001, R29 a0.queue)]) Sub.tt ?_
       cases h
       exact Chain.nil Sub.tt
      ·have c38_ : (r25 == 0) = false := Bool.eq_false_iff.2 c38
       refine Chain.sub (Sub.bool 61 (b := (r25 == 0)) rfl c38_) ?_
       refine Chain.sub (S' := mk 104 [1000] [(0, .ptr 1000 0 0), (3, .ptr 3 0 0), (61, .b false)] [(3, some (.box [.i a1.Tx, .d (.lit (.string a1.Table)), .d (.lit (.string a1.Key)), .i v30])), (1000, some (.box [.ref 25000 0 a0.granted.length, .ref 25001 0 a0.queue.length])), (25000, R29 a0.granted), (25001, R29 a0.queue)]) (by simp; exact Sub.table (by simp) (by simp)) ?_
       refine Chain.runQ 13 fun K hK => ?_; simp; refine hK _ _ ?_; clear hK K
       refine Chain.sub (S' := mk 104 [1000] [(0, .ptr 1000 0 0), (3, .ptr 3 0 0), (74, .b false)] [(3, some (.box [.i a1.Tx, .d (.lit (.string a1.Table)), .d (.lit (.string a1.Key)), .i v30])), (1000, some (.box [.ref 25000 0 a0.granted.length, .ref 25001 0 a0.queue.length])), (25000, R29 a0.granted), (25001, R29 a0.queue)]) Sub.tt ?_
       cases h
       exact Chain.nil Sub.tt
     ·clear hj
      replace h := isome h; rcases h with ⟨c40, h⟩ | ⟨c40, h⟩
      ·have c40_ : v37 = true := c40
       refine AW.condT (b := v37) rfl c40_ ?_
       refine AW.sub (Sub.bool 74 (b := v37) rfl c40_) ?_
       refine AW.sub (S' := mk 104 [1000] [(0, .ptr 1000 0 0), (3, .ptr 3 0 0), (74, .b true)] [(3, some (.box [.i a1.Tx, .d (.lit (.string a1.Table)), .d (.lit (.string a1.Key)), .i v30])), (1000, some (.box [.ref 25000 0 a0.granted.length, .ref 25001 0 a0.queue.length])), (25000, R29 a0.granted), (25001, R29 a0.queue)]) (by simp; exact Sub.table (by simp) (by simp)) ?_
       refine AW.seqR ?_
       refine Chain.runK [] 1 fun K hK => ?_; simp; refine hK _ _ ?_; clear hK K
       refine Chain.sub (S' := mk 104 [1000] [(4, .i 18)] [(1000, some (.box [.ref 25000 0 a0.granted.length, .ref 25001 0 a0.queue.length])), (25000, R29 a0.granted), (25001, R29 a0.queue)]) Sub.tt ?_
       refine Chain.nil ?_
       refine AW.ret ?_
       cases h
       refine thenQ_pass (by simp) ?_
       exact FinF.ret (by simp) (by simp)
      ·have c40_ : v37 = false := Bool.eq_false_iff.2 c40
       refine AW.condF (b := v37) rfl c40_ ?_
       refine AW.sub (Sub.bool 74 (b := v37) rfl c40_) ?_
       refine AW.sub (S' := mk 104 [1000] [(0, .ptr 1000 0 0), (3, .ptr 3 0 0), (74, .b false)] [(3, some (.box [.i a1.Tx, .d (.lit (.string a1.Table)), .d (.lit (.string a1.Key)), .i v30])), (1000, some (.box [.ref 25000 0 a0.granted.length, .ref 25001 0 a0.queue.length])), (25000, R29 a0.granted), (25001, R29 a0.queue)]) (by simp; exact Sub.table (by simp) (by simp)) ?_
       refine AW.skip ?_
       refine thenQ_normal ?_
       refine AW.seqT 7 (by kernel_rfl) (by kernel_rfl) fun K hK => ?_; simp; refine hK _ _ ?_; clear hK K
       refine Chain.sub (S' := mk 104 [1000] [(0, .ptr 1000 0 0), (3, .ptr 3 0 0), (75, .ptr 1000 0 0), (76, .agg [.i a1.Tx, .d (.lit (.string a1.Table)), .d (.lit (.string a1.Key)), .i v30]), (81, .i (a0.queue.length : Int))] [(3, some (.box [.i a1.Tx, .d (.lit (.string a1.Table)), .d (.lit (.string a1.Key)), .i v30])), (1000, some (.box [.ref 25000 0 a0.granted.length, .ref 25001 0 a0.queue.length])), (25000, R29 a0.granted), (25001, R29 a0.queue)]) Sub.tt ?_
       replace h := bsome h; obtain ⟨r41, hr41, h⟩ := h
       refine Chain.callOF (d := 82) (p20 N a0 (S29.mk a1.Tx a1.Table a1.Key v30) (a0.queue.length : Int) r41 hr41) (by simp) rfl rfl (by simp <;> rfl) (by simp <;> rfl) ent20 (by simp) (fun r h => flat_of_ren r h) (flat_map (by simp [cI]) _) ?_
       refine Chain.sub (S' := mk 104 [1000] [(0, .ptr 1000 0 0), (3, .ptr 3 0 0), (75, .ptr 1000 0 0), (76, .agg [.i a1.Tx, .d (.lit (.string a1.Table)), .d (.lit (.string a1.Key)), .i v30]), (81, .i (a0.queue.length : Int)), (82, .ref 82 0 r41.length)] [(3, some (.box [.i a1.Tx, .d (.lit (.string a1.Table)), .d (.lit (.string a1.Key)), .i v30])), (82, R3 r41), (1000, some (.box [.ref 25000 0 a0.granted.length, .ref 25001 0 a0.queue.length])), (25000, R29 a0.granted), (25001, R29 a0.queue)]) (by simp; exact Sub.table (by simp) (by simp)) ?_
       refine Chain.runK [] 1 fun K hK => ?_; simp; refine hK _ _ ?_; clear hK K
       refine Chain.sub (S' := mk 104 [1000] [(0, .ptr 1000 0 0), (3, .ptr 3 0 0), (9, .ref 82 0 r41.length)] [(3, some (.box [.i a1.Tx, .d (.lit (.string a1.Table)), .d (.lit (.string a1.Key)), .i v30])), (82, R3 r41), (1000, some (.box [.ref 25000 0 a0.granted.length, .ref 25001 0 a0.queue.length])), (25000, R29 a0.granted), (25001, R29 a0.queue)]) Sub.tt ?_
       refine Chain.nil ?_
       refine AW.seq ?_
       refine AW.seqR ?_
       refine Chain.runK [] 3 fun K hK => ?_; simp; refine hK _ _ ?_; clear hK K
       refine Chain.sub (S' := mk 104 [1000] [(0, .ptr 1000 0 0), (3, .ptr 3 0 0), (9, .ref 82 0 r41.length), (85, .b ((r41.length : Int) == 0))] [(3, some (.box [.i a1.Tx, .d (.lit (.string a1.Table)), .d (.lit (.string a1.Key)), .i v30])), (82, R3 r41), (1000, some (.box [.ref 25000 0 a0.granted.length, .ref 25001 0 a0.queue.length])), (25000, R29 a0.granted), (25001, R29 a0.queue)]) Sub.tt ?_
       refine Chain.nil ?_
       replace h := isome h; rcases h with ⟨c42, h⟩ | ⟨c42, h⟩
       ·have c42_ : ((r41.length : Int) == 0) = true := c42
        refine AW.condT (b := ((r41.length : Int) == 0)) rfl c42_ ?_
        refine AW.sub (Sub.bool 85 (b := ((r41.length : Int) == 0)) rfl c42_) ?_
        refine AW.sub (S' := mk 104 [1000] [(0, .ptr 1000 0 0), (3, .ptr 3 0 0), (9, .ref 82 0 r41.length), (85, .b true)] [(3, some (.box [.i a1.Tx, .d (.lit (.string a1.Table)), .d (.lit (.string a1.Key)), .i v30])), (82, R3 r41), (1000, some (.box [.ref 25000 0 a0.granted.length, .ref 25001 0 a0.queue.length])), (25000, R29 a0.granted), (25001, R29 a0.queue)]) (by simp; exact Sub.table (by simp) (by simp)) ?_
        refine AW.seqR ?_
        refine Chain.runK [] 2 fun K hK => ?_; simp; refine hK _ _ ?_; clear hK K
        refine Chain.sub (S' := mk 104 [1000] [(86, .ptr 1000 0 0), (87, .agg [.i a1.Tx, .d (.lit (.string a1.Table)), .d (.lit (.string a1.Key)), .i v30])] [(1000, some (.box [.ref 25000 0 a0.granted.length, .ref 25001 0 a0.queue.length])), (25000, R29 a0.granted), (25001, R29 a0.queue)]) Sub.tt ?_
        replace h := bsome h; obtain ⟨r43, hr43, h⟩ := h
        refine Chain.callF (p21 N a0 (S29.mk a1.Tx a1.Table a1.Key v30) r43 hr43) [(1000, 1000), (25000, 25000), (25001, 25001)] [1000] [(1000, 1000), (25000, 25000), (25001, 25001)] [(1000, (.box [.ref 25000 0 r43.granted.length, .ref 25001 0 r43.queue.length])), (25000, (.arr 29 4 (r43.granted.map cS29))), (25001, (.arr 29 4 (r43.queue.map cS29)))] (.tup []) (by simp) rfl (by simp <;> rfl) (by simp) (by simp) (by simp) (by simp) (by simp) ent21 (by simp) (by simp) (by simp) (by simp) (by simp) (by simp) ?_
        refine Chain.sub (S' := mk 104 [1000] [(86, .ptr 1000 0 0), (87, .agg [.i a1.Tx, .d (.lit (.string a1.Table)), .d (.lit (.string a1.Key)), .i v30]), (88, .tup [])] [(1000, some (.box [.ref 25000 0 r43.granted.length, .ref 25001 0 r43.queue.length])), (25000, R29 r43.granted), (25001, R29 r43.queue)]) (by simp; exact Sub.table (by simp) (by simp)) ?_
        refine Chain.nil ?_
        refine AW.seqR ?_
        refine Chain.runK [] 1 fun K hK => ?_; simp; refine hK _ _ ?_; clear hK K
        refine Chain.sub (S' := mk 104 [1000] [(4, .i 0)] [(1000, some (.box [.ref 25000 0 r43.granted.length, .ref 25001 0 r43.queue.length])), (25000, R29 r43.granted), (25001, R29 r43.queue)]) Sub.tt ?_
        refine Chain.nil ?_
        refine AW.ret ?_
        cases h
        refine thenQ_pass (by simp) ?_
        exact FinF.ret (by simp) (by simp)
       ·have c42_ : ((r41.length : Int) == 0) = false := Bool.eq_false_iff.2 c42
        refine AW.condF (b := ((r41.length : Int) == 0)) rfl c42_ ?_
        refine AW.sub (Sub.bool 85 (b := ((r41.length : Int) == 0)) rfl c42_) ?_
        refine AW.sub (S' := mk 104 [1000] [(0, .ptr 1000 0 0), (3, .ptr 3 0 0), (9, .ref 82 0 r41.length), (85, .b false)] [(3, some (.box [.i a1.Tx, .d (.lit (.string a1.Table)), .d (.lit (.string a1.Key)), .i v30])), (82, R3 r41), (1000, some (.box [.ref 25000 0 a0.granted.length, .ref 25001 0 a0.queue.length])), (25000, R29 a0.granted), (25001, R29 a0.queue)]) (by simp; exact Sub.table (by simp) (by simp)) ?_
        refine AW.skip ?_
        refine thenQ_normal ?_
        refine AW.seq ?_
        refine AW.seqR ?_
        refine Chain.runK [] 4 fun K hK => ?_; simp; refine hK _ _ ?_; clear hK K
        refine Chain.sub (S' := mk 104 [1000] [(0, .ptr 1000 0 0), (3, .ptr 3 0 0), (89, .ptr 1000 0 0), (90, .ref 82 0 r41.length), (92, .i a1.Tx)] [(3, some (.box [.i a1.Tx, .d (.lit (.string a1.Table)), .d (.lit (.string a1.Key)), .i v30])), (82, R3 r41), (1000, some (.box [.ref 25000 0 a0.granted.length, .ref 25001 0 a0.queue.length])), (25000, R29 a0.granted), (25001, R29 a0.queue)]) Sub.tt ?_
        replace h := bsome h; obtain ⟨r44, hr44, h⟩ := h
        refine Chain.callL (d := 93) (p22 N a0 r41 a1.Tx r44 hr44) (by simp) rfl rfl (by simp <;> rfl) (by simp <;> rfl) ent22 (by simp <;> rfl) ?_
        refine Chain.sub (S' := mk 104 [1000] [(0, .ptr 1000 0 0), (3, .ptr 3 0 0), (89, .ptr 1000 0 0), (90, .ref 82 0 r41.length), (92, .i a1.Tx), (93, .b r44)] [(3, some (.box [.i a1.Tx, .d (.lit (.string a1.Table)), .d (.lit (.string a1.Key)), .i v30])), (82, R3 r41), (1000, some (.box [.ref 25000 0 a0.granted.length, .ref 25001 0 a0.queue.length])), (25000, R29 a0.granted), (25001, R29 a0.queue)]) (by simp; exact Sub.table (by simp) (by simp)) ?_
        refine Chain.nil ?_
        replace h := isome h; rcases h with ⟨c45, h⟩ | ⟨c45, h⟩
        ·have c45_ : r44 = true := c45
         refine AW.condT (b := r44) rfl c45_ ?_
         refine AW.sub (Sub.bool 93 (b := r44) rfl c45_) ?_
         refine AW.sub (S' := mk 104 [1000] [(0, .ptr 1000 0 0), (3, .ptr 3 0 0), (89, .ptr 1000 0 0), (90, .ref 82 0 r41.length), (92, .i a1.Tx), (93, .b true)] [(3, some (.box [.i a1.Tx, .d (.lit (.string a1.Table)), .d (.lit (.string a1.Key)), .i v30])), (82, R3 r41), (1000, some (.box [.ref 25000 0 a0.granted.length, .ref 25001 0 a0.queue.length])), (25000, R29 a0.granted), (25001, R29 a0.queue)]) (by simp; exact Sub.table (by simp) (by simp)) ?_
         refine AW.seqR ?_
         refine Chain.runK [] 1 fun K hK => ?_; simp; refine hK _ _ ?_; clear hK K
         refine Chain.sub (S' := mk 104 [1000] [(4, .i 14)] [(1000, some (.box [.ref 25000 0 a0.granted.length, .ref 25001 0 a0.queue.length])), (25000, R29 a0.granted), (25001, R29 a0.queue)]) Sub.tt ?_
         refine Chain.nil ?_
         refine AW.ret ?_
         cases h
         refine thenQ_pass (by simp) ?_
         exact FinF.ret (by simp) (by simp)
        ·have c45_ : r44 = false := Bool.eq_false_iff.2 c45
         refine AW.condF (b := r44) rfl c45_ ?_
         refine AW.sub (Sub.bool 93 (b := r44) rfl c45_) ?_
         refine AW.sub (S' := mk 104 [1000] [(0, .ptr 1000 0 0), (3, .ptr 3 0 0), (89, .ptr 1000 0 0), (90, .ref 82 0 r41.length), (92, .i a1.Tx), (93, .b false)] [(3, some (.box [.i a1.Tx, .d (.lit (.string a1.Table)), .d (.lit (.string a1.Key)), .i v30])), (82, R3 r41), (1000, some (.box [.ref 25000 0 a0.granted.length, .ref 25001 0 a0.queue.length])), (25000, R29 a0.granted), (25001, R29 a0.queue)]) (by simp; exact Sub.table (by simp) (by simp)) ?_
         refine AW.skip ?_
         refine thenQ_normal ?_
         replace h := bsome h; obtain ⟨l46, hl46, h⟩ := h
         obtain ⟨hl46a, hl46⟩ := appL_some hl46
         subst hl46
         try simp only [List.length_cons, List.length_nil, Nat.zero_add] at hl46a
         refine AW.seqAnyS [[], [], [1], [1, 2], [1, 2, 3], [], [5], [1, 2, 3, 4, 5, 6], [0, 1, 2, 3, 4, 5, 6, 7], [0, 1, 2, 3, 4, 5, 6, 7, 8], [0, 1, 2, 3, 4, 5, 6, 7, 8, 9]] (fun (b : Nat → Bool) => mk 104 [1000] [(0, .ptr 1000 0 0), (3, .ptr 3 0 0), (94, (if b 0 then .ptr 1000 0 0 else .junk)), (95, (if b 1 then .ptr 1000 0 0 else .junk)), (96, (if b 2 then .ptr 1000 0 0 else .junk)), (97, (if b 3 then .ptr 1000 0 1 else .junk)), (98, (if b 7 then .junk else (if b 4 then .ref 25001 0 a0.queue.length else .junk))), (99, (if b 5 then .agg [.i a1.Tx, .d (.lit (.string a1.Table)), .d (.lit (.string a1.Key)), .i v30] else .junk)), (100, (if b 6 then .d (.sl ([(S29.mk a1.Tx a1.Table a1.Key v30)].map cS29)) else .junk)), (101, (if b 7 then .ref 25001 0 ((a0.queue ++ [(S29.mk a1.Tx a1.Table a1.Key v30)]).length) else .junk)), (102, (if b 8 then .ptr 1000 0 0 else .junk)), (103, (if b 9 then .ptr 1000 0 1 else .junk))] [(3, some (.box [.i a1.Tx, .d (.lit (.string a1.Table)), .d (.lit (.string a1.Key)), .i v30])), (1000, (if b 10 then some (.box [.ref 25000 0 a0.granted.length, .ref 25001 0 ((a0.queue ++ [(S29.mk a1.Tx a1.Table a1.Key v30)]).length)]) else (if b 7 then some (.box [.ref 25000 0 a0.granted.length, .hole]) else some (.box [.ref 25000 0 a0.granted.length, .ref 25001 0 a0.queue.length])))), (25000, R29 a0.granted), (25001, (if b 7 then R29 (a0.queue ++ [(S29.mk a1.Tx a1.Table a1.Key v30)]) else R29 a0.queue))]) (mk 104 [1000] [] [(1000, some (.box [.ref 25000 0 a0.granted.length, .ref 25001 0 ((a0.queue ++ [(S29.mk a1.Tx a1.Table a1.Key v30)]).length)])), (25000, R29 a0.granted), (25001, R29 (a0.queue ++ [(S29.mk a1.Tx a1.Table a1.Key v30)]))]) (by kernel_rfl) (by kernel_rfl) Sub.tt (Steps.cons ?_ (Steps.cons ?_ (Steps.cons ?_ (Steps.cons ?_ (Steps.cons ?_ (Steps.cons ?_ (Steps.cons ?_ (Steps.cons ?_ (Steps.cons ?_ (Steps.cons ?_ (Steps.cons ?_ (Steps.nil)))))))))))) ?_ ?_
         ·intro b h0 ha hd
          have f8 : b 8 = false := hd 8 (by decide)
          have f9 : b 9 = false := hd 9 (by decide)
          have f10 : b 10 = false := hd 10 (by decide)
          refine Chain.runK [100] 1 fun K hK => ?_; simp [h0, f8, f9, f10]; refine hK _ _ ?_; clear hK K
          exact Chain.nil (Sub.table (by simp [f8, f9]) (by simp [f10]))
         ·intro b h0 ha hd
          have f2 : b 2 = false := hd 2 (by decide)
          have f3 : b 3 = false := hd 3 (by decide)
          have f4 : b 4 = false := hd 4 (by decide)
          have f7 : b 7 = false := hd 7 (by decide)
          have f8 : b 8 = false := hd 8 (by decide)
          have f9 : b 9 = false := hd 9 (by decide)
          have f10 : b 10 = false := hd 10 (by decide)
          refine Chain.runK [100] 1 fun K hK => ?_; simp [h0, f2, f3, f4, f7, f8, f9, f10]; refine hK _ _ ?_; clear hK K
          exact Chain.nil (Sub.table (by simp [f2, f3, f4, f7, f8, f9]) (by simp [f7, f10]))
         ·intro b h0 ha hd
          have t1 : b 1 = true := ha 1 (by decide)
          have f3 : b 3 = false := hd 3 (by decide)
          have f4 : b 4 = false := hd 4 (by decide)
          have f7 : b 7 = false := hd 7 (by decide)
          have f8 : b 8 = false := hd 8 (by decide)
          have f9 : b 9 = false := hd 9 (by decide)
          have f10 : b 10 = false := hd 10 (by decide)
          refine Chain.runK [100] 1 fun K hK => ?_; simp [h0, t1, f3, f4, f7, f8, f9, f10]; refine hK _ _ ?_; clear hK K
          exact Chain.nil (Sub.table (by simp [t1, f3, f4, f7, f8, f9]) (by simp [f7, f10]))
         ·intro b h0 ha hd
          have t1 : b 1 = true := ha 1 (by decide)
          have t2 : b 2 = true := ha 2 (by decide)
          have f4 : b 4 = false := hd 4 (by decide)
          have f7 : b 7 = false := hd 7 (by decide)
          have f8 : b 8 = false := hd 8 (by decide)
          have f9 : b 9 = false := hd 9 (by decide)
          have f10 : b 10 = false := hd 10 (by decide)
          refine Chain.runK [100] 1 fun K hK => ?_; simp [h0, t1, t2, f4, f7, f8, f9, f10]; refine hK _ _ ?_; clear hK K
          exact Chain.nil (Sub.table (by simp [t1, t2, f4, f7, f8, f9]) (by simp [f7, f10]))
         ·intro b h0 ha hd
          have t1 : b 1 = true := ha 1 (by decide)
          have t2 : b 2 = true := ha 2 (by decide)
          have t3 : b 3 = true := ha 3 (by decide)
          have f7 : b 7 = false := hd 7 (by decide)
          have f8 : b 8 = false := hd 8 (by decide)
          have f9 : b 9 = false := hd 9 (by decide)
          have f10 : b 10 = false := hd 10 (by decide)
          refine Chain.runK [100] 1 fun K hK => ?_; simp [h0, t1, t2, t3, f7, f8, f9, f10]; refine hK _ _ ?_; clear hK K
          exact Chain.nil (Sub.table (by simp [t1, t2, t3, f7, f8, f9]) (by simp [f7, f10]))
         ·intro b h0 ha hd
          have f6 : b 6 = false := hd 6 (by decide)
          have f7 : b 7 = false := hd 7 (by decide)
          have f8 : b 8 = false := hd 8 (by decide)
          have f9 : b 9 = false := hd 9 (by decide)
          have f10 : b 10 = false := hd 10 (by decide)
          refine Chain.runK [100] 1 fun K hK => ?_; simp [h0, f6, f7, f8, f9, f10]; refine hK _ _ ?_; clear hK K
          exact Chain.nil (Sub.table (by simp [f6, f7, f8, f9]) (by simp [f7, f10]))
         ·intro b h0 ha hd
          have t5 : b 5 = true := ha 5 (by decide)
          have f7 : b 7 = false := hd 7 (by decide)
          have f8 : b 8 = false := hd 8 (by decide)
          have f9 : b 9 = false := hd 9 (by decide)
          have f10 : b 10 = false := hd 10 (by decide)
          refine Chain.runK [100] 1 fun K hK => ?_; simp [h0, t5, f7, f8, f9, f10]; refine hK _ _ ?_; clear hK K
          exact Chain.nil (Sub.table (by simp [t5, f7, f8, f9]) (by simp [f7, f10]))
         ·intro b h0 ha hd
          have t1 : b 1 = true := ha 1 (by decide)
          have t2 : b 2 = true := ha 2 (by decide)
          have t3 : b 3 = true := ha 3 (by decide)
          have t4 : b 4 = true := ha 4 (by decide)
          have t5 : b 5 = true := ha 5 (by decide)
          have t6 : b 6 = true := ha 6 (by decide)
          have f8 : b 8 = false := hd 8 (by decide)
          have f9 : b 9 = false := hd 9 (by decide)
          have f10 : b 10 = false := hd 10 (by decide)
          refine Chain.runK [100] 1 fun K hK => ?_; simp [h0, t1, t2, t3, t4, t5, t6, f8, f9, f10, hl46a]; refine hK _ _ ?_; clear hK K
          exact Chain.nil (Sub.table (by simp [t1, t2, t3, t5, t6, f8, f9]) (by simp [f10]))
         ·intro b h0 ha hd
          have t0 : b 0 = true := ha 0 (by decide)
          have t1 : b 1 = true := ha 1 (by decide)
          have t2 : b 2 = true := ha 2 (by decide)
          have t3 : b 3 = true := ha 3 (by decide)
          have t4 : b 4 = true := ha 4 (by decide)
          have t5 : b 5 = true := ha 5 (by decide)
          have t6 : b 6 = true := ha 6 (by decide)
          have t7 : b 7 = true := ha 7 (by decide)
          have f9 : b 9 = false := hd 9 (by decide)
          have f10 : b 10 = false := hd 10 (by decide)
          refine Chain.runK [100] 1 fun K hK => ?_; simp [h0, t0, t1, t2, t3, t5, t6, t7, f9, f10]; refine hK _ _ ?_; clear hK K
          exact Chain.nil (Sub.table (by simp [t0, t1, t2, t3, t5, t6, t7, f9]) (by simp [t7, f10]))
         ·intro b h0 ha hd
          have t0 : b 0 = true := ha 0 (by decide)
          have t1 : b 1 = true := ha 1 (by decide)
          have t2 : b 2 = true := ha 2 (by decide)
          have t3 : b 3 = true := ha 3 (by decide)
          have t4 : b 4 = true := ha 4 (by decide)
          have t5 : b 5 = true := ha 5 (by decide)
          have t6 : b 6 = true := ha 6 (by decide)
          have t7 : b 7 = true := ha 7 (by decide)
          have t8 : b 8 = true := ha 8 (by decide)
          have f10 : b 10 = false := hd 10 (by decide)
          refine Chain.runK [100] 1 fun K hK => ?_; simp [h0, t0, t1, t2, t3, t5, t6, t7, t8, f10]; refine hK _ _ ?_; clear hK K
          exact Chain.nil (Sub.table (by simp [t0, t1, t2, t3, t5, t6, t7, t8]) (by simp [t7, f10]))
         ·intro b h0 ha hd
          have t0 : b 0 = true := ha 0 (by decide)
          have t1 : b 1 = true := ha 1 (by decide)
          have t2 : b 2 = true := ha 2 (by decide)
          have t3 : b 3 = true := ha 3 (by decide)
          have t4 : b 4 = true := ha 4 (by decide)
          have t5 : b 5 = true := ha 5 (by decide)
          have t6 : b 6 = true := ha 6 (by decide)
          have t7 : b 7 = true := ha 7 (by decide)
          have t8 : b 8 = true := ha 8 (by decide)
          have t9 : b 9 = true := ha 9 (by decide)
          refine Chain.runK [100] 1 fun K hK => ?_; simp [h0, t0, t1, t2, t3, t5, t6, t7, t8, t9]; refine hK _ _ ?_; clear hK K
          exact Chain.nil (Sub.table (by simp [t0, t1, t2, t3, t5, t6, t7, t8, t9]) (by simp [t7]))
         ·intro b hb
          have t0 := hb 0 (by decide)
          have t1 := hb 1 (by decide)
          have t2 := hb 2 (by decide)
          have t3 := hb 3 (by decide)
          have t4 := hb 4 (by decide)
          have t5 := hb 5 (by decide)
          have t6 := hb 6 (by decide)
          have t7 := hb 7 (by decide)
          have t8 := hb 8 (by decide)
          have t9 := hb 9 (by decide)
          have t10 := hb 10 (by decide)
          exact Sub.table (by simp [t0, t1, t2, t3, t5, t6, t7, t8, t9]) (by simp [t7, t10])
         ·skip
          refine AW.seqR ?_
          refine Chain.runK [] 1 fun K hK => ?_; simp; refine hK _ _ ?_; clear hK K
          refine Chain.sub (S' := mk 104 [1000] [(4, .i 16)] [(1000, some (.box [.ref 25000 0 a0.granted.length, .ref 25001 0 ((a0.queue ++ [(S29.mk a1.Tx a1.Table a1.Key v30)]).length)])), (25000, R29 a0.granted), (25001, R29 (a0.queue ++ [(S29.mk a1.Tx a1.Table a1.Key v30)]))]) Sub.tt ?_
          refine Chain.nil ?_
          refine AW.ret ?_
          cases h
          exact FinF.ret (by simp) (by simp)

/-- stemma/stemlaw5.arg -/
def d6 (_N : Nat) (a0 : (List Int)) (a1 : Int) : Option Int :=
 if a1 < (a0.length : Int) then (
  (idx a0 a1).bind fun x2 =>
  some x2
 ) else
 some 0
set_option maxRecDepth 100000 in
set_option maxHeartbeats 4000000 in
theorem p6 (N : Nat) (a0 : (List Int)) (a1 : Int) (r : Int) (h : d6 N a0 a1 = some r) : FunC Try.prog 6 [.d (.sl (a0.map (cI .i64))), .i a1] (.i r) := by
 unfold d6 at h
 refine FunC.enter 13 [(0, .d (.sl (a0.map (cI .i64)))), (1, .i a1)] (by simp) Try.func6 rfl (of_decide_eq_true rfl) rfl rfl ?_
 refine AW.seqR ?_
 refine Chain.runK [] 1 fun K hK => ?_; simp; refine hK _ _ ?_; clear hK K
 refine Chain.sub (S' := mk 13 [] [(0, .d (.sl (a0.map (cI .i64)))), (1, .i a1)] []) Sub.tt ?_
 refine Chain.nil ?_
 refine AW.seq ?_
 refine AW.seqR ?_
 refine Chain.runK [] 4 fun K hK => ?_; simp; refine hK _ _ ?_; clear hK K
 refine Chain.sub (S' := mk 13 [] [(0, .d (.sl (a0.map (cI .i64)))), (1, .i a1), (8, .b (decide (a1 < (a0.length : Int))))] []) Sub.tt ?_
 refine Chain.nil ?_
 replace h := isome h; rcases h with ⟨c1, h⟩ | ⟨c1, h⟩
 ·have c1_ : decide (a1 < (a0.length : Int)) = true := decide_eq_true c1
  refine AW.condT (b := decide (a1 < (a0.length : Int))) rfl c1_ ?_
  refine AW.sub (Sub.bool 8 (b := decide (a1 < (a0.length : Int))) rfl c1_) ?_
  refine AW.sub (S' := mk 13 [] [(0, .d (.sl (a0.map (cI .i64)))), (1, .i a1), (8, .b true)] []) (by simp; exact Sub.table (by simp) (by simp)) ?_
  refine AW.seqR ?_
  replace h := bsome h; obtain ⟨x2, hx2, h⟩ := h
  obtain ⟨k3, hx2k, hx2, hx2a, hx2b⟩ := idx_some hx2
  refine Chain.runK [] 5 fun K hK => ?_; simp [hx2, hx2k, hx2a]; refine hK _ _ ?_; clear hK K
  refine Chain.sub (S' := mk 13 [] [(4, .i x2)] []) Sub.tt ?_
  refine Chain.nil ?_
  refine AW.ret ?_
  cases h
  refine thenQ_pass (by simp) ?_
  exact FinC.ret (by simp) (by simp)
 ·have c1_ : decide (a1 < (a0.length : Int)) = false := decide_eq_false c1
  refine AW.condF (b := decide (a1 < (a0.length : Int))) rfl c1_ ?_
  refine AW.sub (Sub.bool 8 (b := decide (a1 < (a0.length : Int))) rfl c1_) ?_
  refine AW.sub (S' := mk 13 [] [(0, .d (.sl (a0.map (cI .i64)))), (1, .i a1), (8, .b false)] []) (by simp; exact Sub.table (by simp) (by simp)) ?_
  refine AW.skip ?_
  refine thenQ_normal ?_
  refine AW.seqR ?_
  refine Chain.runK [] 1 fun K hK => ?_; simp; refine hK _ _ ?_; clear hK K
  refine Chain.sub (S' := mk 13 [] [(4, .i 0)] []) Sub.tt ?_
  refine Chain.nil ?_
  refine AW.ret ?_
  cases h
  exact FinC.ret (by simp) (by simp)

end Go.Proofs.Ytdiekinmoklonaa
