/- Functions of the program as functional programs; the code computes them. -/
import Derived.Test.YtdiekinmoklonaaLk8
namespace Go.Proofs.Ytdiekinmoklonaa
open Go.Ab Go.Rp
attribute [-simp] List.all_eq_true Array.all_toList Array.all_eq_true

/-- (*stemma/stemref5.LockTable).Acquire -/
def d8 (N : Nat) (a0 : S33) (a1 : S29) : Option (S33 × Int) :=
 (d23 N a1).bind fun r1 =>
 if (r1 != 0) then (
  some (a0, r1)
 ) else
 bindO (β := Unit) (ρ := (S33 × Int)) (
  iterN (σ := Int) (ρ := (Out Unit (S33 × Int))) (fun (v7 : Int) =>
   if v7 < (a0.Queue.length : Int) then (
    (idx a0.Queue v7).bind fun x20 =>
    if (x20.Tx == a1.Tx) then (
     some (.inr (.ret (a0, 15)))
    ) else
    (chkI (v7 + 1)).bind fun v23 =>
    some (.inl v23)
   ) else
   some (.inr (.go ()))
  ) N 0
 ) fun (_ : Unit) =>
 Option.bind (α := Bool) (
  if (!decide (a1.Key = (ByteArray.mk #[]))) = true then (
   (d25 N a0 a1.Tx a1.Table (ByteArray.mk #[])).bind fun r30 =>
   (chkI (a1.Mode + 2)).bind fun v31 =>
   (d24 N r30 v31).bind fun r32 =>
   some (!r32)
  ) else
  some false
 ) fun (v28 : Bool) =>
 if v28 = true then (
  some (a0, 6)
 ) else
 (d25 N a0 a1.Tx a1.Table a1.Key).bind fun r34 =>
 (d24 N r34 a1.Mode).bind fun r35 =>
 if r35 = true then (
  some (a0, 0)
 ) else
 bindO (β := Int) (ρ := (S33 × Int)) (
  if r34 > 0 then (
   (d26 N r34 a1.Mode).bind fun r43 =>
   some (.go r43)
  ) else
  (chkI ((a0.Granted.length : Int) + (a0.Queue.length : Int))).bind fun v44 =>
  if v44 ≥ 200 then (
   some (.ret (a0, 18))
  ) else
  some (.go a1.Mode)
 ) fun (v41 : Int) =>
 (d27 N a0 (S29.mk a1.Tx a1.Table a1.Key v41) (a0.Queue.length : Int)).bind fun r46 =>
 if ((r46.length : Int) == 0) then (
  (d28 N a0 (S29.mk a1.Tx a1.Table a1.Key v41)).bind fun r48 =>
  some (r48, 0)
 ) else
 (d29 N a0 r46 a1.Tx).bind fun r49 =>
 if r49 = true then (
  some (a0, 14)
 ) else
 (appL 48 a0.Queue [(S29.mk a1.Tx a1.Table a1.Key v41)]).bind fun _l51 =>
 some ((S33.mk a0.Granted (a0.Queue ++ [(S29.mk a1.Tx a1.Table a1.Key v41)])), 16)
set_option maxRecDepth 100000 in
set_option maxHeartbeats 4000000 in
theorem p8 (N : Nat) (a0 : S33) (a1 : S29) (r : (S33 × Int)) (h : d8 N a0 a1 = some r) : FunM Try.prog 8 [.ptr 1000 0 0, .agg [.i a1.Tx, .d (.lit (.string a1.Table)), .d (.lit (.string a1.Key)), .i a1.Mode]] [(1000, some (.box [.ref 25000 0 a0.Granted.length, .ref 25001 0 a0.Queue.length])), (25000, R37 a0.Granted), (25001, R37 a0.Queue)] [1000] (.i r.2) ([(1000, (.box [.ref 25000 0 r.1.Granted.length, .ref 25001 0 r.1.Queue.length])), (25000, (.arr 37 4 (r.1.Granted.map cS29))), (25001, (.arr 37 4 (r.1.Queue.map cS29)))]) := by
 unfold d8 at h
 refine FunM.enter 109 [(0, .ptr 1000 0 0), (1, .agg [.i a1.Tx, .d (.lit (.string a1.Table)), .d (.lit (.string a1.Key)), .i a1.Mode])] Try.func8 rfl (of_decide_eq_true rfl) rfl rfl ?_
 refine AW.seqR ?_
 refine Chain.runK [] 2 fun K hK => ?_; simp; refine hK _ _ ?_; clear hK K
 refine Chain.sub (S' := mk 109 [1000] [(0, .ptr 1000 0 0), (3, .ptr 3 0 0)] [(3, some (.box [.i a1.Tx, .d (.lit (.string a1.Table)), .d (.lit (.string a1.Key)), .i a1.Mode])), (1000, some (.box [.ref 25000 0 a0.Granted.length, .ref 25001 0 a0.Queue.length])), (25000, R37 a0.Granted), (25001, R37 a0.Queue)]) Sub.tt ?_
 refine Chain.nil ?_
 refine AW.seq ?_
 refine AW.seqR ?_
 refine Chain.runK [] 1 fun K hK => ?_; simp; refine hK _ _ ?_; clear hK K
 refine Chain.sub (S' := mk 109 [1000] [(0, .ptr 1000 0 0), (3, .ptr 3 0 0), (10, .agg [.i a1.Tx, .d (.lit (.string a1.Table)), .d (.lit (.string a1.Key)), .i a1.Mode])] [(3, some (.box [.i a1.Tx, .d (.lit (.string a1.Table)), .d (.lit (.string a1.Key)), .i a1.Mode])), (1000, some (.box [.ref 25000 0 a0.Granted.length, .ref 25001 0 a0.Queue.length])), (25000, R37 a0.Granted), (25001, R37 a0.Queue)]) Sub.tt ?_
 replace h := bsome h; obtain ⟨r1, hr1, h⟩ := h
 refine Chain.callL (d := 11) (p23 N a1 r1 hr1) (by simp) rfl rfl (by simp <;> rfl) (by simp <;> rfl) ent23 (by simp <;> rfl) ?_
 refine Chain.sub (S' := mk 109 [1000] [(0, .ptr 1000 0 0), (3, .ptr 3 0 0), (10, .agg [.i a1.Tx, .d (.lit (.string a1.Table)), .d (.lit (.string a1.Key)), .i a1.Mode]), (11, .i r1)] [(3, some (.box [.i a1.Tx, .d (.lit (.string a1.Table)), .d (.lit (.string a1.Key)), .i a1.Mode])), (1000, some (.box [.ref 25000 0 a0.Granted.length, .ref 25001 0 a0.Queue.length])), (25000, R37 a0.Granted), (25001, R37 a0.Queue)]) (by simp; exact Sub.table (by simp) (by simp)) ?_
 refine Chain.runK [] 1 fun K hK => ?_; simp; refine hK _ _ ?_; clear hK K
 refine Chain.sub (S' := mk 109 [1000] [(0, .ptr 1000 0 0), (3, .ptr 3 0 0), (5, .i r1)] [(3, some (.box [.i a1.Tx, .d (.lit (.string a1.Table)), .d (.lit (.string a1.Key)), .i a1.Mode])), (1000, some (.box [.ref 25000 0 a0.Granted.length, .ref 25001 0 a0.Queue.length])), (25000, R37 a0.Granted), (25001, R37 a0.Queue)]) Sub.tt ?_
 refine Chain.nil ?_
 refine AW.seqR ?_
 refine Chain.runK [] 2 fun K hK => ?_; simp; refine hK _ _ ?_; clear hK K
 refine Chain.sub (S' := mk 109 [1000] [(0, .ptr 1000 0 0), (3, .ptr 3 0 0), (5, .i r1), (13, .b (r1 != 0))] [(3, some (.box [.i a1.Tx, .d (.lit (.string a1.Table)), .d (.lit (.string a1.Key)), .i a1.Mode])), (1000, some (.box [.ref 25000 0 a0.Granted.length, .ref 25001 0 a0.Queue.length])), (25000, R37 a0.Granted), (25001, R37 a0.Queue)]) Sub.tt ?_
 refine Chain.nil ?_
 replace h := isome h; rcases h with ⟨c2, h⟩ | ⟨c2, h⟩
 ·have c2_ : (r1 != 0) = true := c2
  refine AW.condT (b := (r1 != 0)) rfl c2_ ?_
  refine AW.sub (Sub.bool 13 (b := (r1 != 0)) rfl c2_) ?_
  refine AW.sub (S' := mk 109 [1000] [(0, .ptr 1000 0 0), (3, .ptr 3 0 0), (5, .i r1), (13, .b true)] [(3, some (.box [.i a1.Tx, .d (.lit (.string a1.Table)), .d (.lit (.string a1.Key)), .i a1.Mode])), (1000, some (.box [.ref 25000 0 a0.Granted.length, .ref 25001 0 a0.Queue.length])), (25000, R37 a0.Granted), (25001, R37 a0.Queue)]) (by simp; exact Sub.table (by simp) (by simp)) ?_
  refine AW.seqR ?_
  refine Chain.runK [] 2 fun K hK => ?_; simp; refine hK _ _ ?_; clear hK K
  refine Chain.sub (S' := mk 109 [1000] [(4, .i r1)] [(1000, some (.box [.ref 25000 0 a0.Granted.length, .ref 25001 0 a0.Queue.length])), (25000, R37 a0.Granted), (25001, R37 a0.Queue)]) Sub.tt ?_
  refine Chain.nil ?_
  refine AW.ret ?_
  cases h
  refine thenQ_pass (by simp) ?_
  exact FinF.ret (by simp) (by simp)
 ·have c2_ : (r1 != 0) = false := Bool.eq_false_iff.2 c2
  refine AW.condF (b := (r1 != 0)) rfl c2_ ?_
  refine AW.sub (Sub.bool 13 (b := (r1 != 0)) rfl c2_) ?_
  refine AW.sub (S' := mk 109 [1000] [(0, .ptr 1000 0 0), (3, .ptr 3 0 0), (5, .i r1), (13, .b false)] [(3, some (.box [.i a1.Tx, .d (.lit (.string a1.Table)), .d (.lit (.string a1.Key)), .i a1.Mode])), (1000, some (.box [.ref 25000 0 a0.Granted.length, .ref 25001 0 a0.Queue.length])), (25000, R37 a0.Granted), (25001, R37 a0.Queue)]) (by simp; exact Sub.table (by simp) (by simp)) ?_
  refine AW.skip ?_
  refine thenQ_normal ?_
  refine AW.seq ?_
  refine AW.seqR ?_
  refine Chain.runK [] 6 fun K hK => ?_; simp; refine hK _ _ ?_; clear hK K
  refine Chain.sub (S' := mk 109 [1000] [(0, .ptr 1000 0 0), (3, .ptr 3 0 0), (18, .ref 25001 0 a0.Queue.length), (19, .i (a0.Queue.length : Int)), (20, .i 0)] [(3, some (.box [.i a1.Tx, .d (.lit (.string a1.Table)), .d (.lit (.string a1.Key)), .i a1.Mode])), (1000, some (.box [.ref 25000 0 a0.Granted.length, .ref 25001 0 a0.Queue.length])), (25000, R37 a0.Granted), (25001, R37 a0.Queue)]) Sub.tt ?_
  refine Chain.nil ?_
  refine AW.lastJ (fun (_ : Unit) => mk 109 [1000] [(0, .ptr 1000 0 0), (3, .ptr 3 0 0)] [(3, some (.box [.i a1.Tx, .d (.lit (.string a1.Table)), .d (.lit (.string a1.Key)), .i a1.Mode])), (1000, some (.box [.ref 25000 0 a0.Granted.length, .ref 25001 0 a0.Queue.length])), (25000, R37 a0.Granted), (25001, R37 a0.Queue)]) h ?_ ?_ <;> clear h
  ·intro o h
   refine AW.block ?_
   refine AW.iter (fun (v7 : Int) => mk 109 [1000] [(0, .ptr 1000 0 0), (3, .ptr 3 0 0), (18, .ref 25001 0 a0.Queue.length), (19, .i (a0.Queue.length : Int)), (20, .i v7)] [(3, some (.box [.i a1.Tx, .d (.lit (.string a1.Table)), .d (.lit (.string a1.Key)), .i a1.Mode])), (1000, some (.box [.ref 25000 0 a0.Granted.length, .ref 25001 0 a0.Queue.length])), (25000, R37 a0.Granted), (25001, R37 a0.Queue)]) h Sub.tt ?_
   clear h
   rintro v7 x h
   refine AW.seqR ?_
   refine Chain.runK [] 1 fun K hK => ?_; simp; refine hK _ _ ?_; clear hK K
   refine Chain.sub (S' := mk 109 [1000] [(0, .ptr 1000 0 0), (3, .ptr 3 0 0), (18, .ref 25001 0 a0.Queue.length), (19, .i (a0.Queue.length : Int)), (20, .i v7), (21, .b (decide (v7 < (a0.Queue.length : Int))))] [(3, some (.box [.i a1.Tx, .d (.lit (.string a1.Table)), .d (.lit (.string a1.Key)), .i a1.Mode])), (1000, some (.box [.ref 25000 0 a0.Granted.length, .ref 25001 0 a0.Queue.length])), (25000, R37 a0.Granted), (25001, R37 a0.Queue)]) Sub.tt ?_
   refine Chain.nil ?_
   refine AW.seq ?_
   replace h := isome h; rcases h with ⟨c19, h⟩ | ⟨c19, h⟩
   ·have c19_ : decide (v7 < (a0.Queue.length : Int)) = true := decide_eq_true c19
    refine AW.condT (b := decide (v7 < (a0.Queue.length : Int))) rfl c19_ ?_
    refine AW.sub (Sub.bool 21 (b := decide (v7 < (a0.Queue.length : Int))) rfl c19_) ?_
    refine AW.sub (S' := mk 109 [1000] [(0, .ptr 1000 0 0), (3, .ptr 3 0 0), (18, .ref 25001 0 a0.Queue.length), (19, .i (a0.Queue.length : Int)), (20, .i v7), (21, .b true)] [(3, some (.box [.i a1.Tx, .d (.lit (.string a1.Table)), .d (.lit (.string a1.Key)), .i a1.Mode])), (1000, some (.box [.ref 25000 0 a0.Granted.length, .ref 25001 0 a0.Queue.length])), (25000, R37 a0.Granted), (25001, R37 a0.Queue)]) (by simp; exact Sub.table (by simp) (by simp)) ?_
    refine AW.skip ?_
    refine thenQ_normal ?_
    refine AW.seq ?_
    refine AW.block ?_
    refine AW.seqR ?_
    replace h := bsome h; obtain ⟨x20, hx20, h⟩ := h
    obtain ⟨k21, hx20k, hx20, hx20a, hx20b⟩ := idx_some hx20
    refine Chain.runK [] 4 fun K hK => ?_; simp [hx20, hx20k, hx20a, hx20b]; refine hK _ _ ?_; clear hK K
    refine Chain.sub (S' := mk 109 [1000] [(0, .ptr 1000 0 0), (3, .ptr 3 0 0), (7, .ptr 7 0 0), (18, .ref 25001 0 a0.Queue.length), (19, .i (a0.Queue.length : Int)), (20, .i v7)] [(3, some (.box [.i a1.Tx, .d (.lit (.string a1.Table)), .d (.lit (.string a1.Key)), .i a1.Mode])), (7, some (.box [.i x20.Tx, .d (.lit (.string x20.Table)), .d (.lit (.string x20.Key)), .i x20.Mode])), (1000, some (.box [.ref 25000 0 a0.Granted.length, .ref 25001 0 a0.Queue.length])), (25000, R37 a0.Granted), (25001, R37 a0.Queue)]) Sub.tt ?_
    refine Chain.nil ?_
    refine AW.seqR ?_
    refine Chain.runK [] 5 fun K hK => ?_; simp; refine hK _ _ ?_; clear hK K
    refine Chain.sub (S' := mk 109 [1000] [(0, .ptr 1000 0 0), (3, .ptr 3 0 0), (18, .ref 25001 0 a0.Queue.length), (19, .i (a0.Queue.length : Int)), (20, .i v7), (28, .b (x20.Tx == a1.Tx))] [(3, some (.box [.i a1.Tx, .d (.lit (.string a1.Table)), .d (.lit (.string a1.Key)), .i a1.Mode])), (1000, some (.box [.ref 25000 0 a0.Granted.length, .ref 25001 0 a0.Queue.length])), (25000, R37 a0.Granted), (25001, R37 a0.Queue)]) Sub.tt ?_
    refine Chain.nil ?_
    replace h := isome h; rcases h with ⟨c22, h⟩ | ⟨c22, h⟩
    ·have c22_ : (x20.Tx == a1.Tx) = true := c22
     refine AW.condT (b := (x20.Tx == a1.Tx)) rfl c22_ ?_
     refine AW.sub (Sub.bool 28 (b := (x20.Tx == a1.Tx)) rfl c22_) ?_
     refine AW.sub (S' := mk 109 [1000] [(0, .ptr 1000 0 0), (3, .ptr 3 0 0), (18, .ref 25001 0 a0.Queue.length), (19, .i (a0.Queue.length : Int)), (20, .i v7), (28, .b true)] [(3, some (.box [.i a1.Tx, .d (.lit (.string a1.Table)), .d (.lit (.string a1.Key)), .i a1.Mode])), (1000, some (.box [.ref 25000 0 a0.Granted.length, .ref 25001 0 a0.Queue.length])), (25000, R37 a0.Granted), (25001, R37 a0.Queue)]) (by simp; exact Sub.table (by simp) (by simp)) ?_
     refine AW.seqR ?_
     refine Chain.runK [] 1 fun K hK => ?_; simp; refine hK _ _ ?_; clear hK K
     refine Chain.sub (S' := mk 109 [1000] [(4, .i 15)] [(1000, some (.box [.ref 25000 0 a0.Granted.length, .ref 25001 0 a0.Queue.length])), (25000, R37 a0.Granted), (25001, R37 a0.Queue)]) Sub.tt ?_
     refine Chain.nil ?_
     refine AW.ret ?_
     cases h
     refine blockQ.ret ?_
     refine thenQ_pass (by simp) ?_
     refine PostI.out (by simp) ?_
     rintro rfl
     refine blockQ.ret ?_
     refine PostJ.out (by simp) ?_
     rintro rfl
     refine thenQ_pass (by simp) ?_
     exact FinF.ret (by simp) (by simp)
    ·have c22_ : (x20.Tx == a1.Tx) = false := Bool.eq_false_iff.2 c22
     refine AW.condF (b := (x20.Tx == a1.Tx)) rfl c22_ ?_
     refine AW.sub (Sub.bool 28 (b := (x20.Tx == a1.Tx)) rfl c22_) ?_
     refine AW.sub (S' := mk 109 [1000] [(0, .ptr 1000 0 0), (3, .ptr 3 0 0), (18, .ref 25001 0 a0.Queue.length), (19, .i (a0.Queue.length : Int)), (20, .i v7), (28, .b false)] [(3, some (.box [.i a1.Tx, .d (.lit (.string a1.Table)), .d (.lit (.string a1.Key)), .i a1.Mode])), (1000, some (.box [.ref 25000 0 a0.Granted.length, .ref 25001 0 a0.Queue.length])), (25000, R37 a0.Granted), (25001, R37 a0.Queue)]) (by simp; exact Sub.table (by simp) (by simp)) ?_
     refine AW.skip ?_
     refine blockQ.normal ?_
     refine thenQ_normal ?_
     refine AW.region ?_
     replace h := bsome h; obtain ⟨v23, hv23, h⟩ := h
     have hv23 := chkI_some hv23
     refine Chain.runK [] 2 fun K hK => ?_; simp [hv23]; refine hK _ _ ?_; clear hK K
     refine Chain.sub (S' := mk 109 [1000] [(0, .ptr 1000 0 0), (3, .ptr 3 0 0), (18, .ref 25001 0 a0.Queue.length), (19, .i (a0.Queue.length : Int)), (20, .i v23)] [(3, some (.box [.i a1.Tx, .d (.lit (.string a1.Table)), .d (.lit (.string a1.Key)), .i a1.Mode])), (1000, some (.box [.ref 25000 0 a0.Granted.length, .ref 25001 0 a0.Queue.length])), (25000, R37 a0.Granted), (25001, R37 a0.Queue)]) Sub.tt ?_
     refine Chain.nil ?_
     cases h
     refine PostI.next ?_
     exact Sub.tt
   ·have c19_ : decide (v7 < (a0.Queue.length : Int)) = false := decide_eq_false c19
    refine AW.condF (b := decide (v7 < (a0.Queue.length : Int))) rfl c19_ ?_
    refine AW.sub (Sub.bool 21 (b := decide (v7 < (a0.Queue.length : Int))) rfl c19_) ?_
    refine AW.sub (S' := mk 109 [1000] [(0, .ptr 1000 0 0), (3, .ptr 3 0 0), (18, .ref 25001 0 a0.Queue.length), (19, .i (a0.Queue.length : Int)), (20, .i v7), (21, .b false)] [(3, some (.box [.i a1.Tx, .d (.lit (.string a1.Table)), .d (.lit (.string a1.Key)), .i a1.Mode])), (1000, some (.box [.ref 25000 0 a0.Granted.length, .ref 25001 0 a0.Queue.length])), (25000, R37 a0.Granted), (25001, R37 a0.Queue)]) (by simp; exact Sub.table (by simp) (by simp)) ?_
    refine AW.exit ?_
    cases h
    refine thenQ_pass (by simp) ?_
    refine PostI.out (by simp) ?_
    rintro rfl
    refine blockQ.hit ?_
    refine PostJ.next ?_
    exact Sub.tt
  ·rintro ⟨⟩ h
   refine thenQ_normal ?_
   refine AW.seq ?_
   replace h := bsome h; obtain ⟨v28, hj, h⟩ := h
   refine AW.cutQ (by kernel_rfl) (by kernel_rfl) (mk 109 [1000] [(0, .ptr 1000 0 0), (3, .ptr 3 0 0), (45, .b v28)] [(3, some (.box [.i a1.Tx, .d (.lit (.string a1.Table)), .d (.lit (.string a1.Key)), .i a1.Mode])), (1000, some (.box [.ref 25000 0 a0.Granted.length, .ref 25001 0 a0.Queue.length])), (25000, R37 a0.Granted), (25001, R37 a0.Queue)]) ?_ ?_
   ·clear h; have h := hj; clear hj
    refine Chain.runQ 4 fun K hK => ?_; simp; refine hK _ _ ?_; clear hK K
    refine Chain.sub (S' := mk 109 [1000] [(0, .ptr 1000 0 0), (3, .ptr 3 0 0), (33, .b (!decide (a1.Key = (ByteArray.mk #[]))))] [(3, some (.box [.i a1.Tx, .d (.lit (.string a1.Table)), .d (.lit (.string a1.Key)), .i a1.Mode])), (1000, some (.box [.ref 25000 0 a0.Granted.length, .ref 25001 0 a0.Queue.length])), (25000, R37 a0.Granted), (25001, R37 a0.Queue)]) Sub.tt ?_
    replace h := isome h; rcases h with ⟨c29, h⟩ | ⟨c29, h⟩
    ·have c29_ : (!decide (a1.Key = (ByteArray.mk #[]))) = true := c29
     refine Chain.sub (Sub.bool 33 (b := (!decide (a1.Key = (ByteArray.mk #[])))) rfl c29_) ?_
     refine Chain.sub (S' := mk 109 [1000] [(0, .ptr 1000 0 0), (3, .ptr 3 0 0), (33, .b true)] [(3, some (.box [.i a1.Tx, .d (.lit (.string a1.Table)), .d (.lit (.string a1.Key)), .i a1.Mode])), (1000, some (.box [.ref 25000 0 a0.Granted.length, .ref 25001 0 a0.Queue.length])), (25000, R37 a0.Granted), (25001, R37 a0.Queue)]) (by simp; exact Sub.table (by simp) (by simp)) ?_
     refine Chain.runQ 5 fun K hK => ?_; simp; refine hK _ _ ?_; clear hK K
     refine Chain.sub (S' := mk 109 [1000] [(0, .ptr 1000 0 0), (3, .ptr 3 0 0), (33, .b true), (34, .ptr 1000 0 0), (36, .i a1.Tx), (38, .d (.lit (.string a1.Table)))] [(3, some (.box [.i a1.Tx, .d (.lit (.string a1.Table)), .d (.lit (.string a1.Key)), .i a1.Mode])), (1000, some (.box [.ref 25000 0 a0.Granted.length, .ref 25001 0 a0.Queue.length])), (25000, R37 a0.Granted), (25001, R37 a0.Queue)]) Sub.tt ?_
     replace h := bsome h; obtain ⟨r30, hr30, h⟩ := h
     refine Chain.callL (d := 39) (p25 N a0 a1.Tx a1.Table (ByteArray.mk #[]) r30 hr30) (by simp) rfl rfl (by simp <;> rfl) (by simp <;> rfl) ent25 (by simp <;> rfl) ?_
     refine Chain.sub (S' := mk 109 [1000] [(0, .ptr 1000 0 0), (3, .ptr 3 0 0), (33, .b true), (34, .ptr 1000 0 0), (36, .i a1.Tx), (38, .d (.lit (.string a1.Table))), (39, .i r30)] [(3, some (.box [.i a1.Tx, .d (.lit (.string a1.Table)), .d (.lit (.string a1.Key)), .i a1.Mode])), (1000, some (.box [.ref 25000 0 a0.Granted.length, .ref 25001 0 a0.Queue.length])), (25000, R37 a0.Granted), (25001, R37 a0.Queue)]) (by simp; exact Sub.table (by simp) (by simp)) ?_
     replace h := bsome h; obtain ⟨v31, hv31, h⟩ := h
     have hv31 := chkI_some hv31
     refine Chain.runQ 3 fun K hK => ?_; simp [hv31]; refine hK _ _ ?_; clear hK K
     refine Chain.sub (S' := mk 109 [1000] [(0, .ptr 1000 0 0), (3, .ptr 3 0 0), (33, .b true), (39, .i r30), (42, .i v31)] [(3, some (.box [.i a1.Tx, .d (.lit (.string a1.Table)), .d (.lit (.string a1.Key)), .i a1.Mode])), (1000, some (.box [.ref 25000 0 a0.Granted.length, .ref 25001 0 a0.Queue.length])), (25000, R37 a0.Granted), (25001, R37 a0.Queue)]) Sub.tt ?_
     replace h := bsome h; obtain ⟨r32, hr32, h⟩ := h
     refine Chain.callL (d := 43) (p24 N r30 v31 r32 hr32) (by simp) rfl rfl (by simp <;> rfl) (by simp <;> rfl) ent24 (by simp <;> rfl) ?_
     refine Chain.sub (S' := mk 109 [1000] [(0, .ptr 1000 0 0), (3, .ptr 3 0 0), (33, .b true), (39, .i r30), (42, .i v31), (43, .b r32)] [(3, some (.box [.i a1.Tx, .d (.lit (.string a1.Table)), .d (.lit (.string a1.Key)), .i a1.Mode])), (1000, some (.box [.ref 25000 0 a0.Granted.length, .ref 25001 0 a0.Queue.length])), (25000, R37 a0.Granted), (25001, R37 a0.Queue)]) (by simp; exact Sub.table (by simp) (by simp)) ?_
     refine Chain.runQ 2 fun K hK => ?_; simp; refine hK _ _ ?_; clear hK K
     refine Chain.sub (S' := mk 109 [1000] [(0, .ptr 1000 0 0), (3, .ptr 3 0 0), (45, .b (!r32))] [(3, some (.box [.i a1.Tx, .d (.lit (.string a1.Table)), .d (.lit (.string a1.Key)), .i a1.Mode])), (1000, some (.box [.ref 25000 0 a0.Granted.length, .ref 25001 0 a0.Queue.length])), (25000, R37 a0.Granted), (25001, R37 a0.Queue)]) Sub.tt ?_
     cases h
     exact Chain.nil Sub.tt
    ·have c29_ : (!decide (a1.Key = (ByteArray.mk #[]))) = false := Bool.eq_false_iff.2 c29
     refine Chain.sub (Sub.bool 33 (b := (!decide (a1.Key = (ByteArray.mk #[])))) rfl c29_) ?_
     refine Chain.sub (S' := mk 109 [1000] [(0, .ptr 1000 0 0), (3, .ptr 3 0 0), (33, .b false)] [(3, some (.box [.i a1.Tx, .d (.lit (.string a1.Table)), .d (.lit (.string a1.Key)), .i a1.Mode])), (1000, some (.box [.ref 25000 0 a0.Granted.length, .ref 25001 0 a0.Queue.length])), (25000, R37 a0.Granted), (25001, R37 a0.Queue)]) (by simp; exact Sub.table (by simp) (by simp)) ?_
     refine Chain.runQ 12 fun K hK => ?_; simp; refine hK _ _ ?_; clear hK K
     refine Chain.sub (S' := mk 109 [1000] [(0, .ptr 1000 0 0), (3, .ptr 3 0 0), (45, .b false)] [(3, some (.box [.i a1.Tx, .d (.lit (.string a1.Table)), .d (.lit (.string a1.Key)), .i a1.Mode])), (1000, some (.box [.ref 25000 0 a0.Granted.length, .ref 25001 0 a0.Queue.length])), (25000, R37 a0.Granted), (25001, R37 a0.Queue)]) Sub.tt ?_
     cases h
     exact Chain.nil Sub.tt
   ·clear hj
    replace h := isome h; rcases h with ⟨c33, h⟩ | ⟨c33, h⟩
    ·have c33_ : v28 = true := c33
     refine AW.condT (b := v28) rfl c33_ ?_
     refine AW.sub (Sub.bool 45 (b := v28) rfl c33_) ?_
     refine AW.sub (S' := mk 109 [1000] [(0, .ptr 1000 0 0), (3, .ptr 3 0 0), (45, .b true)] [(3, some (.box [.i a1.Tx, .d (.lit (.string a1.Table)), .d (.lit (.string a1.Key)), .i a1.Mode])), (1000, some (.box [.ref 25000 0 a0.Granted.length, .ref 25001 0 a0.Queue.length])), (25000, R37 a0.Granted), (25001, R37 a0.Queue)]) (by simp; exact Sub.table (by simp) (by simp)) ?_
     refine AW.seqR ?_
     refine Chain.runK [] 1 fun K hK => ?_; simp; refine hK _ _ ?_; clear hK K
     refine Chain.sub (S' := mk 109 [1000] [(4, .i 6)] [(1000, some (.box [.ref 25000 0 a0.Granted.length, .ref 25001 0 a0.Queue.length])), (25000, R37 a0.Granted), (25001, R37 a0.Queue)]) Sub.tt ?_
     refine Chain.nil ?_
     refine AW.ret ?_
     cases h
     refine thenQ_pass (by simp) ?_
     exact FinF.ret (by simp) (by simp)
    ·have c33_ : v28 = false := Bool.eq_false_iff.2 c33
     refine AW.condF (b := v28) rfl c33_ ?_
     refine AW.sub (Sub.bool 45 (b := v28) rfl c33_) ?_
     refine AW.sub (S' := mk 109 [1000] [(0, .ptr 1000 0 0), (3, .ptr 3 0 0), (45, .b false)] [(3, some (.box [.i a1.Tx, .d (.lit (.string a1.Table)), .d (.lit (.string a1.Key)), .i a1.Mode])), (1000, some (.box [.ref 25000 0 a0.Granted.length, .ref 25001 0 a0.Queue.length])), (25000, R37 a0.Granted), (25001, R37 a0.Queue)]) (by simp; exact Sub.table (by simp) (by simp)) ?_
     refine AW.skip ?_
     refine thenQ_normal ?_
     refine AW.seqR ?_
     refine Chain.runK [] 7 fun K hK => ?_; simp; refine hK _ _ ?_; clear hK K
     refine Chain.sub (S' := mk 109 [1000] [(0, .ptr 1000 0 0), (3, .ptr 3 0 0), (46, .ptr 1000 0 0), (48, .i a1.Tx), (50, .d (.lit (.string a1.Table))), (52, .d (.lit (.string a1.Key)))] [(3, some (.box [.i a1.Tx, .d (.lit (.string a1.Table)), .d (.lit (.string a1.Key)), .i a1.Mode])), (1000, some (.box [.ref 25000 0 a0.Granted.length, .ref 25001 0 a0.Queue.length])), (25000, R37 a0.Granted), (25001, R37 a0.Queue)]) Sub.tt ?_
     replace h := bsome h; obtain ⟨r34, hr34, h⟩ := h
     refine Chain.callL (d := 53) (p25 N a0 a1.Tx a1.Table a1.Key r34 hr34) (by simp) rfl rfl (by simp <;> rfl) (by simp <;> rfl) ent25 (by simp <;> rfl) ?_
     refine Chain.sub (S' := mk 109 [1000] [(0, .ptr 1000 0 0), (3, .ptr 3 0 0), (46, .ptr 1000 0 0), (48, .i a1.Tx), (50, .d (.lit (.string a1.Table))), (52, .d (.lit (.string a1.Key))), (53, .i r34)] [(3, some (.box [.i a1.Tx, .d (.lit (.string a1.Table)), .d (.lit (.string a1.Key)), .i a1.Mode])), (1000, some (.box [.ref 25000 0 a0.Granted.length, .ref 25001 0 a0.Queue.length])), (25000, R37 a0.Granted), (25001, R37 a0.Queue)]) (by simp; exact Sub.table (by simp) (by simp)) ?_
     refine Chain.runK [] 1 fun K hK => ?_; simp; refine hK _ _ ?_; clear hK K
     refine Chain.sub (S' := mk 109 [1000] [(0, .ptr 1000 0 0), (3, .ptr 3 0 0), (8, .i r34)] [(3, some (.box [.i a1.Tx, .d (.lit (.string a1.Table)), .d (.lit (.string a1.Key)), .i a1.Mode])), (1000, some (.box [.ref 25000 0 a0.Granted.length, .ref 25001 0 a0.Queue.length])), (25000, R37 a0.Granted), (25001, R37 a0.Queue)]) Sub.tt ?_
     refine Chain.nil ?_
     refine AW.seq ?_
     refine AW.block ?_
     refine AW.seqR ?_
     refine Chain.runK [] 3 fun K hK => ?_; simp; refine hK _ _ ?_; clear hK K
     refine Chain.sub (S' := mk 109 [1000] [(0, .ptr 1000 0 0), (3, .ptr 3 0 0), (8, .i r34), (55, .i r34), (57, .i a1.Mode)] [(3, some (.box [.i a1.Tx, .d (.lit (.string a1.Table)), .d (.lit (.string a1.Key)), .i a1.Mode])), (1000, some (.box [.ref 25000 0 a0.Granted.length, .ref 25001 0 a0.Queue.length])), (25000, R37 a0.Granted), (25001, R37 a0.Queue)]) Sub.tt ?_
     replace h := bsome h; obtain ⟨r35, hr35, h⟩ := h
     refine Chain.callL (d := 58) (p24 N r34 a1.Mode r35 hr35) (by simp) rfl rfl (by simp <;> rfl) (by simp <;> rfl) ent24 (by simp <;> rfl) ?_
     refine Chain.sub (S' := mk 109 [1000] [(0, .ptr 1000 0 0), (3, .ptr 3 0 0), (8, .i r34), (55, .i r34), (57, .i a1.Mode), (58, .b r35)] [(3, some (.box [.i a1.Tx, .d (.lit (.string a1.Table)), .d (.lit (.string a1.Key)), .i a1.Mode])), (1000, some (.box [.ref 25000 0 a0.Granted.length, .ref 25001 0 a0.Queue.length])), (25000, R37 a0.Granted), (25001, R37 a0.Queue)]) (by simp; exact Sub.table (by simp) (by simp)) ?_
     refine Chain.runK [] 1 fun K hK => ?_; simp; refine hK _ _ ?_; clear hK K
     refine Chain.sub (S' := mk 109 [1000] [(0, .ptr 1000 0 0), (3, .ptr 3 0 0), (8, .i r34), (54, .b r35)] [(3, some (.box [.i a1.Tx, .d (.lit (.string a1.Table)), .d (.lit (.string a1.Key)), .i a1.Mode])), (1000, some (.box [.ref 25000 0 a0.Granted.length, .ref 25001 0 a0.Queue.length])), (25000, R37 a0.Granted), (25001, R37 a0.Queue)]) Sub.tt ?_
     refine Chain.nil ?_
     replace h := isome h; rcases h with ⟨c36, h⟩ | ⟨c36, h⟩
     ·have c36_ : r35 = true := c36
      refine AW.condT (b := r35) rfl c36_ ?_
      refine AW.sub (Sub.bool 54 (b := r35) rfl c36_) ?_
      refine AW.sub (S' := mk 109 [1000] [(0, .ptr 1000 0 0), (3, .ptr 3 0 0), (8, .i r34), (54, .b true)] [(3, some (.box [.i a1.Tx, .d (.lit (.string a1.Table)), .d (.lit (.string a1.Key)), .i a1.Mode])), (1000, some (.box [.ref 25000 0 a0.Granted.length, .ref 25001 0 a0.Queue.length])), (25000, R37 a0.Granted), (25001, R37 a0.Queue)]) (by simp; exact Sub.table (by simp) (by simp)) ?_
      refine AW.seqR ?_
      refine Chain.runK [] 1 fun K hK => ?_; simp; refine hK _ _ ?_; clear hK K
      refine Chain.sub (S' := mk 109 [1000] [(4, .i 0)] [(1000, some (.box [.ref 25000 0 a0.Granted.length, .ref 25001 0 a0.Queue.length])), (25000, R37 a0.Granted), (25001, R37 a0.Queue)]) Sub.tt ?_
      refine Chain.nil ?_
      refine AW.ret ?_
      cases h
      refine blockQ.ret ?_
      refine thenQ_pass (by simp) ?_
      exact FinF.ret (by simp) (by simp)
     ·have c36_ : r35 = false := Bool.eq_false_iff.2 c36
      refine AW.condF (b := r35) rfl c36_ ?_
      refine AW.sub (Sub.bool 54 (b := r35) rfl c36_) ?_
      refine AW.sub (S' := mk 109 [1000] [(0, .ptr 1000 0 0), (3, .ptr 3 0 0), (8, .i r34), (54, .b false)] [(3, some (.box [.i a1.Tx, .d (.lit (.string a1.Table)), .d (.lit (.string a1.Key)), .i a1.Mode])), (1000, some (.box [.ref 25000 0 a0.Granted.length, .ref 25001 0 a0.Queue.length])), (25000, R37 a0.Granted), (25001, R37 a0.Queue)]) (by simp; exact Sub.table (by simp) (by simp)) ?_
      refine AW.seqR ?_
      refine Chain.runK [] 3 fun K hK => ?_; simp; refine hK _ _ ?_; clear hK K
      refine Chain.sub (S' := mk 109 [1000] [(0, .ptr 1000 0 0), (3, .ptr 3 0 0), (8, .i r34), (59, .b (decide (r34 > 0)))] [(3, some (.box [.i a1.Tx, .d (.lit (.string a1.Table)), .d (.lit (.string a1.Key)), .i a1.Mode])), (1000, some (.box [.ref 25000 0 a0.Granted.length, .ref 25001 0 a0.Queue.length])), (25000, R37 a0.Granted), (25001, R37 a0.Queue)]) Sub.tt ?_
      refine Chain.nil ?_
      refine AW.lastJ (fun (v41 : Int) => mk 109 [1000] [(0, .ptr 1000 0 0), (3, .ptr 3 0 0)] [(3, some (.box [.i a1.Tx, .d (.lit (.string a1.Table)), .d (.lit (.string a1.Key)), .i v41])), (1000, some (.box [.ref 25000 0 a0.Granted.length, .ref 25001 0 a0.Queue.length])), (25000, R37 a0.Granted), (25001, R37 a0.Queue)]) h ?_ ?_ <;> clear h
      ·intro o h
       replace h := isome h; rcases h with ⟨c42, h⟩ | ⟨c42, h⟩
       ·have c42_ : decide (r34 > 0) = true := decide_eq_true c42
        refine AW.condT (b := decide (r34 > 0)) rfl c42_ ?_
        refine AW.sub (Sub.bool 59 (b := decide (r34 > 0)) rfl c42_) ?_
        refine AW.sub (S' := mk 109 [1000] [(0, .ptr 1000 0 0), (3, .ptr 3 0 0), (8, .i r34), (59, .b true)] [(3, some (.box [.i a1.Tx, .d (.lit (.string a1.Table)), .d (.lit (.string a1.Key)), .i a1.Mode])), (1000, some (.box [.ref 25000 0 a0.Granted.length, .ref 25001 0 a0.Queue.length])), (25000, R37 a0.Granted), (25001, R37 a0.Queue)]) (by simp; exact Sub.table (by simp) (by simp)) ?_
        refine AW.region ?_
        refine Chain.runK [] 3 fun K hK => ?_; simp; refine hK _ _ ?_; clear hK K
        refine Chain.sub (S' := mk 109 [1000] [(0, .ptr 1000 0 0), (3, .ptr 3 0 0), (62, .i r34), (64, .i a1.Mode)] [(3, some (.box [.i a1.Tx, .d (.lit (.string a1.Table)), .d (.lit (.string a1.Key)), .i a1.Mode])), (1000, some (.box [.ref 25000 0 a0.Granted.length, .ref 25001 0 a0.Queue.length])), (25000, R37 a0.Granted), (25001, R37 a0.Queue)]) Sub.tt ?_
        replace h := bsome h; obtain ⟨r43, hr43, h⟩ := h
        refine Chain.callL (d := 65) (p26 N r34 a1.Mode r43 hr43) (by simp) rfl rfl (by simp <;> rfl) (by simp <;> rfl) ent26 (by simp <;> rfl) ?_
        refine Chain.sub (S' := mk 109 [1000] [(0, .ptr 1000 0 0), (3, .ptr 3 0 0), (62, .i r34), (64, .i a1.Mode), (65, .i r43)] [(3, some (.box [.i a1.Tx, .d (.lit (.string a1.Table)), .d (.lit (.string a1.Key)), .i a1.Mode])), (1000, some (.box [.ref 25000 0 a0.Granted.length, .ref 25001 0 a0.Queue.length])), (25000, R37 a0.Granted), (25001, R37 a0.Queue)]) (by simp; exact Sub.table (by simp) (by simp)) ?_
        refine Chain.runK [] 2 fun K hK => ?_; simp; refine hK _ _ ?_; clear hK K
        refine Chain.sub (S' := mk 109 [1000] [(0, .ptr 1000 0 0), (3, .ptr 3 0 0)] [(3, some (.box [.i a1.Tx, .d (.lit (.string a1.Table)), .d (.lit (.string a1.Key)), .i r43])), (1000, some (.box [.ref 25000 0 a0.Granted.length, .ref 25001 0 a0.Queue.length])), (25000, R37 a0.Granted), (25001, R37 a0.Queue)]) Sub.tt ?_
        refine Chain.nil ?_
        cases h
        refine PostJ.next ?_
        exact Sub.tt
       ·have c42_ : decide (r34 > 0) = false := decide_eq_false c42
        refine AW.condF (b := decide (r34 > 0)) rfl c42_ ?_
        refine AW.sub (Sub.bool 59 (b := decide (r34 > 0)) rfl c42_) ?_
        refine AW.sub (S' := mk 109 [1000] [(0, .ptr 1000 0 0), (3, .ptr 3 0 0), (8, .i r34), (59, .b false)] [(3, some (.box [.i a1.Tx, .d (.lit (.string a1.Table)), .d (.lit (.string a1.Key)), .i a1.Mode])), (1000, some (.box [.ref 25000 0 a0.Granted.length, .ref 25001 0 a0.Queue.length])), (25000, R37 a0.Granted), (25001, R37 a0.Queue)]) (by simp; exact Sub.table (by simp) (by simp)) ?_
        refine AW.seqQ (by kernel_rfl) (by kernel_rfl) ?_
        replace h := bsome h; obtain ⟨v44, hv44, h⟩ := h
        have hv44 := chkI_some hv44
        refine Chain.runQ 13 fun K hK => ?_; simp [hv44]; refine hK _ _ ?_; clear hK K
        refine Chain.sub (S' := mk 109 [1000] [(0, .ptr 1000 0 0), (3, .ptr 3 0 0), (67, .b (decide (v44 ≥ 200)))] [(3, some (.box [.i a1.Tx, .d (.lit (.string a1.Table)), .d (.lit (.string a1.Key)), .i a1.Mode])), (1000, some (.box [.ref 25000 0 a0.Granted.length, .ref 25001 0 a0.Queue.length])), (25000, R37 a0.Granted), (25001, R37 a0.Queue)]) Sub.tt ?_
        refine Chain.nil ?_
        replace h := isome h; rcases h with ⟨c45, h⟩ | ⟨c45, h⟩
        ·have c45_ : decide (v44 ≥ 200) = true := decide_eq_true c45
         refine AW.condT (b := decide (v44 ≥ 200)) rfl c45_ ?_
         refine AW.sub (Sub.bool 67 (b := decide (v44 ≥ 200)) rfl c45_) ?_
         refine AW.sub (S' := mk 109 [1000] [(0, .ptr 1000 0 0), (3, .ptr 3 0 0), (67, .b true)] [(3, some (.box [.i a1.Tx, .d (.lit (.string a1.Table)), .d (.lit (.string a1.Key)), .i a1.Mode])), (1000, some (.box [.ref 25000 0 a0.Granted.length, .ref 25001 0 a0.Queue.length])), (25000, R37 a0.Granted), (25001, R37 a0.Queue)]) (by simp; exact Sub.table (by simp) (by simp)) ?_
         refine AW.seqR ?_
         refine Chain.runK [] 1 fun K hK => ?_; simp; refine hK _ _ ?_; clear hK K
         refine Chain.sub (S' := mk 109 [1000] [(4, .i 18)] [(1000, some (.box [.ref 25000 0 a0.Granted.length, .ref 25001 0 a0.Queue.length])), (25000, R37 a0.Granted), (25001, R37 a0.Queue)]) Sub.tt ?_
         refine Chain.nil ?_
         refine AW.ret ?_
         cases h
         refine PostJ.out (by simp) ?_
         rintro rfl
         refine blockQ.ret ?_
         refine thenQ_pass (by simp) ?_
         exact FinF.ret (by simp) (by simp)
        ·have c45_ : decide (v44 ≥ 200) = false := decide_eq_false c45
         refine AW.condF (b := decide (v44 ≥ 200)) rfl c45_ ?_
         refine AW.sub (Sub.bool 67 (b := decide (v44 ≥ 200)) rfl c45_) ?_
         refine AW.sub (S' := mk 109 [1000] [(0, .ptr 1000 0 0), (3, .ptr 3 0 0), (67, .b false)] [(3, some (.box [.i a1.Tx, .d (.lit (.string a1.Table)), .d (.lit (.string a1.Key)), .i a1.Mode])), (1000, some (.box [.ref 25000 0 a0.Granted.length, .ref 25001 0 a0.Queue.length])), (25000, R37 a0.Granted), (25001, R37 a0.Queue)]) (by simp; exact Sub.table (by simp) (by simp)) ?_
         refine AW.skip ?_
         cases h
         refine PostJ.next ?_
         exact Sub.tt
      ·rintro v41 h
       refine blockQ.normal ?_
       refine thenQ_normal ?_
       refine AW.seqT 7 (by kernel_rfl) (by kernel_rfl) fun K hK => ?_; simp; refine hK _ _ ?_; clear hK K
       refine Chain.sub (S' := mk 109 [1000] [(0, .ptr 1000 0 0), (3, .ptr 3 0 0), (80, .ptr 1000 0 0), (81, .agg [.i a1.Tx, .d (.lit (.string a1.Table)), .d (.lit (.string a1.Key)), .i v41]), (86, .i (a0.Queue.length : Int))] [(3, some (.box [.i a1.Tx, .d (.lit (.string a1.Table)), .d (.lit (.string a1.Key)), .i v41])), (1000, some (.box [.ref 25000 0 a0.Granted.length, .ref 25001 0 a0.Queue.length])), (25000, R37 a0.Granted), (25001, R37 a0.Queue)]) Sub.tt ?_
       replace h := bsome h; obtain ⟨r46, hr46, h⟩ := h
       refine Chain.callOF (d := 87) (p27 N a0 (S29.mk a1.Tx a1.Table a1.Key v41) (a0.Queue.length : Int) r46 hr46) (by simp) rfl rfl (by simp <;> rfl) (by simp <;> rfl) ent27 (by simp) (fun r h => flat_of_ren r h) (flat_map (by simp [cI]) _) ?_
       refine Chain.sub (S' := mk 109 [1000] [(0, .ptr 1000 0 0), (3, .ptr 3 0 0), (80, .ptr 1000 0 0), (81, .agg [.i a1.Tx, .d (.lit (.string a1.Table)), .d (.lit (.string a1.Key)), .i v41]), (86, .i (a0.Queue.length : Int)), (87, .ref 87 0 r46.length)] [(3, some (.box [.i a1.Tx, .d (.lit (.string a1.Table)), .d (.lit (.string a1.Key)), .i v41])), (87, R3 r46), (1000, some (.box [.ref 25000 0 a0.Granted.length, .ref 25001 0 a0.Queue.length])), (25000, R37 a0.Granted), (25001, R37 a0.Queue)]) (by simp; exact Sub.table (by simp) (by simp)) ?_
       refine Chain.runK [] 1 fun K hK => ?_; simp; refine hK _ _ ?_; clear hK K
       refine Chain.sub (S' := mk 109 [1000] [(0, .ptr 1000 0 0), (3, .ptr 3 0 0), (9, .ref 87 0 r46.length)] [(3, some (.box [.i a1.Tx, .d (.lit (.string a1.Table)), .d (.lit (.string a1.Key)), .i v41])), (87, R3 r46), (1000, some (.box [.ref 25000 0 a0.Granted.length, .ref 25001 0 a0.Queue.length])), (25000, R37 a0.Granted), (25001, R37 a0.Queue)]) Sub.tt ?_
       refine Chain.nil ?_
       refine AW.seq ?_
       refine AW.seqR ?_
       refine Chain.runK [] 3 fun K hK => ?_; simp; refine hK _ _ ?_; clear hK K
       refine Chain.sub (S' := mk 109 [1000] [(0, .ptr 1000 0 0), (3, .ptr 3 0 0), (9, .ref 87 0 r46.length), (90, .b ((r46.length : Int) == 0))] [(3, some (.box [.i a1.Tx, .d (.lit (.string a1.Table)), .d (.lit (.string a1.Key)), .i v41])), (87, R3 r46), (1000, some (.box [.ref 25000 0 a0.Granted.length, .ref 25001 0 a0.Queue.length])), (25000, R37 a0.Granted), (25001, R37 a0.Queue)]) Sub.tt ?_
       refine Chain.nil ?_
       replace h := isome h; rcases h with ⟨c47, h⟩ | ⟨c47, h⟩
       ·have c47_ : ((r46.length : Int) == 0) = true := c47
        refine AW.condT (b := ((r46.length : Int) == 0)) rfl c47_ ?_
        refine AW.sub (Sub.bool 90 (b := ((r46.length : Int) == 0)) rfl c47_) ?_
        refine AW.sub (S' := mk 109 [1000] [(0, .ptr 1000 0 0), (3, .ptr 3 0 0), (9, .ref 87 0 r46.length), (90, .b true)] [(3, some (.box [.i a1.Tx, .d (.lit (.string a1.Table)), .d (.lit (.string a1.Key)), .i v41])), (87, R3 r46), (1000, some (.box [.ref 25000 0 a0.Granted.length, .ref 25001 0 a0.Queue.length])), (25000, R37 a0.Granted), (25001, R37 a0.Queue)]) (by simp; exact Sub.table (by simp) (by simp)) ?_
        refine AW.seqR ?_
        refine Chain.runK [] 2 fun K hK => ?_; simp; refine hK _ _ ?_; clear hK K
        refine Chain.sub (S' := mk 109 [1000] [(91, .ptr 1000 0 0), (92, .agg [.i a1.Tx, .d (.lit (.string a1.Table)), .d (.lit (.string a1.Key)), .i v41])] [(1000, some (.box [.ref 25000 0 a0.Granted.length, .ref 25001 0 a0.Queue.length])), (25000, R37 a0.Granted), (25001, R37 a0.Queue)]) Sub.tt ?_
        replace h := bsome h; obtain ⟨r48, hr48, h⟩ := h
        refine Chain.callF (p28 N a0 (S29.mk a1.Tx a1.Table a1.Key v41) r48 hr48) [(1000, 1000), (25000, 25000), (25001, 25001)] [1000] [(1000, 1000), (25000, 25000), (25001, 25001)] [(1000, (.box [.ref 25000 0 r48.Granted.length, .ref 25001 0 r48.Queue.length])), (25000, (.arr 37 4 (r48.Granted.map cS29))), (25001, (.arr 37 4 (r48.Queue.map cS29)))] (.tup []) (by simp) rfl (by simp <;> rfl) (by simp) (by simp) (by simp) (by simp) (by simp) ent28 (by simp) (by simp) (by simp) (by simp) (by simp) (by simp) ?_
        refine Chain.sub (S' := mk 109 [1000] [(91, .ptr 1000 0 0), (92, .agg [.i a1.Tx, .d (.lit (.string a1.Table)), .d (.lit (.string a1.Key)), .i v41]), (93, .tup [])] [(1000, some (.box [.ref 25000 0 r48.Granted.length, .ref 25001 0 r48.Queue.length])), (25000, R37 r48.Granted), (25001, R37 r48.Queue)]) (by simp; exact Sub.table (by simp) (by simp)) ?_
        refine Chain.nil ?_
        refine AW.seqR ?_
        refine Chain.runK [] 1 fun K hK => ?_; simp; refine hK _ _ ?_; clear hK K
        refine Chain.sub (S' := mk 109 [1000] [(4, .i 0)] [(1000, some (.box [.ref 25000 0 r48.Granted.length, .ref 25001 0 r48.Queue.length])), (25000, R37 r48.Granted), (25001, R37 r48.Queue)]) Sub.tt ?_
        refine Chain.nil ?_
        refine AW.ret ?_
        cases h
        refine thenQ_pass (by simp) ?_
        exact FinF.ret (by simp) (by simp)
       ·have c47_ : ((r46.length : Int) == 0) = false := Bool.eq_false_iff.2 c47
        refine AW.condF (b := ((r46.length : Int) == 0)) rfl c47_ ?_
        refine AW.sub (Sub.bool 90 (b := ((r46.length : Int) == 0)) rfl c47_) ?_
        refine AW.sub (S' := mk 109 [1000] [(0, .ptr 1000 0 0), (3, .ptr 3 0 0), (9, .ref 87 0 r46.length), (90, .b false)] [(3, some (.box [.i a1.Tx, .d (.lit (.string a1.Table)), .d (.lit (.string a1.Key)), .i v41])), (87, R3 r46), (1000, some (.box [.ref 25000 0 a0.Granted.length, .ref 25001 0 a0.Queue.length])), (25000, R37 a0.Granted), (25001, R37 a0.Queue)]) (by simp; exact Sub.table (by simp) (by simp)) ?_
        refine AW.skip ?_
        refine thenQ_normal ?_
        refine AW.seq ?_
        refine AW.seqR ?_
        refine Chain.runK [] 4 fun K hK => ?_; simp; refine hK _ _ ?_; clear hK K
        refine Chain.sub (S' := mk 109 [1000] [(0, .ptr 1000 0 0), (3, .ptr 3 0 0), (94, .ptr 1000 0 0), (95, .ref 87 0 r46.length), (97, .i a1.Tx)] [(3, some (.box [.i a1.Tx, .d (.lit (.string a1.Table)), .d (.lit (.string a1.Key)), .i v41])), (87, R3 r46), (1000, some (.box [.ref 25000 0 a0.Granted.length, .ref 25001 0 a0.Queue.length])), (25000, R37 a0.Granted), (25001, R37 a0.Queue)]) Sub.tt ?_
        replace h := bsome h; obtain ⟨r49, hr49, h⟩ := h
        refine Chain.callL (d := 98) (p29 N a0 r46 a1.Tx r49 hr49) (by simp) rfl rfl (by simp <;> rfl) (by simp <;> rfl) ent29 (by simp <;> rfl) ?_
        refine Chain.sub (S' := mk 109 [1000] [(0, .ptr 1000 0 0), (3, .ptr 3 0 0), (94, .ptr 1000 0 0), (95, .ref 87 0 r46.length), (97, .i a1.Tx), (98, .b r49)] [(3, some (.box [.i a1.Tx, .d (.lit (.string a1.Table)), .d (.lit (.string a1.Key)), .i v41])), (87, R3 r46), (1000, some (.box [.ref 25000 0 a0.Granted.length, .ref 25001 0 a0.Queue.length])), (25000, R37 a0.Granted), (25001, R37 a0.Queue)]) (by simp; exact Sub.table (by simp) (by simp)) ?_
        refine Chain.nil ?_
        replace h := isome h; rcases h with ⟨c50, h⟩ | ⟨c50, h⟩
        ·have c50_ : r49 = true := c50
         refine AW.condT (b := r49) rfl c50_ ?_
         refine AW.sub (Sub.bool 98 (b := r49) rfl c50_) ?_
         refine AW.sub (S' := mk 109 [1000] [(0, .ptr 1000 0 0), (3, .ptr 3 0 0), (94, .ptr 1000 0 0), (95, .ref 87 0 r46.length), (97, .i a1.Tx), (98, .b true)] [(3, some (.box [.i a1.Tx, .d (.lit (.string a1.Table)), .d (.lit (.string a1.Key)), .i v41])), (87, R3 r46), (1000, some (.box [.ref 25000 0 a0.Granted.length, .ref 25001 0 a0.Queue.length])), (25000, R37 a0.Granted), (25001, R37 a0.Queue)]) (by simp; exact Sub.table (by simp) (by simp)) ?_
         refine AW.seqR ?_
         refine Chain.runK [] 1 fun K hK => ?_; simp; refine hK _ _ ?_; clear hK K
         refine Chain.sub (S' := mk 109 [1000] [(4, .i 14)] [(1000, some (.box [.ref 25000 0 a0.Granted.length, .ref 25001 0 a0.Queue.length])), (25000, R37 a0.Granted), (25001, R37 a0.Queue)]) Sub.tt ?_
         refine Chain.nil ?_
         refine AW.ret ?_
         cases h
         refine thenQ_pass (by simp) ?_
         exact FinF.ret (by simp) (by simp)
        ·have c50_ : r49 = false := Bool.eq_false_iff.2 c50
         refine AW.condF (b := r49) rfl c50_ ?_
         refine AW.sub (Sub.bool 98 (b := r49) rfl c50_) ?_
         refine AW.sub (S' := mk 109 [1000] [(0, .ptr 1000 0 0), (3, .ptr 3 0 0), (94, .ptr 1000 0 0), (95, .ref 87 0 r46.length), (97, .i a1.Tx), (98, .b false)] [(3, some (.box [.i a1.Tx, .d (.lit (.string a1.Table)), .d (.lit (.string a1.Key)), .i v41])), (87, R3 r46), (1000, some (.box [.ref 25000 0 a0.Granted.length, .ref 25001 0 a0.Queue.length])), (25000, R37 a0.Granted), (25001, R37 a0.Queue)]) (by simp; exact Sub.table (by simp) (by simp)) ?_
         refine AW.skip ?_
         refine thenQ_normal ?_
         replace h := bsome h; obtain ⟨l51, hl51, h⟩ := h
         obtain ⟨hl51a, hl51⟩ := appL_some hl51
         subst hl51
         try simp only [List.length_cons, List.length_nil, Nat.zero_add] at hl51a
         refine AW.seqAnyS [[], [], [1], [1, 2], [1, 2, 3], [], [5], [1, 2, 3, 4, 5, 6], [0, 1, 2, 3, 4, 5, 6, 7], [0, 1, 2, 3, 4, 5, 6, 7, 8], [0, 1, 2, 3, 4, 5, 6, 7, 8, 9]] (fun (b : Nat → Bool) => mk 109 [1000] [(0, .ptr 1000 0 0), (3, .ptr 3 0 0), (99, (if b 0 then .ptr 1000 0 0 else .junk)), (100, (if b 1 then .ptr 1000 0 0 else .junk)), (101, (if b 2 then .ptr 1000 0 0 else .junk)), (102, (if b 3 then .ptr 1000 0 1 else .junk)), (103, (if b 7 then .junk else (if b 4 then .ref 25001 0 a0.Queue.length else .junk))), (104, (if b 5 then .agg [.i a1.Tx, .d (.lit (.string a1.Table)), .d (.lit (.string a1.Key)), .i v41] else .junk)), (105, (if b 6 then .d (.sl ([(S29.mk a1.Tx a1.Table a1.Key v41)].map cS29)) else .junk)), (106, (if b 7 then .ref 25001 0 ((a0.Queue ++ [(S29.mk a1.Tx a1.Table a1.Key v41)]).length) else .junk)), (107, (if b 8 then .ptr 1000 0 0 else .junk)), (108, (if b 9 then .ptr 1000 0 1 else .junk))] [(3, some (.box [.i a1.Tx, .d (.lit (.string a1.Table)), .d (.lit (.string a1.Key)), .i v41])), (1000, (if b 10 then some (.box [.ref 25000 0 a0.Granted.length, .ref 25001 0 ((a0.Queue ++ [(S29.mk a1.Tx a1.Table a1.Key v41)]).length)]) else (if b 7 then some (.box [.ref 25000 0 a0.Granted.length, .hole]) else some (.box [.ref 25000 0 a0.Granted.length, .ref 25001 0 a0.Queue.length])))), (25000, R37 a0.Granted), (25001, (if b 7 then R37 (a0.Queue ++ [(S29.mk a1.Tx a1.Table a1.Key v41)]) else R37 a0.Queue))]) (mk 109 [1000] [] [(1000, some (.box [.ref 25000 0 a0.Granted.length, .ref 25001 0 ((a0.Queue ++ [(S29.mk a1.Tx a1.Table a1.Key v41)]).length)])), (25000, R37 a0.Granted), (25001, R37 (a0.Queue ++ [(S29.mk a1.Tx a1.Table a1.Key v41)]))]) (by kernel_rfl) (by kernel_rfl) Sub.tt (Steps.cons ?_ (Steps.cons ?_ (Steps.cons ?_ (Steps.cons ?_ (Steps.cons ?_ (Steps.cons ?_ (Steps.cons ?_ (Steps.cons ?_ (Steps.cons ?_ (Steps.cons ?_ (Steps.cons ?_ (Steps.nil)))))))))))) ?_ ?_
         ·intro b h0 ha hd
          have f8 : b 8 = false := hd 8 (by decide)
          have f9 : b 9 = false := hd 9 (by decide)
          have f10 : b 10 = false := hd 10 (by decide)
          refine Chain.runK [105] 1 fun K hK => ?_; simp [h0, f8, f9, f10]; refine hK _ _ ?_; clear hK K
          exact Chain.nil (Sub.table (by simp [f8, f9]) (by simp [f10]))
         ·intro b h0 ha hd
          have f2 : b 2 = false := hd 2 (by decide)
          have f3 : b 3 = false := hd 3 (by decide)
          have f4 : b 4 = false := hd 4 (by decide)
          have f7 : b 7 = false := hd 7 (by decide)
          have f8 : b 8 = false := hd 8 (by decide)
          have f9 : b 9 = false := hd 9 (by decide)
          have f10 : b 10 = false := hd 10 (by decide)
          refine Chain.runK [105] 1 fun K hK => ?_; simp [h0, f2, f3, f4, f7, f8, f9, f10]; refine hK _ _ ?_; clear hK K
          exact Chain.nil (Sub.table (by simp [f2, f3, f4, f7, f8, f9]) (by simp [f7, f10]))
         ·intro b h0 ha hd
          have t1 : b 1 = true := ha 1 (by decide)
          have f3 : b 3 = false := hd 3 (by decide)
          have f4 : b 4 = false := hd 4 (by decide)
          have f7 : b 7 = false := hd 7 (by decide)
          have f8 : b 8 = false := hd 8 (by decide)
          have f9 : b 9 = false := hd 9 (by decide)
          have f10 : b 10 = false := hd 10 (by decide)
          refine Chain.runK [105] 1 fun K hK => ?_; simp [h0, t1, f3, f4, f7, f8, f9, f10]; refine hK _ _ ?_; clear hK K
          exact Chain.nil (Sub.table (by simp [t1, f3, f4, f7, f8, f9]) (by simp [f7, f10]))
         ·intro b h0 ha hd
          have t1 : b 1 = true := ha 1 (by decide)
          have t2 : b 2 = true := ha 2 (by decide)
          have f4 : b 4 = false := hd 4 (by decide)
          have f7 : b 7 = false := hd 7 (by decide)
          have f8 : b 8 = false := hd 8 (by decide)
          have f9 : b 9 = false := hd 9 (by decide)
          have f10 : b 10 = false := hd 10 (by decide)
          refine Chain.runK [105] 1 fun K hK => ?_; simp [h0, t1, t2, f4, f7, f8, f9, f10]; refine hK _ _ ?_; clear hK K
          exact Chain.nil (Sub.table (by simp [t1, t2, f4, f7, f8, f9]) (by simp [f7, f10]))
         ·intro b h0 ha hd
          have t1 : b 1 = true := ha 1 (by decide)
          have t2 : b 2 = true := ha 2 (by decide)
          have t3 : b 3 = true := ha 3 (by decide)
          have f7 : b 7 = false := hd 7 (by decide)
          have f8 : b 8 = false := hd 8 (by decide)
          have f9 : b 9 = false := hd 9 (by decide)
          have f10 : b 10 = false := hd 10 (by decide)
          refine Chain.runK [105] 1 fun K hK => ?_; simp [h0, t1, t2, t3, f7, f8, f9, f10]; refine hK _ _ ?_; clear hK K
          exact Chain.nil (Sub.table (by simp [t1, t2, t3, f7, f8, f9]) (by simp [f7, f10]))
         ·intro b h0 ha hd
          have f6 : b 6 = false := hd 6 (by decide)
          have f7 : b 7 = false := hd 7 (by decide)
          have f8 : b 8 = false := hd 8 (by decide)
          have f9 : b 9 = false := hd 9 (by decide)
          have f10 : b 10 = false := hd 10 (by decide)
          refine Chain.runK [105] 1 fun K hK => ?_; simp [h0, f6, f7, f8, f9, f10]; refine hK _ _ ?_; clear hK K
          exact Chain.nil (Sub.table (by simp [f6, f7, f8, f9]) (by simp [f7, f10]))
         ·intro b h0 ha hd
          have t5 : b 5 = true := ha 5 (by decide)
          have f7 : b 7 = false := hd 7 (by decide)
          have f8 : b 8 = false := hd 8 (by decide)
          have f9 : b 9 = false := hd 9 (by decide)
          have f10 : b 10 = false := hd 10 (by decide)
          refine Chain.runK [105] 1 fun K hK => ?_; simp [h0, t5, f7, f8, f9, f10]; refine hK _ _ ?_; clear hK K
          exact Chain.nil (Sub.table (by simp [t5, f7, f8, f9]) (by simp [f7, f10]))
         ·intro b h0 ha hd
          have t1 : b 1 = true := ha 1 (by decide)
          have t2 : b 2 = true := ha 2 (by decide)
          have t3 : b 3 = true := ha 3 (by decide)
          have t4 : b 4 = true := ha 4 (by decide)
          have t5 : b 5 = true := ha 5 (by decide)
          have t6 : b 6 = true := ha 6 (by decide)
          have f8 : b 8 = false := hd 8 (by decide)
          have f9 : b 9 = false := hd 9 (by decide)
          have f10 : b 10 = false := hd 10 (by decide)
          refine Chain.runK [105] 1 fun K hK => ?_; simp [h0, t1, t2, t3, t4, t5, t6, f8, f9, f10, hl51a]; refine hK _ _ ?_; clear hK K
          exact Chain.nil (Sub.table (by simp [t1, t2, t3, t5, t6, f8, f9]) (by simp [f10]))
         ·intro b h0 ha hd
          have t0 : b 0 = true := ha 0 (by decide)
          have t1 : b 1 = true := ha 1 (by decide)
          have t2 : b 2 = true := ha 2 (by decide)
          have t3 : b 3 = true := ha 3 (by decide)
          have t4 : b 4 = true := ha 4 (by decide)
          have t5 : b 5 = true := ha 5 (by decide)
          have t6 : b 6 = true := ha 6 (by decide)
          have t7 : b 7 = true := ha 7 (by decide)
          have f9 : b 9 = false := hd 9 (by decide)
          have f10 : b 10 = false := hd 10 (by decide)
          refine Chain.runK [105] 1 fun K hK => ?_; simp [h0, t0, t1, t2, t3, t5, t6, t7, f9, f10]; refine hK _ _ ?_; clear hK K
          exact Chain.nil (Sub.table (by simp [t0, t1, t2, t3, t5, t6, t7, f9]) (by simp [t7, f10]))
         ·intro b h0 ha hd
          have t0 : b 0 = true := ha 0 (by decide)
          have t1 : b 1 = true := ha 1 (by decide)
          have t2 : b 2 = true := ha 2 (by decide)
          have t3 : b 3 = true := ha 3 (by decide)
          have t4 : b 4 = true := ha 4 (by decide)
          have t5 : b 5 = true := ha 5 (by decide)
          have t6 : b 6 = true := ha 6 (by decide)
          have t7 : b 7 = true := ha 7 (by decide)
          have t8 : b 8 = true := ha 8 (by decide)
          have f10 : b 10 = false := hd 10 (by decide)
          refine Chain.runK [105] 1 fun K hK => ?_; simp [h0, t0, t1, t2, t3, t5, t6, t7, t8, f10]; refine hK _ _ ?_; clear hK K
          exact Chain.nil (Sub.table (by simp [t0, t1, t2, t3, t5, t6, t7, t8]) (by simp [t7, f10]))
         ·intro b h0 ha hd
          have t0 : b 0 = true := ha 0 (by decide)
          have t1 : b 1 = true := ha 1 (by decide)
          have t2 : b 2 = true := ha 2 (by decide)
          have t3 : b 3 = true := ha 3 (by decide)
          have t4 : b 4 = true := ha 4 (by decide)
          have t5 : b 5 = true := ha 5 (by decide)
          have t6 : b 6 = true := ha 6 (by decide)
          have t7 : b 7 = true := ha 7 (by decide)
          have t8 : b 8 = true := ha 8 (by decide)
          have t9 : b 9 = true := ha 9 (by decide)
          refine Chain.runK [105] 1 fun K hK => ?_; simp [h0, t0, t1, t2, t3, t5, t6, t7, t8, t9]; refine hK _ _ ?_; clear hK K
          exact Chain.nil (Sub.table (by simp [t0, t1, t2, t3, t5, t6, t7, t8, t9]) (by simp [t7]))
         ·intro b hb
          have t0 := hb 0 (by decide)
          have t1 := hb 1 (by decide)
          have t2 := hb 2 (by decide)
          have t3 := hb 3 (by decide)
          have t4 := hb 4 (by decide)
          have t5 := hb 5 (by decide)
          have t6 := hb 6 (by decide)
          have t7 := hb 7 (by decide)
          have t8 := hb 8 (by decide)
          have t9 := hb 9 (by decide)
          have t10 := hb 10 (by decide)
          exact Sub.table (by simp [t0, t1, t2, t3, t5, t6, t7, t8, t9]) (by simp [t7, t10])
         ·skip
          refine AW.seqR ?_
          refine Chain.runK [] 1 fun K hK => ?_; simp; refine hK _ _ ?_; clear hK K
          refine Chain.sub (S' := mk 109 [1000] [(4, .i 16)] [(1000, some (.box [.ref 25000 0 a0.Granted.length, .ref 25001 0 ((a0.Queue ++ [(S29.mk a1.Tx a1.Table a1.Key v41)]).length)])), (25000, R37 a0.Granted), (25001, R37 (a0.Queue ++ [(S29.mk a1.Tx a1.Table a1.Key v41)]))]) Sub.tt ?_
          refine Chain.nil ?_
          refine AW.ret ?_
          cases h
          exact FinF.ret (by simp) (by simp)

/-- (*stemma/locks.Manager).ReleaseAll$1 -/
def d30 (_N : Nat) (a0 : S29) (a1 : Int) : Option Bool :=
 some (a0.Tx == a1)
set_option maxRecDepth 100000 in
set_option maxHeartbeats 4000000 in
theorem p30 (N : Nat) (a0 : S29) (a1 : Int) (r : Bool) (h : d30 N a0 a1 = some r) : FunC Try.prog 30 [.agg [.i a0.Tx, .d (.lit (.string a0.Table)), .d (.lit (.string a0.Key)), .i a0.Mode], .d (.pim [.lit (.int .i64 a1)])] (.b r) := by
 unfold d30 at h
 refine FunC.enter 8 [(0, .agg [.i a0.Tx, .d (.lit (.string a0.Table)), .d (.lit (.string a0.Key)), .i a0.Mode]), (1, .d (.pim [.lit (.int .i64 a1)]))] (by simp) Try.func30 rfl (of_decide_eq_true rfl) rfl rfl ?_
 refine AW.seqR ?_
 refine Chain.runK [] 2 fun K hK => ?_; simp; refine hK _ _ ?_; clear hK K
 refine Chain.sub (S' := mk 8 [] [(1, .d (.pim [.lit (.int .i64 a1)])), (2, .ptr 2 0 0)] [(2, some (.box [.i a0.Tx, .d (.lit (.string a0.Table)), .d (.lit (.string a0.Key)), .i a0.Mode]))]) Sub.tt ?_
 refine Chain.nil ?_
 refine AW.seqR ?_
 refine Chain.runK [] 5 fun K hK => ?_; simp; refine hK _ _ ?_; clear hK K
 refine Chain.sub (S' := mk 8 [] [(3, .b (a0.Tx == a1))] []) Sub.tt ?_
 refine Chain.nil ?_
 refine AW.ret ?_
 cases h
 exact FinC.ret (by simp) (by simp)

end Go.Proofs.Ytdiekinmoklonaa
