/- Functions of the program as functional programs; the code computes them. -/
import Derived.Test.YtdiekinmoklonaaLk7
namespace Go.Proofs.Ytdiekinmoklonaa
open Go.Ab Go.Rp
attribute [-simp] List.all_eq_true Array.all_toList Array.all_eq_true

/-- (*stemma/stemref5.LockTable).grant -/
def d28 (N : Nat) (a0 : S33) (a1 : S29) : Option S33 :=
 bindO (β := Unit) (ρ := S33) (
  iterN (σ := Int) (ρ := (Out Unit S33)) (fun (v12 : Int) =>
   if v12 < (a0.Granted.length : Int) then (
    (idx a0.Granted v12).bind fun x41 =>
    Option.bind (α := Bool) (
     if (x41.Tx == a1.Tx) then (
      if decide (x41.Table = a1.Table) = true then (
       some (decide (x41.Key = a1.Key))
      ) else
      some false
     ) else
     some false
    ) fun (v45 : Bool) =>
    if v45 = true then (
     (idx a0.Granted v12).bind fun x49 =>
     letv (setI a0.Granted v12 (S29.mk x49.Tx x49.Table x49.Key a1.Mode)) fun l51 =>
     some (.inr (.ret (S33.mk l51 a0.Queue)))
    ) else
    (chkI (v12 + 1)).bind fun v52 =>
    some (.inl v52)
   ) else
   some (.inr (.go ()))
  ) N 0
 ) fun (_ : Unit) =>
 (appL 48 a0.Granted [a1]).bind fun _l53 =>
 some (S33.mk (a0.Granted ++ [a1]) a0.Queue)
set_option maxRecDepth 100000 in
set_option maxHeartbeats 4000000 in
theorem p28 (N : Nat) (a0 : S33) (a1 : S29) (r : S33) (h : d28 N a0 a1 = some r) : FunM Try.prog 28 [.ptr 1000 0 0, .agg [.i a1.Tx, .d (.lit (.string a1.Table)), .d (.lit (.string a1.Key)), .i a1.Mode]] [(1000, some (.box [.ref 25000 0 a0.Granted.length, .ref 25001 0 a0.Queue.length])), (25000, R37 a0.Granted), (25001, R37 a0.Queue)] [1000] (.tup []) ([(1000, (.box [.ref 25000 0 r.Granted.length, .ref 25001 0 r.Queue.length])), (25000, (.arr 37 4 (r.Granted.map cS29))), (25001, (.arr 37 4 (r.Queue.map cS29)))]) := by
 unfold d28 at h
 refine FunM.enter 55 [(0, .ptr 1000 0 0), (1, .agg [.i a1.Tx, .d (.lit (.string a1.Table)), .d (.lit (.string a1.Key)), .i a1.Mode])] Try.func28 rfl (of_decide_eq_true rfl) rfl rfl ?_
 refine AW.seqR ?_
 refine Chain.runK [] 1 fun K hK => ?_; simp; refine hK _ _ ?_; clear hK K
 refine Chain.sub (S' := mk 55 [1000] [(0, .ptr 1000 0 0), (3, .ptr 3 0 0)] [(3, some (.box [.i a1.Tx, .d (.lit (.string a1.Table)), .d (.lit (.string a1.Key)), .i a1.Mode])), (1000, some (.box [.ref 25000 0 a0.Granted.length, .ref 25001 0 a0.Queue.length])), (25000, R37 a0.Granted), (25001, R37 a0.Queue)]) Sub.tt ?_
 refine Chain.nil ?_
 refine AW.seq ?_
 refine AW.seqR ?_
 refine Chain.runK [] 6 fun K hK => ?_; simp; refine hK _ _ ?_; clear hK K
 refine Chain.sub (S' := mk 55 [1000] [(0, .ptr 1000 0 0), (3, .ptr 3 0 0), (9, .ref 25000 0 a0.Granted.length), (10, .i (a0.Granted.length : Int)), (11, .i 0)] [(3, some (.box [.i a1.Tx, .d (.lit (.string a1.Table)), .d (.lit (.string a1.Key)), .i a1.Mode])), (1000, some (.box [.ref 25000 0 a0.Granted.length, .ref 25001 0 a0.Queue.length])), (25000, R37 a0.Granted), (25001, R37 a0.Queue)]) Sub.tt ?_
 refine Chain.nil ?_
 refine AW.lastJ (fun (_ : Unit) => mk 55 [1000] [(0, .ptr 1000 0 0), (3, .ptr 3 0 0)] [(3, some (.box [.i a1.Tx, .d (.lit (.string a1.Table)), .d (.lit (.string a1.Key)), .i a1.Mode])), (1000, some (.box [.ref 25000 0 a0.Granted.length, .ref 25001 0 a0.Queue.length])), (25000, R37 a0.Granted), (25001, R37 a0.Queue)]) h ?_ ?_ <;> clear h
 ·intro o h
  refine AW.block ?_
  refine AW.iter (fun (v12 : Int) => mk 55 [1000] [(0, .ptr 1000 0 0), (3, .ptr 3 0 0), (9, .ref 25000 0 a0.Granted.length), (10, .i (a0.Granted.length : Int)), (11, .i v12)] [(3, some (.box [.i a1.Tx, .d (.lit (.string a1.Table)), .d (.lit (.string a1.Key)), .i a1.Mode])), (1000, some (.box [.ref 25000 0 a0.Granted.length, .ref 25001 0 a0.Queue.length])), (25000, R37 a0.Granted), (25001, R37 a0.Queue)]) h Sub.tt ?_
  clear h
  rintro v12 x h
  refine AW.seqR ?_
  refine Chain.runK [] 1 fun K hK => ?_; simp; refine hK _ _ ?_; clear hK K
  refine Chain.sub (S' := mk 55 [1000] [(0, .ptr 1000 0 0), (3, .ptr 3 0 0), (9, .ref 25000 0 a0.Granted.length), (10, .i (a0.Granted.length : Int)), (11, .i v12), (12, .b (decide (v12 < (a0.Granted.length : Int))))] [(3, some (.box [.i a1.Tx, .d (.lit (.string a1.Table)), .d (.lit (.string a1.Key)), .i a1.Mode])), (1000, some (.box [.ref 25000 0 a0.Granted.length, .ref 25001 0 a0.Queue.length])), (25000, R37 a0.Granted), (25001, R37 a0.Queue)]) Sub.tt ?_
  refine Chain.nil ?_
  refine AW.seq ?_
  replace h := isome h; rcases h with ⟨c40, h⟩ | ⟨c40, h⟩
  ·have c40_ : decide (v12 < (a0.Granted.length : Int)) = true := decide_eq_true c40
   refine AW.condT (b := decide (v12 < (a0.Granted.length : Int))) rfl c40_ ?_
   refine AW.sub (Sub.bool 12 (b := decide (v12 < (a0.Granted.length : Int))) rfl c40_) ?_
   refine AW.sub (S' := mk 55 [1000] [(0, .ptr 1000 0 0), (3, .ptr 3 0 0), (9, .ref 25000 0 a0.Granted.length), (10, .i (a0.Granted.length : Int)), (11, .i v12), (12, .b true)] [(3, some (.box [.i a1.Tx, .d (.lit (.string a1.Table)), .d (.lit (.string a1.Key)), .i a1.Mode])), (1000, some (.box [.ref 25000 0 a0.Granted.length, .ref 25001 0 a0.Queue.length])), (25000, R37 a0.Granted), (25001, R37 a0.Queue)]) (by simp; exact Sub.table (by simp) (by simp)) ?_
   refine AW.skip ?_
   refine thenQ_normal ?_
   refine AW.seq ?_
   refine AW.block ?_
   refine AW.seqR ?_
   replace h := bsome h; obtain ⟨x41, hx41, h⟩ := h
   obtain ⟨k42, hx41k, hx41, hx41a, hx41b⟩ := idx_some hx41
   refine Chain.runK [] 6 fun K hK => ?_; simp [hx41, hx41k, hx41a, hx41b]; refine hK _ _ ?_; clear hK K
   refine Chain.sub (S' := mk 55 [1000] [(0, .ptr 1000 0 0), (3, .ptr 3 0 0), (4, .i v12), (5, .ptr 5 0 0), (9, .ref 25000 0 a0.Granted.length), (10, .i (a0.Granted.length : Int)), (11, .i v12)] [(3, some (.box [.i a1.Tx, .d (.lit (.string a1.Table)), .d (.lit (.string a1.Key)), .i a1.Mode])), (5, some (.box [.i x41.Tx, .d (.lit (.string x41.Table)), .d (.lit (.string x41.Key)), .i x41.Mode])), (1000, some (.box [.ref 25000 0 a0.Granted.length, .ref 25001 0 a0.Queue.length])), (25000, R37 a0.Granted), (25001, R37 a0.Queue)]) Sub.tt ?_
   refine Chain.nil ?_
   replace h := bsome h; obtain ⟨v45, hj, h⟩ := h
   refine AW.cutR (mk 55 [1000] [(0, .ptr 1000 0 0), (3, .ptr 3 0 0), (4, .i v12), (9, .ref 25000 0 a0.Granted.length), (10, .i (a0.Granted.length : Int)), (11, .i v12), (34, .b v45)] [(3, some (.box [.i a1.Tx, .d (.lit (.string a1.Table)), .d (.lit (.string a1.Key)), .i a1.Mode])), (1000, some (.box [.ref 25000 0 a0.Granted.length, .ref 25001 0 a0.Queue.length])), (25000, R37 a0.Granted), (25001, R37 a0.Queue)]) ?_ ?_
   ·clear h; have h := hj; clear hj
    refine Chain.runK [] 6 fun K hK => ?_; simp; refine hK _ _ ?_; clear hK K
    refine Chain.sub (S' := mk 55 [1000] [(0, .ptr 1000 0 0), (3, .ptr 3 0 0), (4, .i v12), (5, .ptr 5 0 0), (9, .ref 25000 0 a0.Granted.length), (10, .i (a0.Granted.length : Int)), (11, .i v12), (21, .b (x41.Tx == a1.Tx))] [(3, some (.box [.i a1.Tx, .d (.lit (.string a1.Table)), .d (.lit (.string a1.Key)), .i a1.Mode])), (5, some (.box [.i x41.Tx, .d (.lit (.string x41.Table)), .d (.lit (.string x41.Key)), .i x41.Mode])), (1000, some (.box [.ref 25000 0 a0.Granted.length, .ref 25001 0 a0.Queue.length])), (25000, R37 a0.Granted), (25001, R37 a0.Queue)]) Sub.tt ?_
    replace h := isome h; rcases h with ⟨c46, h⟩ | ⟨c46, h⟩
    ·have c46_ : (x41.Tx == a1.Tx) = true := c46
     refine Chain.sub (Sub.bool 21 (b := (x41.Tx == a1.Tx)) rfl c46_) ?_
     refine Chain.sub (S' := mk 55 [1000] [(0, .ptr 1000 0 0), (3, .ptr 3 0 0), (4, .i v12), (5, .ptr 5 0 0), (9, .ref 25000 0 a0.Granted.length), (10, .i (a0.Granted.length : Int)), (11, .i v12), (21, .b true)] [(3, some (.box [.i a1.Tx, .d (.lit (.string a1.Table)), .d (.lit (.string a1.Key)), .i a1.Mode])), (5, some (.box [.i x41.Tx, .d (.lit (.string x41.Table)), .d (.lit (.string x41.Key)), .i x41.Mode])), (1000, some (.box [.ref 25000 0 a0.Granted.length, .ref 25001 0 a0.Queue.length])), (25000, R37 a0.Granted), (25001, R37 a0.Queue)]) (by simp; exact Sub.table (by simp) (by simp)) ?_
     refine Chain.runK [] 7 fun K hK => ?_; simp; refine hK _ _ ?_; clear hK K
     refine Chain.sub (S' := mk 55 [1000] [(0, .ptr 1000 0 0), (3, .ptr 3 0 0), (4, .i v12), (5, .ptr 5 0 0), (9, .ref 25000 0 a0.Granted.length), (10, .i (a0.Granted.length : Int)), (11, .i v12), (22, .ptr 5 0 1), (23, .d (.lit (.string x41.Table))), (24, .ptr 3 0 1), (25, .d (.lit (.string a1.Table))), (26, .b (decide (x41.Table = a1.Table))), (28, .b (decide (x41.Table = a1.Table)))] [(3, some (.box [.i a1.Tx, .d (.lit (.string a1.Table)), .d (.lit (.string a1.Key)), .i a1.Mode])), (5, some (.box [.i x41.Tx, .d (.lit (.string x41.Table)), .d (.lit (.string x41.Key)), .i x41.Mode])), (1000, some (.box [.ref 25000 0 a0.Granted.length, .ref 25001 0 a0.Queue.length])), (25000, R37 a0.Granted), (25001, R37 a0.Queue)]) Sub.tt ?_
     replace h := isome h; rcases h with ⟨c47, h⟩ | ⟨c47, h⟩
     ·have c47_ : decide (x41.Table = a1.Table) = true := c47
      refine Chain.sub (Sub.bool 26 (b := decide (x41.Table = a1.Table)) rfl c47_) ?_
      refine Chain.sub (Sub.bool 28 (b := decide (x41.Table = a1.Table)) rfl c47_) ?_
      refine Chain.sub (S' := mk 55 [1000] [(0, .ptr 1000 0 0), (3, .ptr 3 0 0), (4, .i v12), (5, .ptr 5 0 0), (9, .ref 25000 0 a0.Granted.length), (10, .i (a0.Granted.length : Int)), (11, .i v12), (22, .ptr 5 0 1), (23, .d (.lit (.string x41.Table))), (24, .ptr 3 0 1), (25, .d (.lit (.string a1.Table))), (26, .b true), (28, .b true)] [(3, some (.box [.i a1.Tx, .d (.lit (.string a1.Table)), .d (.lit (.string a1.Key)), .i a1.Mode])), (5, some (.box [.i x41.Tx, .d (.lit (.string x41.Table)), .d (.lit (.string x41.Key)), .i x41.Mode])), (1000, some (.box [.ref 25000 0 a0.Granted.length, .ref 25001 0 a0.Queue.length])), (25000, R37 a0.Granted), (25001, R37 a0.Queue)]) (by simp; exact Sub.table (by simp) (by simp)) ?_
      refine Chain.runK [] 6 fun K hK => ?_; simp; refine hK _ _ ?_; clear hK K
      refine Chain.sub (S' := mk 55 [1000] [(0, .ptr 1000 0 0), (3, .ptr 3 0 0), (4, .i v12), (9, .ref 25000 0 a0.Granted.length), (10, .i (a0.Granted.length : Int)), (11, .i v12), (22, .ptr 5 0 1), (23, .d (.lit (.string x41.Table))), (24, .ptr 3 0 1), (25, .d (.lit (.string a1.Table))), (26, .b true), (29, .ptr 5 0 2), (30, .d (.lit (.string x41.Key))), (31, .ptr 3 0 2), (32, .d (.lit (.string a1.Key))), (33, .b (decide (x41.Key = a1.Key))), (34, .b (decide (x41.Key = a1.Key)))] [(3, some (.box [.i a1.Tx, .d (.lit (.string a1.Table)), .d (.lit (.string a1.Key)), .i a1.Mode])), (5, some (.box [.i x41.Tx, .d (.lit (.string x41.Table)), .d (.lit (.string x41.Key)), .i x41.Mode])), (1000, some (.box [.ref 25000 0 a0.Granted.length, .ref 25001 0 a0.Queue.length])), (25000, R37 a0.Granted), (25001, R37 a0.Queue)]) Sub.tt ?_
      cases h
      exact Chain.nil Sub.tt
     ·have c47_ : decide (x41.Table = a1.Table) = false := Bool.eq_false_iff.2 c47
      refine Chain.sub (Sub.bool 26 (b := decide (x41.Table = a1.Table)) rfl c47_) ?_
      refine Chain.sub (Sub.bool 28 (b := decide (x41.Table = a1.Table)) rfl c47_) ?_
      refine Chain.sub (S' := mk 55 [1000] [(0, .ptr 1000 0 0), (3, .ptr 3 0 0), (4, .i v12), (5, .ptr 5 0 0), (9, .ref 25000 0 a0.Granted.length), (10, .i (a0.Granted.length : Int)), (11, .i v12), (22, .ptr 5 0 1), (23, .d (.lit (.string x41.Table))), (24, .ptr 3 0 1), (25, .d (.lit (.string a1.Table))), (26, .b false), (28, .b false)] [(3, some (.box [.i a1.Tx, .d (.lit (.string a1.Table)), .d (.lit (.string a1.Key)), .i a1.Mode])), (5, some (.box [.i x41.Tx, .d (.lit (.string x41.Table)), .d (.lit (.string x41.Key)), .i x41.Mode])), (1000, some (.box [.ref 25000 0 a0.Granted.length, .ref 25001 0 a0.Queue.length])), (25000, R37 a0.Granted), (25001, R37 a0.Queue)]) (by simp; exact Sub.table (by simp) (by simp)) ?_
      refine Chain.runK [] 6 fun K hK => ?_; simp; refine hK _ _ ?_; clear hK K
      refine Chain.sub (S' := mk 55 [1000] [(0, .ptr 1000 0 0), (3, .ptr 3 0 0), (4, .i v12), (9, .ref 25000 0 a0.Granted.length), (10, .i (a0.Granted.length : Int)), (11, .i v12), (22, .ptr 5 0 1), (23, .d (.lit (.string x41.Table))), (24, .ptr 3 0 1), (25, .d (.lit (.string a1.Table))), (26, .b false), (29, .tup []), (30, .tup []), (31, .tup []), (32, .tup []), (33, .tup []), (34, .b false)] [(3, some (.box [.i a1.Tx, .d (.lit (.string a1.Table)), .d (.lit (.string a1.Key)), .i a1.Mode])), (5, some (.box [.i x41.Tx, .d (.lit (.string x41.Table)), .d (.lit (.string x41.Key)), .i x41.Mode])), (1000, some (.box [.ref 25000 0 a0.Granted.length, .ref 25001 0 a0.Queue.length])), (25000, R37 a0.Granted), (25001, R37 a0.Queue)]) Sub.tt ?_
      cases h
      exact Chain.nil Sub.tt
    ·have c46_ : (x41.Tx == a1.Tx) = false := Bool.eq_false_iff.2 c46
     refine Chain.sub (Sub.bool 21 (b := (x41.Tx == a1.Tx)) rfl c46_) ?_
     refine Chain.sub (S' := mk 55 [1000] [(0, .ptr 1000 0 0), (3, .ptr 3 0 0), (4, .i v12), (5, .ptr 5 0 0), (9, .ref 25000 0 a0.Granted.length), (10, .i (a0.Granted.length : Int)), (11, .i v12), (21, .b false)] [(3, some (.box [.i a1.Tx, .d (.lit (.string a1.Table)), .d (.lit (.string a1.Key)), .i a1.Mode])), (5, some (.box [.i x41.Tx, .d (.lit (.string x41.Table)), .d (.lit (.string x41.Key)), .i x41.Mode])), (1000, some (.box [.ref 25000 0 a0.Granted.length, .ref 25001 0 a0.Queue.length])), (25000, R37 a0.Granted), (25001, R37 a0.Queue)]) (by simp; exact Sub.table (by simp) (by simp)) ?_
     refine Chain.runK [] 13 fun K hK => ?_; simp; refine hK _ _ ?_; clear hK K
     refine Chain.sub (S' := mk 55 [1000] [(0, .ptr 1000 0 0), (3, .ptr 3 0 0), (4, .i v12), (9, .ref 25000 0 a0.Granted.length), (10, .i (a0.Granted.length : Int)), (11, .i v12), (22, .tup []), (23, .tup []), (24, .tup []), (25, .tup []), (26, .tup []), (29, .tup []), (30, .tup []), (31, .tup []), (32, .tup []), (33, .tup []), (34, .b false)] [(3, some (.box [.i a1.Tx, .d (.lit (.string a1.Table)), .d (.lit (.string a1.Key)), .i a1.Mode])), (1000, some (.box [.ref 25000 0 a0.Granted.length, .ref 25001 0 a0.Queue.length])), (25000, R37 a0.Granted), (25001, R37 a0.Queue)]) Sub.tt ?_
     cases h
     exact Chain.nil Sub.tt
   ·clear hj
    replace h := isome h; rcases h with ⟨c48, h⟩ | ⟨c48, h⟩
    ·have c48_ : v45 = true := c48
     refine AW.condT (b := v45) rfl c48_ ?_
     refine AW.sub (Sub.bool 34 (b := v45) rfl c48_) ?_
     refine AW.sub (S' := mk 55 [1000] [(0, .ptr 1000 0 0), (3, .ptr 3 0 0), (4, .i v12), (9, .ref 25000 0 a0.Granted.length), (10, .i (a0.Granted.length : Int)), (11, .i v12), (34, .b true)] [(3, some (.box [.i a1.Tx, .d (.lit (.string a1.Table)), .d (.lit (.string a1.Key)), .i a1.Mode])), (1000, some (.box [.ref 25000 0 a0.Granted.length, .ref 25001 0 a0.Queue.length])), (25000, R37 a0.Granted), (25001, R37 a0.Queue)]) (by simp; exact Sub.table (by simp) (by simp)) ?_
     replace h := bsome h; obtain ⟨x49, hx49, h⟩ := h
     obtain ⟨k50, hx49k, hx49, hx49a, hx49b⟩ := idx_some hx49
     refine AW.seqT 9 (by kernel_rfl) (by kernel_rfl) fun K hK => ?_; simp [hx49k, hx49a, hx49b]; refine hK _ _ ?_; clear hK K
     refine Chain.sub (S' := mk 55 [1000] [(41, .i a1.Mode), (43, .ptr 25000 k50 3)] [(1000, some (.box [.ref 25000 0 a0.Granted.length, .ref 25001 0 a0.Queue.length])), (25000, R37 a0.Granted), (25001, R37 a0.Queue)]) Sub.tt ?_
     replace h := lsome h; obtain ⟨l51, gl51, h⟩ := h
     obtain ⟨hl51, hl51n⟩ := setI_some cS29 gl51 hx49k
     replace hl51 : (a0.Granted.map cS29).set k50 [.lit (.int .i64 x49.Tx), .lit (.string x49.Table), .lit (.string x49.Key), .lit (.int .i64 a1.Mode)] = l51.map cS29 := hl51
     clear gl51
     refine Chain.runK [] 1 fun K hK => ?_; simp [hx49, hl51]; refine hK _ _ ?_; clear hK K
     refine Chain.sub (S' := mk 55 [1000] [] [(1000, some (.box [.ref 25000 0 l51.length, .ref 25001 0 a0.Queue.length])), (25000, R37 l51), (25001, R37 a0.Queue)]) (Sub.table (by simp) (by simp [hl51n])) ?_
     refine Chain.nil ?_
     refine AW.ret ?_
     cases h
     refine blockQ.ret ?_
     refine thenQ_pass (by simp) ?_
     refine PostI.out (by simp) ?_
     rintro rfl
     refine blockQ.ret ?_
     refine PostJ.out (by simp) ?_
     rintro rfl
     refine thenQ_pass (by simp) ?_
     exact FinF.ret (by simp) (by simp)
    ·have c48_ : v45 = false := Bool.eq_false_iff.2 c48
     refine AW.condF (b := v45) rfl c48_ ?_
     refine AW.sub (Sub.bool 34 (b := v45) rfl c48_) ?_
     refine AW.sub (S' := mk 55 [1000] [(0, .ptr 1000 0 0), (3, .ptr 3 0 0), (4, .i v12), (9, .ref 25000 0 a0.Granted.length), (10, .i (a0.Granted.length : Int)), (11, .i v12), (34, .b false)] [(3, some (.box [.i a1.Tx, .d (.lit (.string a1.Table)), .d (.lit (.string a1.Key)), .i a1.Mode])), (1000, some (.box [.ref 25000 0 a0.Granted.length, .ref 25001 0 a0.Queue.length])), (25000, R37 a0.Granted), (25001, R37 a0.Queue)]) (by simp; exact Sub.table (by simp) (by simp)) ?_
     refine AW.skip ?_
     refine blockQ.normal ?_
     refine thenQ_normal ?_
     refine AW.region ?_
     replace h := bsome h; obtain ⟨v52, hv52, h⟩ := h
     have hv52 := chkI_some hv52
     refine Chain.runK [] 2 fun K hK => ?_; simp [hv52]; refine hK _ _ ?_; clear hK K
     refine Chain.sub (S' := mk 55 [1000] [(0, .ptr 1000 0 0), (3, .ptr 3 0 0), (9, .ref 25000 0 a0.Granted.length), (10, .i (a0.Granted.length : Int)), (11, .i v52)] [(3, some (.box [.i a1.Tx, .d (.lit (.string a1.Table)), .d (.lit (.string a1.Key)), .i a1.Mode])), (1000, some (.box [.ref 25000 0 a0.Granted.length, .ref 25001 0 a0.Queue.length])), (25000, R37 a0.Granted), (25001, R37 a0.Queue)]) Sub.tt ?_
     refine Chain.nil ?_
     cases h
     refine PostI.next ?_
     exact Sub.tt
  ·have c40_ : decide (v12 < (a0.Granted.length : Int)) = false := decide_eq_false c40
   refine AW.condF (b := decide (v12 < (a0.Granted.length : Int))) rfl c40_ ?_
   refine AW.sub (Sub.bool 12 (b := decide (v12 < (a0.Granted.length : Int))) rfl c40_) ?_
   refine AW.sub (S' := mk 55 [1000] [(0, .ptr 1000 0 0), (3, .ptr 3 0 0), (9, .ref 25000 0 a0.Granted.length), (10, .i (a0.Granted.length : Int)), (11, .i v12), (12, .b false)] [(3, some (.box [.i a1.Tx, .d (.lit (.string a1.Table)), .d (.lit (.string a1.Key)), .i a1.Mode])), (1000, some (.box [.ref 25000 0 a0.Granted.length, .ref 25001 0 a0.Queue.length])), (25000, R37 a0.Granted), (25001, R37 a0.Queue)]) (by simp; exact Sub.table (by simp) (by simp)) ?_
   refine AW.exit ?_
   cases h
   refine thenQ_pass (by simp) ?_
   refine PostI.out (by simp) ?_
   rintro rfl
   refine blockQ.hit ?_
   refine PostJ.next ?_
   exact Sub.tt
 ·rintro ⟨⟩ h
  refine thenQ_normal ?_
  replace h := bsome h; obtain ⟨l53, hl53, h⟩ := h
  obtain ⟨hl53a, hl53⟩ := appL_some hl53
  subst hl53
  try simp only [List.length_cons, List.length_nil, Nat.zero_add] at hl53a
  refine AW.lastAnyS [[], [], [1], [1, 2], [1, 2, 3], [], [5], [1, 2, 3, 4, 5, 6], [0, 1, 2, 3, 4, 5, 6, 7], [0, 1, 2, 3, 4, 5, 6, 7, 8], [0, 1, 2, 3, 4, 5, 6, 7, 8, 9]] (fun (b : Nat → Bool) => mk 55 [1000] [(0, .ptr 1000 0 0), (3, .ptr 3 0 0), (45, (if b 0 then .ptr 1000 0 0 else .junk)), (46, (if b 1 then .ptr 1000 0 0 else .junk)), (47, (if b 2 then .ptr 1000 0 0 else .junk)), (48, (if b 3 then .ptr 1000 0 0 else .junk)), (49, (if b 7 then .junk else (if b 4 then .ref 25000 0 a0.Granted.length else .junk))), (50, (if b 5 then .agg [.i a1.Tx, .d (.lit (.string a1.Table)), .d (.lit (.string a1.Key)), .i a1.Mode] else .junk)), (51, (if b 6 then .d (.sl ([a1].map cS29)) else .junk)), (52, (if b 7 then .ref 25000 0 ((a0.Granted ++ [a1]).length) else .junk)), (53, (if b 8 then .ptr 1000 0 0 else .junk)), (54, (if b 9 then .ptr 1000 0 0 else .junk))] [(3, some (.box [.i a1.Tx, .d (.lit (.string a1.Table)), .d (.lit (.string a1.Key)), .i a1.Mode])), (1000, (if b 10 then some (.box [.ref 25000 0 ((a0.Granted ++ [a1]).length), .ref 25001 0 a0.Queue.length]) else (if b 7 then some (.box [.hole, .ref 25001 0 a0.Queue.length]) else some (.box [.ref 25000 0 a0.Granted.length, .ref 25001 0 a0.Queue.length])))), (25000, (if b 7 then R37 (a0.Granted ++ [a1]) else R37 a0.Granted)), (25001, R37 a0.Queue)]) (mk 55 [1000] [] [(1000, some (.box [.ref 25000 0 ((a0.Granted ++ [a1]).length), .ref 25001 0 a0.Queue.length])), (25000, R37 (a0.Granted ++ [a1])), (25001, R37 a0.Queue)]) (by kernel_rfl) (by kernel_rfl) Sub.tt (Steps.cons ?_ (Steps.cons ?_ (Steps.cons ?_ (Steps.cons ?_ (Steps.cons ?_ (Steps.cons ?_ (Steps.cons ?_ (Steps.cons ?_ (Steps.cons ?_ (Steps.cons ?_ (Steps.cons ?_ (Steps.nil)))))))))))) ?_ ?_
  ·intro b h0 ha hd
   have f8 : b 8 = false := hd 8 (by decide)
   have f9 : b 9 = false := hd 9 (by decide)
   have f10 : b 10 = false := hd 10 (by decide)
   refine Chain.runK [51] 1 fun K hK => ?_; simp [h0, f8, f9, f10]; refine hK _ _ ?_; clear hK K
   exact Chain.nil (Sub.table (by simp [f8, f9]) (by simp [f10]))
  ·intro b h0 ha hd
   have f2 : b 2 = false := hd 2 (by decide)
   have f3 : b 3 = false := hd 3 (by decide)
   have f4 : b 4 = false := hd 4 (by decide)
   have f7 : b 7 = false := hd 7 (by decide)
   have f8 : b 8 = false := hd 8 (by decide)
   have f9 : b 9 = false := hd 9 (by decide)
   have f10 : b 10 = false := hd 10 (by decide)
   refine Chain.runK [51] 1 fun K hK => ?_; simp [h0, f2, f3, f4, f7, f8, f9, f10]; refine hK _ _ ?_; clear hK K
   exact Chain.nil (Sub.table (by simp [f2, f3, f4, f7, f8, f9]) (by simp [f7, f10]))
  ·intro b h0 ha hd
   have t1 : b 1 = true := ha 1 (by decide)
   have f3 : b 3 = false := hd 3 (by decide)
   have f4 : b 4 = false := hd 4 (by decide)
   have f7 : b 7 = false := hd 7 (by decide)
   have f8 : b 8 = false := hd 8 (by decide)
   have f9 : b 9 = false := hd 9 (by decide)
   have f10 : b 10 = false := hd 10 (by decide)
   refine Chain.runK [51] 1 fun K hK => ?_; simp [h0, t1, f3, f4, f7, f8, f9, f10]; refine hK _ _ ?_; clear hK K
   exact Chain.nil (Sub.table (by simp [t1, f3, f4, f7, f8, f9]) (by simp [f7, f10]))
  ·intro b h0 ha hd
   have t1 : b 1 = true := ha 1 (by decide)
   have t2 : b 2 = true := ha 2 (by decide)
   have f4 : b 4 = false := hd 4 (by decide)
   have f7 : b 7 = false := hd 7 (by decide)
   have f8 : b 8 = false := hd 8 (by decide)
   have f9 : b 9 = false := hd 9 (by decide)
   have f10 : b 10 = false := hd 10 (by decide)
   refine Chain.runK [51] 1 fun K hK => ?_; simp [h0, t1, t2, f4, f7, f8, f9, f10]; refine hK _ _ ?_; clear hK K
   exact Chain.nil (Sub.table (by simp [t1, t2, f4, f7, f8, f9]) (by simp [f7, f10]))
  ·intro b h0 ha hd
   have t1 : b 1 = true := ha 1 (by decide)
   have t2 : b 2 = true := ha 2 (by decide)
   have t3 : b 3 = true := ha 3 (by decide)
   have f7 : b 7 = false := hd 7 (by decide)
   have f8 : b 8 = false := hd 8 (by decide)
   have f9 : b 9 = false := hd 9 (by decide)
   have f10 : b 10 = false := hd 10 (by decide)
   refine Chain.runK [51] 1 fun K hK => ?_; simp [h0, t1, t2, t3, f7, f8, f9, f10]; refine hK _ _ ?_; clear hK K
   exact Chain.nil (Sub.table (by simp [t1, t2, t3, f7, f8, f9]) (by simp [f7, f10]))
  ·intro b h0 ha hd
   have f6 : b 6 = false := hd 6 (by decide)
   have f7 : b 7 = false := hd 7 (by decide)
   have f8 : b 8 = false := hd 8 (by decide)
   have f9 : b 9 = false := hd 9 (by decide)
   have f10 : b 10 = false := hd 10 (by decide)
   refine Chain.runK [51] 1 fun K hK => ?_; simp [h0, f6, f7, f8, f9, f10]; refine hK _ _ ?_; clear hK K
   exact Chain.nil (Sub.table (by simp [f6, f7, f8, f9]) (by simp [f7, f10]))
  ·intro b h0 ha hd
   have t5 : b 5 = true := ha 5 (by decide)
   have f7 : b 7 = false := hd 7 (by decide)
   have f8 : b 8 = false := hd 8 (by decide)
   have f9 : b 9 = false := hd 9 (by decide)
   have f10 : b 10 = false := hd 10 (by decide)
   refine Chain.runK [51] 1 fun K hK => ?_; simp [h0, t5, f7, f8, f9, f10]; refine hK _ _ ?_; clear hK K
   exact Chain.nil (Sub.table (by simp [t5, f7, f8, f9]) (by simp [f7, f10]))
  ·intro b h0 ha hd
   have t1 : b 1 = true := ha 1 (by decide)
   have t2 : b 2 = true := ha 2 (by decide)
   have t3 : b 3 = true := ha 3 (by decide)
   have t4 : b 4 = true := ha 4 (by decide)
   have t5 : b 5 = true := ha 5 (by decide)
   have t6 : b 6 = true := ha 6 (by decide)
   have f8 : b 8 = false := hd 8 (by decide)
   have f9 : b 9 = false := hd 9 (by decide)
   have f10 : b 10 = false := hd 10 (by decide)
   refine Chain.runK [51] 1 fun K hK => ?_; simp [h0, t1, t2, t3, t4, t5, t6, f8, f9, f10, hl53a]; refine hK _ _ ?_; clear hK K
   exact Chain.nil (Sub.table (by simp [t1, t2, t3, t5, t6, f8, f9]) (by simp [f10]))
  ·intro b h0 ha hd
   have t0 : b 0 = true := ha 0 (by decide)
   have t1 : b 1 = true := ha 1 (by decide)
   have t2 : b 2 = true := ha 2 (by decide)
   have t3 : b 3 = true := ha 3 (by decide)
   have t4 : b 4 = true := ha 4 (by decide)
   have t5 : b 5 = true := ha 5 (by decide)
   have t6 : b 6 = true := ha 6 (by decide)
   have t7 : b 7 = true := ha 7 (by decide)
   have f9 : b 9 = false := hd 9 (by decide)
   have f10 : b 10 = false := hd 10 (by decide)
   refine Chain.runK [51] 1 fun K hK => ?_; simp [h0, t0, t1, t2, t3, t5, t6, t7, f9, f10]; refine hK _ _ ?_; clear hK K
   exact Chain.nil (Sub.table (by simp [t0, t1, t2, t3, t5, t6, t7, f9]) (by simp [t7, f10]))
  ·intro b h0 ha hd
   have t0 : b 0 = true := ha 0 (by decide)
   have t1 : b 1 = true := ha 1 (by decide)
   have t2 : b 2 = true := ha 2 (by decide)
   have t3 : b 3 = true := ha 3 (by decide)
   have t4 : b 4 = true := ha 4 (by decide)
   have t5 : b 5 = true := ha 5 (by decide)
   have t6 : b 6 = true := ha 6 (by decide)
   have t7 : b 7 = true := ha 7 (by decide)
   have t8 : b 8 = true := ha 8 (by decide)
   have f10 : b 10 = false := hd 10 (by decide)
   refine Chain.runK [51] 1 fun K hK => ?_; simp [h0, t0, t1, t2, t3, t5, t6, t7, t8, f10]; refine hK _ _ ?_; clear hK K
   exact Chain.nil (Sub.table (by simp [t0, t1, t2, t3, t5, t6, t7, t8]) (by simp [t7, f10]))
  ·intro b h0 ha hd
   have t0 : b 0 = true := ha 0 (by decide)
   have t1 : b 1 = true := ha 1 (by decide)
   have t2 : b 2 = true := ha 2 (by decide)
   have t3 : b 3 = true := ha 3 (by decide)
   have t4 : b 4 = true := ha 4 (by decide)
   have t5 : b 5 = true := ha 5 (by decide)
   have t6 : b 6 = true := ha 6 (by decide)
   have t7 : b 7 = true := ha 7 (by decide)
   have t8 : b 8 = true := ha 8 (by decide)
   have t9 : b 9 = true := ha 9 (by decide)
   refine Chain.runK [51] 1 fun K hK => ?_; simp [h0, t0, t1, t2, t3, t5, t6, t7, t8, t9]; refine hK _ _ ?_; clear hK K
   exact Chain.nil (Sub.table (by simp [t0, t1, t2, t3, t5, t6, t7, t8, t9]) (by simp [t7]))
  ·intro b hb
   have t0 := hb 0 (by decide)
   have t1 := hb 1 (by decide)
   have t2 := hb 2 (by decide)
   have t3 := hb 3 (by decide)
   have t4 := hb 4 (by decide)
   have t5 := hb 5 (by decide)
   have t6 := hb 6 (by decide)
   have t7 := hb 7 (by decide)
   have t8 := hb 8 (by decide)
   have t9 := hb 9 (by decide)
   have t10 := hb 10 (by decide)
   exact Sub.table (by simp [t0, t1, t2, t3, t5, t6, t7, t8, t9]) (by simp [t7, t10])
  ·skip
   cases h
   exact FinF.normal (by simp) (by simp)

/-- (*stemma/stemref5.LockTable).Reaches -/
def d29 (N : Nat) (a0 : S33) (a1 : (List Int)) (a2 : Int) : Option Bool :=
 Option.bind (α := List (Int × Bool)) (
  iterN (σ := ((List (Int × Bool)) × Int)) (ρ := List (Int × Bool)) (fun ((m4, v5) : ((List (Int × Bool)) × Int)) =>
   if v5 < (a1.length : Int) then (
    (idx a1 v5).bind fun x18 =>
    (chkI (v5 + 1)).bind fun v20 =>
    some (.inl ((mput m4 x18 true), v20))
   ) else
   some (.inr m4)
  ) N (([] : List (Int × Bool)), 0)
 ) fun (m16 : List (Int × Bool)) =>
 Option.bind (α := List (Int × Bool)) (
  iterN (σ := ((List (Int × Bool)) × Int)) (ρ := List (Int × Bool)) (fun ((m139, v140) : ((List (Int × Bool)) × Int)) =>
   if v140 < 20 then (
    Option.bind (α := List (Int × Bool)) (
     iterN (σ := ((List (Int × Bool)) × Int)) (ρ := List (Int × Bool)) (fun ((m408, v409) : ((List (Int × Bool)) × Int)) =>
      if v409 < (a0.Queue.length : Int) then (
       (idx a0.Queue v409).bind fun x470 =>
       letv ((mget m408 x470.Tx).getD false) fun v472 =>
       if v472 = true then (
        (d27 N a0 x470 v409).bind fun r474 =>
        Option.bind (α := List (Int × Bool)) (
         iterN (σ := ((List (Int × Bool)) × Int)) (ρ := List (Int × Bool)) (fun ((m478, v479) : ((List (Int × Bool)) × Int)) =>
          if v479 < (r474.length : Int) then (
           (idx r474 v479).bind fun x492 =>
           (chkI (v479 + 1)).bind fun v494 =>
           some (.inl ((mput m478 x492 true), v494))
          ) else
          some (.inr m478)
         ) N (m408, 0)
        ) fun (m490 : List (Int × Bool)) =>
        (chkI (v409 + 1)).bind fun v495 =>
        some (.inl (m490, v495))
       ) else
       (chkI (v409 + 1)).bind fun v496 =>
       some (.inl (m408, v496))
      ) else
      some (.inr m408)
     ) N (m139, 0)
    ) fun (m468 : List (Int × Bool)) =>
    (chkI (v140 + 1)).bind fun v497 =>
    some (.inl (m468, v497))
   ) else
   some (.inr m139)
  ) N (m16, 0)
 ) fun (m379 : List (Int × Bool)) =>
 letv ((mget m379 a2).getD false) fun v498 =>
 some v498
set_option maxRecDepth 100000 in
set_option maxHeartbeats 4000000 in
theorem p29 (N : Nat) (a0 : S33) (a1 : (List Int)) (a2 : Int) (r : Bool) (h : d29 N a0 a1 a2 = some r) : FunC Try.prog 29 [.d (.pim [.sl (a0.Granted.map cS29), .sl (a0.Queue.map cS29)]), .d (.sl (a1.map (cI .i64))), .i a2] (.b r) := by
 unfold d29 at h
 refine FunC.enter 57 [(0, .d (.pim [.sl (a0.Granted.map cS29), .sl (a0.Queue.map cS29)])), (1, .d (.sl (a1.map (cI .i64)))), (2, .i a2)] (by simp) Try.func29 rfl (of_decide_eq_true rfl) rfl rfl ?_
 refine AW.seqR ?_
 refine Chain.runK [] 1 fun K hK => ?_; simp; refine hK _ _ ?_; clear hK K
 refine Chain.sub (S' := mk 57 [] [(0, .d (.pim [.sl (a0.Granted.map cS29), .sl (a0.Queue.map cS29)])), (1, .d (.sl (a1.map (cI .i64)))), (2, .i a2)] []) Sub.tt ?_
 refine Chain.nil ?_
 refine AW.seqR ?_
 refine Chain.mmake (.int .i64) (by simp) rfl rfl (by simp) ?_
 refine Chain.sub (S' := mk 57 [] [(0, .d (.pim [.sl (a0.Granted.map cS29), .sl (a0.Queue.map cS29)])), (1, .d (.sl (a1.map (cI .i64)))), (2, .i a2), (14, .mref 14)] [(14, some (.mp (.int .i64) (encM MKey.ik vB ([] : List (Int × Bool)))))]) (by simp; exact Sub.table (by simp) (by simp [encM_nil])) ?_
 refine Chain.runK [] 1 fun K hK => ?_; simp; refine hK _ _ ?_; clear hK K
 refine Chain.sub (S' := mk 57 [] [(0, .d (.pim [.sl (a0.Granted.map cS29), .sl (a0.Queue.map cS29)])), (1, .d (.sl (a1.map (cI .i64)))), (2, .i a2), (7, .mref 14)] [(14, some (.mp (.int .i64) (encM MKey.ik vB ([] : List (Int × Bool)))))]) Sub.tt ?_
 refine Chain.nil ?_
 refine AW.seq ?_
 refine AW.seqR ?_
 refine Chain.runK [] 3 fun K hK => ?_; simp; refine hK _ _ ?_; clear hK K
 refine Chain.sub (S' := mk 57 [] [(0, .d (.pim [.sl (a0.Granted.map cS29), .sl (a0.Queue.map cS29)])), (2, .i a2), (7, .mref 14), (15, .d (.sl (a1.map (cI .i64)))), (16, .i (a1.length : Int)), (17, .i 0)] [(14, some (.mp (.int .i64) (encM MKey.ik vB ([] : List (Int × Bool)))))]) Sub.tt ?_
 refine Chain.nil ?_
 refine AW.lastN (fun (m16 : List (Int × Bool)) => mk 57 [] [(0, .d (.pim [.sl (a0.Granted.map cS29), .sl (a0.Queue.map cS29)])), (2, .i a2), (7, .mref 14)] [(14, some (.mp (.int .i64) (encM MKey.ik vB m16)))]) h ?_ ?_ <;> clear h
 ·intro o h
  refine AW.block ?_
  refine AW.iter (fun ((m4, v5) : ((List (Int × Bool)) × Int)) => mk 57 [] [(0, .d (.pim [.sl (a0.Granted.map cS29), .sl (a0.Queue.map cS29)])), (2, .i a2), (7, .mref 14), (15, .d (.sl (a1.map (cI .i64)))), (16, .i (a1.length : Int)), (17, .i v5)] [(14, some (.mp (.int .i64) (encM MKey.ik vB m4)))]) h Sub.tt ?_
  clear h
  rintro ⟨m4, v5⟩ x h
  dsimp only at h ⊢
  refine AW.seqR ?_
  refine Chain.runK [] 1 fun K hK => ?_; simp; refine hK _ _ ?_; clear hK K
  refine Chain.sub (S' := mk 57 [] [(0, .d (.pim [.sl (a0.Granted.map cS29), .sl (a0.Queue.map cS29)])), (2, .i a2), (7, .mref 14), (15, .d (.sl (a1.map (cI .i64)))), (16, .i (a1.length : Int)), (17, .i v5), (18, .b (decide (v5 < (a1.length : Int))))] [(14, some (.mp (.int .i64) (encM MKey.ik vB m4)))]) Sub.tt ?_
  refine Chain.nil ?_
  refine AW.seq ?_
  replace h := isome h; rcases h with ⟨c17, h⟩ | ⟨c17, h⟩
  ·have c17_ : decide (v5 < (a1.length : Int)) = true := decide_eq_true c17
   refine AW.condT (b := decide (v5 < (a1.length : Int))) rfl c17_ ?_
   refine AW.sub (Sub.bool 18 (b := decide (v5 < (a1.length : Int))) rfl c17_) ?_
   refine AW.sub (S' := mk 57 [] [(0, .d (.pim [.sl (a0.Granted.map cS29), .sl (a0.Queue.map cS29)])), (2, .i a2), (7, .mref 14), (15, .d (.sl (a1.map (cI .i64)))), (16, .i (a1.length : Int)), (17, .i v5), (18, .b true)] [(14, some (.mp (.int .i64) (encM MKey.ik vB m4)))]) (by simp; exact Sub.table (by simp) (by simp)) ?_
   refine AW.skip ?_
   refine thenQ_normal ?_
   refine AW.seq ?_
   refine AW.block ?_
   refine AW.seqR ?_
   replace h := bsome h; obtain ⟨x18, hx18, h⟩ := h
   obtain ⟨k19, hx18k, hx18, hx18a, hx18b⟩ := idx_some hx18
   refine Chain.runK [] 3 fun K hK => ?_; simp [hx18, hx18k, hx18a]; refine hK _ _ ?_; clear hK K
   refine Chain.sub (S' := mk 57 [] [(0, .d (.pim [.sl (a0.Granted.map cS29), .sl (a0.Queue.map cS29)])), (2, .i a2), (7, .mref 14), (9, .i x18), (15, .d (.sl (a1.map (cI .i64)))), (16, .i (a1.length : Int)), (17, .i v5)] [(14, some (.mp (.int .i64) (encM MKey.ik vB m4)))]) Sub.tt ?_
   refine Chain.nil ?_
   refine AW.region ?_
   refine Chain.runK [] 2 fun K hK => ?_; simp; refine hK _ _ ?_; clear hK K
   refine Chain.sub (S' := mk 57 [] [(0, .d (.pim [.sl (a0.Granted.map cS29), .sl (a0.Queue.map cS29)])), (2, .i a2), (7, .mref 14), (15, .d (.sl (a1.map (cI .i64)))), (16, .i (a1.length : Int)), (17, .i v5), (21, .mref 14), (22, .i x18)] [(14, some (.mp (.int .i64) (encM MKey.ik vB m4)))]) Sub.tt ?_
   refine Chain.msetE (vf := vB) ik_inj m4 x18 true (by simp) (.inl rfl) ty71 rfl ty3 rfl rfl rfl rfl rfl rfl rfl ?_
   refine Chain.sub (S' := mk 57 [] [(0, .d (.pim [.sl (a0.Granted.map cS29), .sl (a0.Queue.map cS29)])), (2, .i a2), (7, .mref 14), (15, .d (.sl (a1.map (cI .i64)))), (16, .i (a1.length : Int)), (17, .i v5), (21, .mref 14), (22, .i x18)] [(14, some (.mp (.int .i64) (encM MKey.ik vB (mput m4 x18 true))))]) (by simp; exact Sub.table (by simp) (by simp)) ?_
   refine Chain.nil ?_
   refine blockQ.normal ?_
   refine thenQ_normal ?_
   refine AW.region ?_
   replace h := bsome h; obtain ⟨v20, hv20, h⟩ := h
   have hv20 := chkI_some hv20
   refine Chain.runK [] 2 fun K hK => ?_; simp [hv20]; refine hK _ _ ?_; clear hK K
   refine Chain.sub (S' := mk 57 [] [(0, .d (.pim [.sl (a0.Granted.map cS29), .sl (a0.Queue.map cS29)])), (2, .i a2), (7, .mref 14), (15, .d (.sl (a1.map (cI .i64)))), (16, .i (a1.length : Int)), (17, .i v20)] [(14, some (.mp (.int .i64) (encM MKey.ik vB (mput m4 x18 true))))]) Sub.tt ?_
   refine Chain.nil ?_
   cases h
   refine PostI.next ?_
   exact Sub.tt
  ·have c17_ : decide (v5 < (a1.length : Int)) = false := decide_eq_false c17
   refine AW.condF (b := decide (v5 < (a1.length : Int))) rfl c17_ ?_
   refine AW.sub (Sub.bool 18 (b := decide (v5 < (a1.length : Int))) rfl c17_) ?_
   refine AW.sub (S' := mk 57 [] [(0, .d (.pim [.sl (a0.Granted.map cS29), .sl (a0.Queue.map cS29)])), (2, .i a2), (7, .mref 14), (15, .d (.sl (a1.map (cI .i64)))), (16, .i (a1.length : Int)), (17, .i v5), (18, .b false)] [(14, some (.mp (.int .i64) (encM MKey.ik vB m4)))]) (by simp; exact Sub.table (by simp) (by simp)) ?_
   refine AW.exit ?_
   cases h
   refine thenQ_pass (by simp) ?_
   refine PostI.out (by simp) ?_
   rintro rfl
   refine blockQ.hit ?_
   refine PostN.next ?_
   exact Sub.tt
 ·rintro m16 h
  refine thenQ_normal ?_
  refine AW.seq ?_
  refine AW.seqR ?_
  refine Chain.runK [] 1 fun K hK => ?_; simp; refine hK _ _ ?_; clear hK K
  refine Chain.sub (S' := mk 57 [] [(0, .d (.pim [.sl (a0.Granted.map cS29), .sl (a0.Queue.map cS29)])), (2, .i a2), (7, .mref 14), (24, .i 0)] [(14, some (.mp (.int .i64) (encM MKey.ik vB m16)))]) Sub.tt ?_
  refine Chain.nil ?_
  refine AW.lastN (fun (m379 : List (Int × Bool)) => mk 57 [] [(2, .i a2), (7, .mref 14)] [(14, some (.mp (.int .i64) (encM MKey.ik vB m379)))]) h ?_ ?_ <;> clear h
  ·intro o h
   refine AW.block ?_
   refine AW.iter (fun ((m139, v140) : ((List (Int × Bool)) × Int)) => mk 57 [] [(0, .d (.pim [.sl (a0.Granted.map cS29), .sl (a0.Queue.map cS29)])), (2, .i a2), (7, .mref 14), (24, .i v140)] [(14, some (.mp (.int .i64) (encM MKey.ik vB m139)))]) h Sub.tt ?_
   clear h
   rintro ⟨m139, v140⟩ x h
   dsimp only at h ⊢
   refine AW.seqR ?_
   refine Chain.runK [] 1 fun K hK => ?_; simp; refine hK _ _ ?_; clear hK K
   refine Chain.sub (S' := mk 57 [] [(0, .d (.pim [.sl (a0.Granted.map cS29), .sl (a0.Queue.map cS29)])), (2, .i a2), (7, .mref 14), (24, .i v140), (25, .b (decide (v140 < 20)))] [(14, some (.mp (.int .i64) (encM MKey.ik vB m139)))]) Sub.tt ?_
   refine Chain.nil ?_
   refine AW.seq ?_
   replace h := isome h; rcases h with ⟨c380, h⟩ | ⟨c380, h⟩
   ·have c380_ : decide (v140 < 20) = true := decide_eq_true c380
    refine AW.condT (b := decide (v140 < 20)) rfl c380_ ?_
    refine AW.sub (Sub.bool 25 (b := decide (v140 < 20)) rfl c380_) ?_
    refine AW.sub (S' := mk 57 [] [(0, .d (.pim [.sl (a0.Granted.map cS29), .sl (a0.Queue.map cS29)])), (2, .i a2), (7, .mref 14), (24, .i v140), (25, .b true)] [(14, some (.mp (.int .i64) (encM MKey.ik vB m139)))]) (by simp; exact Sub.table (by simp) (by simp)) ?_
    refine AW.skip ?_
    refine thenQ_normal ?_
    refine AW.seq ?_
    refine AW.block ?_
    refine AW.seqR ?_
    refine Chain.runK [] 6 fun K hK => ?_; simp; refine hK _ _ ?_; clear hK K
    refine Chain.sub (S' := mk 57 [] [(0, .d (.pim [.sl (a0.Granted.map cS29), .sl (a0.Queue.map cS29)])), (2, .i a2), (7, .mref 14), (24, .i v140), (29, .d (.sl (a0.Queue.map cS29))), (30, .i (a0.Queue.length : Int)), (31, .i 0)] [(14, some (.mp (.int .i64) (encM MKey.ik vB m139)))]) Sub.tt ?_
    refine Chain.nil ?_
    refine AW.lastN (fun (m468 : List (Int × Bool)) => mk 57 [] [(0, .d (.pim [.sl (a0.Granted.map cS29), .sl (a0.Queue.map cS29)])), (2, .i a2), (7, .mref 14), (24, .i v140)] [(14, some (.mp (.int .i64) (encM MKey.ik vB m468)))]) h ?_ ?_ <;> clear h
    ·intro o h
     refine AW.block ?_
     refine AW.iter (fun ((m408, v409) : ((List (Int × Bool)) × Int)) => mk 57 [] [(0, .d (.pim [.sl (a0.Granted.map cS29), .sl (a0.Queue.map cS29)])), (2, .i a2), (7, .mref 14), (24, .i v140), (29, .d (.sl (a0.Queue.map cS29))), (30, .i (a0.Queue.length : Int)), (31, .i v409)] [(14, some (.mp (.int .i64) (encM MKey.ik vB m408)))]) h Sub.tt ?_
     clear h
     rintro ⟨m408, v409⟩ x h
     dsimp only at h ⊢
     refine AW.seqR ?_
     refine Chain.runK [] 1 fun K hK => ?_; simp; refine hK _ _ ?_; clear hK K
     refine Chain.sub (S' := mk 57 [] [(0, .d (.pim [.sl (a0.Granted.map cS29), .sl (a0.Queue.map cS29)])), (2, .i a2), (7, .mref 14), (24, .i v140), (29, .d (.sl (a0.Queue.map cS29))), (30, .i (a0.Queue.length : Int)), (31, .i v409), (32, .b (decide (v409 < (a0.Queue.length : Int))))] [(14, some (.mp (.int .i64) (encM MKey.ik vB m408)))]) Sub.tt ?_
     refine Chain.nil ?_
     refine AW.seq ?_
     replace h := isome h; rcases h with ⟨c469, h⟩ | ⟨c469, h⟩
     ·have c469_ : decide (v409 < (a0.Queue.length : Int)) = true := decide_eq_true c469
      refine AW.condT (b := decide (v409 < (a0.Queue.length : Int))) rfl c469_ ?_
      refine AW.sub (Sub.bool 32 (b := decide (v409 < (a0.Queue.length : Int))) rfl c469_) ?_
      refine AW.sub (S' := mk 57 [] [(0, .d (.pim [.sl (a0.Granted.map cS29), .sl (a0.Queue.map cS29)])), (2, .i a2), (7, .mref 14), (24, .i v140), (29, .d (.sl (a0.Queue.map cS29))), (30, .i (a0.Queue.length : Int)), (31, .i v409), (32, .b true)] [(14, some (.mp (.int .i64) (encM MKey.ik vB m408)))]) (by simp; exact Sub.table (by simp) (by simp)) ?_
      refine AW.skip ?_
      refine thenQ_normal ?_
      refine AW.seq ?_
      refine AW.block ?_
      refine AW.seqR ?_
      replace h := bsome h; obtain ⟨x470, hx470, h⟩ := h
      obtain ⟨k471, hx470k, hx470, hx470a, hx470b⟩ := idx_some hx470
      refine Chain.runK [] 6 fun K hK => ?_; simp [hx470, hx470k, hx470a]; refine hK _ _ ?_; clear hK K
      refine Chain.sub (S' := mk 57 [] [(0, .d (.pim [.sl (a0.Granted.map cS29), .sl (a0.Queue.map cS29)])), (2, .i a2), (7, .mref 14), (10, .i v409), (11, .ptr 11 0 0), (24, .i v140), (29, .d (.sl (a0.Queue.map cS29))), (30, .i (a0.Queue.length : Int)), (31, .i v409)] [(11, some (.box [.i x470.Tx, .d (.lit (.string x470.Table)), .d (.lit (.string x470.Key)), .i x470.Mode])), (14, some (.mp (.int .i64) (encM MKey.ik vB m408)))]) Sub.tt ?_
      refine Chain.nil ?_
      refine AW.seqR ?_
      refine Chain.runK [] 3 fun K hK => ?_; simp; refine hK _ _ ?_; clear hK K
      refine Chain.sub (S' := mk 57 [] [(0, .d (.pim [.sl (a0.Granted.map cS29), .sl (a0.Queue.map cS29)])), (2, .i a2), (7, .mref 14), (10, .i v409), (11, .ptr 11 0 0), (24, .i v140), (29, .d (.sl (a0.Queue.map cS29))), (30, .i (a0.Queue.length : Int)), (31, .i v409), (36, .mref 14), (38, .i x470.Tx)] [(11, some (.box [.i x470.Tx, .d (.lit (.string x470.Table)), .d (.lit (.string x470.Key)), .i x470.Mode])), (14, some (.mp (.int .i64) (encM MKey.ik vB m408)))]) Sub.tt ?_
      replace h := lsome h; obtain ⟨v472, hv472, h⟩ := h
      refine Chain.lookE (vf := vB) ik_inj m408 x470.Tx false (by simp) rfl ty71 rfl ty3 ty4 rfl rfl rfl rfl rfl rfl rfl ?_
      refine Chain.sub (S' := mk 57 [] [(0, .d (.pim [.sl (a0.Granted.map cS29), .sl (a0.Queue.map cS29)])), (2, .i a2), (7, .mref 14), (10, .i v409), (11, .ptr 11 0 0), (24, .i v140), (29, .d (.sl (a0.Queue.map cS29))), (30, .i (a0.Queue.length : Int)), (31, .i v409), (36, .mref 14), (38, .i x470.Tx), (39, .b v472)] [(11, some (.box [.i x470.Tx, .d (.lit (.string x470.Table)), .d (.lit (.string x470.Key)), .i x470.Mode])), (14, some (.mp (.int .i64) (encM MKey.ik vB m408)))]) (by simp [vB, hv472]; exact Sub.table (by simp) (by simp)) ?_
      refine Chain.nil ?_
      replace h := isome h; rcases h with ⟨c473, h⟩ | ⟨c473, h⟩
      ·have c473_ : v472 = true := c473
       refine AW.condT (b := v472) rfl c473_ ?_
       refine AW.sub (Sub.bool 39 (b := v472) rfl c473_) ?_
       refine AW.sub (S' := mk 57 [] [(0, .d (.pim [.sl (a0.Granted.map cS29), .sl (a0.Queue.map cS29)])), (2, .i a2), (7, .mref 14), (10, .i v409), (11, .ptr 11 0 0), (24, .i v140), (29, .d (.sl (a0.Queue.map cS29))), (30, .i (a0.Queue.length : Int)), (31, .i v409), (36, .mref 14), (38, .i x470.Tx), (39, .b true)] [(11, some (.box [.i x470.Tx, .d (.lit (.string x470.Table)), .d (.lit (.string x470.Key)), .i x470.Mode])), (14, some (.mp (.int .i64) (encM MKey.ik vB m408)))]) (by simp; exact Sub.table (by simp) (by simp)) ?_
       refine AW.seqR ?_
       refine Chain.runK [] 3 fun K hK => ?_; simp; refine hK _ _ ?_; clear hK K
       refine Chain.sub (S' := mk 57 [] [(0, .d (.pim [.sl (a0.Granted.map cS29), .sl (a0.Queue.map cS29)])), (2, .i a2), (7, .mref 14), (24, .i v140), (29, .d (.sl (a0.Queue.map cS29))), (30, .i (a0.Queue.length : Int)), (31, .i v409), (40, .d (.pim [.sl (a0.Granted.map cS29), .sl (a0.Queue.map cS29)])), (41, .agg [.i x470.Tx, .d (.lit (.string x470.Table)), .d (.lit (.string x470.Key)), .i x470.Mode]), (42, .i v409)] [(14, some (.mp (.int .i64) (encM MKey.ik vB m408)))]) Sub.tt ?_
       replace h := bsome h; obtain ⟨r474, hr474, h⟩ := h
       refine Chain.callO (d := 43) (p27 N a0 x470 v409 r474 hr474) (by simp) rfl rfl (by simp <;> rfl) (by simp <;> rfl) ent27 (by simp) ⟨by simp, by simp⟩ ?_
       refine Chain.sub (S' := mk 57 [] [(0, .d (.pim [.sl (a0.Granted.map cS29), .sl (a0.Queue.map cS29)])), (2, .i a2), (7, .mref 14), (24, .i v140), (29, .d (.sl (a0.Queue.map cS29))), (30, .i (a0.Queue.length : Int)), (31, .i v409), (40, .d (.pim [.sl (a0.Granted.map cS29), .sl (a0.Queue.map cS29)])), (41, .agg [.i x470.Tx, .d (.lit (.string x470.Table)), .d (.lit (.string x470.Key)), .i x470.Mode]), (42, .i v409), (43, .ref 43 0 r474.length)] [(14, some (.mp (.int .i64) (encM MKey.ik vB m408))), (43, R3 r474)]) (by simp; exact Sub.table (by simp) (by simp)) ?_
       refine Chain.runK [] 2 fun K hK => ?_; simp; refine hK _ _ ?_; clear hK K
       refine Chain.sub (S' := mk 57 [] [(0, .d (.pim [.sl (a0.Granted.map cS29), .sl (a0.Queue.map cS29)])), (2, .i a2), (7, .mref 14), (24, .i v140), (29, .d (.sl (a0.Queue.map cS29))), (30, .i (a0.Queue.length : Int)), (31, .i v409), (43, .ref 43 0 r474.length), (44, .i (r474.length : Int)), (45, .i 0)] [(14, some (.mp (.int .i64) (encM MKey.ik vB m408))), (43, R3 r474)]) Sub.tt ?_
       refine Chain.nil ?_
       refine AW.lastN (fun (m490 : List (Int × Bool)) => mk 57 [] [(0, .d (.pim [.sl (a0.Granted.map cS29), .sl (a0.Queue.map cS29)])), (2, .i a2), (7, .mref 14), (24, .i v140), (29, .d (.sl (a0.Queue.map cS29))), (30, .i (a0.Queue.length : Int)), (31, .i v409)] [(14, some (.mp (.int .i64) (encM MKey.ik vB m490)))]) h ?_ ?_ <;> clear h
       ·intro o h
        refine AW.block ?_
        refine AW.iter (fun ((m478, v479) : ((List (Int × Bool)) × Int)) => mk 57 [] [(0, .d (.pim [.sl (a0.Granted.map cS29), .sl (a0.Queue.map cS29)])), (2, .i a2), (7, .mref 14), (24, .i v140), (29, .d (.sl (a0.Queue.map cS29))), (30, .i (a0.Queue.length : Int)), (31, .i v409), (43, .ref 43 0 r474.length), (44, .i (r474.length : Int)), (45, .i v479)] [(14, some (.mp (.int .i64) (encM MKey.ik vB m478))), (43, R3 r474)]) h Sub.tt ?_
        clear h
        rintro ⟨m478, v479⟩ x h
        dsimp only at h ⊢
        refine AW.seqR ?_
        refine Chain.runK [] 1 fun K hK => ?_; simp; refine hK _ _ ?_; clear hK K
        refine Chain.sub (S' := mk 57 [] [(0, .d (.pim [.sl (a0.Granted.map cS29), .sl (a0.Queue.map cS29)])), (2, .i a2), (7, .mref 14), (24, .i v140), (29, .d (.sl (a0.Queue.map cS29))), (30, .i (a0.Queue.length : Int)), (31, .i v409), (43, .ref 43 0 r474.length), (44, .i (r474.length : Int)), (45, .i v479), (46, .b (decide (v479 < (r474.length : Int))))] [(14, some (.mp (.int .i64) (encM MKey.ik vB m478))), (43, R3 r474)]) Sub.tt ?_
        refine Chain.nil ?_
        refine AW.seq ?_
        replace h := isome h; rcases h with ⟨c491, h⟩ | ⟨c491, h⟩
        ·have c491_ : decide (v479 < (r474.length : Int)) = true := decide_eq_true c491
         refine AW.condT (b := decide (v479 < (r474.length : Int))) rfl c491_ ?_
         refine AW.sub (Sub.bool 46 (b := decide (v479 < (r474.length : Int))) rfl c491_) ?_
         refine AW.sub (S' := mk 57 [] [(0, .d (.pim [.sl (a0.Granted.map cS29), .sl (a0.Queue.map cS29)])), (2, .i a2), (7, .mref 14), (24, .i v140), (29, .d (.sl (a0.Queue.map cS29))), (30, .i (a0.Queue.length : Int)), (31, .i v409), (43, .ref 43 0 r474.length), (44, .i (r474.length : Int)), (45, .i v479), (46, .b true)] [(14, some (.mp (.int .i64) (encM MKey.ik vB m478))), (43, R3 r474)]) (by simp; exact Sub.table (by simp) (by simp)) ?_
         refine AW.skip ?_
         refine thenQ_normal ?_
         refine AW.seq ?_
         refine AW.block ?_
         refine AW.seqR ?_
         replace h := bsome h; obtain ⟨x492, hx492, h⟩ := h
         obtain ⟨k493, hx492k, hx492, hx492a, hx492b⟩ := idx_some hx492
         refine Chain.runK [] 3 fun K hK => ?_; simp [hx492, hx492k, hx492a, hx492b]; refine hK _ _ ?_; clear hK K
         refine Chain.sub (S' := mk 57 [] [(0, .d (.pim [.sl (a0.Granted.map cS29), .sl (a0.Queue.map cS29)])), (2, .i a2), (7, .mref 14), (13, .i x492), (24, .i v140), (29, .d (.sl (a0.Queue.map cS29))), (30, .i (a0.Queue.length : Int)), (31, .i v409), (43, .ref 43 0 r474.length), (44, .i (r474.length : Int)), (45, .i v479)] [(14, some (.mp (.int .i64) (encM MKey.ik vB m478))), (43, R3 r474)]) Sub.tt ?_
         refine Chain.nil ?_
         refine AW.region ?_
         refine Chain.runK [] 2 fun K hK => ?_; simp; refine hK _ _ ?_; clear hK K
         refine Chain.sub (S' := mk 57 [] [(0, .d (.pim [.sl (a0.Granted.map cS29), .sl (a0.Queue.map cS29)])), (2, .i a2), (7, .mref 14), (24, .i v140), (29, .d (.sl (a0.Queue.map cS29))), (30, .i (a0.Queue.length : Int)), (31, .i v409), (43, .ref 43 0 r474.length), (44, .i (r474.length : Int)), (45, .i v479), (49, .mref 14), (50, .i x492)] [(14, some (.mp (.int .i64) (encM MKey.ik vB m478))), (43, R3 r474)]) Sub.tt ?_
         refine Chain.msetE (vf := vB) ik_inj m478 x492 true (by simp) (.inl rfl) ty71 rfl ty3 rfl rfl rfl rfl rfl rfl rfl ?_
         refine Chain.sub (S' := mk 57 [] [(0, .d (.pim [.sl (a0.Granted.map cS29), .sl (a0.Queue.map cS29)])), (2, .i a2), (7, .mref 14), (24, .i v140), (29, .d (.sl (a0.Queue.map cS29))), (30, .i (a0.Queue.length : Int)), (31, .i v409), (43, .ref 43 0 r474.length), (44, .i (r474.length : Int)), (45, .i v479), (49, .mref 14), (50, .i x492)] [(14, some (.mp (.int .i64) (encM MKey.ik vB (mput m478 x492 true)))), (43, R3 r474)]) (by simp; exact Sub.table (by simp) (by simp)) ?_
         refine Chain.nil ?_
         refine blockQ.normal ?_
         refine thenQ_normal ?_
         refine AW.region ?_
         replace h := bsome h; obtain ⟨v494, hv494, h⟩ := h
         have hv494 := chkI_some hv494
         refine Chain.runK [] 2 fun K hK => ?_; simp [hv494]; refine hK _ _ ?_; clear hK K
         refine Chain.sub (S' := mk 57 [] [(0, .d (.pim [.sl (a0.Granted.map cS29), .sl (a0.Queue.map cS29)])), (2, .i a2), (7, .mref 14), (24, .i v140), (29, .d (.sl (a0.Queue.map cS29))), (30, .i (a0.Queue.length : Int)), (31, .i v409), (43, .ref 43 0 r474.length), (44, .i (r474.length : Int)), (45, .i v494)] [(14, some (.mp (.int .i64) (encM MKey.ik vB (mput m478 x492 true)))), (43, R3 r474)]) Sub.tt ?_
         refine Chain.nil ?_
         cases h
         refine PostI.next ?_
         exact Sub.tt
        ·have c491_ : decide (v479 < (r474.length : Int)) = false := decide_eq_false c491
         refine AW.condF (b := decide (v479 < (r474.length : Int))) rfl c491_ ?_
         refine AW.sub (Sub.bool 46 (b := decide (v479 < (r474.length : Int))) rfl c491_) ?_
         refine AW.sub (S' := mk 57 [] [(0, .d (.pim [.sl (a0.Granted.map cS29), .sl (a0.Queue.map cS29)])), (2, .i a2), (7, .mref 14), (24, .i v140), (29, .d (.sl (a0.Queue.map cS29))), (30, .i (a0.Queue.length : Int)), (31, .i v409), (43, .ref 43 0 r474.length), (44, .i (r474.length : Int)), (45, .i v479), (46, .b false)] [(14, some (.mp (.int .i64) (encM MKey.ik vB m478))), (43, R3 r474)]) (by simp; exact Sub.table (by simp) (by simp)) ?_
         refine AW.exit ?_
         cases h
         refine thenQ_pass (by simp) ?_
         refine PostI.out (by simp) ?_
         rintro rfl
         refine blockQ.hit ?_
         refine PostN.next ?_
         exact Sub.tt
       ·rintro m490 h
        refine blockQ.normal ?_
        refine thenQ_normal ?_
        refine AW.region ?_
        replace h := bsome h; obtain ⟨v495, hv495, h⟩ := h
        have hv495 := chkI_some hv495
        refine Chain.runK [] 2 fun K hK => ?_; simp [hv495]; refine hK _ _ ?_; clear hK K
        refine Chain.sub (S' := mk 57 [] [(0, .d (.pim [.sl (a0.Granted.map cS29), .sl (a0.Queue.map cS29)])), (2, .i a2), (7, .mref 14), (24, .i v140), (29, .d (.sl (a0.Queue.map cS29))), (30, .i (a0.Queue.length : Int)), (31, .i v495)] [(14, some (.mp (.int .i64) (encM MKey.ik vB m490)))]) Sub.tt ?_
        refine Chain.nil ?_
        cases h
        refine PostI.next ?_
        exact Sub.tt
      ·have c473_ : v472 = false := Bool.eq_false_iff.2 c473
       refine AW.condF (b := v472) rfl c473_ ?_
       refine AW.sub (Sub.bool 39 (b := v472) rfl c473_) ?_
       refine AW.sub (S' := mk 57 [] [(0, .d (.pim [.sl (a0.Granted.map cS29), .sl (a0.Queue.map cS29)])), (2, .i a2), (7, .mref 14), (10, .i v409), (11, .ptr 11 0 0), (24, .i v140), (29, .d (.sl (a0.Queue.map cS29))), (30, .i (a0.Queue.length : Int)), (31, .i v409), (36, .mref 14), (38, .i x470.Tx), (39, .b false)] [(11, some (.box [.i x470.Tx, .d (.lit (.string x470.Table)), .d (.lit (.string x470.Key)), .i x470.Mode])), (14, some (.mp (.int .i64) (encM MKey.ik vB m408)))]) (by simp; exact Sub.table (by simp) (by simp)) ?_
       refine AW.skip ?_
       refine blockQ.normal ?_
       refine thenQ_normal ?_
       refine AW.region ?_
       replace h := bsome h; obtain ⟨v496, hv496, h⟩ := h
       have hv496 := chkI_some hv496
       refine Chain.runK [] 2 fun K hK => ?_; simp [hv496]; refine hK _ _ ?_; clear hK K
       refine Chain.sub (S' := mk 57 [] [(0, .d (.pim [.sl (a0.Granted.map cS29), .sl (a0.Queue.map cS29)])), (2, .i a2), (7, .mref 14), (24, .i v140), (29, .d (.sl (a0.Queue.map cS29))), (30, .i (a0.Queue.length : Int)), (31, .i v496)] [(14, some (.mp (.int .i64) (encM MKey.ik vB m408)))]) Sub.tt ?_
       refine Chain.nil ?_
       cases h
       refine PostI.next ?_
       exact Sub.tt
     ·have c469_ : decide (v409 < (a0.Queue.length : Int)) = false := decide_eq_false c469
      refine AW.condF (b := decide (v409 < (a0.Queue.length : Int))) rfl c469_ ?_
      refine AW.sub (Sub.bool 32 (b := decide (v409 < (a0.Queue.length : Int))) rfl c469_) ?_
      refine AW.sub (S' := mk 57 [] [(0, .d (.pim [.sl (a0.Granted.map cS29), .sl (a0.Queue.map cS29)])), (2, .i a2), (7, .mref 14), (24, .i v140), (29, .d (.sl (a0.Queue.map cS29))), (30, .i (a0.Queue.length : Int)), (31, .i v409), (32, .b false)] [(14, some (.mp (.int .i64) (encM MKey.ik vB m408)))]) (by simp; exact Sub.table (by simp) (by simp)) ?_
      refine AW.exit ?_
      cases h
      refine thenQ_pass (by simp) ?_
      refine PostI.out (by simp) ?_
      rintro rfl
      refine blockQ.hit ?_
      refine PostN.next ?_
      exact Sub.tt
    ·rintro m468 h
     refine blockQ.normal ?_
     refine thenQ_normal ?_
     refine AW.region ?_
     replace h := bsome h; obtain ⟨v497, hv497, h⟩ := h
     have hv497 := chkI_some hv497
     refine Chain.runK [] 2 fun K hK => ?_; simp [hv497]; refine hK _ _ ?_; clear hK K
     refine Chain.sub (S' := mk 57 [] [(0, .d (.pim [.sl (a0.Granted.map cS29), .sl (a0.Queue.map cS29)])), (2, .i a2), (7, .mref 14), (24, .i v497)] [(14, some (.mp (.int .i64) (encM MKey.ik vB m468)))]) Sub.tt ?_
     refine Chain.nil ?_
     cases h
     refine PostI.next ?_
     exact Sub.tt
   ·have c380_ : decide (v140 < 20) = false := decide_eq_false c380
    refine AW.condF (b := decide (v140 < 20)) rfl c380_ ?_
    refine AW.sub (Sub.bool 25 (b := decide (v140 < 20)) rfl c380_) ?_
    refine AW.sub (S' := mk 57 [] [(0, .d (.pim [.sl (a0.Granted.map cS29), .sl (a0.Queue.map cS29)])), (2, .i a2), (7, .mref 14), (24, .i v140), (25, .b false)] [(14, some (.mp (.int .i64) (encM MKey.ik vB m139)))]) (by simp; exact Sub.table (by simp) (by simp)) ?_
    refine AW.exit ?_
    cases h
    refine thenQ_pass (by simp) ?_
    refine PostI.out (by simp) ?_
    rintro rfl
    refine blockQ.hit ?_
    refine PostN.next ?_
    exact Sub.tt
  ·rintro m379 h
   refine thenQ_normal ?_
   refine AW.seqR ?_
   refine Chain.runK [] 2 fun K hK => ?_; simp; refine hK _ _ ?_; clear hK K
   refine Chain.sub (S' := mk 57 [] [(54, .mref 14), (55, .i a2)] [(14, some (.mp (.int .i64) (encM MKey.ik vB m379)))]) Sub.tt ?_
   replace h := lsome h; obtain ⟨v498, hv498, h⟩ := h
   refine Chain.lookE (vf := vB) ik_inj m379 a2 false (by simp) rfl ty71 rfl ty3 ty4 rfl rfl rfl rfl rfl rfl rfl ?_
   refine Chain.sub (S' := mk 57 [] [(54, .mref 14), (55, .i a2), (56, .b v498)] [(14, some (.mp (.int .i64) (encM MKey.ik vB m379)))]) (by simp [vB, hv498]; exact Sub.table (by simp) (by simp)) ?_
   refine Chain.runK [] 1 fun K hK => ?_; simp; refine hK _ _ ?_; clear hK K
   refine Chain.sub (S' := mk 57 [] [(6, .b v498)] []) Sub.tt ?_
   refine Chain.nil ?_
   refine AW.ret ?_
   cases h
   exact FinC.ret (by simp) (by simp)

end Go.Proofs.Ytdiekinmoklonaa
