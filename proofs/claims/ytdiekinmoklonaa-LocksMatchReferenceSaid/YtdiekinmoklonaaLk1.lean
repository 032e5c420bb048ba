/- Functions of the program as functional programs; the code computes them. -/
import Derived.Test.YtdiekinmoklonaaLk0
namespace Go.Proofs.Ytdiekinmoklonaa
open Go.Ab Go.Rp
attribute [-simp] List.all_eq_true Array.all_toList Array.all_eq_true

/-- stemma/locks.New -/
def d4 (_N : Nat)  : Option (Option S48) :=
 some (some (S48.mk ([] : List S29) ([] : List S29)))
set_option maxRecDepth 100000 in
set_option maxHeartbeats 4000000 in
theorem p4 (N : Nat)  (r : (Option S48)) (h : d4 N  = some r) : FunM Try.prog 4 [] [] [] ((match (generalizing := false) r with | none => V.d (.lit (.pointer none)) | some _ => V.ptr 1000 0 0)) ([] ++ (match (generalizing := false) r with | none => [] | some o => [(1000, (.box [.ref 25000 0 o.granted.length, .ref 25001 0 o.queue.length])), (25000, (.arr 29 4 (o.granted.map cS29))), (25001, (.arr 29 4 (o.queue.map cS29)))])) := by
 unfold d4 at h
 refine FunM.enter 3 [] Try.func4 rfl (of_decide_eq_true rfl) rfl rfl ?_
 refine AW.seqR ?_
 refine Chain.runK [] 1 fun K hK => ?_; simp; refine hK _ _ ?_; clear hK K
 refine Chain.sub (S' := mk 3 [] [] []) Sub.tt ?_
 refine Chain.nil ?_
 refine AW.seqR ?_
 refine Chain.runK [] 2 fun K hK => ?_; simp; refine hK _ _ ?_; clear hK K
 refine Chain.sub (S' := mk 3 [] [(2, .ptr 2 0 0)] [(2, some (.box [.d (.lit (.slice none 0 0)), .d (.lit (.slice none 0 0))]))]) Sub.tt ?_
 refine Chain.sub (Sub.nilOwnBox (bid := 2) (j := 0) (id := 5040) (T := 29) (n := 4) rfl rfl (by decide) rfl (by decide)) ?_
 refine Chain.sub (S' := mk 3 [] [(2, .ptr 2 0 0)] [(2, some (.box [.ref 5040 0 (([] : List S29).length), .d (.lit (.slice none 0 0))])), (5040, R29 ([] : List S29))]) (by simp; exact Sub.table (by simp) (by simp)) ?_
 refine Chain.sub (Sub.nilOwnBox (bid := 2) (j := 1) (id := 5041) (T := 29) (n := 4) rfl rfl (by decide) rfl (by decide)) ?_
 refine Chain.sub (S' := mk 3 [] [(2, .ptr 2 0 0)] [(2, some (.box [.ref 5040 0 (([] : List S29).length), .ref 5041 0 (([] : List S29).length)])), (5040, R29 ([] : List S29)), (5041, R29 ([] : List S29))]) (by simp; exact Sub.table (by simp) (by simp)) ?_
 refine Chain.runK [] 1 fun K hK => ?_; simp; refine hK _ _ ?_; clear hK K
 refine Chain.sub (S' := mk 3 [] [(0, .ptr 2 0 0)] [(2, some (.box [.ref 5040 0 (([] : List S29).length), .ref 5041 0 (([] : List S29).length)])), (5040, R29 ([] : List S29)), (5041, R29 ([] : List S29))]) Sub.tt ?_
 refine Chain.nil ?_
 refine AW.sub (S' := mk 3 [] [(0, .ptr 1000 0 0)] [(1000, some (.box [.ref 25000 0 (([] : List S29).length), .ref 25001 0 (([] : List S29).length)])), (25000, R29 ([] : List S29)), (25001, R29 ([] : List S29))]) (Sub.names [(2, 1000), (5040, 25000), (5041, 25001)] (by simp) (by simp) (by simp [back]) (by simp [V.rnm, lk2]) (by simp [back, Blk.rnm, V.rnm, rnmL, lk2])) ?_
 refine AW.ret ?_
 cases h
 exact FinF.ret (by simp) (by simp)

/-- stemma/locks.validate -/
def d14 (_N : Nat) (a0 : S29) : Option Int :=
 Option.bind (α := Bool) (
  if a0.Tx < 0 then (
   some true
  ) else
  some (decide (a0.Tx ≥ 20))
 ) fun (v2 : Bool) =>
 if v2 = true then (
  some 1
 ) else
 Option.bind (α := Bool) (
  if a0.Mode < 1 then (
   some true
  ) else
  if a0.Mode > 4 then (
   some true
  ) else
  if (!decide (a0.Key = (ByteArray.mk #[]))) = true then (
   if a0.Mode > 2 then (
    some true
   ) else
   some (decide (a0.Table = (ByteArray.mk #[])))
  ) else
  some (decide (a0.Table = (ByteArray.mk #[])))
 ) fun (v9 : Bool) =>
 if v9 = true then (
  some 3
 ) else
 Option.bind (α := Bool) (
  if (a0.Table.size : Int) > 24 then (
   some true
  ) else
  some (decide ((a0.Key.size : Int) > 24))
 ) fun (v16 : Bool) =>
 if v16 = true then (
  some 2
 ) else
 some 0
set_option maxRecDepth 100000 in
set_option maxHeartbeats 4000000 in
theorem p14 (N : Nat) (a0 : S29) (r : Int) (h : d14 N a0 = some r) : FunC Try.prog 14 [.agg [.i a0.Tx, .d (.lit (.string a0.Table)), .d (.lit (.string a0.Key)), .i a0.Mode]] (.i r) := by
 unfold d14 at h
 refine FunC.enter 44 [(0, .agg [.i a0.Tx, .d (.lit (.string a0.Table)), .d (.lit (.string a0.Key)), .i a0.Mode])] (by simp) Try.func14 rfl (of_decide_eq_true rfl) rfl rfl ?_
 refine AW.seqR ?_
 refine Chain.runK [] 2 fun K hK => ?_; simp; refine hK _ _ ?_; clear hK K
 refine Chain.sub (S' := mk 44 [] [(1, .ptr 1 0 0)] [(1, some (.box [.i a0.Tx, .d (.lit (.string a0.Table)), .d (.lit (.string a0.Key)), .i a0.Mode]))]) Sub.tt ?_
 refine Chain.nil ?_
 refine AW.seq ?_
 replace h := bsome h; obtain ⟨v2, hj, h⟩ := h
 refine AW.cutR (mk 44 [] [(1, .ptr 1 0 0), (10, .b v2)] [(1, some (.box [.i a0.Tx, .d (.lit (.string a0.Table)), .d (.lit (.string a0.Key)), .i a0.Mode]))]) ?_ ?_
 ·clear h; have h := hj; clear hj
  refine Chain.runK [] 4 fun K hK => ?_; simp; refine hK _ _ ?_; clear hK K
  refine Chain.sub (S' := mk 44 [] [(1, .ptr 1 0 0), (6, .b (decide (a0.Tx < 0)))] [(1, some (.box [.i a0.Tx, .d (.lit (.string a0.Table)), .d (.lit (.string a0.Key)), .i a0.Mode]))]) Sub.tt ?_
  replace h := isome h; rcases h with ⟨c3, h⟩ | ⟨c3, h⟩
  ·have c3_ : decide (a0.Tx < 0) = true := decide_eq_true c3
   refine Chain.sub (Sub.bool 6 (b := decide (a0.Tx < 0)) rfl c3_) ?_
   refine Chain.sub (S' := mk 44 [] [(1, .ptr 1 0 0), (6, .b true)] [(1, some (.box [.i a0.Tx, .d (.lit (.string a0.Table)), .d (.lit (.string a0.Key)), .i a0.Mode]))]) (by simp; exact Sub.table (by simp) (by simp)) ?_
   refine Chain.runK [] 4 fun K hK => ?_; simp; refine hK _ _ ?_; clear hK K
   refine Chain.sub (S' := mk 44 [] [(1, .ptr 1 0 0), (10, .b true)] [(1, some (.box [.i a0.Tx, .d (.lit (.string a0.Table)), .d (.lit (.string a0.Key)), .i a0.Mode]))]) Sub.tt ?_
   cases h
   exact Chain.nil Sub.tt
  ·have c3_ : decide (a0.Tx < 0) = false := decide_eq_false c3
   refine Chain.sub (Sub.bool 6 (b := decide (a0.Tx < 0)) rfl c3_) ?_
   refine Chain.sub (S' := mk 44 [] [(1, .ptr 1 0 0), (6, .b false)] [(1, some (.box [.i a0.Tx, .d (.lit (.string a0.Table)), .d (.lit (.string a0.Key)), .i a0.Mode]))]) (by simp; exact Sub.table (by simp) (by simp)) ?_
   refine Chain.runK [] 4 fun K hK => ?_; simp; refine hK _ _ ?_; clear hK K
   refine Chain.sub (S' := mk 44 [] [(1, .ptr 1 0 0), (10, .b (decide (a0.Tx ≥ 20)))] [(1, some (.box [.i a0.Tx, .d (.lit (.string a0.Table)), .d (.lit (.string a0.Key)), .i a0.Mode]))]) Sub.tt ?_
   cases h
   exact Chain.nil Sub.tt
 ·clear hj
  replace h := isome h; rcases h with ⟨c4, h⟩ | ⟨c4, h⟩
  ·have c4_ : v2 = true := c4
   refine AW.condT (b := v2) rfl c4_ ?_
   refine AW.sub (Sub.bool 10 (b := v2) rfl c4_) ?_
   refine AW.sub (S' := mk 44 [] [(1, .ptr 1 0 0), (10, .b true)] [(1, some (.box [.i a0.Tx, .d (.lit (.string a0.Table)), .d (.lit (.string a0.Key)), .i a0.Mode]))]) (by simp; exact Sub.table (by simp) (by simp)) ?_
   refine AW.seqR ?_
   refine Chain.runK [] 1 fun K hK => ?_; simp; refine hK _ _ ?_; clear hK K
   refine Chain.sub (S' := mk 44 [] [(2, .i 1)] []) Sub.tt ?_
   refine Chain.nil ?_
   refine AW.ret ?_
   cases h
   refine thenQ_pass (by simp) ?_
   exact FinC.ret (by simp) (by simp)
  ·have c4_ : v2 = false := Bool.eq_false_iff.2 c4
   refine AW.condF (b := v2) rfl c4_ ?_
   refine AW.sub (Sub.bool 10 (b := v2) rfl c4_) ?_
   refine AW.sub (S' := mk 44 [] [(1, .ptr 1 0 0), (10, .b false)] [(1, some (.box [.i a0.Tx, .d (.lit (.string a0.Table)), .d (.lit (.string a0.Key)), .i a0.Mode]))]) (by simp; exact Sub.table (by simp) (by simp)) ?_
   refine AW.skip ?_
   refine thenQ_normal ?_
   refine AW.seq ?_
   replace h := bsome h; obtain ⟨v9, hj, h⟩ := h
   refine AW.cutR (mk 44 [] [(1, .ptr 1 0 0), (33, .b v9)] [(1, some (.box [.i a0.Tx, .d (.lit (.string a0.Table)), .d (.lit (.string a0.Key)), .i a0.Mode]))]) ?_ ?_
   ·clear h; have h := hj; clear hj
    refine Chain.runK [] 4 fun K hK => ?_; simp; refine hK _ _ ?_; clear hK K
    refine Chain.sub (S' := mk 44 [] [(1, .ptr 1 0 0), (14, .b (decide (a0.Mode < 1)))] [(1, some (.box [.i a0.Tx, .d (.lit (.string a0.Table)), .d (.lit (.string a0.Key)), .i a0.Mode]))]) Sub.tt ?_
    replace h := isome h; rcases h with ⟨c10, h⟩ | ⟨c10, h⟩
    ·have c10_ : decide (a0.Mode < 1) = true := decide_eq_true c10
     refine Chain.sub (Sub.bool 14 (b := decide (a0.Mode < 1)) rfl c10_) ?_
     refine Chain.sub (S' := mk 44 [] [(1, .ptr 1 0 0), (14, .b true)] [(1, some (.box [.i a0.Tx, .d (.lit (.string a0.Table)), .d (.lit (.string a0.Key)), .i a0.Mode]))]) (by simp; exact Sub.table (by simp) (by simp)) ?_
     refine Chain.runK [] 19 fun K hK => ?_; simp; refine hK _ _ ?_; clear hK K
     refine Chain.sub (S' := mk 44 [] [(1, .ptr 1 0 0), (33, .b true)] [(1, some (.box [.i a0.Tx, .d (.lit (.string a0.Table)), .d (.lit (.string a0.Key)), .i a0.Mode]))]) Sub.tt ?_
     cases h
     exact Chain.nil Sub.tt
    ·have c10_ : decide (a0.Mode < 1) = false := decide_eq_false c10
     refine Chain.sub (Sub.bool 14 (b := decide (a0.Mode < 1)) rfl c10_) ?_
     refine Chain.sub (S' := mk 44 [] [(1, .ptr 1 0 0), (14, .b false)] [(1, some (.box [.i a0.Tx, .d (.lit (.string a0.Table)), .d (.lit (.string a0.Key)), .i a0.Mode]))]) (by simp; exact Sub.table (by simp) (by simp)) ?_
     refine Chain.runK [] 5 fun K hK => ?_; simp; refine hK _ _ ?_; clear hK K
     refine Chain.sub (S' := mk 44 [] [(1, .ptr 1 0 0), (19, .b (decide (a0.Mode > 4)))] [(1, some (.box [.i a0.Tx, .d (.lit (.string a0.Table)), .d (.lit (.string a0.Key)), .i a0.Mode]))]) Sub.tt ?_
     replace h := isome h; rcases h with ⟨c11, h⟩ | ⟨c11, h⟩
     ·have c11_ : decide (a0.Mode > 4) = true := decide_eq_true c11
      refine Chain.sub (Sub.bool 19 (b := decide (a0.Mode > 4)) rfl c11_) ?_
      refine Chain.sub (S' := mk 44 [] [(1, .ptr 1 0 0), (19, .b true)] [(1, some (.box [.i a0.Tx, .d (.lit (.string a0.Table)), .d (.lit (.string a0.Key)), .i a0.Mode]))]) (by simp; exact Sub.table (by simp) (by simp)) ?_
      refine Chain.runK [] 14 fun K hK => ?_; simp; refine hK _ _ ?_; clear hK K
      refine Chain.sub (S' := mk 44 [] [(1, .ptr 1 0 0), (33, .b true)] [(1, some (.box [.i a0.Tx, .d (.lit (.string a0.Table)), .d (.lit (.string a0.Key)), .i a0.Mode]))]) Sub.tt ?_
      cases h
      exact Chain.nil Sub.tt
     ·have c11_ : decide (a0.Mode > 4) = false := decide_eq_false c11
      refine Chain.sub (Sub.bool 19 (b := decide (a0.Mode > 4)) rfl c11_) ?_
      refine Chain.sub (S' := mk 44 [] [(1, .ptr 1 0 0), (19, .b false)] [(1, some (.box [.i a0.Tx, .d (.lit (.string a0.Table)), .d (.lit (.string a0.Key)), .i a0.Mode]))]) (by simp; exact Sub.table (by simp) (by simp)) ?_
      refine Chain.runK [] 4 fun K hK => ?_; simp; refine hK _ _ ?_; clear hK K
      refine Chain.sub (S' := mk 44 [] [(1, .ptr 1 0 0), (19, .b false), (23, .b (!decide (a0.Key = (ByteArray.mk #[]))))] [(1, some (.box [.i a0.Tx, .d (.lit (.string a0.Table)), .d (.lit (.string a0.Key)), .i a0.Mode]))]) Sub.tt ?_
      replace h := isome h; rcases h with ⟨c12, h⟩ | ⟨c12, h⟩
      ·have c12_ : (!decide (a0.Key = (ByteArray.mk #[]))) = true := c12
       refine Chain.sub (Sub.bool 23 (b := (!decide (a0.Key = (ByteArray.mk #[])))) rfl c12_) ?_
       refine Chain.sub (S' := mk 44 [] [(1, .ptr 1 0 0), (19, .b false), (23, .b true)] [(1, some (.box [.i a0.Tx, .d (.lit (.string a0.Table)), .d (.lit (.string a0.Key)), .i a0.Mode]))]) (by simp; exact Sub.table (by simp) (by simp)) ?_
       refine Chain.runK [] 6 fun K hK => ?_; simp; refine hK _ _ ?_; clear hK K
       refine Chain.sub (S' := mk 44 [] [(1, .ptr 1 0 0), (29, .b (decide (a0.Mode > 2)))] [(1, some (.box [.i a0.Tx, .d (.lit (.string a0.Table)), .d (.lit (.string a0.Key)), .i a0.Mode]))]) Sub.tt ?_
       replace h := isome h; rcases h with ⟨c13, h⟩ | ⟨c13, h⟩
       ·have c13_ : decide (a0.Mode > 2) = true := decide_eq_true c13
        refine Chain.sub (Sub.bool 29 (b := decide (a0.Mode > 2)) rfl c13_) ?_
        refine Chain.sub (S' := mk 44 [] [(1, .ptr 1 0 0), (29, .b true)] [(1, some (.box [.i a0.Tx, .d (.lit (.string a0.Table)), .d (.lit (.string a0.Key)), .i a0.Mode]))]) (by simp; exact Sub.table (by simp) (by simp)) ?_
        refine Chain.runK [] 4 fun K hK => ?_; simp; refine hK _ _ ?_; clear hK K
        refine Chain.sub (S' := mk 44 [] [(1, .ptr 1 0 0), (33, .b true)] [(1, some (.box [.i a0.Tx, .d (.lit (.string a0.Table)), .d (.lit (.string a0.Key)), .i a0.Mode]))]) Sub.tt ?_
        cases h
        exact Chain.nil Sub.tt
       ·have c13_ : decide (a0.Mode > 2) = false := decide_eq_false c13
        refine Chain.sub (Sub.bool 29 (b := decide (a0.Mode > 2)) rfl c13_) ?_
        refine Chain.sub (S' := mk 44 [] [(1, .ptr 1 0 0), (29, .b false)] [(1, some (.box [.i a0.Tx, .d (.lit (.string a0.Table)), .d (.lit (.string a0.Key)), .i a0.Mode]))]) (by simp; exact Sub.table (by simp) (by simp)) ?_
        refine Chain.runK [] 4 fun K hK => ?_; simp; refine hK _ _ ?_; clear hK K
        refine Chain.sub (S' := mk 44 [] [(1, .ptr 1 0 0), (33, .b (decide (a0.Table = (ByteArray.mk #[]))))] [(1, some (.box [.i a0.Tx, .d (.lit (.string a0.Table)), .d (.lit (.string a0.Key)), .i a0.Mode]))]) Sub.tt ?_
        cases h
        exact Chain.nil Sub.tt
      ·have c12_ : (!decide (a0.Key = (ByteArray.mk #[]))) = false := Bool.eq_false_iff.2 c12
       refine Chain.sub (Sub.bool 23 (b := (!decide (a0.Key = (ByteArray.mk #[])))) rfl c12_) ?_
       refine Chain.sub (S' := mk 44 [] [(1, .ptr 1 0 0), (19, .b false), (23, .b false)] [(1, some (.box [.i a0.Tx, .d (.lit (.string a0.Table)), .d (.lit (.string a0.Key)), .i a0.Mode]))]) (by simp; exact Sub.table (by simp) (by simp)) ?_
       refine Chain.runK [] 10 fun K hK => ?_; simp; refine hK _ _ ?_; clear hK K
       refine Chain.sub (S' := mk 44 [] [(1, .ptr 1 0 0), (33, .b (decide (a0.Table = (ByteArray.mk #[]))))] [(1, some (.box [.i a0.Tx, .d (.lit (.string a0.Table)), .d (.lit (.string a0.Key)), .i a0.Mode]))]) Sub.tt ?_
       cases h
       exact Chain.nil Sub.tt
   ·clear hj
    replace h := isome h; rcases h with ⟨c14, h⟩ | ⟨c14, h⟩
    ·have c14_ : v9 = true := c14
     refine AW.condT (b := v9) rfl c14_ ?_
     refine AW.sub (Sub.bool 33 (b := v9) rfl c14_) ?_
     refine AW.sub (S' := mk 44 [] [(1, .ptr 1 0 0), (33, .b true)] [(1, some (.box [.i a0.Tx, .d (.lit (.string a0.Table)), .d (.lit (.string a0.Key)), .i a0.Mode]))]) (by simp; exact Sub.table (by simp) (by simp)) ?_
     refine AW.seqR ?_
     refine Chain.runK [] 1 fun K hK => ?_; simp; refine hK _ _ ?_; clear hK K
     refine Chain.sub (S' := mk 44 [] [(2, .i 3)] []) Sub.tt ?_
     refine Chain.nil ?_
     refine AW.ret ?_
     cases h
     refine thenQ_pass (by simp) ?_
     exact FinC.ret (by simp) (by simp)
    ·have c14_ : v9 = false := Bool.eq_false_iff.2 c14
     refine AW.condF (b := v9) rfl c14_ ?_
     refine AW.sub (Sub.bool 33 (b := v9) rfl c14_) ?_
     refine AW.sub (S' := mk 44 [] [(1, .ptr 1 0 0), (33, .b false)] [(1, some (.box [.i a0.Tx, .d (.lit (.string a0.Table)), .d (.lit (.string a0.Key)), .i a0.Mode]))]) (by simp; exact Sub.table (by simp) (by simp)) ?_
     refine AW.skip ?_
     refine thenQ_normal ?_
     refine AW.seq ?_
     replace h := bsome h; obtain ⟨v16, hj, h⟩ := h
     refine AW.cutR (mk 44 [] [(43, .b v16)] []) ?_ ?_
     ·clear h; have h := hj; clear hj
      refine Chain.runK [] 5 fun K hK => ?_; simp; refine hK _ _ ?_; clear hK K
      refine Chain.sub (S' := mk 44 [] [(1, .ptr 1 0 0), (38, .b (decide ((a0.Table.size : Int) > 24)))] [(1, some (.box [.i a0.Tx, .d (.lit (.string a0.Table)), .d (.lit (.string a0.Key)), .i a0.Mode]))]) Sub.tt ?_
      replace h := isome h; rcases h with ⟨c17, h⟩ | ⟨c17, h⟩
      ·have c17_ : decide ((a0.Table.size : Int) > 24) = true := decide_eq_true c17
       refine Chain.sub (Sub.bool 38 (b := decide ((a0.Table.size : Int) > 24)) rfl c17_) ?_
       refine Chain.sub (S' := mk 44 [] [(1, .ptr 1 0 0), (38, .b true)] [(1, some (.box [.i a0.Tx, .d (.lit (.string a0.Table)), .d (.lit (.string a0.Key)), .i a0.Mode]))]) (by simp; exact Sub.table (by simp) (by simp)) ?_
       refine Chain.runK [] 5 fun K hK => ?_; simp; refine hK _ _ ?_; clear hK K
       refine Chain.sub (S' := mk 44 [] [(43, .b true)] []) Sub.tt ?_
       cases h
       exact Chain.nil Sub.tt
      ·have c17_ : decide ((a0.Table.size : Int) > 24) = false := decide_eq_false c17
       refine Chain.sub (Sub.bool 38 (b := decide ((a0.Table.size : Int) > 24)) rfl c17_) ?_
       refine Chain.sub (S' := mk 44 [] [(1, .ptr 1 0 0), (38, .b false)] [(1, some (.box [.i a0.Tx, .d (.lit (.string a0.Table)), .d (.lit (.string a0.Key)), .i a0.Mode]))]) (by simp; exact Sub.table (by simp) (by simp)) ?_
       refine Chain.runK [] 5 fun K hK => ?_; simp; refine hK _ _ ?_; clear hK K
       refine Chain.sub (S' := mk 44 [] [(43, .b (decide ((a0.Key.size : Int) > 24)))] []) Sub.tt ?_
       cases h
       exact Chain.nil Sub.tt
     ·clear hj
      replace h := isome h; rcases h with ⟨c18, h⟩ | ⟨c18, h⟩
      ·have c18_ : v16 = true := c18
       refine AW.condT (b := v16) rfl c18_ ?_
       refine AW.sub (Sub.bool 43 (b := v16) rfl c18_) ?_
       refine AW.sub (S' := mk 44 [] [(43, .b true)] []) (by simp; exact Sub.table (by simp) (by simp)) ?_
       refine AW.seqR ?_
       refine Chain.runK [] 1 fun K hK => ?_; simp; refine hK _ _ ?_; clear hK K
       refine Chain.sub (S' := mk 44 [] [(2, .i 2)] []) Sub.tt ?_
       refine Chain.nil ?_
       refine AW.ret ?_
       cases h
       refine thenQ_pass (by simp) ?_
       exact FinC.ret (by simp) (by simp)
      ·have c18_ : v16 = false := Bool.eq_false_iff.2 c18
       refine AW.condF (b := v16) rfl c18_ ?_
       refine AW.sub (Sub.bool 43 (b := v16) rfl c18_) ?_
       refine AW.sub (S' := mk 44 [] [(43, .b false)] []) (by simp; exact Sub.table (by simp) (by simp)) ?_
       refine AW.skip ?_
       refine thenQ_normal ?_
       refine AW.seqR ?_
       refine Chain.runK [] 1 fun K hK => ?_; simp; refine hK _ _ ?_; clear hK K
       refine Chain.sub (S' := mk 44 [] [(2, .i 0)] []) Sub.tt ?_
       refine Chain.nil ?_
       refine AW.ret ?_
       cases h
       exact FinC.ret (by simp) (by simp)

/-- (*stemma/locks.Manager).Acquire$1 -/
def d16 (_N : Nat) (a0 : S29) (a1 : S29) : Option Bool :=
 some (a0.Tx == a1.Tx)
set_option maxRecDepth 100000 in
set_option maxHeartbeats 4000000 in
theorem p16 (N : Nat) (a0 : S29) (a1 : S29) (r : Bool) (h : d16 N a0 a1 = some r) : FunC Try.prog 16 [.agg [.i a0.Tx, .d (.lit (.string a0.Table)), .d (.lit (.string a0.Key)), .i a0.Mode], .d (.pim [.lit (.int .i64 a1.Tx), .lit (.string a1.Table), .lit (.string a1.Key), .lit (.int .i64 a1.Mode)])] (.b r) := by
 unfold d16 at h
 refine FunC.enter 9 [(0, .agg [.i a0.Tx, .d (.lit (.string a0.Table)), .d (.lit (.string a0.Key)), .i a0.Mode]), (1, .d (.pim [.lit (.int .i64 a1.Tx), .lit (.string a1.Table), .lit (.string a1.Key), .lit (.int .i64 a1.Mode)]))] (by simp) Try.func16 rfl (of_decide_eq_true rfl) rfl rfl ?_
 refine AW.seqR ?_
 refine Chain.runK [] 2 fun K hK => ?_; simp; refine hK _ _ ?_; clear hK K
 refine Chain.sub (S' := mk 9 [] [(1, .d (.pim [.lit (.int .i64 a1.Tx), .lit (.string a1.Table), .lit (.string a1.Key), .lit (.int .i64 a1.Mode)])), (2, .ptr 2 0 0)] [(2, some (.box [.i a0.Tx, .d (.lit (.string a0.Table)), .d (.lit (.string a0.Key)), .i a0.Mode]))]) Sub.tt ?_
 refine Chain.nil ?_
 refine AW.seqR ?_
 refine Chain.runK [] 6 fun K hK => ?_; simp; refine hK _ _ ?_; clear hK K
 refine Chain.sub (S' := mk 9 [] [(3, .b (a0.Tx == a1.Tx))] []) Sub.tt ?_
 refine Chain.nil ?_
 refine AW.ret ?_
 cases h
 exact FinC.ret (by simp) (by simp)

/-- slices.IndexFunc[[]stemma/locks.Lock,stemma/locks.Lock] -/
def d37 (N : Nat) (a0 : (List S29)) (p1 : S29 → Option Bool) : Option Int :=
 bindO (β := Unit) (ρ := Int) (
  iterN (σ := Int) (ρ := (Out Unit Int)) (fun (v6 : Int) =>
   if v6 < (a0.length : Int) then (
    (idx a0 v6).bind fun x21 =>
    (p1 x21).bind fun r23 =>
    if r23 = true then (
     some (.inr (.ret v6))
    ) else
    (chkI (v6 + 1)).bind fun v25 =>
    some (.inl v25)
   ) else
   some (.inr (.go ()))
  ) N 0
 ) fun (_ : Unit) =>
 some (-1)
set_option maxRecDepth 100000 in
set_option maxHeartbeats 4000000 in
theorem p37 (N : Nat) (a0 : (List S29)) (g1 : Nat) (cs1 : List D) (p1 : S29 → Option Bool) (ent_1 : Rp.Enters Try.prog g1) (hp1 : ∀ a0 r, p1 a0 = some r → FunC Try.prog g1 ([.agg [.i a0.Tx, .d (.lit (.string a0.Table)), .d (.lit (.string a0.Key)), .i a0.Mode]] ++ cs1.map .d) (.b r)) (r : Int) (h : d37 N a0 p1 = some r) : FunC Try.prog 37 [.d (.sl (a0.map cS29)), .fn (.func g1) (cs1.map .d)] (.i r) := by
 unfold d37 at h
 refine FunC.enter 19 [(0, .d (.sl (a0.map cS29))), (1, .fn (.func g1) (cs1.map .d))] (by simp) Try.func37 rfl (of_decide_eq_true rfl) rfl rfl ?_
 refine AW.seqR ?_
 refine Chain.runK [] 1 fun K hK => ?_; simp; refine hK _ _ ?_; clear hK K
 refine Chain.sub (S' := mk 19 [] [(0, .d (.sl (a0.map cS29))), (1, .fn (.func g1) (cs1.map .d))] []) Sub.tt ?_
 refine Chain.nil ?_
 refine AW.seq ?_
 refine AW.seqR ?_
 refine Chain.runK [] 3 fun K hK => ?_; simp; refine hK _ _ ?_; clear hK K
 refine Chain.sub (S' := mk 19 [] [(0, .d (.sl (a0.map cS29))), (1, .fn (.func g1) (cs1.map .d)), (7, .i (a0.length : Int)), (8, .i 0)] []) Sub.tt ?_
 refine Chain.nil ?_
 refine AW.lastJ (fun (_ : Unit) => mk 19 [] [] []) h ?_ ?_ <;> clear h
 ·intro o h
  refine AW.block ?_
  refine AW.iter (fun (v6 : Int) => mk 19 [] [(0, .d (.sl (a0.map cS29))), (1, .fn (.func g1) (cs1.map .d)), (7, .i (a0.length : Int)), (8, .i v6)] []) h Sub.tt ?_
  clear h
  rintro v6 x h
  refine AW.seqR ?_
  refine Chain.runK [] 1 fun K hK => ?_; simp; refine hK _ _ ?_; clear hK K
  refine Chain.sub (S' := mk 19 [] [(0, .d (.sl (a0.map cS29))), (1, .fn (.func g1) (cs1.map .d)), (7, .i (a0.length : Int)), (8, .i v6), (9, .b (decide (v6 < (a0.length : Int))))] []) Sub.tt ?_
  refine Chain.nil ?_
  refine AW.seq ?_
  replace h := isome h; rcases h with ⟨c20, h⟩ | ⟨c20, h⟩
  ·have c20_ : decide (v6 < (a0.length : Int)) = true := decide_eq_true c20
   refine AW.condT (b := decide (v6 < (a0.length : Int))) rfl c20_ ?_
   refine AW.sub (Sub.bool 9 (b := decide (v6 < (a0.length : Int))) rfl c20_) ?_
   refine AW.sub (S' := mk 19 [] [(0, .d (.sl (a0.map cS29))), (1, .fn (.func g1) (cs1.map .d)), (7, .i (a0.length : Int)), (8, .i v6), (9, .b true)] []) (by simp; exact Sub.table (by simp) (by simp)) ?_
   refine AW.skip ?_
   refine thenQ_normal ?_
   refine AW.seq ?_
   refine AW.block ?_
   refine AW.seqR ?_
   refine Chain.runK [] 2 fun K hK => ?_; simp; refine hK _ _ ?_; clear hK K
   refine Chain.sub (S' := mk 19 [] [(0, .d (.sl (a0.map cS29))), (1, .fn (.func g1) (cs1.map .d)), (5, .i v6), (7, .i (a0.length : Int)), (8, .i v6)] []) Sub.tt ?_
   refine Chain.nil ?_
   refine AW.seqR ?_
   replace h := bsome h; obtain ⟨x21, hx21, h⟩ := h
   obtain ⟨k22, hx21k, hx21, hx21a, hx21b⟩ := idx_some hx21
   refine Chain.runK [] 5 fun K hK => ?_; simp [hx21, hx21k, hx21a]; refine hK _ _ ?_; clear hK K
   refine Chain.sub (S' := mk 19 [] [(0, .d (.sl (a0.map cS29))), (1, .fn (.func g1) (cs1.map .d)), (5, .i v6), (7, .i (a0.length : Int)), (8, .i v6), (11, .fn (.func g1) (cs1.map .d)), (15, .agg [.i x21.Tx, .d (.lit (.string x21.Table)), .d (.lit (.string x21.Key)), .i x21.Mode])] []) Sub.tt ?_
   replace h := bsome h; obtain ⟨r23, hr23, h⟩ := h
   refine Chain.callL (d := 16) (hp1 x21 r23 hr23) (by simp) rfl rfl (by simp <;> rfl) (by simp <;> rfl) ent_1 (by simp <;> rfl) ?_
   refine Chain.sub (S' := mk 19 [] [(0, .d (.sl (a0.map cS29))), (1, .fn (.func g1) (cs1.map .d)), (5, .i v6), (7, .i (a0.length : Int)), (8, .i v6), (11, .fn (.func g1) (cs1.map .d)), (15, .agg [.i x21.Tx, .d (.lit (.string x21.Table)), .d (.lit (.string x21.Key)), .i x21.Mode]), (16, .b r23)] []) (by simp; exact Sub.table (by simp) (by simp)) ?_
   refine Chain.nil ?_
   replace h := isome h; rcases h with ⟨c24, h⟩ | ⟨c24, h⟩
   ·have c24_ : r23 = true := c24
    refine AW.condT (b := r23) rfl c24_ ?_
    refine AW.sub (Sub.bool 16 (b := r23) rfl c24_) ?_
    refine AW.sub (S' := mk 19 [] [(0, .d (.sl (a0.map cS29))), (1, .fn (.func g1) (cs1.map .d)), (5, .i v6), (7, .i (a0.length : Int)), (8, .i v6), (11, .fn (.func g1) (cs1.map .d)), (15, .agg [.i x21.Tx, .d (.lit (.string x21.Table)), .d (.lit (.string x21.Key)), .i x21.Mode]), (16, .b true)] []) (by simp; exact Sub.table (by simp) (by simp)) ?_
    refine AW.seqR ?_
    refine Chain.runK [] 2 fun K hK => ?_; simp; refine hK _ _ ?_; clear hK K
    refine Chain.sub (S' := mk 19 [] [(4, .i v6)] []) Sub.tt ?_
    refine Chain.nil ?_
    refine AW.ret ?_
    cases h
    refine blockQ.ret ?_
    refine thenQ_pass (by simp) ?_
    refine PostI.out (by simp) ?_
    rintro rfl
    refine blockQ.ret ?_
    refine PostJ.out (by simp) ?_
    rintro rfl
    refine thenQ_pass (by simp) ?_
    exact FinC.ret (by simp) (by simp)
   ·have c24_ : r23 = false := Bool.eq_false_iff.2 c24
    refine AW.condF (b := r23) rfl c24_ ?_
    refine AW.sub (Sub.bool 16 (b := r23) rfl c24_) ?_
    refine AW.sub (S' := mk 19 [] [(0, .d (.sl (a0.map cS29))), (1, .fn (.func g1) (cs1.map .d)), (5, .i v6), (7, .i (a0.length : Int)), (8, .i v6), (11, .fn (.func g1) (cs1.map .d)), (15, .agg [.i x21.Tx, .d (.lit (.string x21.Table)), .d (.lit (.string x21.Key)), .i x21.Mode]), (16, .b false)] []) (by simp; exact Sub.table (by simp) (by simp)) ?_
    refine AW.skip ?_
    refine blockQ.normal ?_
    refine thenQ_normal ?_
    refine AW.region ?_
    replace h := bsome h; obtain ⟨v25, hv25, h⟩ := h
    have hv25 := chkI_some hv25
    refine Chain.runK [] 2 fun K hK => ?_; simp [hv25]; refine hK _ _ ?_; clear hK K
    refine Chain.sub (S' := mk 19 [] [(0, .d (.sl (a0.map cS29))), (1, .fn (.func g1) (cs1.map .d)), (7, .i (a0.length : Int)), (8, .i v25)] []) Sub.tt ?_
    refine Chain.nil ?_
    cases h
    refine PostI.next ?_
    exact Sub.tt
  ·have c20_ : decide (v6 < (a0.length : Int)) = false := decide_eq_false c20
   refine AW.condF (b := decide (v6 < (a0.length : Int))) rfl c20_ ?_
   refine AW.sub (Sub.bool 9 (b := decide (v6 < (a0.length : Int))) rfl c20_) ?_
   refine AW.sub (S' := mk 19 [] [(0, .d (.sl (a0.map cS29))), (1, .fn (.func g1) (cs1.map .d)), (7, .i (a0.length : Int)), (8, .i v6), (9, .b false)] []) (by simp; exact Sub.table (by simp) (by simp)) ?_
   refine AW.exit ?_
   cases h
   refine thenQ_pass (by simp) ?_
   refine PostI.out (by simp) ?_
   rintro rfl
   refine blockQ.hit ?_
   refine PostJ.next ?_
   exact Sub.tt
 ·rintro ⟨⟩ h
  refine thenQ_normal ?_
  refine AW.seqR ?_
  refine Chain.runK [] 1 fun K hK => ?_; simp; refine hK _ _ ?_; clear hK K
  refine Chain.sub (S' := mk 19 [] [(4, .i (-1))] []) Sub.tt ?_
  refine Chain.nil ?_
  refine AW.ret ?_
  cases h
  exact FinC.ret (by simp) (by simp)

/-- slices.ContainsFunc[[]stemma/locks.Lock,stemma/locks.Lock] -/
def d15 (N : Nat) (a0 : (List S29)) (p1 : S29 → Option Bool) : Option Bool :=
 (d37 N a0 p1).bind fun r1 =>
 some (decide (r1 ≥ 0))
set_option maxRecDepth 100000 in
set_option maxHeartbeats 4000000 in
theorem p15 (N : Nat) (a0 : (List S29)) (g1 : Nat) (cs1 : List D) (p1 : S29 → Option Bool) (ent_1 : Rp.Enters Try.prog g1) (hp1 : ∀ a0 r, p1 a0 = some r → FunC Try.prog g1 ([.agg [.i a0.Tx, .d (.lit (.string a0.Table)), .d (.lit (.string a0.Key)), .i a0.Mode]] ++ cs1.map .d) (.b r)) (r : Bool) (h : d15 N a0 p1 = some r) : FunC Try.prog 15 [.d (.sl (a0.map cS29)), .fn (.func g1) (cs1.map .d)] (.b r) := by
 unfold d15 at h
 refine FunC.enter 9 [(0, .d (.sl (a0.map cS29))), (1, .fn (.func g1) (cs1.map .d))] (by simp) Try.func15 rfl (of_decide_eq_true rfl) rfl rfl ?_
 refine AW.seqR ?_
 refine Chain.runK [] 1 fun K hK => ?_; simp; refine hK _ _ ?_; clear hK K
 refine Chain.sub (S' := mk 9 [] [(0, .d (.sl (a0.map cS29))), (1, .fn (.func g1) (cs1.map .d))] []) Sub.tt ?_
 refine Chain.nil ?_
 refine AW.seqR ?_
 refine Chain.runK [] 2 fun K hK => ?_; simp; refine hK _ _ ?_; clear hK K
 refine Chain.sub (S' := mk 9 [] [(5, .d (.sl (a0.map cS29))), (6, .fn (.func g1) (cs1.map .d))] []) Sub.tt ?_
 replace h := bsome h; obtain ⟨r1, hr1, h⟩ := h
 refine Chain.callL (d := 7) (p37 N a0 g1 cs1 p1 ent_1 hp1 r1 hr1) (by simp) rfl rfl (by simp <;> rfl) (by simp <;> rfl) ent37 (by simp <;> rfl) ?_
 refine Chain.sub (S' := mk 9 [] [(5, .d (.sl (a0.map cS29))), (6, .fn (.func g1) (cs1.map .d)), (7, .i r1)] []) (by simp; exact Sub.table (by simp) (by simp)) ?_
 refine Chain.runK [] 2 fun K hK => ?_; simp; refine hK _ _ ?_; clear hK K
 refine Chain.sub (S' := mk 9 [] [(4, .b (decide (r1 ≥ 0)))] []) Sub.tt ?_
 refine Chain.nil ?_
 refine AW.ret ?_
 cases h
 exact FinC.ret (by simp) (by simp)

/-- stemma/locks.sameHolder -/
def d39 (_N : Nat) (a0 : S29) (a1 : S29) : Option Bool :=
 Option.bind (α := Bool) (
  if (a0.Tx == a1.Tx) then (
   if decide (a0.Table = a1.Table) = true then (
    some (decide (a0.Key = a1.Key))
   ) else
   some false
  ) else
  some false
 ) fun (v3 : Bool) =>
 some v3
set_option maxRecDepth 100000 in
set_option maxHeartbeats 4000000 in
theorem p39 (N : Nat) (a0 : S29) (a1 : S29) (r : Bool) (h : d39 N a0 a1 = some r) : FunC Try.prog 39 [.agg [.i a0.Tx, .d (.lit (.string a0.Table)), .d (.lit (.string a0.Key)), .i a0.Mode], .agg [.i a1.Tx, .d (.lit (.string a1.Table)), .d (.lit (.string a1.Key)), .i a1.Mode]] (.b r) := by
 unfold d39 at h
 refine FunC.enter 24 [(0, .agg [.i a0.Tx, .d (.lit (.string a0.Table)), .d (.lit (.string a0.Key)), .i a0.Mode]), (1, .agg [.i a1.Tx, .d (.lit (.string a1.Table)), .d (.lit (.string a1.Key)), .i a1.Mode])] (by simp) Try.func39 rfl (of_decide_eq_true rfl) rfl rfl ?_
 refine AW.seqR ?_
 refine Chain.runK [] 3 fun K hK => ?_; simp; refine hK _ _ ?_; clear hK K
 refine Chain.sub (S' := mk 24 [] [(2, .ptr 2 0 0), (3, .ptr 3 0 0)] [(2, some (.box [.i a0.Tx, .d (.lit (.string a0.Table)), .d (.lit (.string a0.Key)), .i a0.Mode])), (3, some (.box [.i a1.Tx, .d (.lit (.string a1.Table)), .d (.lit (.string a1.Key)), .i a1.Mode]))]) Sub.tt ?_
 refine Chain.nil ?_
 replace h := bsome h; obtain ⟨v3, hj, h⟩ := h
 refine AW.cutR (mk 24 [] [(4, .b v3)] []) ?_ ?_
 ·clear h; have h := hj; clear hj
  refine Chain.runK [] 6 fun K hK => ?_; simp; refine hK _ _ ?_; clear hK K
  refine Chain.sub (S' := mk 24 [] [(2, .ptr 2 0 0), (3, .ptr 3 0 0), (10, .b (a0.Tx == a1.Tx))] [(2, some (.box [.i a0.Tx, .d (.lit (.string a0.Table)), .d (.lit (.string a0.Key)), .i a0.Mode])), (3, some (.box [.i a1.Tx, .d (.lit (.string a1.Table)), .d (.lit (.string a1.Key)), .i a1.Mode]))]) Sub.tt ?_
  replace h := isome h; rcases h with ⟨c4, h⟩ | ⟨c4, h⟩
  ·have c4_ : (a0.Tx == a1.Tx) = true := c4
   refine Chain.sub (Sub.bool 10 (b := (a0.Tx == a1.Tx)) rfl c4_) ?_
   refine Chain.sub (S' := mk 24 [] [(2, .ptr 2 0 0), (3, .ptr 3 0 0), (10, .b true)] [(2, some (.box [.i a0.Tx, .d (.lit (.string a0.Table)), .d (.lit (.string a0.Key)), .i a0.Mode])), (3, some (.box [.i a1.Tx, .d (.lit (.string a1.Table)), .d (.lit (.string a1.Key)), .i a1.Mode]))]) (by simp; exact Sub.table (by simp) (by simp)) ?_
   refine Chain.runK [] 7 fun K hK => ?_; simp; refine hK _ _ ?_; clear hK K
   refine Chain.sub (S' := mk 24 [] [(2, .ptr 2 0 0), (3, .ptr 3 0 0), (17, .b (decide (a0.Table = a1.Table)))] [(2, some (.box [.i a0.Tx, .d (.lit (.string a0.Table)), .d (.lit (.string a0.Key)), .i a0.Mode])), (3, some (.box [.i a1.Tx, .d (.lit (.string a1.Table)), .d (.lit (.string a1.Key)), .i a1.Mode]))]) Sub.tt ?_
   replace h := isome h; rcases h with ⟨c5, h⟩ | ⟨c5, h⟩
   ·have c5_ : decide (a0.Table = a1.Table) = true := c5
    refine Chain.sub (Sub.bool 17 (b := decide (a0.Table = a1.Table)) rfl c5_) ?_
    refine Chain.sub (S' := mk 24 [] [(2, .ptr 2 0 0), (3, .ptr 3 0 0), (17, .b true)] [(2, some (.box [.i a0.Tx, .d (.lit (.string a0.Table)), .d (.lit (.string a0.Key)), .i a0.Mode])), (3, some (.box [.i a1.Tx, .d (.lit (.string a1.Table)), .d (.lit (.string a1.Key)), .i a1.Mode]))]) (by simp; exact Sub.table (by simp) (by simp)) ?_
    refine Chain.runK [] 7 fun K hK => ?_; simp; refine hK _ _ ?_; clear hK K
    refine Chain.sub (S' := mk 24 [] [(4, .b (decide (a0.Key = a1.Key)))] []) Sub.tt ?_
    cases h
    exact Chain.nil Sub.tt
   ·have c5_ : decide (a0.Table = a1.Table) = false := Bool.eq_false_iff.2 c5
    refine Chain.sub (Sub.bool 17 (b := decide (a0.Table = a1.Table)) rfl c5_) ?_
    refine Chain.sub (S' := mk 24 [] [(2, .ptr 2 0 0), (3, .ptr 3 0 0), (17, .b false)] [(2, some (.box [.i a0.Tx, .d (.lit (.string a0.Table)), .d (.lit (.string a0.Key)), .i a0.Mode])), (3, some (.box [.i a1.Tx, .d (.lit (.string a1.Table)), .d (.lit (.string a1.Key)), .i a1.Mode]))]) (by simp; exact Sub.table (by simp) (by simp)) ?_
    refine Chain.runK [] 7 fun K hK => ?_; simp; refine hK _ _ ?_; clear hK K
    refine Chain.sub (S' := mk 24 [] [(4, .b false)] []) Sub.tt ?_
    cases h
    exact Chain.nil Sub.tt
  ·have c4_ : (a0.Tx == a1.Tx) = false := Bool.eq_false_iff.2 c4
   refine Chain.sub (Sub.bool 10 (b := (a0.Tx == a1.Tx)) rfl c4_) ?_
   refine Chain.sub (S' := mk 24 [] [(2, .ptr 2 0 0), (3, .ptr 3 0 0), (10, .b false)] [(2, some (.box [.i a0.Tx, .d (.lit (.string a0.Table)), .d (.lit (.string a0.Key)), .i a0.Mode])), (3, some (.box [.i a1.Tx, .d (.lit (.string a1.Table)), .d (.lit (.string a1.Key)), .i a1.Mode]))]) (by simp; exact Sub.table (by simp) (by simp)) ?_
   refine Chain.runK [] 14 fun K hK => ?_; simp; refine hK _ _ ?_; clear hK K
   refine Chain.sub (S' := mk 24 [] [(4, .b false)] []) Sub.tt ?_
   cases h
   exact Chain.nil Sub.tt
 ·clear hj
  refine AW.ret ?_
  cases h
  exact FinC.ret (by simp) (by simp)

/-- (*stemma/locks.Manager).modeOf$1 -/
def d38 (N : Nat) (a0 : S29) (a1 : S29) : Option Bool :=
 (d39 N a0 a1).bind fun r1 =>
 some r1
set_option maxRecDepth 100000 in
set_option maxHeartbeats 4000000 in
theorem p38 (N : Nat) (a0 : S29) (a1 : S29) (r : Bool) (h : d38 N a0 a1 = some r) : FunC Try.prog 38 [.agg [.i a0.Tx, .d (.lit (.string a0.Table)), .d (.lit (.string a0.Key)), .i a0.Mode], .d (.pim [.lit (.int .i64 a1.Tx), .lit (.string a1.Table), .lit (.string a1.Key), .lit (.int .i64 a1.Mode)])] (.b r) := by
 unfold d38 at h
 refine FunC.enter 7 [(0, .agg [.i a0.Tx, .d (.lit (.string a0.Table)), .d (.lit (.string a0.Key)), .i a0.Mode]), (1, .d (.pim [.lit (.int .i64 a1.Tx), .lit (.string a1.Table), .lit (.string a1.Key), .lit (.int .i64 a1.Mode)]))] (by simp) Try.func38 rfl (of_decide_eq_true rfl) rfl rfl ?_
 refine AW.seqR ?_
 refine Chain.runK [] 2 fun K hK => ?_; simp; refine hK _ _ ?_; clear hK K
 refine Chain.sub (S' := mk 7 [] [(1, .d (.pim [.lit (.int .i64 a1.Tx), .lit (.string a1.Table), .lit (.string a1.Key), .lit (.int .i64 a1.Mode)])), (2, .ptr 2 0 0)] [(2, some (.box [.i a0.Tx, .d (.lit (.string a0.Table)), .d (.lit (.string a0.Key)), .i a0.Mode]))]) Sub.tt ?_
 refine Chain.nil ?_
 refine AW.seqR ?_
 refine Chain.runK [] 2 fun K hK => ?_; simp; refine hK _ _ ?_; clear hK K
 refine Chain.sub (S' := mk 7 [] [(4, .agg [.i a0.Tx, .d (.lit (.string a0.Table)), .d (.lit (.string a0.Key)), .i a0.Mode]), (5, .agg [.i a1.Tx, .d (.lit (.string a1.Table)), .d (.lit (.string a1.Key)), .i a1.Mode])] []) Sub.tt ?_
 replace h := bsome h; obtain ⟨r1, hr1, h⟩ := h
 refine Chain.callL (d := 6) (p39 N a0 a1 r1 hr1) (by simp) rfl rfl (by simp <;> rfl) (by simp <;> rfl) ent39 (by simp <;> rfl) ?_
 refine Chain.sub (S' := mk 7 [] [(4, .agg [.i a0.Tx, .d (.lit (.string a0.Table)), .d (.lit (.string a0.Key)), .i a0.Mode]), (5, .agg [.i a1.Tx, .d (.lit (.string a1.Table)), .d (.lit (.string a1.Key)), .i a1.Mode]), (6, .b r1)] []) (by simp; exact Sub.table (by simp) (by simp)) ?_
 refine Chain.runK [] 1 fun K hK => ?_; simp; refine hK _ _ ?_; clear hK K
 refine Chain.sub (S' := mk 7 [] [(3, .b r1)] []) Sub.tt ?_
 refine Chain.nil ?_
 refine AW.ret ?_
 cases h
 exact FinC.ret (by simp) (by simp)

/-- (*stemma/locks.Manager).modeOf -/
def d17 (N : Nat) (a0 : S48) (a1 : S29) : Option Int :=
 (d37 N a0.granted (fun b0 => d38 N b0 a1)).bind fun r1 =>
 if r1 ≥ 0 then (
  (idx a0.granted r1).bind fun x3 =>
  some x3.Mode
 ) else
 some 0
set_option maxRecDepth 100000 in
set_option maxHeartbeats 4000000 in
theorem p17 (N : Nat) (a0 : S48) (a1 : S29) (r : Int) (h : d17 N a0 a1 = some r) : FunC Try.prog 17 [.d (.pim [.sl (a0.granted.map cS29), .sl (a0.queue.map cS29)]), .agg [.i a1.Tx, .d (.lit (.string a1.Table)), .d (.lit (.string a1.Key)), .i a1.Mode]] (.i r) := by
 unfold d17 at h
 refine FunC.enter 22 [(0, .d (.pim [.sl (a0.granted.map cS29), .sl (a0.queue.map cS29)])), (1, .agg [.i a1.Tx, .d (.lit (.string a1.Table)), .d (.lit (.string a1.Key)), .i a1.Mode])] (by simp) Try.func17 rfl (of_decide_eq_true rfl) rfl rfl ?_
 refine AW.seqR ?_
 refine Chain.runK [] 2 fun K hK => ?_; simp; refine hK _ _ ?_; clear hK K
 refine Chain.sub (S' := mk 22 [] [(0, .d (.pim [.sl (a0.granted.map cS29), .sl (a0.queue.map cS29)])), (3, .ptr 3 0 0)] [(3, some (.box [.i a1.Tx, .d (.lit (.string a1.Table)), .d (.lit (.string a1.Key)), .i a1.Mode]))]) Sub.tt ?_
 refine Chain.nil ?_
 refine AW.seq ?_
 refine AW.seqR ?_
 refine Chain.runK [] 5 fun K hK => ?_; simp; refine hK _ _ ?_; clear hK K
 refine Chain.sub (S' := mk 22 [] [(0, .d (.pim [.sl (a0.granted.map cS29), .sl (a0.queue.map cS29)])), (9, .d (.sl (a0.granted.map cS29))), (10, .fn (.func 38) [.ptr 3 0 0])] [(3, some (.box [.i a1.Tx, .d (.lit (.string a1.Table)), .d (.lit (.string a1.Key)), .i a1.Mode]))]) Sub.tt ?_
 replace h := bsome h; obtain ⟨r1, hr1, h⟩ := h
 refine Chain.callL (d := 11) (p37 N a0.granted 38 [.pim [.lit (.int .i64 a1.Tx), .lit (.string a1.Table), .lit (.string a1.Key), .lit (.int .i64 a1.Mode)]] (fun b0 => d38 N b0 a1) ent38 (fun b0 r h => p38 N b0 a1 r h) r1 hr1) (by simp) rfl rfl (by simp <;> rfl) (by simp <;> rfl) ent37 (by simp <;> rfl) ?_
 refine Chain.sub (S' := mk 22 [] [(0, .d (.pim [.sl (a0.granted.map cS29), .sl (a0.queue.map cS29)])), (9, .d (.sl (a0.granted.map cS29))), (10, .fn (.func 38) [.ptr 3 0 0]), (11, .i r1)] [(3, some (.box [.i a1.Tx, .d (.lit (.string a1.Table)), .d (.lit (.string a1.Key)), .i a1.Mode]))]) (by simp; exact Sub.table (by simp) (by simp)) ?_
 refine Chain.runK [] 1 fun K hK => ?_; simp; refine hK _ _ ?_; clear hK K
 refine Chain.sub (S' := mk 22 [] [(0, .d (.pim [.sl (a0.granted.map cS29), .sl (a0.queue.map cS29)])), (5, .i r1)] []) Sub.tt ?_
 refine Chain.nil ?_
 refine AW.seqR ?_
 refine Chain.runK [] 2 fun K hK => ?_; simp; refine hK _ _ ?_; clear hK K
 refine Chain.sub (S' := mk 22 [] [(0, .d (.pim [.sl (a0.granted.map cS29), .sl (a0.queue.map cS29)])), (5, .i r1), (13, .b (decide (r1 ≥ 0)))] []) Sub.tt ?_
 refine Chain.nil ?_
 replace h := isome h; rcases h with ⟨c2, h⟩ | ⟨c2, h⟩
 ·have c2_ : decide (r1 ≥ 0) = true := decide_eq_true c2
  refine AW.condT (b := decide (r1 ≥ 0)) rfl c2_ ?_
  refine AW.sub (Sub.bool 13 (b := decide (r1 ≥ 0)) rfl c2_) ?_
  refine AW.sub (S' := mk 22 [] [(0, .d (.pim [.sl (a0.granted.map cS29), .sl (a0.queue.map cS29)])), (5, .i r1), (13, .b true)] []) (by simp; exact Sub.table (by simp) (by simp)) ?_
  refine AW.seqR ?_
  replace h := bsome h; obtain ⟨x3, hx3, h⟩ := h
  obtain ⟨k4, hx3k, hx3, hx3a, hx3b⟩ := idx_some hx3
  refine Chain.runK [] 9 fun K hK => ?_; simp [hx3, hx3k, hx3a]; refine hK _ _ ?_; clear hK K
  refine Chain.sub (S' := mk 22 [] [(4, .i x3.Mode)] []) Sub.tt ?_
  refine Chain.nil ?_
  refine AW.ret ?_
  cases h
  refine thenQ_pass (by simp) ?_
  exact FinC.ret (by simp) (by simp)
 ·have c2_ : decide (r1 ≥ 0) = false := decide_eq_false c2
  refine AW.condF (b := decide (r1 ≥ 0)) rfl c2_ ?_
  refine AW.sub (Sub.bool 13 (b := decide (r1 ≥ 0)) rfl c2_) ?_
  refine AW.sub (S' := mk 22 [] [(0, .d (.pim [.sl (a0.granted.map cS29), .sl (a0.queue.map cS29)])), (5, .i r1), (13, .b false)] []) (by simp; exact Sub.table (by simp) (by simp)) ?_
  refine AW.skip ?_
  refine thenQ_normal ?_
  refine AW.seqR ?_
  refine Chain.runK [] 1 fun K hK => ?_; simp; refine hK _ _ ?_; clear hK K
  refine Chain.sub (S' := mk 22 [] [(4, .i 0)] []) Sub.tt ?_
  refine Chain.nil ?_
  refine AW.ret ?_
  cases h
  exact FinC.ret (by simp) (by simp)

/-- stemma/locks.covers -/
def d18 (_N : Nat) (a0 : Int) (a1 : Int) : Option Bool :=
 Option.bind (α := Bool) (
  if (a0 == a1) then (
   some true
  ) else
  if (a0 == 2) then (
   some true
  ) else
  some (a1 == 3)
 ) fun (v3 : Bool) =>
 some v3
set_option maxRecDepth 100000 in
set_option maxHeartbeats 4000000 in
theorem p18 (N : Nat) (a0 : Int) (a1 : Int) (r : Bool) (h : d18 N a0 a1 = some r) : FunC Try.prog 18 [.i a0, .i a1] (.b r) := by
 unfold d18 at h
 refine FunC.enter 16 [(0, .i a0), (1, .i a1)] (by simp) Try.func18 rfl (of_decide_eq_true rfl) rfl rfl ?_
 refine AW.seqR ?_
 refine Chain.runK [] 1 fun K hK => ?_; simp; refine hK _ _ ?_; clear hK K
 refine Chain.sub (S' := mk 16 [] [(0, .i a0), (1, .i a1)] []) Sub.tt ?_
 refine Chain.nil ?_
 replace h := bsome h; obtain ⟨v3, hj, h⟩ := h
 refine AW.cutR (mk 16 [] [(4, .b v3)] []) ?_ ?_
 ·clear h; have h := hj; clear hj
  refine Chain.runK [] 4 fun K hK => ?_; simp; refine hK _ _ ?_; clear hK K
  refine Chain.sub (S' := mk 16 [] [(0, .i a0), (1, .i a1), (8, .b (a0 == a1))] []) Sub.tt ?_
  replace h := isome h; rcases h with ⟨c4, h⟩ | ⟨c4, h⟩
  ·have c4_ : (a0 == a1) = true := c4
   refine Chain.sub (Sub.bool 8 (b := (a0 == a1)) rfl c4_) ?_
   refine Chain.sub (S' := mk 16 [] [(0, .i a0), (1, .i a1), (8, .b true)] []) (by simp; exact Sub.table (by simp) (by simp)) ?_
   refine Chain.runK [] 8 fun K hK => ?_; simp; refine hK _ _ ?_; clear hK K
   refine Chain.sub (S' := mk 16 [] [(4, .b true)] []) Sub.tt ?_
   cases h
   exact Chain.nil Sub.tt
  ·have c4_ : (a0 == a1) = false := Bool.eq_false_iff.2 c4
   refine Chain.sub (Sub.bool 8 (b := (a0 == a1)) rfl c4_) ?_
   refine Chain.sub (S' := mk 16 [] [(0, .i a0), (1, .i a1), (8, .b false)] []) (by simp; exact Sub.table (by simp) (by simp)) ?_
   refine Chain.runK [] 4 fun K hK => ?_; simp; refine hK _ _ ?_; clear hK K
   refine Chain.sub (S' := mk 16 [] [(1, .i a1), (12, .b (a0 == 2))] []) Sub.tt ?_
   replace h := isome h; rcases h with ⟨c5, h⟩ | ⟨c5, h⟩
   ·have c5_ : (a0 == 2) = true := c5
    refine Chain.sub (Sub.bool 12 (b := (a0 == 2)) rfl c5_) ?_
    refine Chain.sub (S' := mk 16 [] [(1, .i a1), (12, .b true)] []) (by simp; exact Sub.table (by simp) (by simp)) ?_
    refine Chain.runK [] 4 fun K hK => ?_; simp; refine hK _ _ ?_; clear hK K
    refine Chain.sub (S' := mk 16 [] [(4, .b true)] []) Sub.tt ?_
    cases h
    exact Chain.nil Sub.tt
   ·have c5_ : (a0 == 2) = false := Bool.eq_false_iff.2 c5
    refine Chain.sub (Sub.bool 12 (b := (a0 == 2)) rfl c5_) ?_
    refine Chain.sub (S' := mk 16 [] [(1, .i a1), (12, .b false)] []) (by simp; exact Sub.table (by simp) (by simp)) ?_
    refine Chain.runK [] 4 fun K hK => ?_; simp; refine hK _ _ ?_; clear hK K
    refine Chain.sub (S' := mk 16 [] [(4, .b (a1 == 3))] []) Sub.tt ?_
    cases h
    exact Chain.nil Sub.tt
 ·clear hj
  refine AW.ret ?_
  cases h
  exact FinC.ret (by simp) (by simp)

/-- stemma/locks.supremum -/
def d19 (N : Nat) (a0 : Int) (a1 : Int) : Option Int :=
 (d18 N a0 a1).bind fun r1 =>
 if r1 = true then (
  some a0
 ) else
 (d18 N a1 a0).bind fun r3 =>
 if r3 = true then (
  some a1
 ) else
 some 2
set_option maxRecDepth 100000 in
set_option maxHeartbeats 4000000 in
theorem p19 (N : Nat) (a0 : Int) (a1 : Int) (r : Int) (h : d19 N a0 a1 = some r) : FunC Try.prog 19 [.i a0, .i a1] (.i r) := by
 unfold d19 at h
 refine FunC.enter 15 [(0, .i a0), (1, .i a1)] (by simp) Try.func19 rfl (of_decide_eq_true rfl) rfl rfl ?_
 refine AW.seqR ?_
 refine Chain.runK [] 1 fun K hK => ?_; simp; refine hK _ _ ?_; clear hK K
 refine Chain.sub (S' := mk 15 [] [(0, .i a0), (1, .i a1)] []) Sub.tt ?_
 refine Chain.nil ?_
 refine AW.seq ?_
 refine AW.block ?_
 refine AW.seqR ?_
 refine Chain.runK [] 2 fun K hK => ?_; simp; refine hK _ _ ?_; clear hK K
 refine Chain.sub (S' := mk 15 [] [(0, .i a0), (1, .i a1), (6, .i a0), (7, .i a1)] []) Sub.tt ?_
 replace h := bsome h; obtain ⟨r1, hr1, h⟩ := h
 refine Chain.callL (d := 8) (p18 N a0 a1 r1 hr1) (by simp) rfl rfl (by simp <;> rfl) (by simp <;> rfl) ent18 (by simp <;> rfl) ?_
 refine Chain.sub (S' := mk 15 [] [(0, .i a0), (1, .i a1), (6, .i a0), (7, .i a1), (8, .b r1)] []) (by simp; exact Sub.table (by simp) (by simp)) ?_
 refine Chain.runK [] 1 fun K hK => ?_; simp; refine hK _ _ ?_; clear hK K
 refine Chain.sub (S' := mk 15 [] [(0, .i a0), (1, .i a1), (5, .b r1)] []) Sub.tt ?_
 refine Chain.nil ?_
 replace h := isome h; rcases h with ⟨c2, h⟩ | ⟨c2, h⟩
 ·have c2_ : r1 = true := c2
  refine AW.condT (b := r1) rfl c2_ ?_
  refine AW.sub (Sub.bool 5 (b := r1) rfl c2_) ?_
  refine AW.sub (S' := mk 15 [] [(0, .i a0), (1, .i a1), (5, .b true)] []) (by simp; exact Sub.table (by simp) (by simp)) ?_
  refine AW.seqR ?_
  refine Chain.runK [] 2 fun K hK => ?_; simp; refine hK _ _ ?_; clear hK K
  refine Chain.sub (S' := mk 15 [] [(4, .i a0)] []) Sub.tt ?_
  refine Chain.nil ?_
  refine AW.ret ?_
  cases h
  refine blockQ.ret ?_
  refine thenQ_pass (by simp) ?_
  exact FinC.ret (by simp) (by simp)
 ·have c2_ : r1 = false := Bool.eq_false_iff.2 c2
  refine AW.condF (b := r1) rfl c2_ ?_
  refine AW.sub (Sub.bool 5 (b := r1) rfl c2_) ?_
  refine AW.sub (S' := mk 15 [] [(0, .i a0), (1, .i a1), (5, .b false)] []) (by simp; exact Sub.table (by simp) (by simp)) ?_
  refine AW.seqR ?_
  refine Chain.runK [] 2 fun K hK => ?_; simp; refine hK _ _ ?_; clear hK K
  refine Chain.sub (S' := mk 15 [] [(1, .i a1), (11, .i a1), (12, .i a0)] []) Sub.tt ?_
  replace h := bsome h; obtain ⟨r3, hr3, h⟩ := h
  refine Chain.callL (d := 13) (p18 N a1 a0 r3 hr3) (by simp) rfl rfl (by simp <;> rfl) (by simp <;> rfl) ent18 (by simp <;> rfl) ?_
  refine Chain.sub (S' := mk 15 [] [(1, .i a1), (11, .i a1), (12, .i a0), (13, .b r3)] []) (by simp; exact Sub.table (by simp) (by simp)) ?_
  refine Chain.runK [] 1 fun K hK => ?_; simp; refine hK _ _ ?_; clear hK K
  refine Chain.sub (S' := mk 15 [] [(1, .i a1), (10, .b r3)] []) Sub.tt ?_
  refine Chain.nil ?_
  replace h := isome h; rcases h with ⟨c4, h⟩ | ⟨c4, h⟩
  ·have c4_ : r3 = true := c4
   refine AW.condT (b := r3) rfl c4_ ?_
   refine AW.sub (Sub.bool 10 (b := r3) rfl c4_) ?_
   refine AW.sub (S' := mk 15 [] [(1, .i a1), (10, .b true)] []) (by simp; exact Sub.table (by simp) (by simp)) ?_
   refine AW.seqR ?_
   refine Chain.runK [] 2 fun K hK => ?_; simp; refine hK _ _ ?_; clear hK K
   refine Chain.sub (S' := mk 15 [] [(4, .i a1)] []) Sub.tt ?_
   refine Chain.nil ?_
   refine AW.ret ?_
   cases h
   refine blockQ.ret ?_
   refine thenQ_pass (by simp) ?_
   exact FinC.ret (by simp) (by simp)
  ·have c4_ : r3 = false := Bool.eq_false_iff.2 c4
   refine AW.condF (b := r3) rfl c4_ ?_
   refine AW.sub (Sub.bool 10 (b := r3) rfl c4_) ?_
   refine AW.sub (S' := mk 15 [] [(1, .i a1), (10, .b false)] []) (by simp; exact Sub.table (by simp) (by simp)) ?_
   refine AW.skip ?_
   refine blockQ.normal ?_
   refine thenQ_normal ?_
   refine AW.seqR ?_
   refine Chain.runK [] 1 fun K hK => ?_; simp; refine hK _ _ ?_; clear hK K
   refine Chain.sub (S' := mk 15 [] [(4, .i 2)] []) Sub.tt ?_
   refine Chain.nil ?_
   refine AW.ret ?_
   cases h
   exact FinC.ret (by simp) (by simp)

/-- slices.Grow[[]stemma/locks.Lock,stemma/locks.Lock], of nil -/
theorem p52 (_ : Nat) (a1 : Int) {u : Unit} (h : growL 48 a1 = some u) : FunO Try.prog 52 [.d (.lit (.slice none 0 0)), .d (.lit (.int .i64 a1))] (.ref 0 0 ([] : (List S29)).length) (.arr 29 4 (([] : (List S29)).map cS29)) := by
 obtain ⟨k, rfl, hb⟩ := growL_some h
 refine FunO.enter 27 [(0, .d (.lit (.slice none 0 0))), (1, .i k)] Try.func52 rfl (of_decide_eq_true rfl) rfl rfl ?_
 refine AW.goR [] 1 fun K hK => ?_; simp; refine hK _ ?_; clear hK K
 refine AW.seq ?_
 refine AW.goR [] 2 fun K hK => ?_; simp; refine hK _ ?_; clear hK K
 have hkn : ¬ ((k : Int) < 0) := by omega
 refine AW.condK fun K1 K2 k1 k2 => ?_; simp [hkn]; refine k2 ?_; clear k1 k2 K1 K2
 refine AW.skip ?_
 refine thenQ_normal ?_
 refine AW.seq ?_
 refine AW.seqR ?_
 refine Chain.runK [] 2 fun K hK => ?_; simp; refine hK _ _ ?_; clear hK K
 refine Chain.pureP (by simp) (pure_capNil rfl rfl rfl ty46 rfl rfl) ?_
 have hw0 : IntKind.i64.wrap 0 = 0 := rfl
 have hw : IntKind.i64.wrap (k : Int) = k := wrap_ok ⟨by omega, by unfold Rp.reach at hb; omega⟩
 refine Chain.runK [] 5 fun K hK => ?_; simp [hw, hw0]; refine hK _ _ ?_; clear hK K
 refine Chain.nil ?_
 refine AW.goR [] 2 fun K hK => ?_; simp; refine hK _ ?_; clear hK K
 rcases Nat.eq_zero_or_pos k with hk | hk
 ·subst hk
  refine AW.condK fun K1 K2 k1 k2 => ?_; simp; refine k2 ?_; clear k1 k2 K1 K2
  refine AW.skip ?_
  refine thenQ_normal ?_
  refine AW.goR [] 2 fun K hK => ?_; simp; refine hK _ ?_; clear hK K
  refine AW.sub (Sub.nilOwn (t := 4) (id := 900) (T := 29) (n := 4) rfl rfl (by decide)) ?_
  refine AW.sub (S' := mk 27 [] [(4, .ref 900 0 0)] [(900, some (.arr 29 4 []))]) (by simp; exact Sub.table (by simp) (by simp)) ?_
  refine AW.ret ?_
  exact FinO.ret (.ref 900 0 0) 900 (by simp) (by simp) (by simp) (by simp) rfl
 ·have hk0 : ¬ k = 0 := by omega
  refine AW.condK fun K1 K2 k1 k2 => ?_; simp [hk]; refine k1 ?_; clear k1 k2 K1 K2
  refine AW.region ?_
  refine Chain.runK [] 2 fun K hK => ?_; simp; refine hK _ _ ?_; clear hK K
  refine Chain.pureP (by simp) (pure_capNil rfl rfl rfl ty46 rfl rfl) ?_
  refine Chain.pureP (by simp) (pure_sliceNil ty46 rfl ty29 rfl rfl) ?_
  refine Chain.runK [] 1 fun K hK => ?_; simp; refine hK _ _ ?_; clear hK K
  refine Chain.appMk (d := 22) (n := k) (te := ⟨_, 4, 48, _⟩) (by simp) rfl rfl rfl rfl ty46 rfl ty3 rfl ty29 rfl (by simp) rfl rfl hk (by decide) (by decide) rfl rfl hb ?_
  simp
  refine Chain.sub (S' := mk 27 [] [(0, .d (.lit (.slice none 0 0))), (22, .ref 22 0 k)] [(22, some (.arr 29 4 (List.replicate k [.lit (.int .i64 0), .lit (.string (ByteArray.mk #[])), .lit (.string (ByteArray.mk #[])), .lit (.int .i64 0)])))]) Sub.tt ?_
  refine Chain.runK [] 4 fun K hK => ?_; simp; refine hK _ _ ?_; clear hK K
  refine Chain.nil ?_
  refine thenQ_normal ?_
  refine AW.goR [] 2 fun K hK => ?_; simp; refine hK _ ?_; clear hK K
  refine AW.sub (Sub.cut 22 0 rfl) ?_
  refine AW.sub (S' := mk 27 [] [(4, .ref 22 0 0)] [(22, some (.arr 29 4 []))]) (by simp; exact Sub.table (by simp) (by simp)) ?_
  refine AW.ret ?_
  exact FinO.ret (.ref 22 0 0) 22 (by simp) (by simp) (by simp) (by simp) rfl

end Go.Proofs.Ytdiekinmoklonaa
