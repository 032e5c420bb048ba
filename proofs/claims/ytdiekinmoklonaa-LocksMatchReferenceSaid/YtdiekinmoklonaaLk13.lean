/- Functions of the program as functional programs; the code computes them. -/
import Derived.Test.YtdiekinmoklonaaLk12
namespace Go.Proofs.Ytdiekinmoklonaa
open Go.Ab Go.Rp
attribute [-simp] List.all_eq_true Array.all_toList Array.all_eq_true

/-- stemma/stemlaw5.sameLocks -/
def d13 (N : Nat) (a0 : S48) (a1 : S33) (a2 : Int) : Option (S48 × S33 × Bool) :=
 (d33 N a0 a2).bind fun r1 =>
 (d34 N a1.Queue (fun b0 => d35 N b0 a2)).bind fun r2 =>
 bindO (β := Unit) (ρ := (S48 × S33 × Bool)) (
  if r2 < 0 then (
   Option.bind (α := Bool) (
    if (r1.2.2 != 4) then (
     some true
    ) else
    some ((r1.2.1.length : Int) != 0)
   ) fun (v22 : Bool) =>
   if v22 = true then (
    some (.ret (r1.1, a1, false))
   ) else
   some (.go ())
  ) else
  Option.bind (α := Bool) (
   if (r1.2.2 != 0) then (
    some true
   ) else
   (idx a1.Queue r2).bind fun x32 =>
   (d27 N a1 x32 r2).bind fun r34 =>
   (d11 N r1.2.1 r34).bind fun r35 =>
   some (!r35)
  ) fun (v30 : Bool) =>
  if v30 = true then (
   some (.ret (r1.1, a1, false))
  ) else
  some (.go ())
 ) fun (_ : Unit) =>
 (d36 N r1.1).bind fun r37 =>
 if ((r37.length : Int) != (a1.Granted.length : Int)) then (
  some (r1.1, a1, false)
 ) else
 bindO (β := Unit) (ρ := (S48 × S33 × Bool)) (
  iterN (σ := Int) (ρ := (Out Unit (S48 × S33 × Bool))) (fun (v75 : Int) =>
   if v75 < (r37.length : Int) then (
    bindO (β := Unit) (ρ := (Int ⊕ (Out Unit (S48 × S33 × Bool)))) (
     (idx r37 v75).bind fun x172 =>
     (d25 N a1 x172.Tx x172.Table x172.Key).bind fun r174 =>
     if (r174 != x172.Mode) then (
      some (.ret (.inr (.ret (r1.1, a1, false))))
     ) else
     if (v75 == 0) then (
      some (.go ())
     ) else
     (chkI (v75 - 1)).bind fun v177 =>
     (idx r37 v177).bind fun x178 =>
     Option.bind (α := Bool) (
      if x178.Tx > x172.Tx then (
       some true
      ) else
      if (x178.Tx == x172.Tx) then (
       if (!Op.bytesLess x178.Table.toList x172.Table.toList && !decide (x178.Table = x172.Table)) = true then (
        some true
       ) else
       if decide (x178.Table = x172.Table) = true then (
        some (!Op.bytesLess x178.Key.toList x172.Key.toList)
       ) else
       some false
      ) else
      some false
     ) fun (v184 : Bool) =>
     if v184 = true then (
      some (.ret (.inr (.ret (r1.1, a1, false))))
     ) else
     some (.go ())
    ) fun (_ : Unit) =>
    (chkI (v75 + 1)).bind fun v190 =>
    some (.inl v190)
   ) else
   some (.inr (.go ()))
  ) N 0
 ) fun (_ : Unit) =>
 some (r1.1, a1, true)
set_option maxRecDepth 100000 in
set_option maxHeartbeats 4000000 in
theorem p13 (N : Nat) (a0 : S48) (a1 : S33) (a2 : Int) (r : (S48 × S33 × Bool)) (h : d13 N a0 a1 a2 = some r) : FunM Try.prog 13 [.ptr 1000 0 0, .ptr 2000 0 0, .i a2] [(1000, some (.box [.ref 25000 0 a0.granted.length, .ref 25001 0 a0.queue.length])), (2000, some (.box [.ref 45000 0 a1.Granted.length, .ref 45001 0 a1.Queue.length])), (25000, R29 a0.granted), (25001, R29 a0.queue), (45000, R37 a1.Granted), (45001, R37 a1.Queue)] [1000, 2000] (.b r.2.2) ([(1000, (.box [.ref 25000 0 r.1.granted.length, .ref 25001 0 r.1.queue.length])), (25000, (.arr 29 4 (r.1.granted.map cS29))), (25001, (.arr 29 4 (r.1.queue.map cS29))), (2000, (.box [.ref 45000 0 r.2.1.Granted.length, .ref 45001 0 r.2.1.Queue.length])), (45000, (.arr 37 4 (r.2.1.Granted.map cS29))), (45001, (.arr 37 4 (r.2.1.Queue.map cS29)))]) := by
 unfold d13 at h
 refine FunM.enter 121 [(0, .ptr 1000 0 0), (1, .ptr 2000 0 0), (2, .i a2)] Try.func13 rfl (of_decide_eq_true rfl) rfl rfl ?_
 refine AW.seqR ?_
 refine Chain.runK [] 2 fun K hK => ?_; simp; refine hK _ _ ?_; clear hK K
 refine Chain.sub (S' := mk 121 [1000, 2000] [(0, .ptr 1000 0 0), (1, .ptr 2000 0 0), (5, .ptr 5 0 0)] [(5, some (.box [.i a2])), (1000, some (.box [.ref 25000 0 a0.granted.length, .ref 25001 0 a0.queue.length])), (2000, some (.box [.ref 45000 0 a1.Granted.length, .ref 45001 0 a1.Queue.length])), (25000, R29 a0.granted), (25001, R29 a0.queue), (45000, R37 a1.Granted), (45001, R37 a1.Queue)]) Sub.tt ?_
 refine Chain.nil ?_
 refine AW.seqR ?_
 refine Chain.runK [] 2 fun K hK => ?_; simp; refine hK _ _ ?_; clear hK K
 refine Chain.sub (S' := mk 121 [1000, 2000] [(0, .ptr 1000 0 0), (1, .ptr 2000 0 0), (5, .ptr 5 0 0), (15, .ptr 1000 0 0), (16, .i a2)] [(5, some (.box [.i a2])), (1000, some (.box [.ref 25000 0 a0.granted.length, .ref 25001 0 a0.queue.length])), (2000, some (.box [.ref 45000 0 a1.Granted.length, .ref 45001 0 a1.Queue.length])), (25000, R29 a0.granted), (25001, R29 a0.queue), (45000, R37 a1.Granted), (45001, R37 a1.Queue)]) Sub.tt ?_
 replace h := bsome h; obtain ⟨r1, hr1, h⟩ := h
 refine Chain.callF (p33 N a0 a2 r1 hr1) [(1000, 1000), (25000, 25000), (25001, 25001)] [1000] [(1000, 1000), (25000, 25000), (25001, 25001)] [(1000, (.box [.ref 25000 0 r1.1.granted.length, .ref 25001 0 r1.1.queue.length])), (25000, (.arr 29 4 (r1.1.granted.map cS29))), (25001, (.arr 29 4 (r1.1.queue.map cS29)))] (.tup [.d (.sl (r1.2.1.map (cI .i64))), .d (.lit (.int .i64 r1.2.2))]) (by simp) rfl (by simp <;> rfl) (by simp) (by simp) (by simp) (by simp) (by simp) ent33 (by simp) (by simp) (by simp) (by simp) (by simp) (by simp) ?_
 refine Chain.sub (S' := mk 121 [1000, 2000] [(0, .ptr 1000 0 0), (1, .ptr 2000 0 0), (5, .ptr 5 0 0), (15, .ptr 1000 0 0), (16, .i a2), (17, .tup [.d (.sl (r1.2.1.map (cI .i64))), .i r1.2.2])] [(5, some (.box [.i a2])), (1000, some (.box [.ref 25000 0 r1.1.granted.length, .ref 25001 0 r1.1.queue.length])), (2000, some (.box [.ref 45000 0 a1.Granted.length, .ref 45001 0 a1.Queue.length])), (25000, R29 r1.1.granted), (25001, R29 r1.1.queue), (45000, R37 a1.Granted), (45001, R37 a1.Queue)]) (by simp; exact Sub.table (by simp) (by simp)) ?_
 refine Chain.runK [] 5 fun K hK => ?_; simp; refine hK _ _ ?_; clear hK K
 refine Chain.sub (S' := mk 121 [1000, 2000] [(0, .ptr 1000 0 0), (1, .ptr 2000 0 0), (5, .ptr 5 0 0), (7, .d (.sl (r1.2.1.map (cI .i64)))), (8, .i r1.2.2)] [(5, some (.box [.i a2])), (1000, some (.box [.ref 25000 0 r1.1.granted.length, .ref 25001 0 r1.1.queue.length])), (2000, some (.box [.ref 45000 0 a1.Granted.length, .ref 45001 0 a1.Queue.length])), (25000, R29 r1.1.granted), (25001, R29 r1.1.queue), (45000, R37 a1.Granted), (45001, R37 a1.Queue)]) Sub.tt ?_
 refine Chain.nil ?_
 refine AW.seqR ?_
 refine Chain.runK [] 5 fun K hK => ?_; simp; refine hK _ _ ?_; clear hK K
 refine Chain.sub (S' := mk 121 [1000, 2000] [(0, .ptr 1000 0 0), (1, .ptr 2000 0 0), (7, .d (.sl (r1.2.1.map (cI .i64)))), (8, .i r1.2.2), (23, .ref 45001 0 a1.Queue.length), (24, .fn (.func 35) [.ptr 5 0 0])] [(5, some (.box [.i a2])), (1000, some (.box [.ref 25000 0 r1.1.granted.length, .ref 25001 0 r1.1.queue.length])), (2000, some (.box [.ref 45000 0 a1.Granted.length, .ref 45001 0 a1.Queue.length])), (25000, R29 r1.1.granted), (25001, R29 r1.1.queue), (45000, R37 a1.Granted), (45001, R37 a1.Queue)]) Sub.tt ?_
 replace h := bsome h; obtain ⟨r2, hr2, h⟩ := h
 refine Chain.callL (d := 25) (p34 N a1.Queue 35 [.pim [.lit (.int .i64 a2)]] (fun b0 => d35 N b0 a2) ent35 (fun b0 r h => p35 N b0 a2 r h) r2 hr2) (by simp) rfl rfl (by simp <;> rfl) (by simp <;> rfl) ent34 (by simp <;> rfl) ?_
 refine Chain.sub (S' := mk 121 [1000, 2000] [(0, .ptr 1000 0 0), (1, .ptr 2000 0 0), (7, .d (.sl (r1.2.1.map (cI .i64)))), (8, .i r1.2.2), (23, .ref 45001 0 a1.Queue.length), (24, .fn (.func 35) [.ptr 5 0 0]), (25, .i r2)] [(5, some (.box [.i a2])), (1000, some (.box [.ref 25000 0 r1.1.granted.length, .ref 25001 0 r1.1.queue.length])), (2000, some (.box [.ref 45000 0 a1.Granted.length, .ref 45001 0 a1.Queue.length])), (25000, R29 r1.1.granted), (25001, R29 r1.1.queue), (45000, R37 a1.Granted), (45001, R37 a1.Queue)]) (by simp; exact Sub.table (by simp) (by simp)) ?_
 refine Chain.runK [] 1 fun K hK => ?_; simp; refine hK _ _ ?_; clear hK K
 refine Chain.sub (S' := mk 121 [1000, 2000] [(0, .ptr 1000 0 0), (1, .ptr 2000 0 0), (7, .d (.sl (r1.2.1.map (cI .i64)))), (8, .i r1.2.2), (9, .i r2)] [(1000, some (.box [.ref 25000 0 r1.1.granted.length, .ref 25001 0 r1.1.queue.length])), (2000, some (.box [.ref 45000 0 a1.Granted.length, .ref 45001 0 a1.Queue.length])), (25000, R29 r1.1.granted), (25001, R29 r1.1.queue), (45000, R37 a1.Granted), (45001, R37 a1.Queue)]) Sub.tt ?_
 refine Chain.nil ?_
 refine AW.seq ?_
 refine AW.seqR ?_
 refine Chain.runK [] 2 fun K hK => ?_; simp; refine hK _ _ ?_; clear hK K
 refine Chain.sub (S' := mk 121 [1000, 2000] [(0, .ptr 1000 0 0), (1, .ptr 2000 0 0), (7, .d (.sl (r1.2.1.map (cI .i64)))), (8, .i r1.2.2), (9, .i r2), (27, .b (decide (r2 < 0)))] [(1000, some (.box [.ref 25000 0 r1.1.granted.length, .ref 25001 0 r1.1.queue.length])), (2000, some (.box [.ref 45000 0 a1.Granted.length, .ref 45001 0 a1.Queue.length])), (25000, R29 r1.1.granted), (25001, R29 r1.1.queue), (45000, R37 a1.Granted), (45001, R37 a1.Queue)]) Sub.tt ?_
 refine Chain.nil ?_
 refine AW.lastJ (fun (_ : Unit) => mk 121 [1000, 2000] [(0, .ptr 1000 0 0), (1, .ptr 2000 0 0)] [(1000, some (.box [.ref 25000 0 r1.1.granted.length, .ref 25001 0 r1.1.queue.length])), (2000, some (.box [.ref 45000 0 a1.Granted.length, .ref 45001 0 a1.Queue.length])), (25000, R29 r1.1.granted), (25001, R29 r1.1.queue), (45000, R37 a1.Granted), (45001, R37 a1.Queue)]) h ?_ ?_ <;> clear h
 ·intro o h
  replace h := isome h; rcases h with ⟨c20, h⟩ | ⟨c20, h⟩
  ·have c20_ : decide (r2 < 0) = true := decide_eq_true c20
   refine AW.condT (b := decide (r2 < 0)) rfl c20_ ?_
   refine AW.sub (Sub.bool 27 (b := decide (r2 < 0)) rfl c20_) ?_
   refine AW.sub (S' := mk 121 [1000, 2000] [(0, .ptr 1000 0 0), (1, .ptr 2000 0 0), (7, .d (.sl (r1.2.1.map (cI .i64)))), (8, .i r1.2.2), (9, .i r2), (27, .b true)] [(1000, some (.box [.ref 25000 0 r1.1.granted.length, .ref 25001 0 r1.1.queue.length])), (2000, some (.box [.ref 45000 0 a1.Granted.length, .ref 45001 0 a1.Queue.length])), (25000, R29 r1.1.granted), (25001, R29 r1.1.queue), (45000, R37 a1.Granted), (45001, R37 a1.Queue)]) (by simp; exact Sub.table (by simp) (by simp)) ?_
   replace h := bsome h; obtain ⟨v22, hj, h⟩ := h
   refine AW.cutR (mk 121 [1000, 2000] [(0, .ptr 1000 0 0), (1, .ptr 2000 0 0), (34, .b v22)] [(1000, some (.box [.ref 25000 0 r1.1.granted.length, .ref 25001 0 r1.1.queue.length])), (2000, some (.box [.ref 45000 0 a1.Granted.length, .ref 45001 0 a1.Queue.length])), (25000, R29 r1.1.granted), (25001, R29 r1.1.queue), (45000, R37 a1.Granted), (45001, R37 a1.Queue)]) ?_ ?_
   ·clear h; have h := hj; clear hj
    refine Chain.runK [] 3 fun K hK => ?_; simp; refine hK _ _ ?_; clear hK K
    refine Chain.sub (S' := mk 121 [1000, 2000] [(0, .ptr 1000 0 0), (1, .ptr 2000 0 0), (7, .d (.sl (r1.2.1.map (cI .i64)))), (30, .b (r1.2.2 != 4))] [(1000, some (.box [.ref 25000 0 r1.1.granted.length, .ref 25001 0 r1.1.queue.length])), (2000, some (.box [.ref 45000 0 a1.Granted.length, .ref 45001 0 a1.Queue.length])), (25000, R29 r1.1.granted), (25001, R29 r1.1.queue), (45000, R37 a1.Granted), (45001, R37 a1.Queue)]) Sub.tt ?_
    replace h := isome h; rcases h with ⟨c23, h⟩ | ⟨c23, h⟩
    ·have c23_ : (r1.2.2 != 4) = true := c23
     refine Chain.sub (Sub.bool 30 (b := (r1.2.2 != 4)) rfl c23_) ?_
     refine Chain.sub (S' := mk 121 [1000, 2000] [(0, .ptr 1000 0 0), (1, .ptr 2000 0 0), (7, .d (.sl (r1.2.1.map (cI .i64)))), (30, .b true)] [(1000, some (.box [.ref 25000 0 r1.1.granted.length, .ref 25001 0 r1.1.queue.length])), (2000, some (.box [.ref 45000 0 a1.Granted.length, .ref 45001 0 a1.Queue.length])), (25000, R29 r1.1.granted), (25001, R29 r1.1.queue), (45000, R37 a1.Granted), (45001, R37 a1.Queue)]) (by simp; exact Sub.table (by simp) (by simp)) ?_
     refine Chain.runK [] 4 fun K hK => ?_; simp; refine hK _ _ ?_; clear hK K
     refine Chain.sub (S' := mk 121 [1000, 2000] [(0, .ptr 1000 0 0), (1, .ptr 2000 0 0), (34, .b true)] [(1000, some (.box [.ref 25000 0 r1.1.granted.length, .ref 25001 0 r1.1.queue.length])), (2000, some (.box [.ref 45000 0 a1.Granted.length, .ref 45001 0 a1.Queue.length])), (25000, R29 r1.1.granted), (25001, R29 r1.1.queue), (45000, R37 a1.Granted), (45001, R37 a1.Queue)]) Sub.tt ?_
     cases h
     exact Chain.nil Sub.tt
    ·have c23_ : (r1.2.2 != 4) = false := Bool.eq_false_iff.2 c23
     refine Chain.sub (Sub.bool 30 (b := (r1.2.2 != 4)) rfl c23_) ?_
     refine Chain.sub (S' := mk 121 [1000, 2000] [(0, .ptr 1000 0 0), (1, .ptr 2000 0 0), (7, .d (.sl (r1.2.1.map (cI .i64)))), (30, .b false)] [(1000, some (.box [.ref 25000 0 r1.1.granted.length, .ref 25001 0 r1.1.queue.length])), (2000, some (.box [.ref 45000 0 a1.Granted.length, .ref 45001 0 a1.Queue.length])), (25000, R29 r1.1.granted), (25001, R29 r1.1.queue), (45000, R37 a1.Granted), (45001, R37 a1.Queue)]) (by simp; exact Sub.table (by simp) (by simp)) ?_
     refine Chain.runK [] 4 fun K hK => ?_; simp; refine hK _ _ ?_; clear hK K
     refine Chain.sub (S' := mk 121 [1000, 2000] [(0, .ptr 1000 0 0), (1, .ptr 2000 0 0), (34, .b ((r1.2.1.length : Int) != 0))] [(1000, some (.box [.ref 25000 0 r1.1.granted.length, .ref 25001 0 r1.1.queue.length])), (2000, some (.box [.ref 45000 0 a1.Granted.length, .ref 45001 0 a1.Queue.length])), (25000, R29 r1.1.granted), (25001, R29 r1.1.queue), (45000, R37 a1.Granted), (45001, R37 a1.Queue)]) Sub.tt ?_
     cases h
     exact Chain.nil Sub.tt
   ·clear hj
    replace h := isome h; rcases h with ⟨c24, h⟩ | ⟨c24, h⟩
    ·have c24_ : v22 = true := c24
     refine AW.condT (b := v22) rfl c24_ ?_
     refine AW.sub (Sub.bool 34 (b := v22) rfl c24_) ?_
     refine AW.sub (S' := mk 121 [1000, 2000] [(0, .ptr 1000 0 0), (1, .ptr 2000 0 0), (34, .b true)] [(1000, some (.box [.ref 25000 0 r1.1.granted.length, .ref 25001 0 r1.1.queue.length])), (2000, some (.box [.ref 45000 0 a1.Granted.length, .ref 45001 0 a1.Queue.length])), (25000, R29 r1.1.granted), (25001, R29 r1.1.queue), (45000, R37 a1.Granted), (45001, R37 a1.Queue)]) (by simp; exact Sub.table (by simp) (by simp)) ?_
     refine AW.seqR ?_
     refine Chain.runK [] 1 fun K hK => ?_; simp; refine hK _ _ ?_; clear hK K
     refine Chain.sub (S' := mk 121 [1000, 2000] [(6, .b false)] [(1000, some (.box [.ref 25000 0 r1.1.granted.length, .ref 25001 0 r1.1.queue.length])), (2000, some (.box [.ref 45000 0 a1.Granted.length, .ref 45001 0 a1.Queue.length])), (25000, R29 r1.1.granted), (25001, R29 r1.1.queue), (45000, R37 a1.Granted), (45001, R37 a1.Queue)]) Sub.tt ?_
     refine Chain.nil ?_
     refine AW.ret ?_
     cases h
     refine PostJ.out (by simp) ?_
     rintro rfl
     refine thenQ_pass (by simp) ?_
     exact FinF.ret (by simp) (by simp)
    ·have c24_ : v22 = false := Bool.eq_false_iff.2 c24
     refine AW.condF (b := v22) rfl c24_ ?_
     refine AW.sub (Sub.bool 34 (b := v22) rfl c24_) ?_
     refine AW.sub (S' := mk 121 [1000, 2000] [(0, .ptr 1000 0 0), (1, .ptr 2000 0 0), (34, .b false)] [(1000, some (.box [.ref 25000 0 r1.1.granted.length, .ref 25001 0 r1.1.queue.length])), (2000, some (.box [.ref 45000 0 a1.Granted.length, .ref 45001 0 a1.Queue.length])), (25000, R29 r1.1.granted), (25001, R29 r1.1.queue), (45000, R37 a1.Granted), (45001, R37 a1.Queue)]) (by simp; exact Sub.table (by simp) (by simp)) ?_
     refine AW.skip ?_
     cases h
     refine PostJ.next ?_
     exact Sub.tt
  ·have c20_ : decide (r2 < 0) = false := decide_eq_false c20
   refine AW.condF (b := decide (r2 < 0)) rfl c20_ ?_
   refine AW.sub (Sub.bool 27 (b := decide (r2 < 0)) rfl c20_) ?_
   refine AW.sub (S' := mk 121 [1000, 2000] [(0, .ptr 1000 0 0), (1, .ptr 2000 0 0), (7, .d (.sl (r1.2.1.map (cI .i64)))), (8, .i r1.2.2), (9, .i r2), (27, .b false)] [(1000, some (.box [.ref 25000 0 r1.1.granted.length, .ref 25001 0 r1.1.queue.length])), (2000, some (.box [.ref 45000 0 a1.Granted.length, .ref 45001 0 a1.Queue.length])), (25000, R29 r1.1.granted), (25001, R29 r1.1.queue), (45000, R37 a1.Granted), (45001, R37 a1.Queue)]) (by simp; exact Sub.table (by simp) (by simp)) ?_
   replace h := bsome h; obtain ⟨v30, hj, h⟩ := h
   refine AW.cutR (mk 121 [1000, 2000] [(0, .ptr 1000 0 0), (1, .ptr 2000 0 0), (51, .b v30)] [(1000, some (.box [.ref 25000 0 r1.1.granted.length, .ref 25001 0 r1.1.queue.length])), (2000, some (.box [.ref 45000 0 a1.Granted.length, .ref 45001 0 a1.Queue.length])), (25000, R29 r1.1.granted), (25001, R29 r1.1.queue), (45000, R37 a1.Granted), (45001, R37 a1.Queue)]) ?_ ?_
   ·clear h; have h := hj; clear hj
    refine Chain.runK [] 3 fun K hK => ?_; simp; refine hK _ _ ?_; clear hK K
    refine Chain.sub (S' := mk 121 [1000, 2000] [(0, .ptr 1000 0 0), (1, .ptr 2000 0 0), (7, .d (.sl (r1.2.1.map (cI .i64)))), (9, .i r2), (37, .b (r1.2.2 != 0))] [(1000, some (.box [.ref 25000 0 r1.1.granted.length, .ref 25001 0 r1.1.queue.length])), (2000, some (.box [.ref 45000 0 a1.Granted.length, .ref 45001 0 a1.Queue.length])), (25000, R29 r1.1.granted), (25001, R29 r1.1.queue), (45000, R37 a1.Granted), (45001, R37 a1.Queue)]) Sub.tt ?_
    replace h := isome h; rcases h with ⟨c31, h⟩ | ⟨c31, h⟩
    ·have c31_ : (r1.2.2 != 0) = true := c31
     refine Chain.sub (Sub.bool 37 (b := (r1.2.2 != 0)) rfl c31_) ?_
     refine Chain.sub (S' := mk 121 [1000, 2000] [(0, .ptr 1000 0 0), (1, .ptr 2000 0 0), (7, .d (.sl (r1.2.1.map (cI .i64)))), (9, .i r2), (37, .b true)] [(1000, some (.box [.ref 25000 0 r1.1.granted.length, .ref 25001 0 r1.1.queue.length])), (2000, some (.box [.ref 45000 0 a1.Granted.length, .ref 45001 0 a1.Queue.length])), (25000, R29 r1.1.granted), (25001, R29 r1.1.queue), (45000, R37 a1.Granted), (45001, R37 a1.Queue)]) (by simp; exact Sub.table (by simp) (by simp)) ?_
     refine Chain.runK [] 14 fun K hK => ?_; simp; refine hK _ _ ?_; clear hK K
     refine Chain.sub (S' := mk 121 [1000, 2000] [(0, .ptr 1000 0 0), (1, .ptr 2000 0 0), (51, .b true)] [(1000, some (.box [.ref 25000 0 r1.1.granted.length, .ref 25001 0 r1.1.queue.length])), (2000, some (.box [.ref 45000 0 a1.Granted.length, .ref 45001 0 a1.Queue.length])), (25000, R29 r1.1.granted), (25001, R29 r1.1.queue), (45000, R37 a1.Granted), (45001, R37 a1.Queue)]) Sub.tt ?_
     cases h
     exact Chain.nil Sub.tt
    ·have c31_ : (r1.2.2 != 0) = false := Bool.eq_false_iff.2 c31
     refine Chain.sub (Sub.bool 37 (b := (r1.2.2 != 0)) rfl c31_) ?_
     refine Chain.sub (S' := mk 121 [1000, 2000] [(0, .ptr 1000 0 0), (1, .ptr 2000 0 0), (7, .d (.sl (r1.2.1.map (cI .i64)))), (9, .i r2), (37, .b false)] [(1000, some (.box [.ref 25000 0 r1.1.granted.length, .ref 25001 0 r1.1.queue.length])), (2000, some (.box [.ref 45000 0 a1.Granted.length, .ref 45001 0 a1.Queue.length])), (25000, R29 r1.1.granted), (25001, R29 r1.1.queue), (45000, R37 a1.Granted), (45001, R37 a1.Queue)]) (by simp; exact Sub.table (by simp) (by simp)) ?_
     replace h := bsome h; obtain ⟨x32, hx32, h⟩ := h
     obtain ⟨k33, hx32k, hx32, hx32a, hx32b⟩ := idx_some hx32
     refine Chain.runK [] 10 fun K hK => ?_; simp [hx32, hx32k, hx32a, hx32b]; refine hK _ _ ?_; clear hK K
     refine Chain.sub (S' := mk 121 [1000, 2000] [(0, .ptr 1000 0 0), (1, .ptr 2000 0 0), (37, .b false), (38, .d (.sl (r1.2.1.map (cI .i64)))), (39, .ptr 2000 0 0), (46, .agg [.i x32.Tx, .d (.lit (.string x32.Table)), .d (.lit (.string x32.Key)), .i x32.Mode]), (47, .i r2)] [(1000, some (.box [.ref 25000 0 r1.1.granted.length, .ref 25001 0 r1.1.queue.length])), (2000, some (.box [.ref 45000 0 a1.Granted.length, .ref 45001 0 a1.Queue.length])), (25000, R29 r1.1.granted), (25001, R29 r1.1.queue), (45000, R37 a1.Granted), (45001, R37 a1.Queue)]) Sub.tt ?_
     replace h := bsome h; obtain ⟨r34, hr34, h⟩ := h
     refine Chain.callOF (d := 48) (p27 N a1 x32 r2 r34 hr34) (by simp) rfl rfl (by simp <;> rfl) (by simp <;> rfl) ent27 (by simp) (fun r h => flat_of_ren r h) (flat_map (by simp [cI]) _) ?_
     refine Chain.sub (S' := mk 121 [1000, 2000] [(0, .ptr 1000 0 0), (1, .ptr 2000 0 0), (37, .b false), (38, .d (.sl (r1.2.1.map (cI .i64)))), (39, .ptr 2000 0 0), (46, .agg [.i x32.Tx, .d (.lit (.string x32.Table)), .d (.lit (.string x32.Key)), .i x32.Mode]), (47, .i r2), (48, .ref 48 0 r34.length)] [(48, R3 r34), (1000, some (.box [.ref 25000 0 r1.1.granted.length, .ref 25001 0 r1.1.queue.length])), (2000, some (.box [.ref 45000 0 a1.Granted.length, .ref 45001 0 a1.Queue.length])), (25000, R29 r1.1.granted), (25001, R29 r1.1.queue), (45000, R37 a1.Granted), (45001, R37 a1.Queue)]) (by simp; exact Sub.table (by simp) (by simp)) ?_
     replace h := bsome h; obtain ⟨r35, hr35, h⟩ := h
     refine Chain.callL (d := 49) (p11 N r1.2.1 r34 r35 hr35) (by simp) rfl rfl (by simp <;> rfl) (by simp <;> rfl) ent11 (by simp <;> rfl) ?_
     refine Chain.sub (S' := mk 121 [1000, 2000] [(0, .ptr 1000 0 0), (1, .ptr 2000 0 0), (37, .b false), (38, .d (.sl (r1.2.1.map (cI .i64)))), (39, .ptr 2000 0 0), (46, .agg [.i x32.Tx, .d (.lit (.string x32.Table)), .d (.lit (.string x32.Key)), .i x32.Mode]), (47, .i r2), (48, .ref 48 0 r34.length), (49, .b r35)] [(48, R3 r34), (1000, some (.box [.ref 25000 0 r1.1.granted.length, .ref 25001 0 r1.1.queue.length])), (2000, some (.box [.ref 45000 0 a1.Granted.length, .ref 45001 0 a1.Queue.length])), (25000, R29 r1.1.granted), (25001, R29 r1.1.queue), (45000, R37 a1.Granted), (45001, R37 a1.Queue)]) (by simp; exact Sub.table (by simp) (by simp)) ?_
     refine Chain.runK [] 2 fun K hK => ?_; simp; refine hK _ _ ?_; clear hK K
     refine Chain.sub (S' := mk 121 [1000, 2000] [(0, .ptr 1000 0 0), (1, .ptr 2000 0 0), (51, .b (!r35))] [(1000, some (.box [.ref 25000 0 r1.1.granted.length, .ref 25001 0 r1.1.queue.length])), (2000, some (.box [.ref 45000 0 a1.Granted.length, .ref 45001 0 a1.Queue.length])), (25000, R29 r1.1.granted), (25001, R29 r1.1.queue), (45000, R37 a1.Granted), (45001, R37 a1.Queue)]) Sub.tt ?_
     cases h
     exact Chain.nil Sub.tt
   ·clear hj
    replace h := isome h; rcases h with ⟨c36, h⟩ | ⟨c36, h⟩
    ·have c36_ : v30 = true := c36
     refine AW.condT (b := v30) rfl c36_ ?_
     refine AW.sub (Sub.bool 51 (b := v30) rfl c36_) ?_
     refine AW.sub (S' := mk 121 [1000, 2000] [(0, .ptr 1000 0 0), (1, .ptr 2000 0 0), (51, .b true)] [(1000, some (.box [.ref 25000 0 r1.1.granted.length, .ref 25001 0 r1.1.queue.length])), (2000, some (.box [.ref 45000 0 a1.Granted.length, .ref 45001 0 a1.Queue.length])), (25000, R29 r1.1.granted), (25001, R29 r1.1.queue), (45000, R37 a1.Granted), (45001, R37 a1.Queue)]) (by simp; exact Sub.table (by simp) (by simp)) ?_
     refine AW.seqR ?_
     refine Chain.runK [] 1 fun K hK => ?_; simp; refine hK _ _ ?_; clear hK K
     refine Chain.sub (S' := mk 121 [1000, 2000] [(6, .b false)] [(1000, some (.box [.ref 25000 0 r1.1.granted.length, .ref 25001 0 r1.1.queue.length])), (2000, some (.box [.ref 45000 0 a1.Granted.length, .ref 45001 0 a1.Queue.length])), (25000, R29 r1.1.granted), (25001, R29 r1.1.queue), (45000, R37 a1.Granted), (45001, R37 a1.Queue)]) Sub.tt ?_
     refine Chain.nil ?_
     refine AW.ret ?_
     cases h
     refine PostJ.out (by simp) ?_
     rintro rfl
     refine thenQ_pass (by simp) ?_
     exact FinF.ret (by simp) (by simp)
    ·have c36_ : v30 = false := Bool.eq_false_iff.2 c36
     refine AW.condF (b := v30) rfl c36_ ?_
     refine AW.sub (Sub.bool 51 (b := v30) rfl c36_) ?_
     refine AW.sub (S' := mk 121 [1000, 2000] [(0, .ptr 1000 0 0), (1, .ptr 2000 0 0), (51, .b false)] [(1000, some (.box [.ref 25000 0 r1.1.granted.length, .ref 25001 0 r1.1.queue.length])), (2000, some (.box [.ref 45000 0 a1.Granted.length, .ref 45001 0 a1.Queue.length])), (25000, R29 r1.1.granted), (25001, R29 r1.1.queue), (45000, R37 a1.Granted), (45001, R37 a1.Queue)]) (by simp; exact Sub.table (by simp) (by simp)) ?_
     refine AW.skip ?_
     cases h
     refine PostJ.next ?_
     exact Sub.tt
 ·rintro ⟨⟩ h
  refine thenQ_normal ?_
  refine AW.seqR ?_
  refine Chain.runK [] 1 fun K hK => ?_; simp; refine hK _ _ ?_; clear hK K
  refine Chain.sub (S' := mk 121 [1000, 2000] [(1, .ptr 2000 0 0), (52, .ptr 1000 0 0)] [(1000, some (.box [.ref 25000 0 r1.1.granted.length, .ref 25001 0 r1.1.queue.length])), (2000, some (.box [.ref 45000 0 a1.Granted.length, .ref 45001 0 a1.Queue.length])), (25000, R29 r1.1.granted), (25001, R29 r1.1.queue), (45000, R37 a1.Granted), (45001, R37 a1.Queue)]) Sub.tt ?_
  replace h := bsome h; obtain ⟨r37, hr37, h⟩ := h
  refine Chain.callOF (d := 53) (p36 N r1.1 r37 hr37) (by simp) rfl rfl (by simp <;> rfl) (by simp <;> rfl) ent36 (by simp) (fun r h => flat_of_ren r h) (flat_map (by simp) _) ?_
  refine Chain.sub (S' := mk 121 [1000, 2000] [(1, .ptr 2000 0 0), (52, .ptr 1000 0 0), (53, .ref 53 0 r37.length)] [(53, R29 r37), (1000, some (.box [.ref 25000 0 r1.1.granted.length, .ref 25001 0 r1.1.queue.length])), (2000, some (.box [.ref 45000 0 a1.Granted.length, .ref 45001 0 a1.Queue.length])), (25000, R29 r1.1.granted), (25001, R29 r1.1.queue), (45000, R37 a1.Granted), (45001, R37 a1.Queue)]) (by simp; exact Sub.table (by simp) (by simp)) ?_
  refine Chain.runK [] 1 fun K hK => ?_; simp; refine hK _ _ ?_; clear hK K
  refine Chain.sub (S' := mk 121 [1000, 2000] [(1, .ptr 2000 0 0), (10, .ref 53 0 r37.length)] [(53, R29 r37), (1000, some (.box [.ref 25000 0 r1.1.granted.length, .ref 25001 0 r1.1.queue.length])), (2000, some (.box [.ref 45000 0 a1.Granted.length, .ref 45001 0 a1.Queue.length])), (25000, R29 r1.1.granted), (25001, R29 r1.1.queue), (45000, R37 a1.Granted), (45001, R37 a1.Queue)]) Sub.tt ?_
  refine Chain.nil ?_
  refine AW.seq ?_
  refine AW.seqR ?_
  refine Chain.runK [] 8 fun K hK => ?_; simp; refine hK _ _ ?_; clear hK K
  refine Chain.sub (S' := mk 121 [1000, 2000] [(1, .ptr 2000 0 0), (10, .ref 53 0 r37.length), (61, .b ((r37.length : Int) != (a1.Granted.length : Int)))] [(53, R29 r37), (1000, some (.box [.ref 25000 0 r1.1.granted.length, .ref 25001 0 r1.1.queue.length])), (2000, some (.box [.ref 45000 0 a1.Granted.length, .ref 45001 0 a1.Queue.length])), (25000, R29 r1.1.granted), (25001, R29 r1.1.queue), (45000, R37 a1.Granted), (45001, R37 a1.Queue)]) Sub.tt ?_
  refine Chain.nil ?_
  replace h := isome h; rcases h with ⟨c38, h⟩ | ⟨c38, h⟩
  ·have c38_ : ((r37.length : Int) != (a1.Granted.length : Int)) = true := c38
   refine AW.condT (b := ((r37.length : Int) != (a1.Granted.length : Int))) rfl c38_ ?_
   refine AW.sub (Sub.bool 61 (b := ((r37.length : Int) != (a1.Granted.length : Int))) rfl c38_) ?_
   refine AW.sub (S' := mk 121 [1000, 2000] [(1, .ptr 2000 0 0), (10, .ref 53 0 r37.length), (61, .b true)] [(53, R29 r37), (1000, some (.box [.ref 25000 0 r1.1.granted.length, .ref 25001 0 r1.1.queue.length])), (2000, some (.box [.ref 45000 0 a1.Granted.length, .ref 45001 0 a1.Queue.length])), (25000, R29 r1.1.granted), (25001, R29 r1.1.queue), (45000, R37 a1.Granted), (45001, R37 a1.Queue)]) (by simp; exact Sub.table (by simp) (by simp)) ?_
   refine AW.seqR ?_
   refine Chain.runK [] 1 fun K hK => ?_; simp; refine hK _ _ ?_; clear hK K
   refine Chain.sub (S' := mk 121 [1000, 2000] [(6, .b false)] [(1000, some (.box [.ref 25000 0 r1.1.granted.length, .ref 25001 0 r1.1.queue.length])), (2000, some (.box [.ref 45000 0 a1.Granted.length, .ref 45001 0 a1.Queue.length])), (25000, R29 r1.1.granted), (25001, R29 r1.1.queue), (45000, R37 a1.Granted), (45001, R37 a1.Queue)]) Sub.tt ?_
   refine Chain.nil ?_
   refine AW.ret ?_
   cases h
   refine thenQ_pass (by simp) ?_
   exact FinF.ret (by simp) (by simp)
  ·have c38_ : ((r37.length : Int) != (a1.Granted.length : Int)) = false := Bool.eq_false_iff.2 c38
   refine AW.condF (b := ((r37.length : Int) != (a1.Granted.length : Int))) rfl c38_ ?_
   refine AW.sub (Sub.bool 61 (b := ((r37.length : Int) != (a1.Granted.length : Int))) rfl c38_) ?_
   refine AW.sub (S' := mk 121 [1000, 2000] [(1, .ptr 2000 0 0), (10, .ref 53 0 r37.length), (61, .b false)] [(53, R29 r37), (1000, some (.box [.ref 25000 0 r1.1.granted.length, .ref 25001 0 r1.1.queue.length])), (2000, some (.box [.ref 45000 0 a1.Granted.length, .ref 45001 0 a1.Queue.length])), (25000, R29 r1.1.granted), (25001, R29 r1.1.queue), (45000, R37 a1.Granted), (45001, R37 a1.Queue)]) (by simp; exact Sub.table (by simp) (by simp)) ?_
   refine AW.skip ?_
   refine thenQ_normal ?_
   refine AW.seq ?_
   refine AW.seqR ?_
   refine Chain.runK [] 3 fun K hK => ?_; simp; refine hK _ _ ?_; clear hK K
   refine Chain.sub (S' := mk 121 [1000, 2000] [(1, .ptr 2000 0 0), (10, .ref 53 0 r37.length), (62, .ref 53 0 r37.length), (63, .i (r37.length : Int)), (64, .i 0)] [(53, R29 r37), (1000, some (.box [.ref 25000 0 r1.1.granted.length, .ref 25001 0 r1.1.queue.length])), (2000, some (.box [.ref 45000 0 a1.Granted.length, .ref 45001 0 a1.Queue.length])), (25000, R29 r1.1.granted), (25001, R29 r1.1.queue), (45000, R37 a1.Granted), (45001, R37 a1.Queue)]) Sub.tt ?_
   refine Chain.nil ?_
   refine AW.lastJ (fun (_ : Unit) => mk 121 [1000, 2000] [] [(1000, some (.box [.ref 25000 0 r1.1.granted.length, .ref 25001 0 r1.1.queue.length])), (2000, some (.box [.ref 45000 0 a1.Granted.length, .ref 45001 0 a1.Queue.length])), (25000, R29 r1.1.granted), (25001, R29 r1.1.queue), (45000, R37 a1.Granted), (45001, R37 a1.Queue)]) h ?_ ?_ <;> clear h
   ·intro o h
    refine AW.block ?_
    refine AW.iter (fun (v75 : Int) => mk 121 [1000, 2000] [(1, .ptr 2000 0 0), (10, .ref 53 0 r37.length), (62, .ref 53 0 r37.length), (63, .i (r37.length : Int)), (64, .i v75)] [(53, R29 r37), (1000, some (.box [.ref 25000 0 r1.1.granted.length, .ref 25001 0 r1.1.queue.length])), (2000, some (.box [.ref 45000 0 a1.Granted.length, .ref 45001 0 a1.Queue.length])), (25000, R29 r1.1.granted), (25001, R29 r1.1.queue), (45000, R37 a1.Granted), (45001, R37 a1.Queue)]) h Sub.tt ?_
    clear h
    rintro v75 x h
    refine AW.seqR ?_
    refine Chain.runK [] 1 fun K hK => ?_; simp; refine hK _ _ ?_; clear hK K
    refine Chain.sub (S' := mk 121 [1000, 2000] [(1, .ptr 2000 0 0), (10, .ref 53 0 r37.length), (62, .ref 53 0 r37.length), (63, .i (r37.length : Int)), (64, .i v75), (65, .b (decide (v75 < (r37.length : Int))))] [(53, R29 r37), (1000, some (.box [.ref 25000 0 r1.1.granted.length, .ref 25001 0 r1.1.queue.length])), (2000, some (.box [.ref 45000 0 a1.Granted.length, .ref 45001 0 a1.Queue.length])), (25000, R29 r1.1.granted), (25001, R29 r1.1.queue), (45000, R37 a1.Granted), (45001, R37 a1.Queue)]) Sub.tt ?_
    refine Chain.nil ?_
    refine AW.seq ?_
    replace h := isome h; rcases h with ⟨c153, h⟩ | ⟨c153, h⟩
    ·have c153_ : decide (v75 < (r37.length : Int)) = true := decide_eq_true c153
     refine AW.condT (b := decide (v75 < (r37.length : Int))) rfl c153_ ?_
     refine AW.sub (Sub.bool 65 (b := decide (v75 < (r37.length : Int))) rfl c153_) ?_
     refine AW.sub (S' := mk 121 [1000, 2000] [(1, .ptr 2000 0 0), (10, .ref 53 0 r37.length), (62, .ref 53 0 r37.length), (63, .i (r37.length : Int)), (64, .i v75), (65, .b true)] [(53, R29 r37), (1000, some (.box [.ref 25000 0 r1.1.granted.length, .ref 25001 0 r1.1.queue.length])), (2000, some (.box [.ref 45000 0 a1.Granted.length, .ref 45001 0 a1.Queue.length])), (25000, R29 r1.1.granted), (25001, R29 r1.1.queue), (45000, R37 a1.Granted), (45001, R37 a1.Queue)]) (by simp; exact Sub.table (by simp) (by simp)) ?_
     refine AW.skip ?_
     refine thenQ_normal ?_
     refine AW.seqJ (fun (_ : Unit) => mk 121 [1000, 2000] [(1, .ptr 2000 0 0), (10, .ref 53 0 r37.length), (62, .ref 53 0 r37.length), (63, .i (r37.length : Int)), (64, .i v75)] [(53, R29 r37), (1000, some (.box [.ref 25000 0 r1.1.granted.length, .ref 25001 0 r1.1.queue.length])), (2000, some (.box [.ref 45000 0 a1.Granted.length, .ref 45001 0 a1.Queue.length])), (25000, R29 r1.1.granted), (25001, R29 r1.1.queue), (45000, R37 a1.Granted), (45001, R37 a1.Queue)]) h ?_ ?_ <;> clear h
     ·intro o h
      refine AW.block ?_
      refine AW.seqR ?_
      replace h := bsome h; obtain ⟨x172, hx172, h⟩ := h
      obtain ⟨k173, hx172k, hx172, hx172a, hx172b⟩ := idx_some hx172
      refine Chain.runK [] 6 fun K hK => ?_; simp [hx172, hx172k, hx172a, hx172b]; refine hK _ _ ?_; clear hK K
      refine Chain.sub (S' := mk 121 [1000, 2000] [(1, .ptr 2000 0 0), (10, .ref 53 0 r37.length), (11, .i v75), (12, .ptr 12 0 0), (62, .ref 53 0 r37.length), (63, .i (r37.length : Int)), (64, .i v75)] [(12, some (.box [.i x172.Tx, .d (.lit (.string x172.Table)), .d (.lit (.string x172.Key)), .i x172.Mode])), (53, R29 r37), (1000, some (.box [.ref 25000 0 r1.1.granted.length, .ref 25001 0 r1.1.queue.length])), (2000, some (.box [.ref 45000 0 a1.Granted.length, .ref 45001 0 a1.Queue.length])), (25000, R29 r1.1.granted), (25001, R29 r1.1.queue), (45000, R37 a1.Granted), (45001, R37 a1.Queue)]) Sub.tt ?_
      refine Chain.nil ?_
      refine AW.seq ?_
      refine AW.seqQ (by kernel_rfl) (by kernel_rfl) ?_
      refine Chain.runQ 7 fun K hK => ?_; simp; refine hK _ _ ?_; clear hK K
      refine Chain.sub (S' := mk 121 [1000, 2000] [(1, .ptr 2000 0 0), (10, .ref 53 0 r37.length), (11, .i v75), (12, .ptr 12 0 0), (62, .ref 53 0 r37.length), (63, .i (r37.length : Int)), (64, .i v75), (69, .ptr 2000 0 0), (71, .i x172.Tx), (73, .d (.lit (.string x172.Table))), (75, .d (.lit (.string x172.Key)))] [(12, some (.box [.i x172.Tx, .d (.lit (.string x172.Table)), .d (.lit (.string x172.Key)), .i x172.Mode])), (53, R29 r37), (1000, some (.box [.ref 25000 0 r1.1.granted.length, .ref 25001 0 r1.1.queue.length])), (2000, some (.box [.ref 45000 0 a1.Granted.length, .ref 45001 0 a1.Queue.length])), (25000, R29 r1.1.granted), (25001, R29 r1.1.queue), (45000, R37 a1.Granted), (45001, R37 a1.Queue)]) Sub.tt ?_
      replace h := bsome h; obtain ⟨r174, hr174, h⟩ := h
      refine Chain.callL (d := 76) (p25 N a1 x172.Tx x172.Table x172.Key r174 hr174) (by simp) rfl rfl (by simp <;> rfl) (by simp <;> rfl) ent25 (by simp <;> rfl) ?_
      refine Chain.sub (S' := mk 121 [1000, 2000] [(1, .ptr 2000 0 0), (10, .ref 53 0 r37.length), (11, .i v75), (12, .ptr 12 0 0), (62, .ref 53 0 r37.length), (63, .i (r37.length : Int)), (64, .i v75), (69, .ptr 2000 0 0), (71, .i x172.Tx), (73, .d (.lit (.string x172.Table))), (75, .d (.lit (.string x172.Key))), (76, .i r174)] [(12, some (.box [.i x172.Tx, .d (.lit (.string x172.Table)), .d (.lit (.string x172.Key)), .i x172.Mode])), (53, R29 r37), (1000, some (.box [.ref 25000 0 r1.1.granted.length, .ref 25001 0 r1.1.queue.length])), (2000, some (.box [.ref 45000 0 a1.Granted.length, .ref 45001 0 a1.Queue.length])), (25000, R29 r1.1.granted), (25001, R29 r1.1.queue), (45000, R37 a1.Granted), (45001, R37 a1.Queue)]) (by simp; exact Sub.table (by simp) (by simp)) ?_
      refine Chain.runQ 3 fun K hK => ?_; simp; refine hK _ _ ?_; clear hK K
      refine Chain.sub (S' := mk 121 [1000, 2000] [(1, .ptr 2000 0 0), (10, .ref 53 0 r37.length), (11, .i v75), (12, .ptr 12 0 0), (62, .ref 53 0 r37.length), (63, .i (r37.length : Int)), (64, .i v75), (79, .b (r174 != x172.Mode))] [(12, some (.box [.i x172.Tx, .d (.lit (.string x172.Table)), .d (.lit (.string x172.Key)), .i x172.Mode])), (53, R29 r37), (1000, some (.box [.ref 25000 0 r1.1.granted.length, .ref 25001 0 r1.1.queue.length])), (2000, some (.box [.ref 45000 0 a1.Granted.length, .ref 45001 0 a1.Queue.length])), (25000, R29 r1.1.granted), (25001, R29 r1.1.queue), (45000, R37 a1.Granted), (45001, R37 a1.Queue)]) Sub.tt ?_
      refine Chain.nil ?_
      replace h := isome h; rcases h with ⟨c175, h⟩ | ⟨c175, h⟩
      ·have c175_ : (r174 != x172.Mode) = true := c175
       refine AW.condT (b := (r174 != x172.Mode)) rfl c175_ ?_
       refine AW.sub (Sub.bool 79 (b := (r174 != x172.Mode)) rfl c175_) ?_
       refine AW.sub (S' := mk 121 [1000, 2000] [(1, .ptr 2000 0 0), (10, .ref 53 0 r37.length), (11, .i v75), (12, .ptr 12 0 0), (62, .ref 53 0 r37.length), (63, .i (r37.length : Int)), (64, .i v75), (79, .b true)] [(12, some (.box [.i x172.Tx, .d (.lit (.string x172.Table)), .d (.lit (.string x172.Key)), .i x172.Mode])), (53, R29 r37), (1000, some (.box [.ref 25000 0 r1.1.granted.length, .ref 25001 0 r1.1.queue.length])), (2000, some (.box [.ref 45000 0 a1.Granted.length, .ref 45001 0 a1.Queue.length])), (25000, R29 r1.1.granted), (25001, R29 r1.1.queue), (45000, R37 a1.Granted), (45001, R37 a1.Queue)]) (by simp; exact Sub.table (by simp) (by simp)) ?_
       refine AW.seqR ?_
       refine Chain.runK [] 1 fun K hK => ?_; simp; refine hK _ _ ?_; clear hK K
       refine Chain.sub (S' := mk 121 [1000, 2000] [(6, .b false)] [(1000, some (.box [.ref 25000 0 r1.1.granted.length, .ref 25001 0 r1.1.queue.length])), (2000, some (.box [.ref 45000 0 a1.Granted.length, .ref 45001 0 a1.Queue.length])), (25000, R29 r1.1.granted), (25001, R29 r1.1.queue), (45000, R37 a1.Granted), (45001, R37 a1.Queue)]) Sub.tt ?_
       refine Chain.nil ?_
       refine AW.ret ?_
       cases h
       refine thenQ_pass (by simp) ?_
       refine blockQ.ret ?_
       refine PostJ.out (by simp) ?_
       rintro rfl
       refine PostI.out (by simp) ?_
       rintro rfl
       refine blockQ.ret ?_
       refine PostJ.out (by simp) ?_
       rintro rfl
       refine thenQ_pass (by simp) ?_
       exact FinF.ret (by simp) (by simp)
      ·have c175_ : (r174 != x172.Mode) = false := Bool.eq_false_iff.2 c175
       refine AW.condF (b := (r174 != x172.Mode)) rfl c175_ ?_
       refine AW.sub (Sub.bool 79 (b := (r174 != x172.Mode)) rfl c175_) ?_
       refine AW.sub (S' := mk 121 [1000, 2000] [(1, .ptr 2000 0 0), (10, .ref 53 0 r37.length), (11, .i v75), (12, .ptr 12 0 0), (62, .ref 53 0 r37.length), (63, .i (r37.length : Int)), (64, .i v75), (79, .b false)] [(12, some (.box [.i x172.Tx, .d (.lit (.string x172.Table)), .d (.lit (.string x172.Key)), .i x172.Mode])), (53, R29 r37), (1000, some (.box [.ref 25000 0 r1.1.granted.length, .ref 25001 0 r1.1.queue.length])), (2000, some (.box [.ref 45000 0 a1.Granted.length, .ref 45001 0 a1.Queue.length])), (25000, R29 r1.1.granted), (25001, R29 r1.1.queue), (45000, R37 a1.Granted), (45001, R37 a1.Queue)]) (by simp; exact Sub.table (by simp) (by simp)) ?_
       refine AW.skip ?_
       refine thenQ_normal ?_
       refine AW.seq ?_
       refine AW.seqR ?_
       refine Chain.runK [] 2 fun K hK => ?_; simp; refine hK _ _ ?_; clear hK K
       refine Chain.sub (S' := mk 121 [1000, 2000] [(1, .ptr 2000 0 0), (10, .ref 53 0 r37.length), (11, .i v75), (12, .ptr 12 0 0), (62, .ref 53 0 r37.length), (63, .i (r37.length : Int)), (64, .i v75), (81, .b (v75 == 0))] [(12, some (.box [.i x172.Tx, .d (.lit (.string x172.Table)), .d (.lit (.string x172.Key)), .i x172.Mode])), (53, R29 r37), (1000, some (.box [.ref 25000 0 r1.1.granted.length, .ref 25001 0 r1.1.queue.length])), (2000, some (.box [.ref 45000 0 a1.Granted.length, .ref 45001 0 a1.Queue.length])), (25000, R29 r1.1.granted), (25001, R29 r1.1.queue), (45000, R37 a1.Granted), (45001, R37 a1.Queue)]) Sub.tt ?_
       refine Chain.nil ?_
       replace h := isome h; rcases h with ⟨c176, h⟩ | ⟨c176, h⟩
       ·have c176_ : (v75 == 0) = true := c176
        refine AW.condT (b := (v75 == 0)) rfl c176_ ?_
        refine AW.sub (Sub.bool 81 (b := (v75 == 0)) rfl c176_) ?_
        refine AW.sub (S' := mk 121 [1000, 2000] [(1, .ptr 2000 0 0), (10, .ref 53 0 r37.length), (11, .i v75), (12, .ptr 12 0 0), (62, .ref 53 0 r37.length), (63, .i (r37.length : Int)), (64, .i v75), (81, .b true)] [(12, some (.box [.i x172.Tx, .d (.lit (.string x172.Table)), .d (.lit (.string x172.Key)), .i x172.Mode])), (53, R29 r37), (1000, some (.box [.ref 25000 0 r1.1.granted.length, .ref 25001 0 r1.1.queue.length])), (2000, some (.box [.ref 45000 0 a1.Granted.length, .ref 45001 0 a1.Queue.length])), (25000, R29 r1.1.granted), (25001, R29 r1.1.queue), (45000, R37 a1.Granted), (45001, R37 a1.Queue)]) (by simp; exact Sub.table (by simp) (by simp)) ?_
        refine AW.exit ?_
        cases h
        refine thenQ_pass (by simp) ?_
        refine blockQ.hit ?_
        refine PostJ.next ?_
        exact Sub.tt
       ·have c176_ : (v75 == 0) = false := Bool.eq_false_iff.2 c176
        refine AW.condF (b := (v75 == 0)) rfl c176_ ?_
        refine AW.sub (Sub.bool 81 (b := (v75 == 0)) rfl c176_) ?_
        refine AW.sub (S' := mk 121 [1000, 2000] [(1, .ptr 2000 0 0), (10, .ref 53 0 r37.length), (11, .i v75), (12, .ptr 12 0 0), (62, .ref 53 0 r37.length), (63, .i (r37.length : Int)), (64, .i v75), (81, .b false)] [(12, some (.box [.i x172.Tx, .d (.lit (.string x172.Table)), .d (.lit (.string x172.Key)), .i x172.Mode])), (53, R29 r37), (1000, some (.box [.ref 25000 0 r1.1.granted.length, .ref 25001 0 r1.1.queue.length])), (2000, some (.box [.ref 45000 0 a1.Granted.length, .ref 45001 0 a1.Queue.length])), (25000, R29 r1.1.granted), (25001, R29 r1.1.queue), (45000, R37 a1.Granted), (45001, R37 a1.Queue)]) (by simp; exact Sub.table (by simp) (by simp)) ?_
        refine AW.skip ?_
        refine thenQ_normal ?_
        refine AW.seqR ?_
        replace h := bsome h; obtain ⟨v177, hv177, h⟩ := h
        have hv177 := chkI_some hv177
        replace h := bsome h; obtain ⟨x178, hx178, h⟩ := h
        obtain ⟨k179, hx178k, hx178, hx178a, hx178b⟩ := idx_some hx178
        refine Chain.runK [] 7 fun K hK => ?_; simp [hv177, hx178, hx178k, hx178a, hx178b]; refine hK _ _ ?_; clear hK K
        refine Chain.sub (S' := mk 121 [1000, 2000] [(1, .ptr 2000 0 0), (10, .ref 53 0 r37.length), (12, .ptr 12 0 0), (13, .ptr 13 0 0), (62, .ref 53 0 r37.length), (63, .i (r37.length : Int)), (64, .i v75)] [(12, some (.box [.i x172.Tx, .d (.lit (.string x172.Table)), .d (.lit (.string x172.Key)), .i x172.Mode])), (13, some (.box [.i x178.Tx, .d (.lit (.string x178.Table)), .d (.lit (.string x178.Key)), .i x178.Mode])), (53, R29 r37), (1000, some (.box [.ref 25000 0 r1.1.granted.length, .ref 25001 0 r1.1.queue.length])), (2000, some (.box [.ref 45000 0 a1.Granted.length, .ref 45001 0 a1.Queue.length])), (25000, R29 r1.1.granted), (25001, R29 r1.1.queue), (45000, R37 a1.Granted), (45001, R37 a1.Queue)]) Sub.tt ?_
        refine Chain.nil ?_
        replace h := bsome h; obtain ⟨v184, hj, h⟩ := h
        refine AW.cutR (mk 121 [1000, 2000] [(1, .ptr 2000 0 0), (10, .ref 53 0 r37.length), (62, .ref 53 0 r37.length), (63, .i (r37.length : Int)), (64, .i v75), (119, .b v184)] [(53, R29 r37), (1000, some (.box [.ref 25000 0 r1.1.granted.length, .ref 25001 0 r1.1.queue.length])), (2000, some (.box [.ref 45000 0 a1.Granted.length, .ref 45001 0 a1.Queue.length])), (25000, R29 r1.1.granted), (25001, R29 r1.1.queue), (45000, R37 a1.Granted), (45001, R37 a1.Queue)]) ?_ ?_
        ·clear h; have h := hj; clear hj
         refine Chain.runK [] 6 fun K hK => ?_; simp; refine hK _ _ ?_; clear hK K
         refine Chain.sub (S' := mk 121 [1000, 2000] [(1, .ptr 2000 0 0), (10, .ref 53 0 r37.length), (12, .ptr 12 0 0), (13, .ptr 13 0 0), (62, .ref 53 0 r37.length), (63, .i (r37.length : Int)), (64, .i v75), (92, .b (decide (x178.Tx > x172.Tx)))] [(12, some (.box [.i x172.Tx, .d (.lit (.string x172.Table)), .d (.lit (.string x172.Key)), .i x172.Mode])), (13, some (.box [.i x178.Tx, .d (.lit (.string x178.Table)), .d (.lit (.string x178.Key)), .i x178.Mode])), (53, R29 r37), (1000, some (.box [.ref 25000 0 r1.1.granted.length, .ref 25001 0 r1.1.queue.length])), (2000, some (.box [.ref 45000 0 a1.Granted.length, .ref 45001 0 a1.Queue.length])), (25000, R29 r1.1.granted), (25001, R29 r1.1.queue), (45000, R37 a1.Granted), (45001, R37 a1.Queue)]) Sub.tt ?_
         replace h := isome h; rcases h with ⟨c185, h⟩ | ⟨c185, h⟩
         ·have c185_ : decide (x178.Tx > x172.Tx) = true := decide_eq_true c185
          refine Chain.sub (Sub.bool 92 (b := decide (x178.Tx > x172.Tx)) rfl c185_) ?_
          refine Chain.sub (S' := mk 121 [1000, 2000] [(1, .ptr 2000 0 0), (10, .ref 53 0 r37.length), (12, .ptr 12 0 0), (13, .ptr 13 0 0), (62, .ref 53 0 r37.length), (63, .i (r37.length : Int)), (64, .i v75), (92, .b true)] [(12, some (.box [.i x172.Tx, .d (.lit (.string x172.Table)), .d (.lit (.string x172.Key)), .i x172.Mode])), (13, some (.box [.i x178.Tx, .d (.lit (.string x178.Table)), .d (.lit (.string x178.Key)), .i x178.Mode])), (53, R29 r37), (1000, some (.box [.ref 25000 0 r1.1.granted.length, .ref 25001 0 r1.1.queue.length])), (2000, some (.box [.ref 45000 0 a1.Granted.length, .ref 45001 0 a1.Queue.length])), (25000, R29 r1.1.granted), (25001, R29 r1.1.queue), (45000, R37 a1.Granted), (45001, R37 a1.Queue)]) (by simp; exact Sub.table (by simp) (by simp)) ?_
          refine Chain.runK [] 27 fun K hK => ?_; simp; refine hK _ _ ?_; clear hK K
          refine Chain.sub (S' := mk 121 [1000, 2000] [(1, .ptr 2000 0 0), (10, .ref 53 0 r37.length), (62, .ref 53 0 r37.length), (63, .i (r37.length : Int)), (64, .i v75), (93, .tup []), (94, .tup []), (95, .tup []), (96, .tup []), (97, .tup []), (98, .tup []), (99, .tup []), (100, .tup []), (101, .tup []), (102, .tup []), (103, .tup []), (104, .tup []), (105, .tup []), (106, .tup []), (107, .tup []), (108, .tup []), (109, .tup []), (110, .tup []), (111, .tup []), (112, .tup []), (113, .tup []), (114, .tup []), (115, .tup []), (116, .tup []), (117, .tup []), (118, .tup []), (119, .b true)] [(53, R29 r37), (1000, some (.box [.ref 25000 0 r1.1.granted.length, .ref 25001 0 r1.1.queue.length])), (2000, some (.box [.ref 45000 0 a1.Granted.length, .ref 45001 0 a1.Queue.length])), (25000, R29 r1.1.granted), (25001, R29 r1.1.queue), (45000, R37 a1.Granted), (45001, R37 a1.Queue)]) Sub.tt ?_
          cases h
          exact Chain.nil Sub.tt
         ·have c185_ : decide (x178.Tx > x172.Tx) = false := decide_eq_false c185
          refine Chain.sub (Sub.bool 92 (b := decide (x178.Tx > x172.Tx)) rfl c185_) ?_
          refine Chain.sub (S' := mk 121 [1000, 2000] [(1, .ptr 2000 0 0), (10, .ref 53 0 r37.length), (12, .ptr 12 0 0), (13, .ptr 13 0 0), (62, .ref 53 0 r37.length), (63, .i (r37.length : Int)), (64, .i v75), (92, .b false)] [(12, some (.box [.i x172.Tx, .d (.lit (.string x172.Table)), .d (.lit (.string x172.Key)), .i x172.Mode])), (13, some (.box [.i x178.Tx, .d (.lit (.string x178.Table)), .d (.lit (.string x178.Key)), .i x178.Mode])), (53, R29 r37), (1000, some (.box [.ref 25000 0 r1.1.granted.length, .ref 25001 0 r1.1.queue.length])), (2000, some (.box [.ref 45000 0 a1.Granted.length, .ref 45001 0 a1.Queue.length])), (25000, R29 r1.1.granted), (25001, R29 r1.1.queue), (45000, R37 a1.Granted), (45001, R37 a1.Queue)]) (by simp; exact Sub.table (by simp) (by simp)) ?_
          refine Chain.runK [] 6 fun K hK => ?_; simp; refine hK _ _ ?_; clear hK K
          refine Chain.sub (S' := mk 121 [1000, 2000] [(1, .ptr 2000 0 0), (10, .ref 53 0 r37.length), (12, .ptr 12 0 0), (13, .ptr 13 0 0), (62, .ref 53 0 r37.length), (63, .i (r37.length : Int)), (64, .i v75), (92, .b false), (93, .ptr 13 0 0), (94, .i x178.Tx), (95, .ptr 12 0 0), (96, .i x172.Tx), (97, .b (x178.Tx == x172.Tx)), (98, .b (x178.Tx == x172.Tx))] [(12, some (.box [.i x172.Tx, .d (.lit (.string x172.Table)), .d (.lit (.string x172.Key)), .i x172.Mode])), (13, some (.box [.i x178.Tx, .d (.lit (.string x178.Table)), .d (.lit (.string x178.Key)), .i x178.Mode])), (53, R29 r37), (1000, some (.box [.ref 25000 0 r1.1.granted.length, .ref 25001 0 r1.1.queue.length])), (2000, some (.box [.ref 45000 0 a1.Granted.length, .ref 45001 0 a1.Queue.length])), (25000, R29 r1.1.granted), (25001, R29 r1.1.queue), (45000, R37 a1.Granted), (45001, R37 a1.Queue)]) Sub.tt ?_
          replace h := isome h; rcases h with ⟨c186, h⟩ | ⟨c186, h⟩
          ·have c186_ : (x178.Tx == x172.Tx) = true := c186
           refine Chain.sub (Sub.bool 97 (b := (x178.Tx == x172.Tx)) rfl c186_) ?_
           refine Chain.sub (Sub.bool 98 (b := (x178.Tx == x172.Tx)) rfl c186_) ?_
           refine Chain.sub (S' := mk 121 [1000, 2000] [(1, .ptr 2000 0 0), (10, .ref 53 0 r37.length), (12, .ptr 12 0 0), (13, .ptr 13 0 0), (62, .ref 53 0 r37.length), (63, .i (r37.length : Int)), (64, .i v75), (92, .b false), (93, .ptr 13 0 0), (94, .i x178.Tx), (95, .ptr 12 0 0), (96, .i x172.Tx), (97, .b true), (98, .b true)] [(12, some (.box [.i x172.Tx, .d (.lit (.string x172.Table)), .d (.lit (.string x172.Key)), .i x172.Mode])), (13, some (.box [.i x178.Tx, .d (.lit (.string x178.Table)), .d (.lit (.string x178.Key)), .i x178.Mode])), (53, R29 r37), (1000, some (.box [.ref 25000 0 r1.1.granted.length, .ref 25001 0 r1.1.queue.length])), (2000, some (.box [.ref 45000 0 a1.Granted.length, .ref 45001 0 a1.Queue.length])), (25000, R29 r1.1.granted), (25001, R29 r1.1.queue), (45000, R37 a1.Granted), (45001, R37 a1.Queue)]) (by simp; exact Sub.table (by simp) (by simp)) ?_
           refine Chain.runK [] 6 fun K hK => ?_; simp; refine hK _ _ ?_; clear hK K
           refine Chain.sub (S' := mk 121 [1000, 2000] [(1, .ptr 2000 0 0), (10, .ref 53 0 r37.length), (12, .ptr 12 0 0), (13, .ptr 13 0 0), (62, .ref 53 0 r37.length), (63, .i (r37.length : Int)), (64, .i v75), (92, .b false), (93, .ptr 13 0 0), (94, .i x178.Tx), (95, .ptr 12 0 0), (96, .i x172.Tx), (97, .b true), (98, .b true), (99, .ptr 13 0 1), (100, .d (.lit (.string x178.Table))), (101, .ptr 12 0 1), (102, .d (.lit (.string x172.Table))), (103, .b (!Op.bytesLess x178.Table.toList x172.Table.toList && !decide (x178.Table = x172.Table))), (104, .b (!Op.bytesLess x178.Table.toList x172.Table.toList && !decide (x178.Table = x172.Table)))] [(12, some (.box [.i x172.Tx, .d (.lit (.string x172.Table)), .d (.lit (.string x172.Key)), .i x172.Mode])), (13, some (.box [.i x178.Tx, .d (.lit (.string x178.Table)), .d (.lit (.string x178.Key)), .i x178.Mode])), (53, R29 r37), (1000, some (.box [.ref 25000 0 r1.1.granted.length, .ref 25001 0 r1.1.queue.length])), (2000, some (.box [.ref 45000 0 a1.Granted.length, .ref 45001 0 a1.Queue.length])), (25000, R29 r1.1.granted), (25001, R29 r1.1.queue), (45000, R37 a1.Granted), (45001, R37 a1.Queue)]) Sub.tt ?_
           replace h := isome h; rcases h with ⟨c187, h⟩ | ⟨c187, h⟩
           ·have c187_ : (!Op.bytesLess x178.Table.toList x172.Table.toList && !decide (x178.Table = x172.Table)) = true := c187
            refine Chain.sub (Sub.bool 103 (b := (!Op.bytesLess x178.Table.toList x172.Table.toList && !decide (x178.Table = x172.Table))) rfl c187_) ?_
            refine Chain.sub (Sub.bool 104 (b := (!Op.bytesLess x178.Table.toList x172.Table.toList && !decide (x178.Table = x172.Table))) rfl c187_) ?_
            refine Chain.sub (S' := mk 121 [1000, 2000] [(1, .ptr 2000 0 0), (10, .ref 53 0 r37.length), (12, .ptr 12 0 0), (13, .ptr 13 0 0), (62, .ref 53 0 r37.length), (63, .i (r37.length : Int)), (64, .i v75), (92, .b false), (93, .ptr 13 0 0), (94, .i x178.Tx), (95, .ptr 12 0 0), (96, .i x172.Tx), (97, .b true), (98, .b true), (99, .ptr 13 0 1), (100, .d (.lit (.string x178.Table))), (101, .ptr 12 0 1), (102, .d (.lit (.string x172.Table))), (103, .b true), (104, .b true)] [(12, some (.box [.i x172.Tx, .d (.lit (.string x172.Table)), .d (.lit (.string x172.Key)), .i x172.Mode])), (13, some (.box [.i x178.Tx, .d (.lit (.string x178.Table)), .d (.lit (.string x178.Key)), .i x178.Mode])), (53, R29 r37), (1000, some (.box [.ref 25000 0 r1.1.granted.length, .ref 25001 0 r1.1.queue.length])), (2000, some (.box [.ref 45000 0 a1.Granted.length, .ref 45001 0 a1.Queue.length])), (25000, R29 r1.1.granted), (25001, R29 r1.1.queue), (45000, R37 a1.Granted), (45001, R37 a1.Queue)]) (by simp; exact Sub.table (by simp) (by simp)) ?_
            refine Chain.runK [] 15 fun K hK => ?_; simp; refine hK _ _ ?_; clear hK K
            refine Chain.sub (S' := mk 121 [1000, 2000] [(1, .ptr 2000 0 0), (10, .ref 53 0 r37.length), (62, .ref 53 0 r37.length), (63, .i (r37.length : Int)), (64, .i v75), (93, .ptr 13 0 0), (94, .i x178.Tx), (95, .ptr 12 0 0), (96, .i x172.Tx), (97, .b true), (98, .b true), (99, .ptr 13 0 1), (100, .d (.lit (.string x178.Table))), (101, .ptr 12 0 1), (102, .d (.lit (.string x172.Table))), (103, .b true), (104, .b true), (105, .tup []), (106, .tup []), (107, .tup []), (108, .tup []), (109, .tup []), (110, .tup []), (111, .tup []), (112, .tup []), (113, .tup []), (114, .tup []), (115, .tup []), (116, .tup []), (117, .b true), (118, .b true), (119, .b true)] [(12, some (.box [.i x172.Tx, .d (.lit (.string x172.Table)), .d (.lit (.string x172.Key)), .i x172.Mode])), (13, some (.box [.i x178.Tx, .d (.lit (.string x178.Table)), .d (.lit (.string x178.Key)), .i x178.Mode])), (53, R29 r37), (1000, some (.box [.ref 25000 0 r1.1.granted.length, .ref 25001 0 r1.1.queue.length])), (2000, some (.box [.ref 45000 0 a1.Granted.length, .ref 45001 0 a1.Queue.length])), (25000, R29 r1.1.granted), (25001, R29 r1.1.queue), (45000, R37 a1.Granted), (45001, R37 a1.Queue)]) Sub.tt ?_
            cases h
            exact Chain.nil Sub.tt
           ·have c187_ : (!Op.bytesLess x178.Table.toList x172.Table.toList && !decide (x178.Table = x172.Table)) = false := Bool.eq_false_iff.2 c187
            refine Chain.sub (Sub.bool 103 (b := (!Op.bytesLess x178.Table.toList x172.Table.toList && !decide (x178.Table = x172.Table))) rfl c187_) ?_
            refine Chain.sub (Sub.bool 104 (b := (!Op.bytesLess x178.Table.toList x172.Table.toList && !decide (x178.Table = x172.Table))) rfl c187_) ?_
            refine Chain.sub (S' := mk 121 [1000, 2000] [(1, .ptr 2000 0 0), (10, .ref 53 0 r37.length), (12, .ptr 12 0 0), (13, .ptr 13 0 0), (62, .ref 53 0 r37.length), (63, .i (r37.length : Int)), (64, .i v75), (92, .b false), (93, .ptr 13 0 0), (94, .i x178.Tx), (95, .ptr 12 0 0), (96, .i x172.Tx), (97, .b true), (98, .b true), (99, .ptr 13 0 1), (100, .d (.lit (.string x178.Table))), (101, .ptr 12 0 1), (102, .d (.lit (.string x172.Table))), (103, .b false), (104, .b false)] [(12, some (.box [.i x172.Tx, .d (.lit (.string x172.Table)), .d (.lit (.string x172.Key)), .i x172.Mode])), (13, some (.box [.i x178.Tx, .d (.lit (.string x178.Table)), .d (.lit (.string x178.Key)), .i x178.Mode])), (53, R29 r37), (1000, some (.box [.ref 25000 0 r1.1.granted.length, .ref 25001 0 r1.1.queue.length])), (2000, some (.box [.ref 45000 0 a1.Granted.length, .ref 45001 0 a1.Queue.length])), (25000, R29 r1.1.granted), (25001, R29 r1.1.queue), (45000, R37 a1.Granted), (45001, R37 a1.Queue)]) (by simp; exact Sub.table (by simp) (by simp)) ?_
            refine Chain.runK [] 6 fun K hK => ?_; simp; refine hK _ _ ?_; clear hK K
            refine Chain.sub (S' := mk 121 [1000, 2000] [(1, .ptr 2000 0 0), (10, .ref 53 0 r37.length), (12, .ptr 12 0 0), (13, .ptr 13 0 0), (62, .ref 53 0 r37.length), (63, .i (r37.length : Int)), (64, .i v75), (92, .b false), (93, .ptr 13 0 0), (94, .i x178.Tx), (95, .ptr 12 0 0), (96, .i x172.Tx), (97, .b true), (98, .b true), (99, .ptr 13 0 1), (100, .d (.lit (.string x178.Table))), (101, .ptr 12 0 1), (102, .d (.lit (.string x172.Table))), (103, .b false), (104, .b false), (105, .ptr 13 0 1), (106, .d (.lit (.string x178.Table))), (107, .ptr 12 0 1), (108, .d (.lit (.string x172.Table))), (109, .b (decide (x178.Table = x172.Table))), (110, .b (decide (x178.Table = x172.Table)))] [(12, some (.box [.i x172.Tx, .d (.lit (.string x172.Table)), .d (.lit (.string x172.Key)), .i x172.Mode])), (13, some (.box [.i x178.Tx, .d (.lit (.string x178.Table)), .d (.lit (.string x178.Key)), .i x178.Mode])), (53, R29 r37), (1000, some (.box [.ref 25000 0 r1.1.granted.length, .ref 25001 0 r1.1.queue.length])), (2000, some (.box [.ref 45000 0 a1.Granted.length, .ref 45001 0 a1.Queue.length])), (25000, R29 r1.1.granted), (25001, R29 r1.1.queue), (45000, R37 a1.Granted), (45001, R37 a1.Queue)]) Sub.tt ?_
            replace h := isome h; rcases h with ⟨c188, h⟩ | ⟨c188, h⟩
            ·have c188_ : decide (x178.Table = x172.Table) = true := c188
             refine Chain.sub (Sub.bool 109 (b := decide (x178.Table = x172.Table)) rfl c188_) ?_
             refine Chain.sub (Sub.bool 110 (b := decide (x178.Table = x172.Table)) rfl c188_) ?_
             refine Chain.sub (S' := mk 121 [1000, 2000] [(1, .ptr 2000 0 0), (10, .ref 53 0 r37.length), (12, .ptr 12 0 0), (13, .ptr 13 0 0), (62, .ref 53 0 r37.length), (63, .i (r37.length : Int)), (64, .i v75), (92, .b false), (93, .ptr 13 0 0), (94, .i x178.Tx), (95, .ptr 12 0 0), (96, .i x172.Tx), (97, .b true), (98, .b true), (99, .ptr 13 0 1), (100, .d (.lit (.string x178.Table))), (101, .ptr 12 0 1), (102, .d (.lit (.string x172.Table))), (103, .b false), (104, .b false), (105, .ptr 13 0 1), (106, .d (.lit (.string x178.Table))), (107, .ptr 12 0 1), (108, .d (.lit (.string x172.Table))), (109, .b true), (110, .b true)] [(12, some (.box [.i x172.Tx, .d (.lit (.string x172.Table)), .d (.lit (.string x172.Key)), .i x172.Mode])), (13, some (.box [.i x178.Tx, .d (.lit (.string x178.Table)), .d (.lit (.string x178.Key)), .i x178.Mode])), (53, R29 r37), (1000, some (.box [.ref 25000 0 r1.1.granted.length, .ref 25001 0 r1.1.queue.length])), (2000, some (.box [.ref 45000 0 a1.Granted.length, .ref 45001 0 a1.Queue.length])), (25000, R29 r1.1.granted), (25001, R29 r1.1.queue), (45000, R37 a1.Granted), (45001, R37 a1.Queue)]) (by simp; exact Sub.table (by simp) (by simp)) ?_
             refine Chain.runK [] 9 fun K hK => ?_; simp; refine hK _ _ ?_; clear hK K
             refine Chain.sub (S' := mk 121 [1000, 2000] [(1, .ptr 2000 0 0), (10, .ref 53 0 r37.length), (62, .ref 53 0 r37.length), (63, .i (r37.length : Int)), (64, .i v75), (93, .ptr 13 0 0), (94, .i x178.Tx), (95, .ptr 12 0 0), (96, .i x172.Tx), (97, .b true), (98, .b true), (99, .ptr 13 0 1), (100, .d (.lit (.string x178.Table))), (101, .ptr 12 0 1), (102, .d (.lit (.string x172.Table))), (103, .b false), (104, .b false), (105, .ptr 13 0 1), (106, .d (.lit (.string x178.Table))), (107, .ptr 12 0 1), (108, .d (.lit (.string x172.Table))), (109, .b true), (110, .b true), (111, .ptr 13 0 2), (112, .d (.lit (.string x178.Key))), (113, .ptr 12 0 2), (114, .d (.lit (.string x172.Key))), (115, .b (!Op.bytesLess x178.Key.toList x172.Key.toList)), (116, .b (!Op.bytesLess x178.Key.toList x172.Key.toList)), (117, .b (!Op.bytesLess x178.Key.toList x172.Key.toList)), (118, .b (!Op.bytesLess x178.Key.toList x172.Key.toList)), (119, .b (!Op.bytesLess x178.Key.toList x172.Key.toList))] [(12, some (.box [.i x172.Tx, .d (.lit (.string x172.Table)), .d (.lit (.string x172.Key)), .i x172.Mode])), (13, some (.box [.i x178.Tx, .d (.lit (.string x178.Table)), .d (.lit (.string x178.Key)), .i x178.Mode])), (53, R29 r37), (1000, some (.box [.ref 25000 0 r1.1.granted.length, .ref 25001 0 r1.1.queue.length])), (2000, some (.box [.ref 45000 0 a1.Granted.length, .ref 45001 0 a1.Queue.length])), (25000, R29 r1.1.granted), (25001, R29 r1.1.queue), (45000, R37 a1.Granted), (45001, R37 a1.Queue)]) Sub.tt ?_
             cases h
             exact Chain.nil Sub.tt
            ·have c188_ : decide (x178.Table = x172.Table) = false := Bool.eq_false_iff.2 c188
             refine Chain.sub (Sub.bool 109 (b := decide (x178.Table = x172.Table)) rfl c188_) ?_
             refine Chain.sub (Sub.bool 110 (b := decide (x178.Table = x172.Table)) rfl c188_) ?_
             refine Chain.sub (S' := mk 121 [1000, 2000] [(1, .ptr 2000 0 0), (10, .ref 53 0 r37.length), (12, .ptr 12 0 0), (13, .ptr 13 0 0), (62, .ref 53 0 r37.length), (63, .i (r37.length : Int)), (64, .i v75), (92, .b false), (93, .ptr 13 0 0), (94, .i x178.Tx), (95, .ptr 12 0 0), (96, .i x172.Tx), (97, .b true), (98, .b true), (99, .ptr 13 0 1), (100, .d (.lit (.string x178.Table))), (101, .ptr 12 0 1), (102, .d (.lit (.string x172.Table))), (103, .b false), (104, .b false), (105, .ptr 13 0 1), (106, .d (.lit (.string x178.Table))), (107, .ptr 12 0 1), (108, .d (.lit (.string x172.Table))), (109, .b false), (110, .b false)] [(12, some (.box [.i x172.Tx, .d (.lit (.string x172.Table)), .d (.lit (.string x172.Key)), .i x172.Mode])), (13, some (.box [.i x178.Tx, .d (.lit (.string x178.Table)), .d (.lit (.string x178.Key)), .i x178.Mode])), (53, R29 r37), (1000, some (.box [.ref 25000 0 r1.1.granted.length, .ref 25001 0 r1.1.queue.length])), (2000, some (.box [.ref 45000 0 a1.Granted.length, .ref 45001 0 a1.Queue.length])), (25000, R29 r1.1.granted), (25001, R29 r1.1.queue), (45000, R37 a1.Granted), (45001, R37 a1.Queue)]) (by simp; exact Sub.table (by simp) (by simp)) ?_
             refine Chain.runK [] 9 fun K hK => ?_; simp; refine hK _ _ ?_; clear hK K
             refine Chain.sub (S' := mk 121 [1000, 2000] [(1, .ptr 2000 0 0), (10, .ref 53 0 r37.length), (62, .ref 53 0 r37.length), (63, .i (r37.length : Int)), (64, .i v75), (93, .ptr 13 0 0), (94, .i x178.Tx), (95, .ptr 12 0 0), (96, .i x172.Tx), (97, .b true), (98, .b true), (99, .ptr 13 0 1), (100, .d (.lit (.string x178.Table))), (101, .ptr 12 0 1), (102, .d (.lit (.string x172.Table))), (103, .b false), (104, .b false), (105, .ptr 13 0 1), (106, .d (.lit (.string x178.Table))), (107, .ptr 12 0 1), (108, .d (.lit (.string x172.Table))), (109, .b false), (110, .b false), (111, .tup []), (112, .tup []), (113, .tup []), (114, .tup []), (115, .tup []), (116, .b false), (117, .b false), (118, .b false), (119, .b false)] [(12, some (.box [.i x172.Tx, .d (.lit (.string x172.Table)), .d (.lit (.string x172.Key)), .i x172.Mode])), (13, some (.box [.i x178.Tx, .d (.lit (.string x178.Table)), .d (.lit (.string x178.Key)), .i x178.Mode])), (53, R29 r37), (1000, some (.box [.ref 25000 0 r1.1.granted.length, .ref 25001 0 r1.1.queue.length])), (2000, some (.box [.ref 45000 0 a1.Granted.length, .ref 45001 0 a1.Queue.length])), (25000, R29 r1.1.granted), (25001, R29 r1.1.queue), (45000, R37 a1.Granted), (45001, R37 a1.Queue)]) Sub.tt ?_
             cases h
             exact Chain.nil Sub.tt
          ·have c186_ : (x178.Tx == x172.Tx) = false := Bool.eq_false_iff.2 c186
           refine Chain.sub (Sub.bool 97 (b := (x178.Tx == x172.Tx)) rfl c186_) ?_
           refine Chain.sub (Sub.bool 98 (b := (x178.Tx == x172.Tx)) rfl c186_) ?_
           refine Chain.sub (S' := mk 121 [1000, 2000] [(1, .ptr 2000 0 0), (10, .ref 53 0 r37.length), (12, .ptr 12 0 0), (13, .ptr 13 0 0), (62, .ref 53 0 r37.length), (63, .i (r37.length : Int)), (64, .i v75), (92, .b false), (93, .ptr 13 0 0), (94, .i x178.Tx), (95, .ptr 12 0 0), (96, .i x172.Tx), (97, .b false), (98, .b false)] [(12, some (.box [.i x172.Tx, .d (.lit (.string x172.Table)), .d (.lit (.string x172.Key)), .i x172.Mode])), (13, some (.box [.i x178.Tx, .d (.lit (.string x178.Table)), .d (.lit (.string x178.Key)), .i x178.Mode])), (53, R29 r37), (1000, some (.box [.ref 25000 0 r1.1.granted.length, .ref 25001 0 r1.1.queue.length])), (2000, some (.box [.ref 45000 0 a1.Granted.length, .ref 45001 0 a1.Queue.length])), (25000, R29 r1.1.granted), (25001, R29 r1.1.queue), (45000, R37 a1.Granted), (45001, R37 a1.Queue)]) (by simp; exact Sub.table (by simp) (by simp)) ?_
           refine Chain.runK [] 21 fun K hK => ?_; simp; refine hK _ _ ?_; clear hK K
           refine Chain.sub (S' := mk 121 [1000, 2000] [(1, .ptr 2000 0 0), (10, .ref 53 0 r37.length), (62, .ref 53 0 r37.length), (63, .i (r37.length : Int)), (64, .i v75), (93, .ptr 13 0 0), (94, .i x178.Tx), (95, .ptr 12 0 0), (96, .i x172.Tx), (97, .b false), (98, .b false), (99, .tup []), (100, .tup []), (101, .tup []), (102, .tup []), (103, .tup []), (104, .tup []), (105, .tup []), (106, .tup []), (107, .tup []), (108, .tup []), (109, .tup []), (110, .tup []), (111, .tup []), (112, .tup []), (113, .tup []), (114, .tup []), (115, .tup []), (116, .tup []), (117, .tup []), (118, .b false), (119, .b false)] [(12, some (.box [.i x172.Tx, .d (.lit (.string x172.Table)), .d (.lit (.string x172.Key)), .i x172.Mode])), (13, some (.box [.i x178.Tx, .d (.lit (.string x178.Table)), .d (.lit (.string x178.Key)), .i x178.Mode])), (53, R29 r37), (1000, some (.box [.ref 25000 0 r1.1.granted.length, .ref 25001 0 r1.1.queue.length])), (2000, some (.box [.ref 45000 0 a1.Granted.length, .ref 45001 0 a1.Queue.length])), (25000, R29 r1.1.granted), (25001, R29 r1.1.queue), (45000, R37 a1.Granted), (45001, R37 a1.Queue)]) Sub.tt ?_
           cases h
           exact Chain.nil Sub.tt
        ·clear hj
         replace h := isome h; rcases h with ⟨c189, h⟩ | ⟨c189, h⟩
         ·have c189_ : v184 = true := c189
          refine AW.condT (b := v184) rfl c189_ ?_
          refine AW.sub (Sub.bool 119 (b := v184) rfl c189_) ?_
          refine AW.sub (S' := mk 121 [1000, 2000] [(1, .ptr 2000 0 0), (10, .ref 53 0 r37.length), (62, .ref 53 0 r37.length), (63, .i (r37.length : Int)), (64, .i v75), (119, .b true)] [(53, R29 r37), (1000, some (.box [.ref 25000 0 r1.1.granted.length, .ref 25001 0 r1.1.queue.length])), (2000, some (.box [.ref 45000 0 a1.Granted.length, .ref 45001 0 a1.Queue.length])), (25000, R29 r1.1.granted), (25001, R29 r1.1.queue), (45000, R37 a1.Granted), (45001, R37 a1.Queue)]) (by simp; exact Sub.table (by simp) (by simp)) ?_
          refine AW.seqR ?_
          refine Chain.runK [] 1 fun K hK => ?_; simp; refine hK _ _ ?_; clear hK K
          refine Chain.sub (S' := mk 121 [1000, 2000] [(6, .b false)] [(1000, some (.box [.ref 25000 0 r1.1.granted.length, .ref 25001 0 r1.1.queue.length])), (2000, some (.box [.ref 45000 0 a1.Granted.length, .ref 45001 0 a1.Queue.length])), (25000, R29 r1.1.granted), (25001, R29 r1.1.queue), (45000, R37 a1.Granted), (45001, R37 a1.Queue)]) Sub.tt ?_
          refine Chain.nil ?_
          refine AW.ret ?_
          cases h
          refine blockQ.ret ?_
          refine PostJ.out (by simp) ?_
          rintro rfl
          refine PostI.out (by simp) ?_
          rintro rfl
          refine blockQ.ret ?_
          refine PostJ.out (by simp) ?_
          rintro rfl
          refine thenQ_pass (by simp) ?_
          exact FinF.ret (by simp) (by simp)
         ·have c189_ : v184 = false := Bool.eq_false_iff.2 c189
          refine AW.condF (b := v184) rfl c189_ ?_
          refine AW.sub (Sub.bool 119 (b := v184) rfl c189_) ?_
          refine AW.sub (S' := mk 121 [1000, 2000] [(1, .ptr 2000 0 0), (10, .ref 53 0 r37.length), (62, .ref 53 0 r37.length), (63, .i (r37.length : Int)), (64, .i v75), (119, .b false)] [(53, R29 r37), (1000, some (.box [.ref 25000 0 r1.1.granted.length, .ref 25001 0 r1.1.queue.length])), (2000, some (.box [.ref 45000 0 a1.Granted.length, .ref 45001 0 a1.Queue.length])), (25000, R29 r1.1.granted), (25001, R29 r1.1.queue), (45000, R37 a1.Granted), (45001, R37 a1.Queue)]) (by simp; exact Sub.table (by simp) (by simp)) ?_
          refine AW.skip ?_
          cases h
          refine blockQ.normal ?_
          refine PostJ.next ?_
          exact Sub.tt
     ·rintro ⟨⟩ h
      refine AW.region ?_
      replace h := bsome h; obtain ⟨v190, hv190, h⟩ := h
      have hv190 := chkI_some hv190
      refine Chain.runK [] 2 fun K hK => ?_; simp [hv190]; refine hK _ _ ?_; clear hK K
      refine Chain.sub (S' := mk 121 [1000, 2000] [(1, .ptr 2000 0 0), (10, .ref 53 0 r37.length), (62, .ref 53 0 r37.length), (63, .i (r37.length : Int)), (64, .i v190)] [(53, R29 r37), (1000, some (.box [.ref 25000 0 r1.1.granted.length, .ref 25001 0 r1.1.queue.length])), (2000, some (.box [.ref 45000 0 a1.Granted.length, .ref 45001 0 a1.Queue.length])), (25000, R29 r1.1.granted), (25001, R29 r1.1.queue), (45000, R37 a1.Granted), (45001, R37 a1.Queue)]) Sub.tt ?_
      refine Chain.nil ?_
      cases h
      refine PostI.next ?_
      exact Sub.tt
    ·have c153_ : decide (v75 < (r37.length : Int)) = false := decide_eq_false c153
     refine AW.condF (b := decide (v75 < (r37.length : Int))) rfl c153_ ?_
     refine AW.sub (Sub.bool 65 (b := decide (v75 < (r37.length : Int))) rfl c153_) ?_
     refine AW.sub (S' := mk 121 [1000, 2000] [(1, .ptr 2000 0 0), (10, .ref 53 0 r37.length), (62, .ref 53 0 r37.length), (63, .i (r37.length : Int)), (64, .i v75), (65, .b false)] [(53, R29 r37), (1000, some (.box [.ref 25000 0 r1.1.granted.length, .ref 25001 0 r1.1.queue.length])), (2000, some (.box [.ref 45000 0 a1.Granted.length, .ref 45001 0 a1.Queue.length])), (25000, R29 r1.1.granted), (25001, R29 r1.1.queue), (45000, R37 a1.Granted), (45001, R37 a1.Queue)]) (by simp; exact Sub.table (by simp) (by simp)) ?_
     refine AW.exit ?_
     cases h
     refine thenQ_pass (by simp) ?_
     refine PostI.out (by simp) ?_
     rintro rfl
     refine blockQ.hit ?_
     refine PostJ.next ?_
     exact Sub.tt
   ·rintro ⟨⟩ h
    refine thenQ_normal ?_
    refine AW.seqR ?_
    refine Chain.runK [] 1 fun K hK => ?_; simp; refine hK _ _ ?_; clear hK K
    refine Chain.sub (S' := mk 121 [1000, 2000] [(6, .b true)] [(1000, some (.box [.ref 25000 0 r1.1.granted.length, .ref 25001 0 r1.1.queue.length])), (2000, some (.box [.ref 45000 0 a1.Granted.length, .ref 45001 0 a1.Queue.length])), (25000, R29 r1.1.granted), (25001, R29 r1.1.queue), (45000, R37 a1.Granted), (45001, R37 a1.Queue)]) Sub.tt ?_
    refine Chain.nil ?_
    refine AW.ret ?_
    cases h
    exact FinF.ret (by simp) (by simp)

end Go.Proofs.Ytdiekinmoklonaa
