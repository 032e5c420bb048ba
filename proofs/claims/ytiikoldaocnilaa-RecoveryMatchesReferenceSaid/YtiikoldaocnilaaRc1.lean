/- Functions of the program as functional programs; the code computes them. -/
import Derived.Test.YtiikoldaocnilaaRc0
namespace Go.Proofs.Ytiikoldaocnilaa
open Go.Ab Go.Rp
attribute [-simp] List.all_eq_true Array.all_toList Array.all_eq_true

/-- stemma/recovery.New -/
def d17 (_N : Nat) (a0 : Int) : Option ((Option S74) × Int) :=
 Option.bind (α := Bool) (
  if a0 < 1 then (
   some true
  ) else
  some (decide (a0 > 16))
 ) fun (v2 : Bool) =>
 if v2 = true then (
  some (none, 1)
 ) else
 (mkL 16 a0 ((S78.mk 0 0) : S78)).bind fun l5 =>
 (mkL 16 a0 ((S78.mk 0 0) : S78)).bind fun l6 =>
 (mkL 8 a0 (0 : Int)).bind fun l7 =>
 some ((some (S74.mk l5 l6 ([] : List S80) 0 0 ([] : List Int) l7)), 0)
set_option maxRecDepth 100000 in
set_option maxHeartbeats 4000000 in
theorem p17 (N : Nat) (a0 : Int) (r : ((Option S74) × Int)) (h : d17 N a0 = some r) : FunM Try.prog 17 [.i a0] [] [] (.tup [(match r.1 with | none => V.d (.lit (.pointer none)) | some _ => V.ptr 1000 0 0), .i r.2]) ([] ++ (match r.1 with | none => [] | some o => [(1000, (.box [.ref 25000 0 o.buffer.length, .ref 25001 0 o.disk.length, .ref 25002 0 o.log.length, .i o.flushed, .i o.lastID, .ref 25005 0 o.active.length, .ref 25006 0 o.writer.length])), (25000, (.arr 78 2 (o.buffer.map cS78))), (25001, (.arr 78 2 (o.disk.map cS78))), (25002, (.arr 80 5 (o.log.map cS80))), (25005, (.arr 3 1 (o.active.map (cI .i64)))), (25006, (.arr 3 1 (o.writer.map (cI .i64))))])) := by
 unfold d17 at h
 refine FunM.enter 18 [(0, .i a0)] Try.func17 rfl (of_decide_eq_true rfl) rfl rfl ?_
 refine AW.seqR ?_
 refine Chain.runK [] 2 fun K hK => ?_; simp; refine hK _ _ ?_; clear hK K
 refine Chain.sub (S' := mk 18 [] [(0, .i a0)] []) Sub.tt ?_
 refine Chain.nil ?_
 refine AW.seq ?_
 replace h := bsome h; obtain ⟨v2, hj, h⟩ := h
 refine AW.cutR (mk 18 [] [(0, .i a0), (9, .b v2)] []) ?_ ?_
 ·clear h; have h := hj; clear hj
  refine Chain.runK [] 3 fun K hK => ?_; simp; refine hK _ _ ?_; clear hK K
  refine Chain.sub (S' := mk 18 [] [(0, .i a0), (6, .b (decide (a0 < 1)))] []) Sub.tt ?_
  replace h := isome h; rcases h with ⟨c3, h⟩ | ⟨c3, h⟩
  ·have c3_ : decide (a0 < 1) = true := decide_eq_true c3
   refine Chain.sub (Sub.bool 6 (b := decide (a0 < 1)) rfl c3_) ?_
   refine Chain.sub (S' := mk 18 [] [(0, .i a0), (6, .b true)] []) (by simp; exact Sub.table (by simp) (by simp)) ?_
   refine Chain.runK [] 3 fun K hK => ?_; simp; refine hK _ _ ?_; clear hK K
   refine Chain.sub (S' := mk 18 [] [(0, .i a0), (9, .b true)] []) Sub.tt ?_
   cases h
   exact Chain.nil Sub.tt
  ·have c3_ : decide (a0 < 1) = false := decide_eq_false c3
   refine Chain.sub (Sub.bool 6 (b := decide (a0 < 1)) rfl c3_) ?_
   refine Chain.sub (S' := mk 18 [] [(0, .i a0), (6, .b false)] []) (by simp; exact Sub.table (by simp) (by simp)) ?_
   refine Chain.runK [] 3 fun K hK => ?_; simp; refine hK _ _ ?_; clear hK K
   refine Chain.sub (S' := mk 18 [] [(0, .i a0), (9, .b (decide (a0 > 16)))] []) Sub.tt ?_
   cases h
   exact Chain.nil Sub.tt
 ·clear hj
  replace h := isome h; rcases h with ⟨c4, h⟩ | ⟨c4, h⟩
  ·have c4_ : v2 = true := c4
   refine AW.condT (b := v2) rfl c4_ ?_
   refine AW.sub (Sub.bool 9 (b := v2) rfl c4_) ?_
   refine AW.sub (S' := mk 18 [] [(0, .i a0), (9, .b true)] []) (by simp; exact Sub.table (by simp) (by simp)) ?_
   refine AW.seqR ?_
   refine Chain.runK [] 2 fun K hK => ?_; simp; refine hK _ _ ?_; clear hK K
   refine Chain.sub (S' := mk 18 [] [(2, .d (.lit (.pointer none))), (3, .i 1)] []) Sub.tt ?_
   refine Chain.nil ?_
   refine AW.ret ?_
   cases h
   refine thenQ_pass (by simp) ?_
   exact FinF.ret (by simp) (by simp)
  ·have c4_ : v2 = false := Bool.eq_false_iff.2 c4
   refine AW.condF (b := v2) rfl c4_ ?_
   refine AW.sub (Sub.bool 9 (b := v2) rfl c4_) ?_
   refine AW.sub (S' := mk 18 [] [(0, .i a0), (9, .b false)] []) (by simp; exact Sub.table (by simp) (by simp)) ?_
   refine AW.skip ?_
   refine thenQ_normal ?_
   replace h := bsome h; obtain ⟨l5, gl5, h⟩ := h
   obtain ⟨hl5a, hl5b, hl5c, hl5d⟩ := mkL_some cS78 gl5
   clear gl5
   replace hl5c : List.replicate l5.length [.lit (.int .i64 0), .lit (.int .i64 0)] = l5.map cS78 := hl5c
   replace h := bsome h; obtain ⟨l6, gl6, h⟩ := h
   obtain ⟨hl6a, hl6b, hl6c, hl6d⟩ := mkL_some cS78 gl6
   clear gl6
   replace hl6c : List.replicate l6.length [.lit (.int .i64 0), .lit (.int .i64 0)] = l6.map cS78 := hl6c
   replace h := bsome h; obtain ⟨l7, gl7, h⟩ := h
   obtain ⟨hl7a, hl7b, hl7c, hl7d⟩ := mkL_some (cI .i64) gl7
   clear gl7
   replace hl7c : List.replicate l7.length [.lit (.int .i64 0)] = l7.map (cI .i64) := hl7c
   refine AW.seqAnyS [[], [0], [], [2], [], [4], [0, 1, 2, 3, 4, 5], [0, 1, 2, 3, 4, 5, 6], [0, 1, 2, 3, 4, 5, 6, 7], [0, 1, 2, 3, 4, 5, 6, 7, 8]] (fun (b : Nat → Bool) => mk 18 [] [(0, .i a0), (2, (if b 8 then .ptr 17 0 0 else .junk)), (3, (if b 9 then .i 0 else .junk)), (10, (if b 0 then .i a0 else .junk)), (11, (if b 1 then .ref 11 0 l5.length else .junk)), (12, (if b 2 then .i a0 else .junk)), (13, (if b 3 then .ref 13 0 l6.length else .junk)), (14, (if b 4 then .i a0 else .junk)), (15, (if b 5 then .ref 15 0 l7.length else .junk)), (16, (if b 6 then .agg [.ref 11 0 l5.length, .ref 13 0 l6.length, .d (.lit (.slice none 0 0)), .i 0, .i 0, .d (.lit (.slice none 0 0)), .ref 15 0 l7.length] else .junk)), (17, (if b 7 then .ptr 17 0 0 else .junk))] [(11, (if b 1 then R78 l5 else none)), (13, (if b 3 then R78 l6 else none)), (15, (if b 5 then R3 l7 else none)), (17, (if b 7 then some (.box [.ref 11 0 l5.length, .ref 13 0 l6.length, .d (.lit (.slice none 0 0)), .i 0, .i 0, .d (.lit (.slice none 0 0)), .ref 15 0 l7.length]) else none))]) (mk 18 [] [(2, .ptr 17 0 0), (3, .i 0)] [(11, R78 l5), (13, R78 l6), (15, R3 l7), (17, some (.box [.ref 11 0 l5.length, .ref 13 0 l6.length, .d (.lit (.slice none 0 0)), .i 0, .i 0, .d (.lit (.slice none 0 0)), .ref 15 0 l7.length]))]) (by kernel_rfl) (by kernel_rfl) Sub.tt (Steps.cons ?_ (Steps.cons ?_ (Steps.cons ?_ (Steps.cons ?_ (Steps.cons ?_ (Steps.cons ?_ (Steps.cons ?_ (Steps.cons ?_ (Steps.cons ?_ (Steps.cons ?_ (Steps.nil))))))))))) ?_ ?_
   ·intro b h0 ha hd
    have f1 : b 1 = false := hd 1 (by decide)
    have f6 : b 6 = false := hd 6 (by decide)
    have f7 : b 7 = false := hd 7 (by decide)
    have f8 : b 8 = false := hd 8 (by decide)
    have f9 : b 9 = false := hd 9 (by decide)
    refine Chain.runK [] 1 fun K hK => ?_; simp [h0, f1, f6, f7, f8, f9]; refine hK _ _ ?_; clear hK K
    exact Chain.nil (Sub.table (by simp [f1, f6, f7, f8, f9]) (by simp [f1, f7]))
   ·intro b h0 ha hd
    have t0 : b 0 = true := ha 0 (by decide)
    have f6 : b 6 = false := hd 6 (by decide)
    have f7 : b 7 = false := hd 7 (by decide)
    have f8 : b 8 = false := hd 8 (by decide)
    have f9 : b 9 = false := hd 9 (by decide)
    cases q3 : b 3 <;> cases q5 : b 5 <;> (refine Chain.runK [] 1 fun K hK => ?_; simp [h0, t0, f6, f7, f8, f9, hl5a, hl5b, hl5c, hl5d]; refine hK _ _ ?_; clear hK K; exact Chain.nil (Sub.table (by simp [t0, f6, f7, f8, f9, q3, q5]) (by simp [f7, q3, q5])))
   ·intro b h0 ha hd
    have f3 : b 3 = false := hd 3 (by decide)
    have f6 : b 6 = false := hd 6 (by decide)
    have f7 : b 7 = false := hd 7 (by decide)
    have f8 : b 8 = false := hd 8 (by decide)
    have f9 : b 9 = false := hd 9 (by decide)
    refine Chain.runK [] 1 fun K hK => ?_; simp [h0, f3, f6, f7, f8, f9]; refine hK _ _ ?_; clear hK K
    exact Chain.nil (Sub.table (by simp [f3, f6, f7, f8, f9]) (by simp [f3, f7]))
   ·intro b h0 ha hd
    have t2 : b 2 = true := ha 2 (by decide)
    have f6 : b 6 = false := hd 6 (by decide)
    have f7 : b 7 = false := hd 7 (by decide)
    have f8 : b 8 = false := hd 8 (by decide)
    have f9 : b 9 = false := hd 9 (by decide)
    cases q1 : b 1 <;> cases q5 : b 5 <;> (refine Chain.runK [] 1 fun K hK => ?_; simp [h0, t2, f6, f7, f8, f9, hl6a, hl6b, hl6c, hl6d]; refine hK _ _ ?_; clear hK K; exact Chain.nil (Sub.table (by simp [t2, f6, f7, f8, f9, q1, q5]) (by simp [f7, q1, q5])))
   ·intro b h0 ha hd
    have f5 : b 5 = false := hd 5 (by decide)
    have f6 : b 6 = false := hd 6 (by decide)
    have f7 : b 7 = false := hd 7 (by decide)
    have f8 : b 8 = false := hd 8 (by decide)
    have f9 : b 9 = false := hd 9 (by decide)
    refine Chain.runK [] 1 fun K hK => ?_; simp [h0, f5, f6, f7, f8, f9]; refine hK _ _ ?_; clear hK K
    exact Chain.nil (Sub.table (by simp [f5, f6, f7, f8, f9]) (by simp [f5, f7]))
   ·intro b h0 ha hd
    have t4 : b 4 = true := ha 4 (by decide)
    have f6 : b 6 = false := hd 6 (by decide)
    have f7 : b 7 = false := hd 7 (by decide)
    have f8 : b 8 = false := hd 8 (by decide)
    have f9 : b 9 = false := hd 9 (by decide)
    cases q1 : b 1 <;> cases q3 : b 3 <;> (refine Chain.runK [] 1 fun K hK => ?_; simp [h0, t4, f6, f7, f8, f9, hl7a, hl7b, hl7c, hl7d]; refine hK _ _ ?_; clear hK K; exact Chain.nil (Sub.table (by simp [t4, f6, f7, f8, f9, q1, q3]) (by simp [f7, q1, q3])))
   ·intro b h0 ha hd
    have t0 : b 0 = true := ha 0 (by decide)
    have t1 : b 1 = true := ha 1 (by decide)
    have t2 : b 2 = true := ha 2 (by decide)
    have t3 : b 3 = true := ha 3 (by decide)
    have t4 : b 4 = true := ha 4 (by decide)
    have t5 : b 5 = true := ha 5 (by decide)
    have f7 : b 7 = false := hd 7 (by decide)
    have f8 : b 8 = false := hd 8 (by decide)
    have f9 : b 9 = false := hd 9 (by decide)
    refine Chain.runK [] 1 fun K hK => ?_; simp [h0, t0, t1, t2, t3, t4, t5, f7, f8, f9]; refine hK _ _ ?_; clear hK K
    exact Chain.nil (Sub.table (by simp [t0, t1, t2, t3, t4, t5, f7, f8, f9]) (by simp [t1, t3, t5, f7]))
   ·intro b h0 ha hd
    have t0 : b 0 = true := ha 0 (by decide)
    have t1 : b 1 = true := ha 1 (by decide)
    have t2 : b 2 = true := ha 2 (by decide)
    have t3 : b 3 = true := ha 3 (by decide)
    have t4 : b 4 = true := ha 4 (by decide)
    have t5 : b 5 = true := ha 5 (by decide)
    have t6 : b 6 = true := ha 6 (by decide)
    have f8 : b 8 = false := hd 8 (by decide)
    have f9 : b 9 = false := hd 9 (by decide)
    refine Chain.runK [] 1 fun K hK => ?_; simp [h0, t0, t1, t2, t3, t4, t5, t6, f8, f9]; refine hK _ _ ?_; clear hK K
    exact Chain.nil (Sub.table (by simp [t0, t1, t2, t3, t4, t5, t6, f8, f9]) (by simp [t1, t3, t5]))
   ·intro b h0 ha hd
    have t0 : b 0 = true := ha 0 (by decide)
    have t1 : b 1 = true := ha 1 (by decide)
    have t2 : b 2 = true := ha 2 (by decide)
    have t3 : b 3 = true := ha 3 (by decide)
    have t4 : b 4 = true := ha 4 (by decide)
    have t5 : b 5 = true := ha 5 (by decide)
    have t6 : b 6 = true := ha 6 (by decide)
    have t7 : b 7 = true := ha 7 (by decide)
    have f9 : b 9 = false := hd 9 (by decide)
    refine Chain.runK [] 1 fun K hK => ?_; simp [h0, t0, t1, t2, t3, t4, t5, t6, t7, f9]; refine hK _ _ ?_; clear hK K
    exact Chain.nil (Sub.table (by simp [t0, t1, t2, t3, t4, t5, t6, t7, f9]) (by simp [t1, t3, t5, t7]))
   ·intro b h0 ha hd
    have t0 : b 0 = true := ha 0 (by decide)
    have t1 : b 1 = true := ha 1 (by decide)
    have t2 : b 2 = true := ha 2 (by decide)
    have t3 : b 3 = true := ha 3 (by decide)
    have t4 : b 4 = true := ha 4 (by decide)
    have t5 : b 5 = true := ha 5 (by decide)
    have t6 : b 6 = true := ha 6 (by decide)
    have t7 : b 7 = true := ha 7 (by decide)
    have t8 : b 8 = true := ha 8 (by decide)
    refine Chain.runK [] 1 fun K hK => ?_; simp [h0, t0, t1, t2, t3, t4, t5, t6, t7, t8]; refine hK _ _ ?_; clear hK K
    exact Chain.nil (Sub.table (by simp [t0, t1, t2, t3, t4, t5, t6, t7, t8]) (by simp [t1, t3, t5, t7]))
   ·intro b hb
    have t0 := hb 0 (by decide)
    have t1 := hb 1 (by decide)
    have t2 := hb 2 (by decide)
    have t3 := hb 3 (by decide)
    have t4 := hb 4 (by decide)
    have t5 := hb 5 (by decide)
    have t6 := hb 6 (by decide)
    have t7 := hb 7 (by decide)
    have t8 := hb 8 (by decide)
    have t9 := hb 9 (by decide)
    exact Sub.table (by simp [t0, t1, t2, t3, t4, t5, t6, t7, t8, t9]) (by simp [t1, t3, t5, t7])
   ·skip
    refine AW.sub (S' := mk 18 [] [(2, .ptr 17 0 0), (3, .i 0)] [(13, R78 l6), (15, R3 l7), (17, some (.box [.ref 5340 0 l5.length, .ref 13 0 l6.length, .d (.lit (.slice none 0 0)), .i 0, .i 0, .d (.lit (.slice none 0 0)), .ref 15 0 l7.length])), (5340, R78 l5)]) (Sub.names [(11, 5340), (13, 13), (15, 15), (17, 17)] (by simp) (by simp) (by simp [back]) (by simp [V.rnm, lk2]) (by simp [back, Blk.rnm, V.rnm, rnmL, lk2])) ?_
    refine AW.sub (S' := mk 18 [] [(2, .ptr 17 0 0), (3, .i 0)] [(15, R3 l7), (17, some (.box [.ref 5340 0 l5.length, .ref 5341 0 l6.length, .d (.lit (.slice none 0 0)), .i 0, .i 0, .d (.lit (.slice none 0 0)), .ref 15 0 l7.length])), (5340, R78 l5), (5341, R78 l6)]) (Sub.names [(13, 5341), (15, 15), (17, 17), (5340, 5340)] (by simp) (by simp) (by simp [back]) (by simp [V.rnm, lk2]) (by simp [back, Blk.rnm, V.rnm, rnmL, lk2])) ?_
    refine AW.sub (Sub.nilOwnBox (bid := 17) (j := 2) (id := 5342) (T := 80) (n := 5) rfl rfl (by decide) rfl (by decide)) ?_
    refine AW.sub (S' := mk 18 [] [(2, .ptr 17 0 0), (3, .i 0)] [(15, R3 l7), (17, some (.box [.ref 5340 0 l5.length, .ref 5341 0 l6.length, .ref 5342 0 (([] : List S80).length), .i 0, .i 0, .d (.lit (.slice none 0 0)), .ref 15 0 l7.length])), (5340, R78 l5), (5341, R78 l6), (5342, R80 ([] : List S80))]) (by simp; exact Sub.table (by simp) (by simp)) ?_
    refine AW.sub (Sub.nilOwnBox (bid := 17) (j := 5) (id := 5345) (T := 3) (n := 1) rfl rfl (by decide) rfl (by decide)) ?_
    refine AW.sub (S' := mk 18 [] [(2, .ptr 17 0 0), (3, .i 0)] [(15, R3 l7), (17, some (.box [.ref 5340 0 l5.length, .ref 5341 0 l6.length, .ref 5342 0 (([] : List S80).length), .i 0, .i 0, .ref 5345 0 (([] : List Int).length), .ref 15 0 l7.length])), (5340, R78 l5), (5341, R78 l6), (5342, R80 ([] : List S80)), (5345, R3 ([] : List Int))]) (by simp; exact Sub.table (by simp) (by simp)) ?_
    refine AW.sub (S' := mk 18 [] [(2, .ptr 17 0 0), (3, .i 0)] [(17, some (.box [.ref 5340 0 l5.length, .ref 5341 0 l6.length, .ref 5342 0 (([] : List S80).length), .i 0, .i 0, .ref 5345 0 (([] : List Int).length), .ref 5346 0 l7.length])), (5340, R78 l5), (5341, R78 l6), (5342, R80 ([] : List S80)), (5345, R3 ([] : List Int)), (5346, R3 l7)]) (Sub.names [(15, 5346), (17, 17), (5340, 5340), (5341, 5341), (5342, 5342), (5345, 5345)] (by simp) (by simp) (by simp [back]) (by simp [V.rnm, lk2]) (by simp [back, Blk.rnm, V.rnm, rnmL, lk2])) ?_
    refine AW.sub (S' := mk 18 [] [(2, .ptr 1000 0 0), (3, .i 0)] [(1000, some (.box [.ref 25000 0 l5.length, .ref 25001 0 l6.length, .ref 25002 0 (([] : List S80).length), .i 0, .i 0, .ref 25005 0 (([] : List Int).length), .ref 25006 0 l7.length])), (25000, R78 l5), (25001, R78 l6), (25002, R80 ([] : List S80)), (25005, R3 ([] : List Int)), (25006, R3 l7)]) (Sub.names [(17, 1000), (5340, 25000), (5341, 25001), (5342, 25002), (5345, 25005), (5346, 25006)] (by simp) (by simp) (by simp [back]) (by simp [V.rnm, lk2]) (by simp [back, Blk.rnm, V.rnm, rnmL, lk2])) ?_
    refine AW.ret ?_
    cases h
    exact FinF.ret (by simp) (by simp)

/-- slices.Index[[]int,int] -/
def d39 (N : Nat) (a0 : (List Int)) (a1 : Int) : Option Int :=
 bindO (β := Unit) (ρ := Int) (
  iterN (σ := Int) (ρ := (Out Unit Int)) (fun (v5 : Int) =>
   if v5 < (a0.length : Int) then (
    (idx a0 v5).bind fun x18 =>
    if (a1 == x18) then (
     some (.inr (.ret v5))
    ) else
    (chkI (v5 + 1)).bind fun v21 =>
    some (.inl v21)
   ) else
   some (.inr (.go ()))
  ) N 0
 ) fun (_ : Unit) =>
 some (-1)
set_option maxRecDepth 100000 in
set_option maxHeartbeats 4000000 in
theorem p39 (N : Nat) (a0 : (List Int)) (a1 : Int) (r : Int) (h : d39 N a0 a1 = some r) : FunC Try.prog 39 [.d (.sl (a0.map (cI .i64))), .i a1] (.i r) := by
 unfold d39 at h
 refine FunC.enter 19 [(0, .d (.sl (a0.map (cI .i64)))), (1, .i a1)] (by simp) Try.func39 rfl (of_decide_eq_true rfl) rfl rfl ?_
 refine AW.seqR ?_
 refine Chain.runK [] 1 fun K hK => ?_; simp; refine hK _ _ ?_; clear hK K
 refine Chain.sub (S' := mk 19 [] [(0, .d (.sl (a0.map (cI .i64)))), (1, .i a1)] []) Sub.tt ?_
 refine Chain.nil ?_
 refine AW.seq ?_
 refine AW.seqR ?_
 refine Chain.runK [] 3 fun K hK => ?_; simp; refine hK _ _ ?_; clear hK K
 refine Chain.sub (S' := mk 19 [] [(0, .d (.sl (a0.map (cI .i64)))), (1, .i a1), (7, .i (a0.length : Int)), (8, .i 0)] []) Sub.tt ?_
 refine Chain.nil ?_
 refine AW.lastJ (fun (_ : Unit) => mk 19 [] [] []) h ?_ ?_ <;> clear h
 ·intro o h
  refine AW.block ?_
  refine AW.iter (fun (v5 : Int) => mk 19 [] [(0, .d (.sl (a0.map (cI .i64)))), (1, .i a1), (7, .i (a0.length : Int)), (8, .i v5)] []) h Sub.tt ?_
  clear h
  rintro v5 x h
  refine AW.seqR ?_
  refine Chain.runK [] 1 fun K hK => ?_; simp; refine hK _ _ ?_; clear hK K
  refine Chain.sub (S' := mk 19 [] [(0, .d (.sl (a0.map (cI .i64)))), (1, .i a1), (7, .i (a0.length : Int)), (8, .i v5), (9, .b (decide (v5 < (a0.length : Int))))] []) Sub.tt ?_
  refine Chain.nil ?_
  refine AW.seq ?_
  replace h := isome h; rcases h with ⟨c17, h⟩ | ⟨c17, h⟩
  ·have c17_ : decide (v5 < (a0.length : Int)) = true := decide_eq_true c17
   refine AW.condT (b := decide (v5 < (a0.length : Int))) rfl c17_ ?_
   refine AW.sub (Sub.bool 9 (b := decide (v5 < (a0.length : Int))) rfl c17_) ?_
   refine AW.sub (S' := mk 19 [] [(0, .d (.sl (a0.map (cI .i64)))), (1, .i a1), (7, .i (a0.length : Int)), (8, .i v5), (9, .b true)] []) (by simp; exact Sub.table (by simp) (by simp)) ?_
   refine AW.skip ?_
   refine thenQ_normal ?_
   refine AW.seq ?_
   refine AW.block ?_
   refine AW.seqR ?_
   refine Chain.runK [] 2 fun K hK => ?_; simp; refine hK _ _ ?_; clear hK K
   refine Chain.sub (S' := mk 19 [] [(0, .d (.sl (a0.map (cI .i64)))), (1, .i a1), (5, .i v5), (7, .i (a0.length : Int)), (8, .i v5)] []) Sub.tt ?_
   refine Chain.nil ?_
   refine AW.seqR ?_
   replace h := bsome h; obtain ⟨x18, hx18, h⟩ := h
   obtain ⟨k19, hx18k, hx18, hx18a, hx18b⟩ := idx_some hx18
   refine Chain.runK [] 6 fun K hK => ?_; simp [hx18, hx18k, hx18a]; refine hK _ _ ?_; clear hK K
   refine Chain.sub (S' := mk 19 [] [(0, .d (.sl (a0.map (cI .i64)))), (1, .i a1), (5, .i v5), (7, .i (a0.length : Int)), (8, .i v5), (16, .b (a1 == x18))] []) Sub.tt ?_
   refine Chain.nil ?_
   replace h := isome h; rcases h with ⟨c20, h⟩ | ⟨c20, h⟩
   ·have c20_ : (a1 == x18) = true := c20
    refine AW.condT (b := (a1 == x18)) rfl c20_ ?_
    refine AW.sub (Sub.bool 16 (b := (a1 == x18)) rfl c20_) ?_
    refine AW.sub (S' := mk 19 [] [(0, .d (.sl (a0.map (cI .i64)))), (1, .i a1), (5, .i v5), (7, .i (a0.length : Int)), (8, .i v5), (16, .b true)] []) (by simp; exact Sub.table (by simp) (by simp)) ?_
    refine AW.seqR ?_
    refine Chain.runK [] 2 fun K hK => ?_; simp; refine hK _ _ ?_; clear hK K
    refine Chain.sub (S' := mk 19 [] [(4, .i v5)] []) Sub.tt ?_
    refine Chain.nil ?_
    refine AW.ret ?_
    cases h
    refine blockQ.ret ?_
    refine thenQ_pass (by simp) ?_
    refine PostI.out (by simp) ?_
    rintro rfl
    refine blockQ.ret ?_
    refine PostJ.out (by simp) ?_
    rintro rfl
    refine thenQ_pass (by simp) ?_
    exact FinC.ret (by simp) (by simp)
   ·have c20_ : (a1 == x18) = false := Bool.eq_false_iff.2 c20
    refine AW.condF (b := (a1 == x18)) rfl c20_ ?_
    refine AW.sub (Sub.bool 16 (b := (a1 == x18)) rfl c20_) ?_
    refine AW.sub (S' := mk 19 [] [(0, .d (.sl (a0.map (cI .i64)))), (1, .i a1), (5, .i v5), (7, .i (a0.length : Int)), (8, .i v5), (16, .b false)] []) (by simp; exact Sub.table (by simp) (by simp)) ?_
    refine AW.skip ?_
    refine blockQ.normal ?_
    refine thenQ_normal ?_
    refine AW.region ?_
    replace h := bsome h; obtain ⟨v21, hv21, h⟩ := h
    have hv21 := chkI_some hv21
    refine Chain.runK [] 2 fun K hK => ?_; simp [hv21]; refine hK _ _ ?_; clear hK K
    refine Chain.sub (S' := mk 19 [] [(0, .d (.sl (a0.map (cI .i64)))), (1, .i a1), (7, .i (a0.length : Int)), (8, .i v21)] []) Sub.tt ?_
    refine Chain.nil ?_
    cases h
    refine PostI.next ?_
    exact Sub.tt
  ·have c17_ : decide (v5 < (a0.length : Int)) = false := decide_eq_false c17
   refine AW.condF (b := decide (v5 < (a0.length : Int))) rfl c17_ ?_
   refine AW.sub (Sub.bool 9 (b := decide (v5 < (a0.length : Int))) rfl c17_) ?_
   refine AW.sub (S' := mk 19 [] [(0, .d (.sl (a0.map (cI .i64)))), (1, .i a1), (7, .i (a0.length : Int)), (8, .i v5), (9, .b false)] []) (by simp; exact Sub.table (by simp) (by simp)) ?_
   refine AW.exit ?_
   cases h
   refine thenQ_pass (by simp) ?_
   refine PostI.out (by simp) ?_
   rintro rfl
   refine blockQ.hit ?_
   refine PostJ.next ?_
   exact Sub.tt
 ·rintro ⟨⟩ h
  refine thenQ_normal ?_
  refine AW.seqR ?_
  refine Chain.runK [] 1 fun K hK => ?_; simp; refine hK _ _ ?_; clear hK K
  refine Chain.sub (S' := mk 19 [] [(4, .i (-1))] []) Sub.tt ?_
  refine Chain.nil ?_
  refine AW.ret ?_
  cases h
  exact FinC.ret (by simp) (by simp)

/-- slices.Contains[[]int,int] -/
def d24 (N : Nat) (a0 : (List Int)) (a1 : Int) : Option Bool :=
 (d39 N a0 a1).bind fun r1 =>
 some (decide (r1 ≥ 0))
set_option maxRecDepth 100000 in
set_option maxHeartbeats 4000000 in
theorem p24 (N : Nat) (a0 : (List Int)) (a1 : Int) (r : Bool) (h : d24 N a0 a1 = some r) : FunC Try.prog 24 [.d (.sl (a0.map (cI .i64))), .i a1] (.b r) := by
 unfold d24 at h
 refine FunC.enter 9 [(0, .d (.sl (a0.map (cI .i64)))), (1, .i a1)] (by simp) Try.func24 rfl (of_decide_eq_true rfl) rfl rfl ?_
 refine AW.seqR ?_
 refine Chain.runK [] 1 fun K hK => ?_; simp; refine hK _ _ ?_; clear hK K
 refine Chain.sub (S' := mk 9 [] [(0, .d (.sl (a0.map (cI .i64)))), (1, .i a1)] []) Sub.tt ?_
 refine Chain.nil ?_
 refine AW.seqR ?_
 refine Chain.runK [] 2 fun K hK => ?_; simp; refine hK _ _ ?_; clear hK K
 refine Chain.sub (S' := mk 9 [] [(5, .d (.sl (a0.map (cI .i64)))), (6, .i a1)] []) Sub.tt ?_
 replace h := bsome h; obtain ⟨r1, hr1, h⟩ := h
 refine Chain.callL (d := 7) (p39 N a0 a1 r1 hr1) (by simp) rfl rfl (by simp <;> rfl) (by simp <;> rfl) ent39 (by simp <;> rfl) ?_
 refine Chain.sub (S' := mk 9 [] [(5, .d (.sl (a0.map (cI .i64)))), (6, .i a1), (7, .i r1)] []) (by simp; exact Sub.table (by simp) (by simp)) ?_
 refine Chain.runK [] 2 fun K hK => ?_; simp; refine hK _ _ ?_; clear hK K
 refine Chain.sub (S' := mk 9 [] [(4, .b (decide (r1 ≥ 0)))] []) Sub.tt ?_
 refine Chain.nil ?_
 refine AW.ret ?_
 cases h
 exact FinC.ret (by simp) (by simp)

/-- (*stemma/recovery.Engine).append -/
def d25 (_N : Nat) (a0 : S74) (a1 : S80) : Option S74 :=
 (appL 40 a0.log [a1]).bind fun _l1 =>
 if (a1.kind != 3) then (
  (idx a0.buffer a1.page).bind fun _x3 =>
  letv (setI a0.buffer a1.page (S78.mk a1.after ((a0.log ++ [a1]).length : Int))) fun l5 =>
  some (S74.mk l5 a0.disk (a0.log ++ [a1]) a0.flushed a0.lastID a0.active a0.writer)
 ) else
 some (S74.mk a0.buffer a0.disk (a0.log ++ [a1]) a0.flushed a0.lastID a0.active a0.writer)
set_option maxRecDepth 100000 in
set_option maxHeartbeats 4000000 in
theorem p25 (N : Nat) (a0 : S74) (a1 : S80) (r : S74) (h : d25 N a0 a1 = some r) : FunM Try.prog 25 [.ptr 1000 0 0, .agg [.i a1.kind, .i a1.tx, .i a1.page, .i a1.before, .i a1.after]] [(1000, some (.box [.ref 25000 0 a0.buffer.length, .ref 25001 0 a0.disk.length, .ref 25002 0 a0.log.length, .i a0.flushed, .i a0.lastID, .ref 25005 0 a0.active.length, .ref 25006 0 a0.writer.length])), (25000, R78 a0.buffer), (25001, R78 a0.disk), (25002, R80 a0.log), (25005, R3 a0.active), (25006, R3 a0.writer)] [1000] (.tup []) ([(1000, (.box [.ref 25000 0 r.buffer.length, .ref 25001 0 r.disk.length, .ref 25002 0 r.log.length, .i r.flushed, .i r.lastID, .ref 25005 0 r.active.length, .ref 25006 0 r.writer.length])), (25000, (.arr 78 2 (r.buffer.map cS78))), (25001, (.arr 78 2 (r.disk.map cS78))), (25002, (.arr 80 5 (r.log.map cS80))), (25005, (.arr 3 1 (r.active.map (cI .i64)))), (25006, (.arr 3 1 (r.writer.map (cI .i64))))]) := by
 unfold d25 at h
 refine FunM.enter 32 [(0, .ptr 1000 0 0), (1, .agg [.i a1.kind, .i a1.tx, .i a1.page, .i a1.before, .i a1.after])] Try.func25 rfl (of_decide_eq_true rfl) rfl rfl ?_
 refine AW.seqR ?_
 refine Chain.runK [] 1 fun K hK => ?_; simp; refine hK _ _ ?_; clear hK K
 refine Chain.sub (S' := mk 32 [1000] [(0, .ptr 1000 0 0), (3, .ptr 3 0 0)] [(3, some (.box [.i a1.kind, .i a1.tx, .i a1.page, .i a1.before, .i a1.after])), (1000, some (.box [.ref 25000 0 a0.buffer.length, .ref 25001 0 a0.disk.length, .ref 25002 0 a0.log.length, .i a0.flushed, .i a0.lastID, .ref 25005 0 a0.active.length, .ref 25006 0 a0.writer.length])), (25000, R78 a0.buffer), (25001, R78 a0.disk), (25002, R80 a0.log), (25005, R3 a0.active), (25006, R3 a0.writer)]) Sub.tt ?_
 refine Chain.nil ?_
 replace h := bsome h; obtain ⟨l1, hl1, h⟩ := h
 obtain ⟨hl1a, hl1⟩ := appL_some hl1
 subst hl1
 try simp only [List.length_cons, List.length_nil, Nat.zero_add] at hl1a
 refine AW.seqAnyS [[], [], [1], [1, 2], [1, 2, 3], [], [5], [1, 2, 3, 4, 5, 6], [0, 1, 2, 3, 4, 5, 6, 7], [0, 1, 2, 3, 4, 5, 6, 7, 8], [0, 1, 2, 3, 4, 5, 6, 7, 8, 9]] (fun (b : Nat → Bool) => mk 32 [1000] [(0, .ptr 1000 0 0), (3, .ptr 3 0 0), (4, (if b 0 then .ptr 1000 0 0 else .junk)), (5, (if b 1 then .ptr 1000 0 0 else .junk)), (6, (if b 2 then .ptr 1000 0 0 else .junk)), (7, (if b 3 then .ptr 1000 0 2 else .junk)), (8, (if b 7 then .junk else (if b 4 then .ref 25002 0 a0.log.length else .junk))), (9, (if b 5 then .agg [.i a1.kind, .i a1.tx, .i a1.page, .i a1.before, .i a1.after] else .junk)), (10, (if b 6 then .d (.sl ([a1].map cS80)) else .junk)), (11, (if b 7 then .ref 25002 0 ((a0.log ++ [a1]).length) else .junk)), (12, (if b 8 then .ptr 1000 0 0 else .junk)), (13, (if b 9 then .ptr 1000 0 2 else .junk))] [(3, some (.box [.i a1.kind, .i a1.tx, .i a1.page, .i a1.before, .i a1.after])), (1000, (if b 10 then some (.box [.ref 25000 0 a0.buffer.length, .ref 25001 0 a0.disk.length, .ref 25002 0 ((a0.log ++ [a1]).length), .i a0.flushed, .i a0.lastID, .ref 25005 0 a0.active.length, .ref 25006 0 a0.writer.length]) else (if b 7 then some (.box [.ref 25000 0 a0.buffer.length, .ref 25001 0 a0.disk.length, .hole, .i a0.flushed, .i a0.lastID, .ref 25005 0 a0.active.length, .ref 25006 0 a0.writer.length]) else some (.box [.ref 25000 0 a0.buffer.length, .ref 25001 0 a0.disk.length, .ref 25002 0 a0.log.length, .i a0.flushed, .i a0.lastID, .ref 25005 0 a0.active.length, .ref 25006 0 a0.writer.length])))), (25000, R78 a0.buffer), (25001, R78 a0.disk), (25002, (if b 7 then R80 (a0.log ++ [a1]) else R80 a0.log)), (25005, R3 a0.active), (25006, R3 a0.writer)]) (mk 32 [1000] [(0, .ptr 1000 0 0), (3, .ptr 3 0 0)] [(3, some (.box [.i a1.kind, .i a1.tx, .i a1.page, .i a1.before, .i a1.after])), (1000, some (.box [.ref 25000 0 a0.buffer.length, .ref 25001 0 a0.disk.length, .ref 25002 0 ((a0.log ++ [a1]).length), .i a0.flushed, .i a0.lastID, .ref 25005 0 a0.active.length, .ref 25006 0 a0.writer.length])), (25000, R78 a0.buffer), (25001, R78 a0.disk), (25002, R80 (a0.log ++ [a1])), (25005, R3 a0.active), (25006, R3 a0.writer)]) (by kernel_rfl) (by kernel_rfl) Sub.tt (Steps.cons ?_ (Steps.cons ?_ (Steps.cons ?_ (Steps.cons ?_ (Steps.cons ?_ (Steps.cons ?_ (Steps.cons ?_ (Steps.cons ?_ (Steps.cons ?_ (Steps.cons ?_ (Steps.cons ?_ (Steps.nil)))))))))))) ?_ ?_
 ·intro b h0 ha hd
  have f8 : b 8 = false := hd 8 (by decide)
  have f9 : b 9 = false := hd 9 (by decide)
  have f10 : b 10 = false := hd 10 (by decide)
  refine Chain.runK [10] 1 fun K hK => ?_; simp [h0, f8, f9, f10]; refine hK _ _ ?_; clear hK K
  exact Chain.nil (Sub.table (by simp [f8, f9]) (by simp [f10]))
 ·intro b h0 ha hd
  have f2 : b 2 = false := hd 2 (by decide)
  have f3 : b 3 = false := hd 3 (by decide)
  have f4 : b 4 = false := hd 4 (by decide)
  have f7 : b 7 = false := hd 7 (by decide)
  have f8 : b 8 = false := hd 8 (by decide)
  have f9 : b 9 = false := hd 9 (by decide)
  have f10 : b 10 = false := hd 10 (by decide)
  refine Chain.runK [10] 1 fun K hK => ?_; simp [h0, f2, f3, f4, f7, f8, f9, f10]; refine hK _ _ ?_; clear hK K
  exact Chain.nil (Sub.table (by simp [f2, f3, f4, f7, f8, f9]) (by simp [f7, f10]))
 ·intro b h0 ha hd
  have t1 : b 1 = true := ha 1 (by decide)
  have f3 : b 3 = false := hd 3 (by decide)
  have f4 : b 4 = false := hd 4 (by decide)
  have f7 : b 7 = false := hd 7 (by decide)
  have f8 : b 8 = false := hd 8 (by decide)
  have f9 : b 9 = false := hd 9 (by decide)
  have f10 : b 10 = false := hd 10 (by decide)
  refine Chain.runK [10] 1 fun K hK => ?_; simp [h0, t1, f3, f4, f7, f8, f9, f10]; refine hK _ _ ?_; clear hK K
  exact Chain.nil (Sub.table (by simp [t1, f3, f4, f7, f8, f9]) (by simp [f7, f10]))
 ·intro b h0 ha hd
  have t1 : b 1 = true := ha 1 (by decide)
  have t2 : b 2 = true := ha 2 (by decide)
  have f4 : b 4 = false := hd 4 (by decide)
  have f7 : b 7 = false := hd 7 (by decide)
  have f8 : b 8 = false := hd 8 (by decide)
  have f9 : b 9 = false := hd 9 (by decide)
  have f10 : b 10 = false := hd 10 (by decide)
  refine Chain.runK [10] 1 fun K hK => ?_; simp [h0, t1, t2, f4, f7, f8, f9, f10]; refine hK _ _ ?_; clear hK K
  exact Chain.nil (Sub.table (by simp [t1, t2, f4, f7, f8, f9]) (by simp [f7, f10]))
 ·intro b h0 ha hd
  have t1 : b 1 = true := ha 1 (by decide)
  have t2 : b 2 = true := ha 2 (by decide)
  have t3 : b 3 = true := ha 3 (by decide)
  have f7 : b 7 = false := hd 7 (by decide)
  have f8 : b 8 = false := hd 8 (by decide)
  have f9 : b 9 = false := hd 9 (by decide)
  have f10 : b 10 = false := hd 10 (by decide)
  refine Chain.runK [10] 1 fun K hK => ?_; simp [h0, t1, t2, t3, f7, f8, f9, f10]; refine hK _ _ ?_; clear hK K
  exact Chain.nil (Sub.table (by simp [t1, t2, t3, f7, f8, f9]) (by simp [f7, f10]))
 ·intro b h0 ha hd
  have f6 : b 6 = false := hd 6 (by decide)
  have f7 : b 7 = false := hd 7 (by decide)
  have f8 : b 8 = false := hd 8 (by decide)
  have f9 : b 9 = false := hd 9 (by decide)
  have f10 : b 10 = false := hd 10 (by decide)
  refine Chain.runK [10] 1 fun K hK => ?_; simp [h0, f6, f7, f8, f9, f10]; refine hK _ _ ?_; clear hK K
  exact Chain.nil (Sub.table (by simp [f6, f7, f8, f9]) (by simp [f7, f10]))
 ·intro b h0 ha hd
  have t5 : b 5 = true := ha 5 (by decide)
  have f7 : b 7 = false := hd 7 (by decide)
  have f8 : b 8 = false := hd 8 (by decide)
  have f9 : b 9 = false := hd 9 (by decide)
  have f10 : b 10 = false := hd 10 (by decide)
  refine Chain.runK [10] 1 fun K hK => ?_; simp [h0, t5, f7, f8, f9, f10]; refine hK _ _ ?_; clear hK K
  exact Chain.nil (Sub.table (by simp [t5, f7, f8, f9]) (by simp [f7, f10]))
 ·intro b h0 ha hd
  have t1 : b 1 = true := ha 1 (by decide)
  have t2 : b 2 = true := ha 2 (by decide)
  have t3 : b 3 = true := ha 3 (by decide)
  have t4 : b 4 = true := ha 4 (by decide)
  have t5 : b 5 = true := ha 5 (by decide)
  have t6 : b 6 = true := ha 6 (by decide)
  have f8 : b 8 = false := hd 8 (by decide)
  have f9 : b 9 = false := hd 9 (by decide)
  have f10 : b 10 = false := hd 10 (by decide)
  refine Chain.runK [10] 1 fun K hK => ?_; simp [h0, t1, t2, t3, t4, t5, t6, f8, f9, f10, hl1a]; refine hK _ _ ?_; clear hK K
  exact Chain.nil (Sub.table (by simp [t1, t2, t3, t5, t6, f8, f9]) (by simp [f10]))
 ·intro b h0 ha hd
  have t0 : b 0 = true := ha 0 (by decide)
  have t1 : b 1 = true := ha 1 (by decide)
  have t2 : b 2 = true := ha 2 (by decide)
  have t3 : b 3 = true := ha 3 (by decide)
  have t4 : b 4 = true := ha 4 (by decide)
  have t5 : b 5 = true := ha 5 (by decide)
  have t6 : b 6 = true := ha 6 (by decide)
  have t7 : b 7 = true := ha 7 (by decide)
  have f9 : b 9 = false := hd 9 (by decide)
  have f10 : b 10 = false := hd 10 (by decide)
  refine Chain.runK [10] 1 fun K hK => ?_; simp [h0, t0, t1, t2, t3, t5, t6, t7, f9, f10]; refine hK _ _ ?_; clear hK K
  exact Chain.nil (Sub.table (by simp [t0, t1, t2, t3, t5, t6, t7, f9]) (by simp [t7, f10]))
 ·intro b h0 ha hd
  have t0 : b 0 = true := ha 0 (by decide)
  have t1 : b 1 = true := ha 1 (by decide)
  have t2 : b 2 = true := ha 2 (by decide)
  have t3 : b 3 = true := ha 3 (by decide)
  have t4 : b 4 = true := ha 4 (by decide)
  have t5 : b 5 = true := ha 5 (by decide)
  have t6 : b 6 = true := ha 6 (by decide)
  have t7 : b 7 = true := ha 7 (by decide)
  have t8 : b 8 = true := ha 8 (by decide)
  have f10 : b 10 = false := hd 10 (by decide)
  refine Chain.runK [10] 1 fun K hK => ?_; simp [h0, t0, t1, t2, t3, t5, t6, t7, t8, f10]; refine hK _ _ ?_; clear hK K
  exact Chain.nil (Sub.table (by simp [t0, t1, t2, t3, t5, t6, t7, t8]) (by simp [t7, f10]))
 ·intro b h0 ha hd
  have t0 : b 0 = true := ha 0 (by decide)
  have t1 : b 1 = true := ha 1 (by decide)
  have t2 : b 2 = true := ha 2 (by decide)
  have t3 : b 3 = true := ha 3 (by decide)
  have t4 : b 4 = true := ha 4 (by decide)
  have t5 : b 5 = true := ha 5 (by decide)
  have t6 : b 6 = true := ha 6 (by decide)
  have t7 : b 7 = true := ha 7 (by decide)
  have t8 : b 8 = true := ha 8 (by decide)
  have t9 : b 9 = true := ha 9 (by decide)
  refine Chain.runK [10] 1 fun K hK => ?_; simp [h0, t0, t1, t2, t3, t5, t6, t7, t8, t9]; refine hK _ _ ?_; clear hK K
  exact Chain.nil (Sub.table (by simp [t0, t1, t2, t3, t5, t6, t7, t8, t9]) (by simp [t7]))
 ·intro b hb
  have t0 := hb 0 (by decide)
  have t1 := hb 1 (by decide)
  have t2 := hb 2 (by decide)
  have t3 := hb 3 (by decide)
  have t4 := hb 4 (by decide)
  have t5 := hb 5 (by decide)
  have t6 := hb 6 (by decide)
  have t7 := hb 7 (by decide)
  have t8 := hb 8 (by decide)
  have t9 := hb 9 (by decide)
  have t10 := hb 10 (by decide)
  exact Sub.table (by simp [t0, t1, t2, t3, t5, t6, t7, t8, t9]) (by simp [t7, t10])
 ·skip
  refine AW.seqR ?_
  refine Chain.runK [] 3 fun K hK => ?_; simp; refine hK _ _ ?_; clear hK K
  refine Chain.sub (S' := mk 32 [1000] [(0, .ptr 1000 0 0), (3, .ptr 3 0 0), (16, .b (a1.kind != 3))] [(3, some (.box [.i a1.kind, .i a1.tx, .i a1.page, .i a1.before, .i a1.after])), (1000, some (.box [.ref 25000 0 a0.buffer.length, .ref 25001 0 a0.disk.length, .ref 25002 0 ((a0.log ++ [a1]).length), .i a0.flushed, .i a0.lastID, .ref 25005 0 a0.active.length, .ref 25006 0 a0.writer.length])), (25000, R78 a0.buffer), (25001, R78 a0.disk), (25002, R80 (a0.log ++ [a1])), (25005, R3 a0.active), (25006, R3 a0.writer)]) Sub.tt ?_
  refine Chain.nil ?_
  replace h := isome h; rcases h with ⟨c2, h⟩ | ⟨c2, h⟩
  ·have c2_ : (a1.kind != 3) = true := c2
   refine AW.condT (b := (a1.kind != 3)) rfl c2_ ?_
   refine AW.sub (Sub.bool 16 (b := (a1.kind != 3)) rfl c2_) ?_
   refine AW.sub (S' := mk 32 [1000] [(0, .ptr 1000 0 0), (3, .ptr 3 0 0), (16, .b true)] [(3, some (.box [.i a1.kind, .i a1.tx, .i a1.page, .i a1.before, .i a1.after])), (1000, some (.box [.ref 25000 0 a0.buffer.length, .ref 25001 0 a0.disk.length, .ref 25002 0 ((a0.log ++ [a1]).length), .i a0.flushed, .i a0.lastID, .ref 25005 0 a0.active.length, .ref 25006 0 a0.writer.length])), (25000, R78 a0.buffer), (25001, R78 a0.disk), (25002, R80 (a0.log ++ [a1])), (25005, R3 a0.active), (25006, R3 a0.writer)]) (by simp; exact Sub.table (by simp) (by simp)) ?_
   replace h := bsome h; obtain ⟨x3, hx3, h⟩ := h
   obtain ⟨k4, hx3k, hx3, hx3a, hx3b⟩ := idx_some hx3
   refine AW.regionT 15 (by kernel_rfl) (by kernel_rfl) fun K hK => ?_; simp [hx3k, hx3a, hx3b]; refine hK _ _ ?_; clear hK K
   refine Chain.sub (S' := mk 32 [1000] [(30, .agg [.i a1.after, .i ((a0.log ++ [a1]).length : Int)]), (31, .ptr 25000 k4 0)] [(1000, some (.box [.ref 25000 0 a0.buffer.length, .ref 25001 0 a0.disk.length, .ref 25002 0 ((a0.log ++ [a1]).length), .i a0.flushed, .i a0.lastID, .ref 25005 0 a0.active.length, .ref 25006 0 a0.writer.length])), (25000, R78 a0.buffer), (25001, R78 a0.disk), (25002, R80 (a0.log ++ [a1])), (25005, R3 a0.active), (25006, R3 a0.writer)]) Sub.tt ?_
   replace h := lsome h; obtain ⟨l5, gl5, h⟩ := h
   obtain ⟨hl5, hl5n⟩ := setI_some cS78 gl5 hx3k
   replace hl5 : (a0.buffer.map cS78).set k4 [.lit (.int .i64 a1.after), .lit (.int .i64 ((a0.log ++ [a1]).length : Int))] = l5.map cS78 := hl5
   clear gl5
   simp only [List.length_append, List.length_cons, List.length_nil, Nat.zero_add, Int.natCast_add, Int.cast_ofNat_Int] at hl5
   refine Chain.runK [] 1 fun K hK => ?_; simp [hx3, hl5]; refine hK _ _ ?_; clear hK K
   refine Chain.sub (S' := mk 32 [1000] [] [(1000, some (.box [.ref 25000 0 l5.length, .ref 25001 0 a0.disk.length, .ref 25002 0 ((a0.log ++ [a1]).length), .i a0.flushed, .i a0.lastID, .ref 25005 0 a0.active.length, .ref 25006 0 a0.writer.length])), (25000, R78 l5), (25001, R78 a0.disk), (25002, R80 (a0.log ++ [a1])), (25005, R3 a0.active), (25006, R3 a0.writer)]) (Sub.table (by simp) (by simp [hl5n])) ?_
   refine Chain.nil ?_
   cases h
   exact FinF.normal (by simp) (by simp)
  ·have c2_ : (a1.kind != 3) = false := Bool.eq_false_iff.2 c2
   refine AW.condF (b := (a1.kind != 3)) rfl c2_ ?_
   refine AW.sub (Sub.bool 16 (b := (a1.kind != 3)) rfl c2_) ?_
   refine AW.sub (S' := mk 32 [1000] [(0, .ptr 1000 0 0), (3, .ptr 3 0 0), (16, .b false)] [(3, some (.box [.i a1.kind, .i a1.tx, .i a1.page, .i a1.before, .i a1.after])), (1000, some (.box [.ref 25000 0 a0.buffer.length, .ref 25001 0 a0.disk.length, .ref 25002 0 ((a0.log ++ [a1]).length), .i a0.flushed, .i a0.lastID, .ref 25005 0 a0.active.length, .ref 25006 0 a0.writer.length])), (25000, R78 a0.buffer), (25001, R78 a0.disk), (25002, R80 (a0.log ++ [a1])), (25005, R3 a0.active), (25006, R3 a0.writer)]) (by simp; exact Sub.table (by simp) (by simp)) ?_
   refine AW.skip ?_
   cases h
   exact FinF.normal (by simp) (by simp)

end Go.Proofs.Ytiikoldaocnilaa
