/- Functions of the program as functional programs; the code computes them. -/
import Derived.Test.YtifcmomjjkbboaaSc3
namespace Go.Proofs.Ytifcmomjjkbboaa
open Go.Ab Go.Rp
attribute [-simp] List.all_eq_true Array.all_toList Array.all_eq_true

/-- stemma/interleaving.Schedules -/
def d9 (N : Nat) (a0 : (List (List S27))) : Option ((List (List S27)) × Int) :=
 (d10 N a0).bind fun r1 =>
 if (r1 != 0) then (
  some (([] : List (List S27)), r1)
 ) else
 (mkL 8 (a0.length : Int) (0 : Int)).bind fun l3 =>
 (mkL 1 (a0.length : Int) (false : Bool)).bind fun l4 =>
 (d16 N (S49.mk a0 ([] : List (List S27))) l3 l4 ([] : List S27)).bind fun r5 =>
 some (r5.schedules, 0)
set_option maxRecDepth 100000 in
set_option maxHeartbeats 4000000 in
theorem p9 (N : Nat) (a0 : (List (List S27))) (r : ((List (List S27)) × Int)) (h : d9 N a0 = some r) : FunC Try.prog 9 [.d (.sl (a0.map (cL cS27)))] (.tup [.d (.sl (r.1.map (cL cS27))), .i r.2]) := by
 unfold d9 at h
 refine FunC.enter 26 [(0, .d (.sl (a0.map (cL cS27))))] (by simp) Try.func9 rfl (of_decide_eq_true rfl) rfl rfl ?_
 refine AW.seqR ?_
 refine Chain.runK [] 2 fun K hK => ?_; simp; refine hK _ _ ?_; clear hK K
 refine Chain.sub (S' := mk 26 [] [(0, .d (.sl (a0.map (cL cS27))))] []) Sub.tt ?_
 refine Chain.nil ?_
 refine AW.seq ?_
 refine AW.seqR ?_
 refine Chain.runK [] 1 fun K hK => ?_; simp; refine hK _ _ ?_; clear hK K
 refine Chain.sub (S' := mk 26 [] [(0, .d (.sl (a0.map (cL cS27)))), (6, .d (.sl (a0.map (cL cS27))))] []) Sub.tt ?_
 replace h := bsome h; obtain ⟨r1, hr1, h⟩ := h
 refine Chain.callL (d := 7) (p10 N a0 r1 hr1) (by simp) rfl rfl (by simp <;> rfl) (by simp <;> rfl) ent10 (by simp <;> rfl) ?_
 refine Chain.sub (S' := mk 26 [] [(0, .d (.sl (a0.map (cL cS27)))), (6, .d (.sl (a0.map (cL cS27)))), (7, .i r1)] []) (by simp; exact Sub.table (by simp) (by simp)) ?_
 refine Chain.runK [] 1 fun K hK => ?_; simp; refine hK _ _ ?_; clear hK K
 refine Chain.sub (S' := mk 26 [] [(0, .d (.sl (a0.map (cL cS27)))), (4, .i r1)] []) Sub.tt ?_
 refine Chain.nil ?_
 refine AW.seqR ?_
 refine Chain.runK [] 2 fun K hK => ?_; simp; refine hK _ _ ?_; clear hK K
 refine Chain.sub (S' := mk 26 [] [(0, .d (.sl (a0.map (cL cS27)))), (4, .i r1), (9, .b (r1 != 0))] []) Sub.tt ?_
 refine Chain.nil ?_
 replace h := isome h; rcases h with ⟨c2, h⟩ | ⟨c2, h⟩
 ·have c2_ : (r1 != 0) = true := c2
  refine AW.condT (b := (r1 != 0)) rfl c2_ ?_
  refine AW.sub (Sub.bool 9 (b := (r1 != 0)) rfl c2_) ?_
  refine AW.sub (S' := mk 26 [] [(0, .d (.sl (a0.map (cL cS27)))), (4, .i r1), (9, .b true)] []) (by simp; exact Sub.table (by simp) (by simp)) ?_
  refine AW.seqR ?_
  refine Chain.runK [] 3 fun K hK => ?_; simp; refine hK _ _ ?_; clear hK K
  refine Chain.sub (S' := mk 26 [] [(2, .d (.lit (.slice none 0 0))), (3, .i r1)] []) Sub.tt ?_
  refine Chain.nil ?_
  refine AW.sub (Sub.wk 2 rfl) ?_
  refine AW.sub (S' := mk 26 [] [(2, .d (.sl (([] : List (List S27)).map (cL cS27)))), (3, .i r1)] []) (by simp; exact Sub.table (by simp) (by simp)) ?_
  refine AW.ret ?_
  cases h
  refine thenQ_pass (by simp) ?_
  exact FinC.ret (by simp) (by simp)
 ·have c2_ : (r1 != 0) = false := Bool.eq_false_iff.2 c2
  refine AW.condF (b := (r1 != 0)) rfl c2_ ?_
  refine AW.sub (Sub.bool 9 (b := (r1 != 0)) rfl c2_) ?_
  refine AW.sub (S' := mk 26 [] [(0, .d (.sl (a0.map (cL cS27)))), (4, .i r1), (9, .b false)] []) (by simp; exact Sub.table (by simp) (by simp)) ?_
  refine AW.skip ?_
  refine thenQ_normal ?_
  refine AW.seqR ?_
  refine Chain.runK [] 3 fun K hK => ?_; simp; refine hK _ _ ?_; clear hK K
  refine Chain.sub (S' := mk 26 [] [(0, .d (.sl (a0.map (cL cS27)))), (13, .ptr 13 0 0)] [(13, some (.box [.d (.sl (a0.map (cL cS27))), .d (.lit (.slice none 0 0))]))]) Sub.tt ?_
  refine Chain.sub (Sub.nilOwnBox (bid := 13) (j := 1) (id := 5261) (T := 28) (n := 1) rfl rfl (by decide) rfl (by decide)) ?_
  refine Chain.sub (S' := mk 26 [] [(0, .d (.sl (a0.map (cL cS27)))), (13, .ptr 13 0 0)] [(13, some (.box [.d (.sl (a0.map (cL cS27))), .ref 5261 0 (([] : List (List S27)).length)])), (5261, R28 ([] : List (List S27)))]) (by simp; exact Sub.table (by simp) (by simp)) ?_
  refine Chain.runK [] 1 fun K hK => ?_; simp; refine hK _ _ ?_; clear hK K
  refine Chain.sub (S' := mk 26 [] [(0, .d (.sl (a0.map (cL cS27)))), (5, .ptr 13 0 0)] [(13, some (.box [.d (.sl (a0.map (cL cS27))), .ref 5261 0 (([] : List (List S27)).length)])), (5261, R28 ([] : List (List S27)))]) Sub.tt ?_
  refine Chain.nil ?_
  replace h := bsome h; obtain ⟨l3, gl3, h⟩ := h
  obtain ⟨hl3a, hl3b, hl3c, hl3d⟩ := mkL_some (cI .i64) gl3
  clear gl3
  replace hl3c : List.replicate l3.length [.lit (.int .i64 0)] = l3.map (cI .i64) := hl3c
  replace h := bsome h; obtain ⟨l4, gl4, h⟩ := h
  obtain ⟨hl4a, hl4b, hl4c, hl4d⟩ := mkL_some cB gl4
  clear gl4
  replace hl4c : List.replicate l4.length [.lit (.bool false)] = l4.map cB := hl4c
  simp only [Nat.mul_one] at hl4b
  replace h := bsome h; obtain ⟨r5, hr5, h⟩ := h
  refine AW.seqAnyS [[], [], [1], [1, 2], [], [4], [4, 5], [0, 1, 2, 3, 4, 5, 6]] (fun (b : Nat → Bool) => mk 26 [] [(0, .d (.sl (a0.map (cL cS27)))), (5, .ptr 13 0 0), (14, (if b 0 then .ptr 13 0 0 else .junk)), (15, (if b 1 then .d (.sl (a0.map (cL cS27))) else .junk)), (16, (if b 2 then .i (a0.length : Int) else .junk)), (17, (if b 7 then .d (.sl (l3.map (cI .i64))) else (if b 3 then .ref 17 0 l3.length else .junk))), (18, (if b 4 then .d (.sl (a0.map (cL cS27))) else .junk)), (19, (if b 5 then .i (a0.length : Int) else .junk)), (20, (if b 7 then .d (.sl (l4.map cB)) else (if b 6 then .ref 20 0 l4.length else .junk))), (21, (if b 7 then .tup [] else .junk))] [(13, (if b 7 then some (.box [.d (.sl (r5.txs.map (cL cS27))), .ref 5261 0 r5.schedules.length]) else some (.box [.d (.sl (a0.map (cL cS27))), .ref 5261 0 (([] : List (List S27)).length)]))), (17, (if b 7 then none else (if b 3 then R3 l3 else none))), (20, (if b 7 then none else (if b 6 then R4 l4 else none))), (5261, (if b 7 then R28 r5.schedules else R28 ([] : List (List S27))))]) (mk 26 [] [(5, .ptr 13 0 0)] [(13, some (.box [.d (.sl (r5.txs.map (cL cS27))), .ref 5261 0 r5.schedules.length])), (5261, R28 r5.schedules)]) (by kernel_rfl) (by kernel_rfl) Sub.tt (Steps.cons ?_ (Steps.cons ?_ (Steps.cons ?_ (Steps.cons ?_ (Steps.cons ?_ (Steps.cons ?_ (Steps.cons ?_ (Steps.cons ?_ (Steps.nil))))))))) ?_ ?_
  ·intro b h0 ha hd
   have f7 : b 7 = false := hd 7 (by decide)
   refine Chain.runK [] 1 fun K hK => ?_; simp [h0, f7]; refine hK _ _ ?_; clear hK K
   exact Chain.nil (Sub.table (by simp [f7]) (by simp [f7]))
  ·intro b h0 ha hd
   have f2 : b 2 = false := hd 2 (by decide)
   have f3 : b 3 = false := hd 3 (by decide)
   have f7 : b 7 = false := hd 7 (by decide)
   refine Chain.runK [] 1 fun K hK => ?_; simp [h0, f2, f3, f7]; refine hK _ _ ?_; clear hK K
   exact Chain.nil (Sub.table (by simp [f2, f3, f7]) (by simp [f3, f7]))
  ·intro b h0 ha hd
   have t1 : b 1 = true := ha 1 (by decide)
   have f3 : b 3 = false := hd 3 (by decide)
   have f7 : b 7 = false := hd 7 (by decide)
   refine Chain.runK [] 1 fun K hK => ?_; simp [h0, t1, f3, f7]; refine hK _ _ ?_; clear hK K
   exact Chain.nil (Sub.table (by simp [t1, f3, f7]) (by simp [f3, f7]))
  ·intro b h0 ha hd
   have t1 : b 1 = true := ha 1 (by decide)
   have t2 : b 2 = true := ha 2 (by decide)
   have f7 : b 7 = false := hd 7 (by decide)
   cases q6 : b 6 <;> (refine Chain.runK [] 1 fun K hK => ?_; simp [h0, t1, t2, f7, hl3a, hl3b, hl3c, hl3d]; refine hK _ _ ?_; clear hK K; exact Chain.nil (Sub.table (by simp [t1, t2, f7, q6]) (by simp [f7, q6])))
  ·intro b h0 ha hd
   have f5 : b 5 = false := hd 5 (by decide)
   have f6 : b 6 = false := hd 6 (by decide)
   have f7 : b 7 = false := hd 7 (by decide)
   refine Chain.runK [] 1 fun K hK => ?_; simp [h0, f5, f6, f7]; refine hK _ _ ?_; clear hK K
   exact Chain.nil (Sub.table (by simp [f5, f6, f7]) (by simp [f6, f7]))
  ·intro b h0 ha hd
   have t4 : b 4 = true := ha 4 (by decide)
   have f6 : b 6 = false := hd 6 (by decide)
   have f7 : b 7 = false := hd 7 (by decide)
   refine Chain.runK [] 1 fun K hK => ?_; simp [h0, t4, f6, f7]; refine hK _ _ ?_; clear hK K
   exact Chain.nil (Sub.table (by simp [t4, f6, f7]) (by simp [f6, f7]))
  ·intro b h0 ha hd
   have t4 : b 4 = true := ha 4 (by decide)
   have t5 : b 5 = true := ha 5 (by decide)
   have f7 : b 7 = false := hd 7 (by decide)
   cases q3 : b 3 <;> (refine Chain.runK [] 1 fun K hK => ?_; simp [h0, t4, t5, f7, hl4a, hl4b, hl4c, hl4d]; refine hK _ _ ?_; clear hK K; exact Chain.nil (Sub.table (by simp [t4, t5, f7, q3]) (by simp [f7, q3])))
  ·intro b h0 ha hd
   have t0 : b 0 = true := ha 0 (by decide)
   have t1 : b 1 = true := ha 1 (by decide)
   have t2 : b 2 = true := ha 2 (by decide)
   have t3 : b 3 = true := ha 3 (by decide)
   have t4 : b 4 = true := ha 4 (by decide)
   have t5 : b 5 = true := ha 5 (by decide)
   have t6 : b 6 = true := ha 6 (by decide)
   simp only [h0, t0, t1, t2, t3, t4, t5, t6, if_true, if_false, Bool.false_eq_true]
   refine Chain.sub (Sub.freeze 17 rfl) ?_
   refine Chain.sub (S' := mk 26 [] [(0, .d (.sl (a0.map (cL cS27)))), (5, .ptr 13 0 0), (14, .ptr 13 0 0), (15, .d (.sl (a0.map (cL cS27)))), (16, .i (a0.length : Int)), (17, .d (.sl (l3.map (cI .i64)))), (18, .d (.sl (a0.map (cL cS27)))), (19, .i (a0.length : Int)), (20, .ref 20 0 l4.length)] [(13, some (.box [.d (.sl (a0.map (cL cS27))), .ref 5261 0 (([] : List (List S27)).length)])), (20, R4 l4), (5261, R28 ([] : List (List S27)))]) (by simp; exact Sub.table (by simp) (by simp)) ?_
   refine Chain.sub (Sub.freeze 20 rfl) ?_
   refine Chain.sub (S' := mk 26 [] [(0, .d (.sl (a0.map (cL cS27)))), (5, .ptr 13 0 0), (14, .ptr 13 0 0), (15, .d (.sl (a0.map (cL cS27)))), (16, .i (a0.length : Int)), (17, .d (.sl (l3.map (cI .i64)))), (18, .d (.sl (a0.map (cL cS27)))), (19, .i (a0.length : Int)), (20, .d (.sl (l4.map cB)))] [(13, some (.box [.d (.sl (a0.map (cL cS27))), .ref 5261 0 (([] : List (List S27)).length)])), (5261, R28 ([] : List (List S27)))]) (by simp; exact Sub.table (by simp) (by simp)) ?_
   refine Chain.callF (FunM.args (args := [.ptr 1000 0 0, .d (.sl (l3.map (cI .i64))), .d (.sl (l4.map cB)), .d (.lit (.slice none 0 0))]) (p16 N (S49.mk a0 ([] : List (List S27))) l3 l4 ([] : List S27) r5 hr5) (by simp)) [(13, 1000), (5261, 25001)] [13] [(1000, 13), (25001, 5261)] [(13, (.box [.d (.sl (r5.txs.map (cL cS27))), .ref 5261 0 r5.schedules.length])), (5261, (.arr 28 1 (r5.schedules.map (cL cS27))))] (.tup []) (by simp) rfl (by simp <;> rfl) (by simp) (by simp) (by simp) (by simp) (by simp) ent16 (by simp) (by simp) (by simp) (by simp) (by simp) (by simp) ?_
   exact Chain.nil (by simp [t0, t1, t2, t4, t5]; exact Sub.table (by simp) (by simp))
  ·intro b hb
   have t0 := hb 0 (by decide)
   have t1 := hb 1 (by decide)
   have t2 := hb 2 (by decide)
   have t3 := hb 3 (by decide)
   have t4 := hb 4 (by decide)
   have t5 := hb 5 (by decide)
   have t6 := hb 6 (by decide)
   have t7 := hb 7 (by decide)
   exact Sub.table (by simp [t0, t1, t2, t4, t5, t7]) (by simp [t7])
  ·skip
   refine AW.seqR ?_
   refine Chain.runK [] 6 fun K hK => ?_; simp; refine hK _ _ ?_; clear hK K
   refine Chain.sub (S' := mk 26 [] [(2, .ref 5261 0 r5.schedules.length), (3, .i 0)] [(5261, R28 r5.schedules)]) Sub.tt ?_
   refine Chain.nil ?_
   refine AW.sub (Sub.freeze 5261 rfl) ?_
   refine AW.sub (S' := mk 26 [] [(2, .d (.sl (r5.schedules.map (cL cS27)))), (3, .i 0)] []) (by simp; exact Sub.table (by simp) (by simp)) ?_
   refine AW.ret ?_
   cases h
   exact FinC.ret (by simp) (by simp)

/-- stemma/serializability.conflicts -/
def d28 (N : Nat) (a0 : (List S27)) : Option (List Bool) :=
 Option.bind (α := List Bool) (
  iterN (σ := ((List Bool) × Int)) (ρ := List Bool) (fun ((l50, v51) : ((List Bool) × Int)) =>
   if v51 < (a0.length : Int) then (
    (idx a0 v51).bind fun x156 =>
    (natI v51 a0.length).bind fun n158 =>
    letv (a0.take n158) fun l159 =>
    Option.bind (α := List Bool) (
     iterN (σ := ((List Bool) × Int)) (ρ := List Bool) (fun ((l169, v170) : ((List Bool) × Int)) =>
      if v170 < (l159.length : Int) then (
       (idx l159 v170).bind fun x195 =>
       (d40 N x195 x156).bind fun r197 =>
       if r197 = true then (
        (arrI x195.Tx 20).bind fun k199 =>
        (arrI x156.Tx 20).bind fun k200 =>
        (setN l169 (k199 * 20 + k200) true).bind fun l201 =>
        (chkI (v170 + 1)).bind fun v202 =>
        some (.inl (l201, v202))
       ) else
       (chkI (v170 + 1)).bind fun v203 =>
       some (.inl (l169, v203))
      ) else
      some (.inr l169)
     ) N (l50, 0)
    ) fun (l193 : List Bool) =>
    (chkI ((n158 : Int) + 1)).bind fun v204 =>
    some (.inl (l193, v204))
   ) else
   some (.inr l50)
  ) N ((List.replicate 400 false), 0)
 ) fun (l154 : List Bool) =>
 (lenL 400 l154).bind fun _ =>
 (lenL 400 (List.replicate 400 false)).bind fun _ =>
 some l154
set_option maxRecDepth 100000 in
set_option maxHeartbeats 4000000 in
theorem p28 (N : Nat) (a0 : (List S27)) (r : (List Bool)) (h : d28 N a0 = some r) : FunC Try.prog 28 [.d (.sl (a0.map cS27))] (.agg (r.map vB)) := by
 unfold d28 at h
 refine FunC.enter 35 [(0, .d (.sl (a0.map cS27)))] (by simp) Try.func28 rfl (of_decide_eq_true rfl) rfl rfl ?_
 refine AW.seqR ?_
 refine Chain.runK [] 1 fun K hK => ?_; simp; refine hK _ _ ?_; clear hK K
 refine Chain.sub (S' := mk 35 [] [(0, .d (.sl (a0.map cS27))), (2, .ptr 2 0 0)] [(2, some (.box ((List.replicate 400 false).map vB)))]) Sub.tt ?_
 refine Chain.nil ?_
 refine AW.seqR ?_
 refine Chain.runK [] 1 fun K hK => ?_; simp; refine hK _ _ ?_; clear hK K
 refine Chain.sub (S' := mk 35 [] [(0, .d (.sl (a0.map cS27))), (2, .ptr 2 0 0), (3, .ptr 3 0 0)] [(2, some (.box ((List.replicate 400 false).map vB))), (3, some (.box ((List.replicate 400 false).map vB)))]) Sub.tt ?_
 refine Chain.nil ?_
 refine AW.seq ?_
 refine AW.seqR ?_
 refine Chain.runK [] 3 fun K hK => ?_; simp; refine hK _ _ ?_; clear hK K
 refine Chain.sub (S' := mk 35 [] [(0, .d (.sl (a0.map cS27))), (2, .ptr 2 0 0), (3, .ptr 3 0 0), (8, .d (.sl (a0.map cS27))), (9, .i (a0.length : Int)), (10, .i 0)] [(2, some (.box ((List.replicate 400 false).map vB))), (3, some (.box ((List.replicate 400 false).map vB)))]) Sub.tt ?_
 refine Chain.nil ?_
 refine AW.lastN (fun (l154 : List Bool) => mk 35 [] [(2, .ptr 2 0 0), (3, .ptr 3 0 0)] [(2, some (.box ((List.replicate 400 false).map vB))), (3, some (.box (l154.map vB)))]) h ?_ ?_ <;> clear h
 ·intro o h
  refine AW.block ?_
  refine AW.iter (fun ((l50, v51) : ((List Bool) × Int)) => mk 35 [] [(0, .d (.sl (a0.map cS27))), (2, .ptr 2 0 0), (3, .ptr 3 0 0), (8, .d (.sl (a0.map cS27))), (9, .i (a0.length : Int)), (10, .i v51)] [(2, some (.box ((List.replicate 400 false).map vB))), (3, some (.box (l50.map vB)))]) h Sub.tt ?_
  clear h
  rintro ⟨l50, v51⟩ x h
  dsimp only at h ⊢
  refine AW.seqR ?_
  refine Chain.runK [] 1 fun K hK => ?_; simp; refine hK _ _ ?_; clear hK K
  refine Chain.sub (S' := mk 35 [] [(0, .d (.sl (a0.map cS27))), (2, .ptr 2 0 0), (3, .ptr 3 0 0), (8, .d (.sl (a0.map cS27))), (9, .i (a0.length : Int)), (10, .i v51), (11, .b (decide (v51 < (a0.length : Int))))] [(2, some (.box ((List.replicate 400 false).map vB))), (3, some (.box (l50.map vB)))]) Sub.tt ?_
  refine Chain.nil ?_
  refine AW.seq ?_
  replace h := isome h; rcases h with ⟨c155, h⟩ | ⟨c155, h⟩
  ·have c155_ : decide (v51 < (a0.length : Int)) = true := decide_eq_true c155
   refine AW.condT (b := decide (v51 < (a0.length : Int))) rfl c155_ ?_
   refine AW.sub (Sub.bool 11 (b := decide (v51 < (a0.length : Int))) rfl c155_) ?_
   refine AW.sub (S' := mk 35 [] [(0, .d (.sl (a0.map cS27))), (2, .ptr 2 0 0), (3, .ptr 3 0 0), (8, .d (.sl (a0.map cS27))), (9, .i (a0.length : Int)), (10, .i v51), (11, .b true)] [(2, some (.box ((List.replicate 400 false).map vB))), (3, some (.box (l50.map vB)))]) (by simp; exact Sub.table (by simp) (by simp)) ?_
   refine AW.skip ?_
   refine thenQ_normal ?_
   refine AW.seq ?_
   refine AW.block ?_
   refine AW.seqR ?_
   replace h := bsome h; obtain ⟨x156, hx156, h⟩ := h
   obtain ⟨k157, hx156k, hx156, hx156a, hx156b⟩ := idx_some hx156
   refine Chain.runK [] 6 fun K hK => ?_; simp [hx156, hx156k, hx156a]; refine hK _ _ ?_; clear hK K
   refine Chain.sub (S' := mk 35 [] [(0, .d (.sl (a0.map cS27))), (2, .ptr 2 0 0), (3, .ptr 3 0 0), (4, .i v51), (5, .ptr 5 0 0), (8, .d (.sl (a0.map cS27))), (9, .i (a0.length : Int)), (10, .i v51)] [(2, some (.box ((List.replicate 400 false).map vB))), (3, some (.box (l50.map vB))), (5, some (.box [.i x156.Tx, .i x156.Kind, .d (.lit (.string x156.Key))]))]) Sub.tt ?_
   refine Chain.nil ?_
   refine AW.seqR ?_
   replace h := bsome h; obtain ⟨n158, gn158, h⟩ := h
   obtain ⟨hn158a, hn158⟩ := natI_some gn158
   clear gn158
   subst hn158a
   replace h := lsome h; obtain ⟨l159, gl159, h⟩ := h
   have hl159 : ((a0.map cS27).take n158) = l159.map cS27 := by rw [← gl159]; simp
   clear gl159
   refine Chain.runK [] 5 fun K hK => ?_; simp [hn158, hl159]; refine hK _ _ ?_; clear hK K
   refine Chain.sub (S' := mk 35 [] [(0, .d (.sl (a0.map cS27))), (2, .ptr 2 0 0), (3, .ptr 3 0 0), (5, .ptr 5 0 0), (8, .d (.sl (a0.map cS27))), (9, .i (a0.length : Int)), (10, .i (n158 : Int)), (17, .d (.sl (l159.map cS27))), (18, .i (l159.length : Int)), (19, .i 0)] [(2, some (.box ((List.replicate 400 false).map vB))), (3, some (.box (l50.map vB))), (5, some (.box [.i x156.Tx, .i x156.Kind, .d (.lit (.string x156.Key))]))]) Sub.tt ?_
   refine Chain.nil ?_
   refine AW.lastN (fun (l193 : List Bool) => mk 35 [] [(0, .d (.sl (a0.map cS27))), (2, .ptr 2 0 0), (3, .ptr 3 0 0), (8, .d (.sl (a0.map cS27))), (9, .i (a0.length : Int)), (10, .i (n158 : Int))] [(2, some (.box ((List.replicate 400 false).map vB))), (3, some (.box (l193.map vB)))]) h ?_ ?_ <;> clear h
   ·intro o h
    refine AW.block ?_
    refine AW.iter (fun ((l169, v170) : ((List Bool) × Int)) => mk 35 [] [(0, .d (.sl (a0.map cS27))), (2, .ptr 2 0 0), (3, .ptr 3 0 0), (5, .ptr 5 0 0), (8, .d (.sl (a0.map cS27))), (9, .i (a0.length : Int)), (10, .i (n158 : Int)), (17, .d (.sl (l159.map cS27))), (18, .i (l159.length : Int)), (19, .i v170)] [(2, some (.box ((List.replicate 400 false).map vB))), (3, some (.box (l169.map vB))), (5, some (.box [.i x156.Tx, .i x156.Kind, .d (.lit (.string x156.Key))]))]) h Sub.tt ?_
    clear h
    rintro ⟨l169, v170⟩ x h
    dsimp only at h ⊢
    refine AW.seqR ?_
    refine Chain.runK [] 1 fun K hK => ?_; simp; refine hK _ _ ?_; clear hK K
    refine Chain.sub (S' := mk 35 [] [(0, .d (.sl (a0.map cS27))), (2, .ptr 2 0 0), (3, .ptr 3 0 0), (5, .ptr 5 0 0), (8, .d (.sl (a0.map cS27))), (9, .i (a0.length : Int)), (10, .i (n158 : Int)), (17, .d (.sl (l159.map cS27))), (18, .i (l159.length : Int)), (19, .i v170), (20, .b (decide (v170 < (l159.length : Int))))] [(2, some (.box ((List.replicate 400 false).map vB))), (3, some (.box (l169.map vB))), (5, some (.box [.i x156.Tx, .i x156.Kind, .d (.lit (.string x156.Key))]))]) Sub.tt ?_
    refine Chain.nil ?_
    refine AW.seq ?_
    replace h := isome h; rcases h with ⟨c194, h⟩ | ⟨c194, h⟩
    ·have c194_ : decide (v170 < (l159.length : Int)) = true := decide_eq_true c194
     refine AW.condT (b := decide (v170 < (l159.length : Int))) rfl c194_ ?_
     refine AW.sub (Sub.bool 20 (b := decide (v170 < (l159.length : Int))) rfl c194_) ?_
     refine AW.sub (S' := mk 35 [] [(0, .d (.sl (a0.map cS27))), (2, .ptr 2 0 0), (3, .ptr 3 0 0), (5, .ptr 5 0 0), (8, .d (.sl (a0.map cS27))), (9, .i (a0.length : Int)), (10, .i (n158 : Int)), (17, .d (.sl (l159.map cS27))), (18, .i (l159.length : Int)), (19, .i v170), (20, .b true)] [(2, some (.box ((List.replicate 400 false).map vB))), (3, some (.box (l169.map vB))), (5, some (.box [.i x156.Tx, .i x156.Kind, .d (.lit (.string x156.Key))]))]) (by simp; exact Sub.table (by simp) (by simp)) ?_
     refine AW.skip ?_
     refine thenQ_normal ?_
     refine AW.seq ?_
     refine AW.block ?_
     refine AW.seqR ?_
     replace h := bsome h; obtain ⟨x195, hx195, h⟩ := h
     obtain ⟨k196, hx195k, hx195, hx195a, hx195b⟩ := idx_some hx195
     refine Chain.runK [] 4 fun K hK => ?_; simp [hx195, hx195k, hx195a]; refine hK _ _ ?_; clear hK K
     refine Chain.sub (S' := mk 35 [] [(0, .d (.sl (a0.map cS27))), (2, .ptr 2 0 0), (3, .ptr 3 0 0), (5, .ptr 5 0 0), (7, .ptr 7 0 0), (8, .d (.sl (a0.map cS27))), (9, .i (a0.length : Int)), (10, .i (n158 : Int)), (17, .d (.sl (l159.map cS27))), (18, .i (l159.length : Int)), (19, .i v170)] [(2, some (.box ((List.replicate 400 false).map vB))), (3, some (.box (l169.map vB))), (5, some (.box [.i x156.Tx, .i x156.Kind, .d (.lit (.string x156.Key))])), (7, some (.box [.i x195.Tx, .i x195.Kind, .d (.lit (.string x195.Key))]))]) Sub.tt ?_
     refine Chain.nil ?_
     refine AW.seqR ?_
     refine Chain.runK [] 2 fun K hK => ?_; simp; refine hK _ _ ?_; clear hK K
     refine Chain.sub (S' := mk 35 [] [(0, .d (.sl (a0.map cS27))), (2, .ptr 2 0 0), (3, .ptr 3 0 0), (5, .ptr 5 0 0), (7, .ptr 7 0 0), (8, .d (.sl (a0.map cS27))), (9, .i (a0.length : Int)), (10, .i (n158 : Int)), (17, .d (.sl (l159.map cS27))), (18, .i (l159.length : Int)), (19, .i v170), (23, .agg [.i x195.Tx, .i x195.Kind, .d (.lit (.string x195.Key))]), (24, .agg [.i x156.Tx, .i x156.Kind, .d (.lit (.string x156.Key))])] [(2, some (.box ((List.replicate 400 false).map vB))), (3, some (.box (l169.map vB))), (5, some (.box [.i x156.Tx, .i x156.Kind, .d (.lit (.string x156.Key))])), (7, some (.box [.i x195.Tx, .i x195.Kind, .d (.lit (.string x195.Key))]))]) Sub.tt ?_
     replace h := bsome h; obtain ⟨r197, hr197, h⟩ := h
     refine Chain.callL (d := 25) (p40 N x195 x156 r197 hr197) (by simp) rfl rfl (by simp <;> rfl) (by simp <;> rfl) ent40 (by simp <;> rfl) ?_
     refine Chain.sub (S' := mk 35 [] [(0, .d (.sl (a0.map cS27))), (2, .ptr 2 0 0), (3, .ptr 3 0 0), (5, .ptr 5 0 0), (7, .ptr 7 0 0), (8, .d (.sl (a0.map cS27))), (9, .i (a0.length : Int)), (10, .i (n158 : Int)), (17, .d (.sl (l159.map cS27))), (18, .i (l159.length : Int)), (19, .i v170), (23, .agg [.i x195.Tx, .i x195.Kind, .d (.lit (.string x195.Key))]), (24, .agg [.i x156.Tx, .i x156.Kind, .d (.lit (.string x156.Key))]), (25, .b r197)] [(2, some (.box ((List.replicate 400 false).map vB))), (3, some (.box (l169.map vB))), (5, some (.box [.i x156.Tx, .i x156.Kind, .d (.lit (.string x156.Key))])), (7, some (.box [.i x195.Tx, .i x195.Kind, .d (.lit (.string x195.Key))]))]) (by simp; exact Sub.table (by simp) (by simp)) ?_
     refine Chain.nil ?_
     replace h := isome h; rcases h with ⟨c198, h⟩ | ⟨c198, h⟩
     ·have c198_ : r197 = true := c198
      refine AW.condT (b := r197) rfl c198_ ?_
      refine AW.sub (Sub.bool 25 (b := r197) rfl c198_) ?_
      refine AW.sub (S' := mk 35 [] [(0, .d (.sl (a0.map cS27))), (2, .ptr 2 0 0), (3, .ptr 3 0 0), (5, .ptr 5 0 0), (7, .ptr 7 0 0), (8, .d (.sl (a0.map cS27))), (9, .i (a0.length : Int)), (10, .i (n158 : Int)), (17, .d (.sl (l159.map cS27))), (18, .i (l159.length : Int)), (19, .i v170), (25, .b true)] [(2, some (.box ((List.replicate 400 false).map vB))), (3, some (.box (l169.map vB))), (5, some (.box [.i x156.Tx, .i x156.Kind, .d (.lit (.string x156.Key))])), (7, some (.box [.i x195.Tx, .i x195.Kind, .d (.lit (.string x195.Key))]))]) (by simp; exact Sub.table (by simp) (by simp)) ?_
      replace h := bsome h; obtain ⟨k199, gk199, h⟩ := h
      obtain ⟨hk199, hk199a, hk199b, hk199c⟩ := arrI_some gk199
      have hk199b : x195.Tx < 20 := hk199b
      replace h := bsome h; obtain ⟨k200, gk200, h⟩ := h
      obtain ⟨hk200, hk200a, hk200b, hk200c⟩ := arrI_some gk200
      have hk200b : x156.Tx < 20 := hk200b
      refine AW.regionT 6 (by kernel_rfl) (by kernel_rfl) fun K hK => ?_; simp [hk199, hk199a, hk199b, hk200, hk200a, hk200b]; refine hK _ _ ?_; clear hK K
      refine Chain.sub (S' := mk 35 [] [(0, .d (.sl (a0.map cS27))), (2, .ptr 2 0 0), (3, .ptr 3 0 0), (5, .ptr 5 0 0), (8, .d (.sl (a0.map cS27))), (9, .i (a0.length : Int)), (10, .i (n158 : Int)), (17, .d (.sl (l159.map cS27))), (18, .i (l159.length : Int)), (19, .i v170), (31, .ptr 3 0 (k199 * 20 + k200))] [(2, some (.box ((List.replicate 400 false).map vB))), (3, some (.box (l169.map vB))), (5, some (.box [.i x156.Tx, .i x156.Kind, .d (.lit (.string x156.Key))]))]) Sub.tt ?_
      replace h := bsome h; obtain ⟨l201, gl201, h⟩ := h
      obtain ⟨hl201a, hl201b, hl201c⟩ := setN_some vB gl201
      replace hl201b : (l169.map vB).take (k199 * 20 + k200) ++ .d (.lit (.bool true)) :: (l169.map vB).drop (k199 * 20 + k200 + 1) = l201.map vB := hl201b
      refine Chain.runK [] 1 fun K hK => ?_; simp [hl201a, hl201b]; refine hK _ _ ?_; clear hK K
      refine Chain.sub (S' := mk 35 [] [(0, .d (.sl (a0.map cS27))), (2, .ptr 2 0 0), (3, .ptr 3 0 0), (5, .ptr 5 0 0), (8, .d (.sl (a0.map cS27))), (9, .i (a0.length : Int)), (10, .i (n158 : Int)), (17, .d (.sl (l159.map cS27))), (18, .i (l159.length : Int)), (19, .i v170)] [(2, some (.box ((List.replicate 400 false).map vB))), (3, some (.box (l201.map vB))), (5, some (.box [.i x156.Tx, .i x156.Kind, .d (.lit (.string x156.Key))]))]) Sub.tt ?_
      refine Chain.nil ?_
      refine blockQ.normal ?_
      refine thenQ_normal ?_
      refine AW.region ?_
      replace h := bsome h; obtain ⟨v202, hv202, h⟩ := h
      have hv202 := chkI_some hv202
      refine Chain.runK [] 2 fun K hK => ?_; simp [hv202]; refine hK _ _ ?_; clear hK K
      refine Chain.sub (S' := mk 35 [] [(0, .d (.sl (a0.map cS27))), (2, .ptr 2 0 0), (3, .ptr 3 0 0), (5, .ptr 5 0 0), (8, .d (.sl (a0.map cS27))), (9, .i (a0.length : Int)), (10, .i (n158 : Int)), (17, .d (.sl (l159.map cS27))), (18, .i (l159.length : Int)), (19, .i v202)] [(2, some (.box ((List.replicate 400 false).map vB))), (3, some (.box (l201.map vB))), (5, some (.box [.i x156.Tx, .i x156.Kind, .d (.lit (.string x156.Key))]))]) Sub.tt ?_
      refine Chain.nil ?_
      cases h
      refine PostI.next ?_
      exact Sub.tt
     ·have c198_ : r197 = false := Bool.eq_false_iff.2 c198
      refine AW.condF (b := r197) rfl c198_ ?_
      refine AW.sub (Sub.bool 25 (b := r197) rfl c198_) ?_
      refine AW.sub (S' := mk 35 [] [(0, .d (.sl (a0.map cS27))), (2, .ptr 2 0 0), (3, .ptr 3 0 0), (5, .ptr 5 0 0), (7, .ptr 7 0 0), (8, .d (.sl (a0.map cS27))), (9, .i (a0.length : Int)), (10, .i (n158 : Int)), (17, .d (.sl (l159.map cS27))), (18, .i (l159.length : Int)), (19, .i v170), (25, .b false)] [(2, some (.box ((List.replicate 400 false).map vB))), (3, some (.box (l169.map vB))), (5, some (.box [.i x156.Tx, .i x156.Kind, .d (.lit (.string x156.Key))])), (7, some (.box [.i x195.Tx, .i x195.Kind, .d (.lit (.string x195.Key))]))]) (by simp; exact Sub.table (by simp) (by simp)) ?_
      refine AW.skip ?_
      refine blockQ.normal ?_
      refine thenQ_normal ?_
      refine AW.region ?_
      replace h := bsome h; obtain ⟨v203, hv203, h⟩ := h
      have hv203 := chkI_some hv203
      refine Chain.runK [] 2 fun K hK => ?_; simp [hv203]; refine hK _ _ ?_; clear hK K
      refine Chain.sub (S' := mk 35 [] [(0, .d (.sl (a0.map cS27))), (2, .ptr 2 0 0), (3, .ptr 3 0 0), (5, .ptr 5 0 0), (8, .d (.sl (a0.map cS27))), (9, .i (a0.length : Int)), (10, .i (n158 : Int)), (17, .d (.sl (l159.map cS27))), (18, .i (l159.length : Int)), (19, .i v203)] [(2, some (.box ((List.replicate 400 false).map vB))), (3, some (.box (l169.map vB))), (5, some (.box [.i x156.Tx, .i x156.Kind, .d (.lit (.string x156.Key))]))]) Sub.tt ?_
      refine Chain.nil ?_
      cases h
      refine PostI.next ?_
      exact Sub.tt
    ·have c194_ : decide (v170 < (l159.length : Int)) = false := decide_eq_false c194
     refine AW.condF (b := decide (v170 < (l159.length : Int))) rfl c194_ ?_
     refine AW.sub (Sub.bool 20 (b := decide (v170 < (l159.length : Int))) rfl c194_) ?_
     refine AW.sub (S' := mk 35 [] [(0, .d (.sl (a0.map cS27))), (2, .ptr 2 0 0), (3, .ptr 3 0 0), (5, .ptr 5 0 0), (8, .d (.sl (a0.map cS27))), (9, .i (a0.length : Int)), (10, .i (n158 : Int)), (17, .d (.sl (l159.map cS27))), (18, .i (l159.length : Int)), (19, .i v170), (20, .b false)] [(2, some (.box ((List.replicate 400 false).map vB))), (3, some (.box (l169.map vB))), (5, some (.box [.i x156.Tx, .i x156.Kind, .d (.lit (.string x156.Key))]))]) (by simp; exact Sub.table (by simp) (by simp)) ?_
     refine AW.exit ?_
     cases h
     refine thenQ_pass (by simp) ?_
     refine PostI.out (by simp) ?_
     rintro rfl
     refine blockQ.hit ?_
     refine PostN.next ?_
     exact Sub.tt
   ·rintro l193 h
    refine blockQ.normal ?_
    refine thenQ_normal ?_
    refine AW.region ?_
    replace h := bsome h; obtain ⟨v204, hv204, h⟩ := h
    have hv204 := chkI_some hv204
    refine Chain.runK [] 2 fun K hK => ?_; simp [hv204]; refine hK _ _ ?_; clear hK K
    refine Chain.sub (S' := mk 35 [] [(0, .d (.sl (a0.map cS27))), (2, .ptr 2 0 0), (3, .ptr 3 0 0), (8, .d (.sl (a0.map cS27))), (9, .i (a0.length : Int)), (10, .i v204)] [(2, some (.box ((List.replicate 400 false).map vB))), (3, some (.box (l193.map vB)))]) Sub.tt ?_
    refine Chain.nil ?_
    cases h
    refine PostI.next ?_
    exact Sub.tt
  ·have c155_ : decide (v51 < (a0.length : Int)) = false := decide_eq_false c155
   refine AW.condF (b := decide (v51 < (a0.length : Int))) rfl c155_ ?_
   refine AW.sub (Sub.bool 11 (b := decide (v51 < (a0.length : Int))) rfl c155_) ?_
   refine AW.sub (S' := mk 35 [] [(0, .d (.sl (a0.map cS27))), (2, .ptr 2 0 0), (3, .ptr 3 0 0), (8, .d (.sl (a0.map cS27))), (9, .i (a0.length : Int)), (10, .i v51), (11, .b false)] [(2, some (.box ((List.replicate 400 false).map vB))), (3, some (.box (l50.map vB)))]) (by simp; exact Sub.table (by simp) (by simp)) ?_
   refine AW.exit ?_
   cases h
   refine thenQ_pass (by simp) ?_
   refine PostI.out (by simp) ?_
   rintro rfl
   refine blockQ.hit ?_
   refine PostN.next ?_
   exact Sub.tt
 ·rintro l154 h
  refine thenQ_normal ?_
  refine AW.seqR ?_
  replace h := bsome h; obtain ⟨q205, gq205, h⟩ := h
  have hq205 := (lenL_some gq205).1
  refine Chain.runK [] 1 fun K hK => ?_; simp [hq205]; refine hK _ _ ?_; clear hK K
  refine Chain.sub (S' := mk 35 [] [(2, .ptr 2 0 0), (34, .agg (l154.map vB))] [(2, some (.box ((List.replicate 400 false).map vB)))]) Sub.tt ?_
  replace h := bsome h; obtain ⟨q206, gq206, h⟩ := h
  have hq206 := (lenL_some gq206).1
  refine Chain.runK [] 1 fun K hK => ?_; simp [hq205]; refine hK _ _ ?_; clear hK K
  refine Chain.sub (S' := mk 35 [] [(2, .ptr 2 0 0)] [(2, some (.box (l154.map vB)))]) Sub.tt ?_
  refine Chain.nil ?_
  refine AW.ret ?_
  cases h
  exact FinC.ret (by simp) (by simp [hq205])

/-- stemma/serializability.transactions$1 -/
def d42 (_N : Nat) (a0 : S27) (a1 : Int) : Option Bool :=
 some (a0.Tx == a1)
set_option maxRecDepth 100000 in
set_option maxHeartbeats 4000000 in
theorem p42 (N : Nat) (a0 : S27) (a1 : Int) (r : Bool) (h : d42 N a0 a1 = some r) : FunC Try.prog 42 [.agg [.i a0.Tx, .i a0.Kind, .d (.lit (.string a0.Key))], .d (.pim [.lit (.int .i64 a1)])] (.b r) := by
 unfold d42 at h
 refine FunC.enter 8 [(0, .agg [.i a0.Tx, .i a0.Kind, .d (.lit (.string a0.Key))]), (1, .d (.pim [.lit (.int .i64 a1)]))] (by simp) Try.func42 rfl (of_decide_eq_true rfl) rfl rfl ?_
 refine AW.seqR ?_
 refine Chain.runK [] 2 fun K hK => ?_; simp; refine hK _ _ ?_; clear hK K
 refine Chain.sub (S' := mk 8 [] [(1, .d (.pim [.lit (.int .i64 a1)])), (2, .ptr 2 0 0)] [(2, some (.box [.i a0.Tx, .i a0.Kind, .d (.lit (.string a0.Key))]))]) Sub.tt ?_
 refine Chain.nil ?_
 refine AW.seqR ?_
 refine Chain.runK [] 5 fun K hK => ?_; simp; refine hK _ _ ?_; clear hK K
 refine Chain.sub (S' := mk 8 [] [(3, .b (a0.Tx == a1))] []) Sub.tt ?_
 refine Chain.nil ?_
 refine AW.ret ?_
 cases h
 exact FinC.ret (by simp) (by simp)

/-- slices.IndexFunc[[]stemma/serializability.Operation,stemma/serializability.Operation] -/
def d43 (N : Nat) (a0 : (List S27)) (p1 : S27 → Option Bool) : Option Int :=
 bindO (β := Unit) (ρ := Int) (
  iterN (σ := Int) (ρ := (Out Unit Int)) (fun (v6 : Int) =>
   if v6 < (a0.length : Int) then (
    (idx a0 v6).bind fun x21 =>
    (p1 x21).bind fun r23 =>
    if r23 = true then (
     some (.inr (.ret v6))
    ) else
    (chkI (v6 + 1)).bind fun v25 =>
    some (.inl v25)
   ) else
   some (.inr (.go ()))
  ) N 0
 ) fun (_ : Unit) =>
 some (-1)
set_option maxRecDepth 100000 in
set_option maxHeartbeats 4000000 in
theorem p43 (N : Nat) (a0 : (List S27)) (g1 : Nat) (cs1 : List D) (p1 : S27 → Option Bool) (ent_1 : Rp.Enters Try.prog g1) (hp1 : ∀ a0 r, p1 a0 = some r → FunC Try.prog g1 ([.agg [.i a0.Tx, .i a0.Kind, .d (.lit (.string a0.Key))]] ++ cs1.map .d) (.b r)) (r : Int) (h : d43 N a0 p1 = some r) : FunC Try.prog 43 [.d (.sl (a0.map cS27)), .fn (.func g1) (cs1.map .d)] (.i r) := by
 unfold d43 at h
 refine FunC.enter 19 [(0, .d (.sl (a0.map cS27))), (1, .fn (.func g1) (cs1.map .d))] (by simp) Try.func43 rfl (of_decide_eq_true rfl) rfl rfl ?_
 refine AW.seqR ?_
 refine Chain.runK [] 1 fun K hK => ?_; simp; refine hK _ _ ?_; clear hK K
 refine Chain.sub (S' := mk 19 [] [(0, .d (.sl (a0.map cS27))), (1, .fn (.func g1) (cs1.map .d))] []) Sub.tt ?_
 refine Chain.nil ?_
 refine AW.seq ?_
 refine AW.seqR ?_
 refine Chain.runK [] 3 fun K hK => ?_; simp; refine hK _ _ ?_; clear hK K
 refine Chain.sub (S' := mk 19 [] [(0, .d (.sl (a0.map cS27))), (1, .fn (.func g1) (cs1.map .d)), (7, .i (a0.length : Int)), (8, .i 0)] []) Sub.tt ?_
 refine Chain.nil ?_
 refine AW.lastJ (fun (_ : Unit) => mk 19 [] [] []) h ?_ ?_ <;> clear h
 ·intro o h
  refine AW.block ?_
  refine AW.iter (fun (v6 : Int) => mk 19 [] [(0, .d (.sl (a0.map cS27))), (1, .fn (.func g1) (cs1.map .d)), (7, .i (a0.length : Int)), (8, .i v6)] []) h Sub.tt ?_
  clear h
  rintro v6 x h
  refine AW.seqR ?_
  refine Chain.runK [] 1 fun K hK => ?_; simp; refine hK _ _ ?_; clear hK K
  refine Chain.sub (S' := mk 19 [] [(0, .d (.sl (a0.map cS27))), (1, .fn (.func g1) (cs1.map .d)), (7, .i (a0.length : Int)), (8, .i v6), (9, .b (decide (v6 < (a0.length : Int))))] []) Sub.tt ?_
  refine Chain.nil ?_
  refine AW.seq ?_
  replace h := isome h; rcases h with ⟨c20, h⟩ | ⟨c20, h⟩
  ·have c20_ : decide (v6 < (a0.length : Int)) = true := decide_eq_true c20
   refine AW.condT (b := decide (v6 < (a0.length : Int))) rfl c20_ ?_
   refine AW.sub (Sub.bool 9 (b := decide (v6 < (a0.length : Int))) rfl c20_) ?_
   refine AW.sub (S' := mk 19 [] [(0, .d (.sl (a0.map cS27))), (1, .fn (.func g1) (cs1.map .d)), (7, .i (a0.length : Int)), (8, .i v6), (9, .b true)] []) (by simp; exact Sub.table (by simp) (by simp)) ?_
   refine AW.skip ?_
   refine thenQ_normal ?_
   refine AW.seq ?_
   refine AW.block ?_
   refine AW.seqR ?_
   refine Chain.runK [] 2 fun K hK => ?_; simp; refine hK _ _ ?_; clear hK K
   refine Chain.sub (S' := mk 19 [] [(0, .d (.sl (a0.map cS27))), (1, .fn (.func g1) (cs1.map .d)), (5, .i v6), (7, .i (a0.length : Int)), (8, .i v6)] []) Sub.tt ?_
   refine Chain.nil ?_
   refine AW.seqR ?_
   replace h := bsome h; obtain ⟨x21, hx21, h⟩ := h
   obtain ⟨k22, hx21k, hx21, hx21a, hx21b⟩ := idx_some hx21
   refine Chain.runK [] 5 fun K hK => ?_; simp [hx21, hx21k, hx21a]; refine hK _ _ ?_; clear hK K
   refine Chain.sub (S' := mk 19 [] [(0, .d (.sl (a0.map cS27))), (1, .fn (.func g1) (cs1.map .d)), (5, .i v6), (7, .i (a0.length : Int)), (8, .i v6), (11, .fn (.func g1) (cs1.map .d)), (15, .agg [.i x21.Tx, .i x21.Kind, .d (.lit (.string x21.Key))])] []) Sub.tt ?_
   replace h := bsome h; obtain ⟨r23, hr23, h⟩ := h
   refine Chain.callL (d := 16) (hp1 x21 r23 hr23) (by simp) rfl rfl (by simp <;> rfl) (by simp <;> rfl) ent_1 (by simp <;> rfl) ?_
   refine Chain.sub (S' := mk 19 [] [(0, .d (.sl (a0.map cS27))), (1, .fn (.func g1) (cs1.map .d)), (5, .i v6), (7, .i (a0.length : Int)), (8, .i v6), (11, .fn (.func g1) (cs1.map .d)), (15, .agg [.i x21.Tx, .i x21.Kind, .d (.lit (.string x21.Key))]), (16, .b r23)] []) (by simp; exact Sub.table (by simp) (by simp)) ?_
   refine Chain.nil ?_
   replace h := isome h; rcases h with ⟨c24, h⟩ | ⟨c24, h⟩
   ·have c24_ : r23 = true := c24
    refine AW.condT (b := r23) rfl c24_ ?_
    refine AW.sub (Sub.bool 16 (b := r23) rfl c24_) ?_
    refine AW.sub (S' := mk 19 [] [(0, .d (.sl (a0.map cS27))), (1, .fn (.func g1) (cs1.map .d)), (5, .i v6), (7, .i (a0.length : Int)), (8, .i v6), (16, .b true)] []) (by simp; exact Sub.table (by simp) (by simp)) ?_
    refine AW.seqR ?_
    refine Chain.runK [] 2 fun K hK => ?_; simp; refine hK _ _ ?_; clear hK K
    refine Chain.sub (S' := mk 19 [] [(4, .i v6)] []) Sub.tt ?_
    refine Chain.nil ?_
    refine AW.ret ?_
    cases h
    refine blockQ.ret ?_
    refine thenQ_pass (by simp) ?_
    refine PostI.out (by simp) ?_
    rintro rfl
    refine blockQ.ret ?_
    refine PostJ.out (by simp) ?_
    rintro rfl
    refine thenQ_pass (by simp) ?_
    exact FinC.ret (by simp) (by simp)
   ·have c24_ : r23 = false := Bool.eq_false_iff.2 c24
    refine AW.condF (b := r23) rfl c24_ ?_
    refine AW.sub (Sub.bool 16 (b := r23) rfl c24_) ?_
    refine AW.sub (S' := mk 19 [] [(0, .d (.sl (a0.map cS27))), (1, .fn (.func g1) (cs1.map .d)), (5, .i v6), (7, .i (a0.length : Int)), (8, .i v6), (16, .b false)] []) (by simp; exact Sub.table (by simp) (by simp)) ?_
    refine AW.skip ?_
    refine blockQ.normal ?_
    refine thenQ_normal ?_
    refine AW.region ?_
    replace h := bsome h; obtain ⟨v25, hv25, h⟩ := h
    have hv25 := chkI_some hv25
    refine Chain.runK [] 2 fun K hK => ?_; simp [hv25]; refine hK _ _ ?_; clear hK K
    refine Chain.sub (S' := mk 19 [] [(0, .d (.sl (a0.map cS27))), (1, .fn (.func g1) (cs1.map .d)), (7, .i (a0.length : Int)), (8, .i v25)] []) Sub.tt ?_
    refine Chain.nil ?_
    cases h
    refine PostI.next ?_
    exact Sub.tt
  ·have c20_ : decide (v6 < (a0.length : Int)) = false := decide_eq_false c20
   refine AW.condF (b := decide (v6 < (a0.length : Int))) rfl c20_ ?_
   refine AW.sub (Sub.bool 9 (b := decide (v6 < (a0.length : Int))) rfl c20_) ?_
   refine AW.sub (S' := mk 19 [] [(0, .d (.sl (a0.map cS27))), (1, .fn (.func g1) (cs1.map .d)), (7, .i (a0.length : Int)), (8, .i v6), (9, .b false)] []) (by simp; exact Sub.table (by simp) (by simp)) ?_
   refine AW.exit ?_
   cases h
   refine thenQ_pass (by simp) ?_
   refine PostI.out (by simp) ?_
   rintro rfl
   refine blockQ.hit ?_
   refine PostJ.next ?_
   exact Sub.tt
 ·rintro ⟨⟩ h
  refine thenQ_normal ?_
  refine AW.seqR ?_
  refine Chain.runK [] 1 fun K hK => ?_; simp; refine hK _ _ ?_; clear hK K
  refine Chain.sub (S' := mk 19 [] [(4, .i (-1))] []) Sub.tt ?_
  refine Chain.nil ?_
  refine AW.ret ?_
  cases h
  exact FinC.ret (by simp) (by simp)

/-- slices.ContainsFunc[[]stemma/serializability.Operation,stemma/serializability.Operation] -/
def d41 (N : Nat) (a0 : (List S27)) (p1 : S27 → Option Bool) : Option Bool :=
 (d43 N a0 p1).bind fun r1 =>
 some (decide (r1 ≥ 0))
set_option maxRecDepth 100000 in
set_option maxHeartbeats 4000000 in
theorem p41 (N : Nat) (a0 : (List S27)) (g1 : Nat) (cs1 : List D) (p1 : S27 → Option Bool) (ent_1 : Rp.Enters Try.prog g1) (hp1 : ∀ a0 r, p1 a0 = some r → FunC Try.prog g1 ([.agg [.i a0.Tx, .i a0.Kind, .d (.lit (.string a0.Key))]] ++ cs1.map .d) (.b r)) (r : Bool) (h : d41 N a0 p1 = some r) : FunC Try.prog 41 [.d (.sl (a0.map cS27)), .fn (.func g1) (cs1.map .d)] (.b r) := by
 unfold d41 at h
 refine FunC.enter 9 [(0, .d (.sl (a0.map cS27))), (1, .fn (.func g1) (cs1.map .d))] (by simp) Try.func41 rfl (of_decide_eq_true rfl) rfl rfl ?_
 refine AW.seqR ?_
 refine Chain.runK [] 1 fun K hK => ?_; simp; refine hK _ _ ?_; clear hK K
 refine Chain.sub (S' := mk 9 [] [(0, .d (.sl (a0.map cS27))), (1, .fn (.func g1) (cs1.map .d))] []) Sub.tt ?_
 refine Chain.nil ?_
 refine AW.seqR ?_
 refine Chain.runK [] 2 fun K hK => ?_; simp; refine hK _ _ ?_; clear hK K
 refine Chain.sub (S' := mk 9 [] [(5, .d (.sl (a0.map cS27))), (6, .fn (.func g1) (cs1.map .d))] []) Sub.tt ?_
 replace h := bsome h; obtain ⟨r1, hr1, h⟩ := h
 refine Chain.callL (d := 7) (p43 N a0 g1 cs1 p1 ent_1 hp1 r1 hr1) (by simp) rfl rfl (by simp <;> rfl) (by simp <;> rfl) ent43 (by simp <;> rfl) ?_
 refine Chain.sub (S' := mk 9 [] [(5, .d (.sl (a0.map cS27))), (6, .fn (.func g1) (cs1.map .d)), (7, .i r1)] []) (by simp; exact Sub.table (by simp) (by simp)) ?_
 refine Chain.runK [] 2 fun K hK => ?_; simp; refine hK _ _ ?_; clear hK K
 refine Chain.sub (S' := mk 9 [] [(4, .b (decide (r1 ≥ 0)))] []) Sub.tt ?_
 refine Chain.nil ?_
 refine AW.ret ?_
 cases h
 exact FinC.ret (by simp) (by simp)

/-- stemma/serializability.transactions -/
def d29 (N : Nat) (a0 : (List S27)) : Option (List Int) :=
 Option.bind (α := List Int) (
  iterN (σ := ((List Int) × Int)) (ρ := List Int) (fun ((l7, v8) : ((List Int) × Int)) =>
   if v8 < 20 then (
    (d41 N a0 (fun b0 => d42 N b0 v8)).bind fun r25 =>
    if r25 = true then (
     (appL 8 l7 [v8]).bind fun _l27 =>
     (chkI (v8 + 1)).bind fun v28 =>
     some (.inl ((l7 ++ [v8]), v28))
    ) else
    (chkI (v8 + 1)).bind fun v29 =>
    some (.inl (l7, v29))
   ) else
   some (.inr l7)
  ) N (([] : List Int), 0)
 ) fun (l23 : List Int) =>
 some l23
set_option maxRecDepth 100000 in
set_option maxHeartbeats 4000000 in
theorem p29 (N : Nat) (a0 : (List S27)) (r : (List Int)) (h : d29 N a0 = some r) : FunO Try.prog 29 [.d (.sl (a0.map cS27))] (.ref 0 0 r.length) (.arr 3 1 (r.map (cI .i64))) := by
 unfold d29 at h
 refine FunO.enter 17 [(0, .d (.sl (a0.map cS27)))] Try.func29 rfl (of_decide_eq_true rfl) rfl rfl ?_
 refine AW.seqR ?_
 refine Chain.runK [] 1 fun K hK => ?_; simp; refine hK _ _ ?_; clear hK K
 refine Chain.sub (S' := mk 17 [] [(0, .d (.sl (a0.map cS27)))] []) Sub.tt ?_
 refine Chain.nil ?_
 refine AW.seqR ?_
 refine Chain.runK [] 1 fun K hK => ?_; simp; refine hK _ _ ?_; clear hK K
 refine Chain.sub (S' := mk 17 [] [(0, .d (.sl (a0.map cS27))), (3, .d (.lit (.slice none 0 0)))] []) Sub.tt ?_
 refine Chain.nil ?_
 refine AW.seq ?_
 refine AW.seqR ?_
 refine Chain.runK [] 1 fun K hK => ?_; simp; refine hK _ _ ?_; clear hK K
 refine Chain.sub (S' := mk 17 [] [(0, .d (.sl (a0.map cS27))), (3, .d (.lit (.slice none 0 0))), (5, .i 0)] []) Sub.tt ?_
 refine Chain.nil ?_
 refine AW.lastN (fun (l23 : List Int) => mk 17 [] [(3, .ref 14 0 l23.length)] [(14, R3 l23)]) h ?_ ?_ <;> clear h
 ·intro o h
  refine AW.block ?_
  refine AW.iter (fun ((l7, v8) : ((List Int) × Int)) => mk 17 [] [(0, .d (.sl (a0.map cS27))), (3, .ref 14 0 l7.length), (5, .i v8)] [(14, R3 l7)]) h (Sub.trans (Sub.nilOwn (t := 3) (id := 14) (T := 3) (n := 1) rfl rfl (by decide)) (by simp; exact Sub.table (by simp) (by simp))) ?_
  clear h
  rintro ⟨l7, v8⟩ x h
  dsimp only at h ⊢
  refine AW.seqR ?_
  refine Chain.runK [] 1 fun K hK => ?_; simp; refine hK _ _ ?_; clear hK K
  refine Chain.sub (S' := mk 17 [] [(0, .d (.sl (a0.map cS27))), (3, .ref 14 0 l7.length), (5, .i v8), (6, .b (decide (v8 < 20)))] [(14, R3 l7)]) Sub.tt ?_
  refine Chain.nil ?_
  refine AW.seq ?_
  replace h := isome h; rcases h with ⟨c24, h⟩ | ⟨c24, h⟩
  ·have c24_ : decide (v8 < 20) = true := decide_eq_true c24
   refine AW.condT (b := decide (v8 < 20)) rfl c24_ ?_
   refine AW.sub (Sub.bool 6 (b := decide (v8 < 20)) rfl c24_) ?_
   refine AW.sub (S' := mk 17 [] [(0, .d (.sl (a0.map cS27))), (3, .ref 14 0 l7.length), (5, .i v8), (6, .b true)] [(14, R3 l7)]) (by simp; exact Sub.table (by simp) (by simp)) ?_
   refine AW.skip ?_
   refine thenQ_normal ?_
   refine AW.seq ?_
   refine AW.block ?_
   refine AW.seqR ?_
   refine Chain.runK [] 3 fun K hK => ?_; simp; refine hK _ _ ?_; clear hK K
   refine Chain.sub (S' := mk 17 [] [(0, .d (.sl (a0.map cS27))), (3, .ref 14 0 l7.length), (4, .ptr 4 0 0), (5, .i v8)] [(4, some (.box [.i v8])), (14, R3 l7)]) Sub.tt ?_
   refine Chain.nil ?_
   refine AW.seqR ?_
   refine Chain.runK [] 2 fun K hK => ?_; simp; refine hK _ _ ?_; clear hK K
   refine Chain.sub (S' := mk 17 [] [(0, .d (.sl (a0.map cS27))), (3, .ref 14 0 l7.length), (4, .ptr 4 0 0), (5, .i v8), (8, .d (.sl (a0.map cS27))), (9, .fn (.func 42) [.ptr 4 0 0])] [(4, some (.box [.i v8])), (14, R3 l7)]) Sub.tt ?_
   replace h := bsome h; obtain ⟨r25, hr25, h⟩ := h
   refine Chain.callL (d := 10) (p41 N a0 42 [.pim [.lit (.int .i64 v8)]] (fun b0 => d42 N b0 v8) ent42 (fun b0 r h => p42 N b0 v8 r h) r25 hr25) (by simp) rfl rfl (by simp <;> rfl) (by simp <;> rfl) ent41 (by simp <;> rfl) ?_
   refine Chain.sub (S' := mk 17 [] [(0, .d (.sl (a0.map cS27))), (3, .ref 14 0 l7.length), (4, .ptr 4 0 0), (5, .i v8), (8, .d (.sl (a0.map cS27))), (9, .fn (.func 42) [.ptr 4 0 0]), (10, .b r25)] [(4, some (.box [.i v8])), (14, R3 l7)]) (by simp; exact Sub.table (by simp) (by simp)) ?_
   refine Chain.nil ?_
   replace h := isome h; rcases h with ⟨c26, h⟩ | ⟨c26, h⟩
   ·have c26_ : r25 = true := c26
    refine AW.condT (b := r25) rfl c26_ ?_
    refine AW.sub (Sub.bool 10 (b := r25) rfl c26_) ?_
    refine AW.sub (S' := mk 17 [] [(0, .d (.sl (a0.map cS27))), (3, .ref 14 0 l7.length), (4, .ptr 4 0 0), (5, .i v8), (10, .b true)] [(4, some (.box [.i v8])), (14, R3 l7)]) (by simp; exact Sub.table (by simp) (by simp)) ?_
    refine AW.region ?_
    replace h := bsome h; obtain ⟨l27, hl27, h⟩ := h
    obtain ⟨hl27a, hl27⟩ := appL_some hl27
    subst hl27
    try simp only [List.length_cons, List.length_nil, Nat.zero_add] at hl27a
    refine Chain.runK [13] 5 fun K hK => ?_; simp [hl27a]; refine hK _ _ ?_; clear hK K
    refine Chain.sub (S' := mk 17 [] [(0, .d (.sl (a0.map cS27))), (3, .ref 14 0 ((l7 ++ [v8]).length)), (5, .i v8)] [(14, R3 (l7 ++ [v8]))]) Sub.tt ?_
    refine Chain.nil ?_
    refine blockQ.normal ?_
    refine thenQ_normal ?_
    refine AW.region ?_
    replace h := bsome h; obtain ⟨v28, hv28, h⟩ := h
    have hv28 := chkI_some hv28
    refine Chain.runK [] 2 fun K hK => ?_; simp [hv28]; refine hK _ _ ?_; clear hK K
    refine Chain.sub (S' := mk 17 [] [(0, .d (.sl (a0.map cS27))), (3, .ref 14 0 ((l7 ++ [v8]).length)), (5, .i v28)] [(14, R3 (l7 ++ [v8]))]) Sub.tt ?_
    refine Chain.nil ?_
    cases h
    refine PostI.next ?_
    exact Sub.tt
   ·have c26_ : r25 = false := Bool.eq_false_iff.2 c26
    refine AW.condF (b := r25) rfl c26_ ?_
    refine AW.sub (Sub.bool 10 (b := r25) rfl c26_) ?_
    refine AW.sub (S' := mk 17 [] [(0, .d (.sl (a0.map cS27))), (3, .ref 14 0 l7.length), (4, .ptr 4 0 0), (5, .i v8), (10, .b false)] [(4, some (.box [.i v8])), (14, R3 l7)]) (by simp; exact Sub.table (by simp) (by simp)) ?_
    refine AW.skip ?_
    refine blockQ.normal ?_
    refine thenQ_normal ?_
    refine AW.region ?_
    replace h := bsome h; obtain ⟨v29, hv29, h⟩ := h
    have hv29 := chkI_some hv29
    refine Chain.runK [] 2 fun K hK => ?_; simp [hv29]; refine hK _ _ ?_; clear hK K
    refine Chain.sub (S' := mk 17 [] [(0, .d (.sl (a0.map cS27))), (3, .ref 14 0 l7.length), (5, .i v29)] [(14, R3 l7)]) Sub.tt ?_
    refine Chain.nil ?_
    cases h
    refine PostI.next ?_
    exact Sub.tt
  ·have c24_ : decide (v8 < 20) = false := decide_eq_false c24
   refine AW.condF (b := decide (v8 < 20)) rfl c24_ ?_
   refine AW.sub (Sub.bool 6 (b := decide (v8 < 20)) rfl c24_) ?_
   refine AW.sub (S' := mk 17 [] [(0, .d (.sl (a0.map cS27))), (3, .ref 14 0 l7.length), (5, .i v8), (6, .b false)] [(14, R3 l7)]) (by simp; exact Sub.table (by simp) (by simp)) ?_
   refine AW.exit ?_
   cases h
   refine thenQ_pass (by simp) ?_
   refine PostI.out (by simp) ?_
   rintro rfl
   refine blockQ.hit ?_
   refine PostN.next ?_
   exact Sub.tt
 ·rintro l23 h
  refine thenQ_normal ?_
  refine AW.seqR ?_
  refine Chain.runK [] 2 fun K hK => ?_; simp; refine hK _ _ ?_; clear hK K
  refine Chain.sub (S' := mk 17 [] [(2, .ref 14 0 l23.length)] [(14, R3 l23)]) Sub.tt ?_
  refine Chain.nil ?_
  refine AW.ret ?_
  obtain rfl := Option.some.inj h
  exact FinO.ret (.ref 14 0 l23.length) 14 (by simp) (by simp) (by simp) (by simp) rfl

/-- stemma/serializability.SerialOrder$1$1 -/
def d33 (_N : Nat) (a0 : Int) (a1 : (List Bool)) (a2 : Int) : Option Bool :=
 (arrI a0 20).bind fun k1 =>
 (arrI a2 20).bind fun k2 =>
 (a1[k1 * 20 + k2]?).bind fun x3 =>
 some x3
set_option maxRecDepth 100000 in
set_option maxHeartbeats 4000000 in
theorem p33 (N : Nat) (a0 : Int) (a1 : (List Bool)) (a2 : Int) (r : Bool) (h : d33 N a0 a1 a2 = some r) : FunC Try.prog 33 [.i a0, .d (.pim (a1.map dB)), .d (.pim [.lit (.int .i64 a2)])] (.b r) := by
 unfold d33 at h
 refine FunC.enter 10 [(0, .i a0), (1, .d (.pim (a1.map dB))), (2, .d (.pim [.lit (.int .i64 a2)]))] (by simp) Try.func33 rfl (of_decide_eq_true rfl) rfl rfl ?_
 refine AW.seqR ?_
 refine Chain.runK [] 1 fun K hK => ?_; simp; refine hK _ _ ?_; clear hK K
 refine Chain.sub (S' := mk 10 [] [(0, .i a0), (1, .d (.pim (a1.map dB))), (2, .d (.pim [.lit (.int .i64 a2)]))] []) Sub.tt ?_
 refine Chain.nil ?_
 refine AW.seqQ (by kernel_rfl) (by kernel_rfl) ?_
 replace h := bsome h; obtain ⟨k1, gk1, h⟩ := h
 obtain ⟨hk1, hk1a, hk1b, hk1c⟩ := arrI_some gk1
 have hk1b : a0 < 20 := hk1b
 replace h := bsome h; obtain ⟨k2, gk2, h⟩ := h
 obtain ⟨hk2, hk2a, hk2b, hk2c⟩ := arrI_some gk2
 have hk2b : a2 < 20 := hk2b
 replace h := bsome h; obtain ⟨x3, hx3, h⟩ := h
 refine Chain.runQ 6 fun K hK => ?_; simp [hk1, hk1a, hk1b, hk2, hk2a, hk2b, hx3]; refine hK _ _ ?_; clear hK K
 refine Chain.sub (S' := mk 10 [] [(4, .b x3)] []) Sub.tt ?_
 refine Chain.nil ?_
 refine AW.ret ?_
 cases h
 exact FinC.ret (by simp) (by simp)

/-- slices.IndexFunc[[]int,int] -/
def d30 (N : Nat) (a0 : (List Int)) (p1 : Int → Option Bool) : Option Int :=
 bindO (β := Unit) (ρ := Int) (
  iterN (σ := Int) (ρ := (Out Unit Int)) (fun (v6 : Int) =>
   if v6 < (a0.length : Int) then (
    (idx a0 v6).bind fun x21 =>
    (p1 x21).bind fun r23 =>
    if r23 = true then (
     some (.inr (.ret v6))
    ) else
    (chkI (v6 + 1)).bind fun v25 =>
    some (.inl v25)
   ) else
   some (.inr (.go ()))
  ) N 0
 ) fun (_ : Unit) =>
 some (-1)
set_option maxRecDepth 100000 in
set_option maxHeartbeats 4000000 in
theorem p30 (N : Nat) (a0 : (List Int)) (g1 : Nat) (cs1 : List D) (p1 : Int → Option Bool) (ent_1 : Rp.Enters Try.prog g1) (hp1 : ∀ a0 r, p1 a0 = some r → FunC Try.prog g1 ([.i a0] ++ cs1.map .d) (.b r)) (r : Int) (h : d30 N a0 p1 = some r) : FunC Try.prog 30 [.d (.sl (a0.map (cI .i64))), .fn (.func g1) (cs1.map .d)] (.i r) := by
 unfold d30 at h
 refine FunC.enter 19 [(0, .d (.sl (a0.map (cI .i64)))), (1, .fn (.func g1) (cs1.map .d))] (by simp) Try.func30 rfl (of_decide_eq_true rfl) rfl rfl ?_
 refine AW.seqR ?_
 refine Chain.runK [] 1 fun K hK => ?_; simp; refine hK _ _ ?_; clear hK K
 refine Chain.sub (S' := mk 19 [] [(0, .d (.sl (a0.map (cI .i64)))), (1, .fn (.func g1) (cs1.map .d))] []) Sub.tt ?_
 refine Chain.nil ?_
 refine AW.seq ?_
 refine AW.seqR ?_
 refine Chain.runK [] 3 fun K hK => ?_; simp; refine hK _ _ ?_; clear hK K
 refine Chain.sub (S' := mk 19 [] [(0, .d (.sl (a0.map (cI .i64)))), (1, .fn (.func g1) (cs1.map .d)), (7, .i (a0.length : Int)), (8, .i 0)] []) Sub.tt ?_
 refine Chain.nil ?_
 refine AW.lastJ (fun (_ : Unit) => mk 19 [] [] []) h ?_ ?_ <;> clear h
 ·intro o h
  refine AW.block ?_
  refine AW.iter (fun (v6 : Int) => mk 19 [] [(0, .d (.sl (a0.map (cI .i64)))), (1, .fn (.func g1) (cs1.map .d)), (7, .i (a0.length : Int)), (8, .i v6)] []) h Sub.tt ?_
  clear h
  rintro v6 x h
  refine AW.seqR ?_
  refine Chain.runK [] 1 fun K hK => ?_; simp; refine hK _ _ ?_; clear hK K
  refine Chain.sub (S' := mk 19 [] [(0, .d (.sl (a0.map (cI .i64)))), (1, .fn (.func g1) (cs1.map .d)), (7, .i (a0.length : Int)), (8, .i v6), (9, .b (decide (v6 < (a0.length : Int))))] []) Sub.tt ?_
  refine Chain.nil ?_
  refine AW.seq ?_
  replace h := isome h; rcases h with ⟨c20, h⟩ | ⟨c20, h⟩
  ·have c20_ : decide (v6 < (a0.length : Int)) = true := decide_eq_true c20
   refine AW.condT (b := decide (v6 < (a0.length : Int))) rfl c20_ ?_
   refine AW.sub (Sub.bool 9 (b := decide (v6 < (a0.length : Int))) rfl c20_) ?_
   refine AW.sub (S' := mk 19 [] [(0, .d (.sl (a0.map (cI .i64)))), (1, .fn (.func g1) (cs1.map .d)), (7, .i (a0.length : Int)), (8, .i v6), (9, .b true)] []) (by simp; exact Sub.table (by simp) (by simp)) ?_
   refine AW.skip ?_
   refine thenQ_normal ?_
   refine AW.seq ?_
   refine AW.block ?_
   refine AW.seqR ?_
   refine Chain.runK [] 2 fun K hK => ?_; simp; refine hK _ _ ?_; clear hK K
   refine Chain.sub (S' := mk 19 [] [(0, .d (.sl (a0.map (cI .i64)))), (1, .fn (.func g1) (cs1.map .d)), (5, .i v6), (7, .i (a0.length : Int)), (8, .i v6)] []) Sub.tt ?_
   refine Chain.nil ?_
   refine AW.seqR ?_
   replace h := bsome h; obtain ⟨x21, hx21, h⟩ := h
   obtain ⟨k22, hx21k, hx21, hx21a, hx21b⟩ := idx_some hx21
   refine Chain.runK [] 5 fun K hK => ?_; simp [hx21, hx21k, hx21a]; refine hK _ _ ?_; clear hK K
   refine Chain.sub (S' := mk 19 [] [(0, .d (.sl (a0.map (cI .i64)))), (1, .fn (.func g1) (cs1.map .d)), (5, .i v6), (7, .i (a0.length : Int)), (8, .i v6), (11, .fn (.func g1) (cs1.map .d)), (15, .i x21)] []) Sub.tt ?_
   replace h := bsome h; obtain ⟨r23, hr23, h⟩ := h
   refine Chain.callL (d := 16) (hp1 x21 r23 hr23) (by simp) rfl rfl (by simp <;> rfl) (by simp <;> rfl) ent_1 (by simp <;> rfl) ?_
   refine Chain.sub (S' := mk 19 [] [(0, .d (.sl (a0.map (cI .i64)))), (1, .fn (.func g1) (cs1.map .d)), (5, .i v6), (7, .i (a0.length : Int)), (8, .i v6), (11, .fn (.func g1) (cs1.map .d)), (15, .i x21), (16, .b r23)] []) (by simp; exact Sub.table (by simp) (by simp)) ?_
   refine Chain.nil ?_
   replace h := isome h; rcases h with ⟨c24, h⟩ | ⟨c24, h⟩
   ·have c24_ : r23 = true := c24
    refine AW.condT (b := r23) rfl c24_ ?_
    refine AW.sub (Sub.bool 16 (b := r23) rfl c24_) ?_
    refine AW.sub (S' := mk 19 [] [(0, .d (.sl (a0.map (cI .i64)))), (1, .fn (.func g1) (cs1.map .d)), (5, .i v6), (7, .i (a0.length : Int)), (8, .i v6), (16, .b true)] []) (by simp; exact Sub.table (by simp) (by simp)) ?_
    refine AW.seqR ?_
    refine Chain.runK [] 2 fun K hK => ?_; simp; refine hK _ _ ?_; clear hK K
    refine Chain.sub (S' := mk 19 [] [(4, .i v6)] []) Sub.tt ?_
    refine Chain.nil ?_
    refine AW.ret ?_
    cases h
    refine blockQ.ret ?_
    refine thenQ_pass (by simp) ?_
    refine PostI.out (by simp) ?_
    rintro rfl
    refine blockQ.ret ?_
    refine PostJ.out (by simp) ?_
    rintro rfl
    refine thenQ_pass (by simp) ?_
    exact FinC.ret (by simp) (by simp)
   ·have c24_ : r23 = false := Bool.eq_false_iff.2 c24
    refine AW.condF (b := r23) rfl c24_ ?_
    refine AW.sub (Sub.bool 16 (b := r23) rfl c24_) ?_
    refine AW.sub (S' := mk 19 [] [(0, .d (.sl (a0.map (cI .i64)))), (1, .fn (.func g1) (cs1.map .d)), (5, .i v6), (7, .i (a0.length : Int)), (8, .i v6), (16, .b false)] []) (by simp; exact Sub.table (by simp) (by simp)) ?_
    refine AW.skip ?_
    refine blockQ.normal ?_
    refine thenQ_normal ?_
    refine AW.region ?_
    replace h := bsome h; obtain ⟨v25, hv25, h⟩ := h
    have hv25 := chkI_some hv25
    refine Chain.runK [] 2 fun K hK => ?_; simp [hv25]; refine hK _ _ ?_; clear hK K
    refine Chain.sub (S' := mk 19 [] [(0, .d (.sl (a0.map (cI .i64)))), (1, .fn (.func g1) (cs1.map .d)), (7, .i (a0.length : Int)), (8, .i v25)] []) Sub.tt ?_
    refine Chain.nil ?_
    cases h
    refine PostI.next ?_
    exact Sub.tt
  ·have c20_ : decide (v6 < (a0.length : Int)) = false := decide_eq_false c20
   refine AW.condF (b := decide (v6 < (a0.length : Int))) rfl c20_ ?_
   refine AW.sub (Sub.bool 9 (b := decide (v6 < (a0.length : Int))) rfl c20_) ?_
   refine AW.sub (S' := mk 19 [] [(0, .d (.sl (a0.map (cI .i64)))), (1, .fn (.func g1) (cs1.map .d)), (7, .i (a0.length : Int)), (8, .i v6), (9, .b false)] []) (by simp; exact Sub.table (by simp) (by simp)) ?_
   refine AW.exit ?_
   cases h
   refine thenQ_pass (by simp) ?_
   refine PostI.out (by simp) ?_
   rintro rfl
   refine blockQ.hit ?_
   refine PostJ.next ?_
   exact Sub.tt
 ·rintro ⟨⟩ h
  refine thenQ_normal ?_
  refine AW.seqR ?_
  refine Chain.runK [] 1 fun K hK => ?_; simp; refine hK _ _ ?_; clear hK K
  refine Chain.sub (S' := mk 19 [] [(4, .i (-1))] []) Sub.tt ?_
  refine Chain.nil ?_
  refine AW.ret ?_
  cases h
  exact FinC.ret (by simp) (by simp)

/-- slices.ContainsFunc[[]int,int] -/
def d32 (N : Nat) (a0 : (List Int)) (p1 : Int → Option Bool) : Option Bool :=
 (d30 N a0 p1).bind fun r1 =>
 some (decide (r1 ≥ 0))
set_option maxRecDepth 100000 in
set_option maxHeartbeats 4000000 in
theorem p32 (N : Nat) (a0 : (List Int)) (g1 : Nat) (cs1 : List D) (p1 : Int → Option Bool) (ent_1 : Rp.Enters Try.prog g1) (hp1 : ∀ a0 r, p1 a0 = some r → FunC Try.prog g1 ([.i a0] ++ cs1.map .d) (.b r)) (r : Bool) (h : d32 N a0 p1 = some r) : FunC Try.prog 32 [.d (.sl (a0.map (cI .i64))), .fn (.func g1) (cs1.map .d)] (.b r) := by
 unfold d32 at h
 refine FunC.enter 9 [(0, .d (.sl (a0.map (cI .i64)))), (1, .fn (.func g1) (cs1.map .d))] (by simp) Try.func32 rfl (of_decide_eq_true rfl) rfl rfl ?_
 refine AW.seqR ?_
 refine Chain.runK [] 1 fun K hK => ?_; simp; refine hK _ _ ?_; clear hK K
 refine Chain.sub (S' := mk 9 [] [(0, .d (.sl (a0.map (cI .i64)))), (1, .fn (.func g1) (cs1.map .d))] []) Sub.tt ?_
 refine Chain.nil ?_
 refine AW.seqR ?_
 refine Chain.runK [] 2 fun K hK => ?_; simp; refine hK _ _ ?_; clear hK K
 refine Chain.sub (S' := mk 9 [] [(5, .d (.sl (a0.map (cI .i64)))), (6, .fn (.func g1) (cs1.map .d))] []) Sub.tt ?_
 replace h := bsome h; obtain ⟨r1, hr1, h⟩ := h
 refine Chain.callL (d := 7) (p30 N a0 g1 cs1 p1 ent_1 hp1 r1 hr1) (by simp) rfl rfl (by simp <;> rfl) (by simp <;> rfl) ent30 (by simp <;> rfl) ?_
 refine Chain.sub (S' := mk 9 [] [(5, .d (.sl (a0.map (cI .i64)))), (6, .fn (.func g1) (cs1.map .d)), (7, .i r1)] []) (by simp; exact Sub.table (by simp) (by simp)) ?_
 refine Chain.runK [] 2 fun K hK => ?_; simp; refine hK _ _ ?_; clear hK K
 refine Chain.sub (S' := mk 9 [] [(4, .b (decide (r1 ≥ 0)))] []) Sub.tt ?_
 refine Chain.nil ?_
 refine AW.ret ?_
 cases h
 exact FinC.ret (by simp) (by simp)

/-- stemma/serializability.SerialOrder$1 -/
def d31 (N : Nat) (a0 : Int) (a1 : (List Int)) (a2 : (List Bool)) : Option Bool :=
 (d32 N a1 (fun b0 => d33 N b0 a2 a0)).bind fun r1 =>
 some (!r1)
set_option maxRecDepth 100000 in
set_option maxHeartbeats 4000000 in
theorem p31 (N : Nat) (a0 : Int) (a1 : (List Int)) (a2 : (List Bool)) (r : Bool) (h : d31 N a0 a1 a2 = some r) : FunC Try.prog 31 [.i a0, .d (.pim [.sl (a1.map (cI .i64))]), .d (.pim (a2.map dB))] (.b r) := by
 unfold d31 at h
 refine FunC.enter 9 [(0, .i a0), (1, .d (.pim [.sl (a1.map (cI .i64))])), (2, .d (.pim (a2.map dB)))] (by simp) Try.func31 rfl (of_decide_eq_true rfl) rfl rfl ?_
 refine AW.seqR ?_
 refine Chain.runK [] 2 fun K hK => ?_; simp; refine hK _ _ ?_; clear hK K
 refine Chain.sub (S' := mk 9 [] [(1, .d (.pim [.sl (a1.map (cI .i64))])), (2, .d (.pim (a2.map dB))), (3, .ptr 3 0 0)] [(3, some (.box [.i a0]))]) Sub.tt ?_
 refine Chain.nil ?_
 refine AW.seqR ?_
 refine Chain.runK [] 2 fun K hK => ?_; simp; refine hK _ _ ?_; clear hK K
 refine Chain.sub (S' := mk 9 [] [(5, .d (.sl (a1.map (cI .i64)))), (6, .fn (.func 33) [.d (.pim (a2.map dB)), .ptr 3 0 0])] [(3, some (.box [.i a0]))]) Sub.tt ?_
 replace h := bsome h; obtain ⟨r1, hr1, h⟩ := h
 refine Chain.callL (d := 7) (p32 N a1 33 [.pim (a2.map dB), .pim [.lit (.int .i64 a0)]] (fun b0 => d33 N b0 a2 a0) ent33 (fun b0 r h => p33 N b0 a2 a0 r h) r1 hr1) (by simp) rfl rfl (by simp <;> rfl) (by simp <;> rfl) ent32 (by simp <;> rfl) ?_
 refine Chain.sub (S' := mk 9 [] [(5, .d (.sl (a1.map (cI .i64)))), (6, .fn (.func 33) [.d (.pim (a2.map dB)), .ptr 3 0 0]), (7, .b r1)] [(3, some (.box [.i a0]))]) (by simp; exact Sub.table (by simp) (by simp)) ?_
 refine Chain.runK [] 2 fun K hK => ?_; simp; refine hK _ _ ?_; clear hK K
 refine Chain.sub (S' := mk 9 [] [(4, .b (!r1))] []) Sub.tt ?_
 refine Chain.nil ?_
 refine AW.ret ?_
 cases h
 exact FinC.ret (by simp) (by simp)

end Go.Proofs.Ytifcmomjjkbboaa
