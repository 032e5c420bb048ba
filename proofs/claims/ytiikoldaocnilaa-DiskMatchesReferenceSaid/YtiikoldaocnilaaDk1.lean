/- Functions of the program as functional programs; the code computes them. -/
import Derived.Test.YtiikoldaocnilaaDk0
namespace Go.Proofs.Ytiikoldaocnilaa
open Go.Ab Go.Rp
attribute [-simp] List.all_eq_true Array.all_toList Array.all_eq_true

/-- stemma/disk.New -/
def d5 (N : Nat) (a0 : Int) : Option ((Option S64) × Int) :=
 Option.bind (α := Bool) (
  if a0 < 1 then (
   some true
  ) else
  some (decide (a0 > 256))
 ) fun (v2 : Bool) =>
 if v2 = true then (
  some (none, 1)
 ) else
 Option.bind (α := List (List Int)) (
  iterN (σ := ((List (List Int)) × Int)) (ρ := List (List Int)) (fun ((l9, v10) : ((List (List Int)) × Int)) =>
   if v10 < a0 then (
    (mkL 1 32 0).bind fun l23 =>
    (appL 24 l9 [l23]).bind fun _l24 =>
    (chkI (v10 + 1)).bind fun v25 =>
    some (.inl ((l9 ++ [l23]), v25))
   ) else
   some (.inr l9)
  ) N (([] : List (List Int)), 0)
 ) fun (l21 : List (List Int)) =>
 some ((some (S64.mk l21 ([] : List S66))), 0)
set_option maxRecDepth 100000 in
set_option maxHeartbeats 4000000 in
theorem p5 (N : Nat) (a0 : Int) (r : ((Option S64) × Int)) (h : d5 N a0 = some r) : FunM Try.prog 5 [.d (.lit (.int .i64 a0))] [] [] (.tup [(match r.1 with | none => V.d (.lit (.pointer none)) | some _ => V.ptr 1000 0 0), .d (.lit (.int .i64 r.2))]) ([] ++ (match r.1 with | none => [] | some o => [(1000, (.box [.ref 25000 0 o.durable.length, .ref 25001 0 o.pending.length])), (25000, (.arr 30 1 (o.durable.map (cL (cI .u8))))), (25001, (.arr 66 2 (o.pending.map cS66)))])) := by
 unfold d5 at h
 refine FunM.enter 28 [(0, .d (.lit (.int .i64 a0)))] Try.func5 rfl (of_decide_eq_true rfl) rfl rfl ?_
 refine AW.seqR ?_
 refine Chain.runK [] 2 fun K hK => ?_; simp; refine hK _ _ ?_; clear hK K
 refine Chain.sub (S' := mk 28 [] [(0, .d (.lit (.int .i64 a0)))] []) Sub.tt ?_
 refine Chain.nil ?_
 refine AW.seq ?_
 replace h := bsome h; obtain ⟨v2, hj, h⟩ := h
 refine AW.cutR (mk 28 [] [(0, .d (.lit (.int .i64 a0))), (10, .d (.lit (.bool v2)))] []) ?_ ?_
 ·clear h; have h := hj; clear hj
  refine Chain.runK [] 3 fun K hK => ?_; simp; refine hK _ _ ?_; clear hK K
  refine Chain.sub (S' := mk 28 [] [(0, .d (.lit (.int .i64 a0))), (7, .d (.lit (.bool (decide (a0 < 1)))))] []) Sub.tt ?_
  replace h := isome h; rcases h with ⟨c3, h⟩ | ⟨c3, h⟩
  ·have c3_ : decide (a0 < 1) = true := decide_eq_true c3
   refine Chain.sub (Sub.bool 7 (b := decide (a0 < 1)) rfl c3_) ?_
   refine Chain.sub (S' := mk 28 [] [(0, .d (.lit (.int .i64 a0))), (7, .d (.lit (.bool true)))] []) (by simp; exact Sub.table (by simp) (by simp)) ?_
   refine Chain.runK [] 3 fun K hK => ?_; simp; refine hK _ _ ?_; clear hK K
   refine Chain.sub (S' := mk 28 [] [(0, .d (.lit (.int .i64 a0))), (10, .d (.lit (.bool true)))] []) Sub.tt ?_
   cases h
   exact Chain.nil Sub.tt
  ·have c3_ : decide (a0 < 1) = false := decide_eq_false c3
   refine Chain.sub (Sub.bool 7 (b := decide (a0 < 1)) rfl c3_) ?_
   refine Chain.sub (S' := mk 28 [] [(0, .d (.lit (.int .i64 a0))), (7, .d (.lit (.bool false)))] []) (by simp; exact Sub.table (by simp) (by simp)) ?_
   refine Chain.runK [] 3 fun K hK => ?_; simp; refine hK _ _ ?_; clear hK K
   refine Chain.sub (S' := mk 28 [] [(0, .d (.lit (.int .i64 a0))), (10, .d (.lit (.bool (decide (a0 > 256)))))] []) Sub.tt ?_
   cases h
   exact Chain.nil Sub.tt
 ·clear hj
  replace h := isome h; rcases h with ⟨c4, h⟩ | ⟨c4, h⟩
  ·have c4_ : v2 = true := c4
   refine AW.condT (b := v2) rfl c4_ ?_
   refine AW.sub (Sub.bool 10 (b := v2) rfl c4_) ?_
   refine AW.sub (S' := mk 28 [] [(0, .d (.lit (.int .i64 a0))), (10, .d (.lit (.bool true)))] []) (by simp; exact Sub.table (by simp) (by simp)) ?_
   refine AW.seqR ?_
   refine Chain.runK [] 2 fun K hK => ?_; simp; refine hK _ _ ?_; clear hK K
   refine Chain.sub (S' := mk 28 [] [(2, .d (.lit (.pointer none))), (3, .d (.lit (.int .i64 1)))] []) Sub.tt ?_
   refine Chain.nil ?_
   refine AW.ret ?_
   cases h
   refine thenQ_pass (by simp) ?_
   exact FinF.ret (by simp) (by simp)
  ·have c4_ : v2 = false := Bool.eq_false_iff.2 c4
   refine AW.condF (b := v2) rfl c4_ ?_
   refine AW.sub (Sub.bool 10 (b := v2) rfl c4_) ?_
   refine AW.sub (S' := mk 28 [] [(0, .d (.lit (.int .i64 a0))), (10, .d (.lit (.bool false)))] []) (by simp; exact Sub.table (by simp) (by simp)) ?_
   refine AW.skip ?_
   refine thenQ_normal ?_
   refine AW.seqR ?_
   refine Chain.runK [] 2 fun K hK => ?_; simp; refine hK _ _ ?_; clear hK K
   refine Chain.sub (S' := mk 28 [] [(0, .d (.lit (.int .i64 a0))), (12, .ptr 12 0 0)] [(12, some (.box [.d (.lit (.slice none 0 0)), .d (.lit (.slice none 0 0))]))]) Sub.tt ?_
   refine Chain.sub (Sub.nilOwnBox (bid := 12) (j := 0) (id := 5240) (T := 30) (n := 1) rfl rfl (by decide) rfl (by decide)) ?_
   refine Chain.sub (S' := mk 28 [] [(0, .d (.lit (.int .i64 a0))), (12, .ptr 12 0 0)] [(12, some (.box [.ref 5240 0 (([] : List (List Int)).length), .d (.lit (.slice none 0 0))])), (5240, some (.arr 30 1 (([] : List (List Int)).map (cL (cI .u8)))))]) (by simp; exact Sub.table (by simp) (by simp)) ?_
   refine Chain.sub (Sub.nilOwnBox (bid := 12) (j := 1) (id := 5241) (T := 66) (n := 2) rfl rfl (by decide) rfl (by decide)) ?_
   refine Chain.sub (S' := mk 28 [] [(0, .d (.lit (.int .i64 a0))), (12, .ptr 12 0 0)] [(12, some (.box [.ref 5240 0 (([] : List (List Int)).length), .ref 5241 0 (([] : List S66).length)])), (5240, some (.arr 30 1 (([] : List (List Int)).map (cL (cI .u8))))), (5241, some (.arr 66 2 (([] : List S66).map cS66)))]) (by simp; exact Sub.table (by simp) (by simp)) ?_
   refine Chain.runK [] 1 fun K hK => ?_; simp; refine hK _ _ ?_; clear hK K
   refine Chain.sub (S' := mk 28 [] [(0, .d (.lit (.int .i64 a0))), (4, .ptr 12 0 0)] [(12, some (.box [.ref 5240 0 (([] : List (List Int)).length), .ref 5241 0 (([] : List S66).length)])), (5240, some (.arr 30 1 (([] : List (List Int)).map (cL (cI .u8))))), (5241, some (.arr 66 2 (([] : List S66).map cS66)))]) Sub.tt ?_
   refine Chain.nil ?_
   refine AW.seq ?_
   refine AW.seqR ?_
   refine Chain.runK [] 2 fun K hK => ?_; simp; refine hK _ _ ?_; clear hK K
   refine Chain.sub (S' := mk 28 [] [(4, .ptr 12 0 0), (13, .d (.lit (.int .i64 a0))), (14, .d (.lit (.int .i64 0)))] [(12, some (.box [.ref 5240 0 (([] : List (List Int)).length), .ref 5241 0 (([] : List S66).length)])), (5240, some (.arr 30 1 (([] : List (List Int)).map (cL (cI .u8))))), (5241, some (.arr 66 2 (([] : List S66).map cS66)))]) Sub.tt ?_
   refine Chain.nil ?_
   refine AW.lastN (fun (l21 : List (List Int)) => mk 28 [] [(4, .ptr 12 0 0)] [(12, some (.box [.ref 5240 0 l21.length, .ref 5241 0 (([] : List S66).length)])), (5240, some (.arr 30 1 (l21.map (cL (cI .u8))))), (5241, some (.arr 66 2 (([] : List S66).map cS66)))]) h ?_ ?_ <;> clear h
   ·intro o h
    refine AW.block ?_
    refine AW.iter (fun ((l9, v10) : ((List (List Int)) × Int)) => mk 28 [] [(4, .ptr 12 0 0), (13, .d (.lit (.int .i64 a0))), (14, .d (.lit (.int .i64 v10)))] [(12, some (.box [.ref 5240 0 l9.length, .ref 5241 0 (([] : List S66).length)])), (5240, some (.arr 30 1 (l9.map (cL (cI .u8))))), (5241, some (.arr 66 2 (([] : List S66).map cS66)))]) h Sub.tt ?_
    clear h
    rintro ⟨l9, v10⟩ x h
    dsimp only at h ⊢
    refine AW.seqR ?_
    refine Chain.runK [] 1 fun K hK => ?_; simp; refine hK _ _ ?_; clear hK K
    refine Chain.sub (S' := mk 28 [] [(4, .ptr 12 0 0), (13, .d (.lit (.int .i64 a0))), (14, .d (.lit (.int .i64 v10))), (15, .d (.lit (.bool (decide (v10 < a0)))))] [(12, some (.box [.ref 5240 0 l9.length, .ref 5241 0 (([] : List S66).length)])), (5240, some (.arr 30 1 (l9.map (cL (cI .u8))))), (5241, some (.arr 66 2 (([] : List S66).map cS66)))]) Sub.tt ?_
    refine Chain.nil ?_
    refine AW.seq ?_
    replace h := isome h; rcases h with ⟨c22, h⟩ | ⟨c22, h⟩
    ·have c22_ : decide (v10 < a0) = true := decide_eq_true c22
     refine AW.condT (b := decide (v10 < a0)) rfl c22_ ?_
     refine AW.sub (Sub.bool 15 (b := decide (v10 < a0)) rfl c22_) ?_
     refine AW.sub (S' := mk 28 [] [(4, .ptr 12 0 0), (13, .d (.lit (.int .i64 a0))), (14, .d (.lit (.int .i64 v10))), (15, .d (.lit (.bool true)))] [(12, some (.box [.ref 5240 0 l9.length, .ref 5241 0 (([] : List S66).length)])), (5240, some (.arr 30 1 (l9.map (cL (cI .u8))))), (5241, some (.arr 66 2 (([] : List S66).map cS66)))]) (by simp; exact Sub.table (by simp) (by simp)) ?_
     refine AW.skip ?_
     refine thenQ_normal ?_
     refine AW.seq ?_
     refine AW.block ?_
     replace h := bsome h; obtain ⟨l23, gl23, h⟩ := h
     obtain ⟨hl23a, hl23b, hl23c, hl23d⟩ := mkL_some (cI .u8) gl23
     clear gl23
     replace hl23c : List.replicate l23.length [.lit (.int .u8 0)] = l23.map (cI .u8) := hl23c
     simp only [Nat.mul_one] at hl23b
     replace h := bsome h; obtain ⟨l24, hl24, h⟩ := h
     obtain ⟨hl24a, hl24⟩ := appL_some hl24
     subst hl24
     try simp only [List.length_cons, List.length_nil, Nat.zero_add] at hl24a
     refine AW.lastAnyS [[], [], [1], [1, 2], [1, 2, 3], [], [5], [1, 2, 3, 4, 5, 6], [0, 1, 2, 3, 4, 5, 6, 7], [0, 1, 2, 3, 4, 5, 6, 7, 8], [0, 1, 2, 3, 4, 5, 6, 7, 8, 9]] (fun (b : Nat → Bool) => mk 28 [] [(4, .ptr 12 0 0), (13, .d (.lit (.int .i64 a0))), (14, .d (.lit (.int .i64 v10))), (16, (if b 0 then .ptr 12 0 0 else .junk)), (17, (if b 1 then .ptr 12 0 0 else .junk)), (18, (if b 2 then .ptr 12 0 0 else .junk)), (19, (if b 3 then .ptr 12 0 0 else .junk)), (20, (if b 7 then .junk else (if b 4 then .ref 5240 0 l9.length else .junk))), (21, (if b 5 then .d (.sl (l23.map (cI .u8))) else .junk)), (22, (if b 6 then .d (.sl ([l23].map (cL (cI .u8)))) else .junk)), (23, (if b 7 then .ref 5240 0 ((l9 ++ [l23]).length) else .junk)), (24, (if b 8 then .ptr 12 0 0 else .junk)), (25, (if b 9 then .ptr 12 0 0 else .junk))] [(12, (if b 10 then some (.box [.ref 5240 0 ((l9 ++ [l23]).length), .ref 5241 0 (([] : List S66).length)]) else (if b 7 then some (.box [.hole, .ref 5241 0 (([] : List S66).length)]) else some (.box [.ref 5240 0 l9.length, .ref 5241 0 (([] : List S66).length)])))), (5240, (if b 7 then some (.arr 30 1 ((l9 ++ [l23]).map (cL (cI .u8)))) else some (.arr 30 1 (l9.map (cL (cI .u8)))))), (5241, some (.arr 66 2 (([] : List S66).map cS66)))]) (mk 28 [] [(4, .ptr 12 0 0), (13, .d (.lit (.int .i64 a0))), (14, .d (.lit (.int .i64 v10)))] [(12, some (.box [.ref 5240 0 ((l9 ++ [l23]).length), .ref 5241 0 (([] : List S66).length)])), (5240, some (.arr 30 1 ((l9 ++ [l23]).map (cL (cI .u8))))), (5241, some (.arr 66 2 (([] : List S66).map cS66)))]) (by kernel_rfl) (by kernel_rfl) Sub.tt (Steps.cons ?_ (Steps.cons ?_ (Steps.cons ?_ (Steps.cons ?_ (Steps.cons ?_ (Steps.cons ?_ (Steps.cons ?_ (Steps.cons ?_ (Steps.cons ?_ (Steps.cons ?_ (Steps.cons ?_ (Steps.nil)))))))))))) ?_ ?_
     ·intro b h0 ha hd
      have f8 : b 8 = false := hd 8 (by decide)
      have f9 : b 9 = false := hd 9 (by decide)
      have f10 : b 10 = false := hd 10 (by decide)
      refine Chain.runK [22] 1 fun K hK => ?_; simp [h0, f8, f9, f10]; refine hK _ _ ?_; clear hK K
      exact Chain.nil (Sub.table (by simp [f8, f9]) (by simp [f10]))
     ·intro b h0 ha hd
      have f2 : b 2 = false := hd 2 (by decide)
      have f3 : b 3 = false := hd 3 (by decide)
      have f4 : b 4 = false := hd 4 (by decide)
      have f7 : b 7 = false := hd 7 (by decide)
      have f8 : b 8 = false := hd 8 (by decide)
      have f9 : b 9 = false := hd 9 (by decide)
      have f10 : b 10 = false := hd 10 (by decide)
      refine Chain.runK [22] 1 fun K hK => ?_; simp [h0, f2, f3, f4, f7, f8, f9, f10]; refine hK _ _ ?_; clear hK K
      exact Chain.nil (Sub.table (by simp [f2, f3, f4, f7, f8, f9]) (by simp [f7, f10]))
     ·intro b h0 ha hd
      have t1 : b 1 = true := ha 1 (by decide)
      have f3 : b 3 = false := hd 3 (by decide)
      have f4 : b 4 = false := hd 4 (by decide)
      have f7 : b 7 = false := hd 7 (by decide)
      have f8 : b 8 = false := hd 8 (by decide)
      have f9 : b 9 = false := hd 9 (by decide)
      have f10 : b 10 = false := hd 10 (by decide)
      refine Chain.runK [22] 1 fun K hK => ?_; simp [h0, t1, f3, f4, f7, f8, f9, f10]; refine hK _ _ ?_; clear hK K
      exact Chain.nil (Sub.table (by simp [t1, f3, f4, f7, f8, f9]) (by simp [f7, f10]))
     ·intro b h0 ha hd
      have t1 : b 1 = true := ha 1 (by decide)
      have t2 : b 2 = true := ha 2 (by decide)
      have f4 : b 4 = false := hd 4 (by decide)
      have f7 : b 7 = false := hd 7 (by decide)
      have f8 : b 8 = false := hd 8 (by decide)
      have f9 : b 9 = false := hd 9 (by decide)
      have f10 : b 10 = false := hd 10 (by decide)
      refine Chain.runK [22] 1 fun K hK => ?_; simp [h0, t1, t2, f4, f7, f8, f9, f10]; refine hK _ _ ?_; clear hK K
      exact Chain.nil (Sub.table (by simp [t1, t2, f4, f7, f8, f9]) (by simp [f7, f10]))
     ·intro b h0 ha hd
      have t1 : b 1 = true := ha 1 (by decide)
      have t2 : b 2 = true := ha 2 (by decide)
      have t3 : b 3 = true := ha 3 (by decide)
      have f7 : b 7 = false := hd 7 (by decide)
      have f8 : b 8 = false := hd 8 (by decide)
      have f9 : b 9 = false := hd 9 (by decide)
      have f10 : b 10 = false := hd 10 (by decide)
      refine Chain.runK [22] 1 fun K hK => ?_; simp [h0, t1, t2, t3, f7, f8, f9, f10]; refine hK _ _ ?_; clear hK K
      exact Chain.nil (Sub.table (by simp [t1, t2, t3, f7, f8, f9]) (by simp [f7, f10]))
     ·intro b h0 ha hd
      have f6 : b 6 = false := hd 6 (by decide)
      have f7 : b 7 = false := hd 7 (by decide)
      have f8 : b 8 = false := hd 8 (by decide)
      have f9 : b 9 = false := hd 9 (by decide)
      have f10 : b 10 = false := hd 10 (by decide)
      refine Chain.runK [22] 1 fun K hK => ?_; simp [h0, f6, f7, f8, f9, f10, hl23a, hl23b, hl23c, hl23d]; refine hK _ _ ?_; clear hK K
      refine Chain.sub (Sub.freeze 21 rfl) ?_
      exact Chain.nil (by simp [↓frz_ite, f6, f7, f8, f9, f10]; exact Sub.table (by simp) (by simp))
     ·intro b h0 ha hd
      have t5 : b 5 = true := ha 5 (by decide)
      have f7 : b 7 = false := hd 7 (by decide)
      have f8 : b 8 = false := hd 8 (by decide)
      have f9 : b 9 = false := hd 9 (by decide)
      have f10 : b 10 = false := hd 10 (by decide)
      refine Chain.runK [22] 1 fun K hK => ?_; simp [h0, t5, f7, f8, f9, f10]; refine hK _ _ ?_; clear hK K
      exact Chain.nil (Sub.table (by simp [t5, f7, f8, f9]) (by simp [f7, f10]))
     ·intro b h0 ha hd
      have t1 : b 1 = true := ha 1 (by decide)
      have t2 : b 2 = true := ha 2 (by decide)
      have t3 : b 3 = true := ha 3 (by decide)
      have t4 : b 4 = true := ha 4 (by decide)
      have t5 : b 5 = true := ha 5 (by decide)
      have t6 : b 6 = true := ha 6 (by decide)
      have f8 : b 8 = false := hd 8 (by decide)
      have f9 : b 9 = false := hd 9 (by decide)
      have f10 : b 10 = false := hd 10 (by decide)
      refine Chain.runK [22] 1 fun K hK => ?_; simp [h0, t1, t2, t3, t4, t5, t6, f8, f9, f10, hl24a]; refine hK _ _ ?_; clear hK K
      exact Chain.nil (Sub.table (by simp [t1, t2, t3, t5, t6, f8, f9]) (by simp [f10]))
     ·intro b h0 ha hd
      have t0 : b 0 = true := ha 0 (by decide)
      have t1 : b 1 = true := ha 1 (by decide)
      have t2 : b 2 = true := ha 2 (by decide)
      have t3 : b 3 = true := ha 3 (by decide)
      have t4 : b 4 = true := ha 4 (by decide)
      have t5 : b 5 = true := ha 5 (by decide)
      have t6 : b 6 = true := ha 6 (by decide)
      have t7 : b 7 = true := ha 7 (by decide)
      have f9 : b 9 = false := hd 9 (by decide)
      have f10 : b 10 = false := hd 10 (by decide)
      refine Chain.runK [22] 1 fun K hK => ?_; simp [h0, t0, t1, t2, t3, t5, t6, t7, f9, f10]; refine hK _ _ ?_; clear hK K
      exact Chain.nil (Sub.table (by simp [t0, t1, t2, t3, t5, t6, t7, f9]) (by simp [t7, f10]))
     ·intro b h0 ha hd
      have t0 : b 0 = true := ha 0 (by decide)
      have t1 : b 1 = true := ha 1 (by decide)
      have t2 : b 2 = true := ha 2 (by decide)
      have t3 : b 3 = true := ha 3 (by decide)
      have t4 : b 4 = true := ha 4 (by decide)
      have t5 : b 5 = true := ha 5 (by decide)
      have t6 : b 6 = true := ha 6 (by decide)
      have t7 : b 7 = true := ha 7 (by decide)
      have t8 : b 8 = true := ha 8 (by decide)
      have f10 : b 10 = false := hd 10 (by decide)
      refine Chain.runK [22] 1 fun K hK => ?_; simp [h0, t0, t1, t2, t3, t5, t6, t7, t8, f10]; refine hK _ _ ?_; clear hK K
      exact Chain.nil (Sub.table (by simp [t0, t1, t2, t3, t5, t6, t7, t8]) (by simp [t7, f10]))
     ·intro b h0 ha hd
      have t0 : b 0 = true := ha 0 (by decide)
      have t1 : b 1 = true := ha 1 (by decide)
      have t2 : b 2 = true := ha 2 (by decide)
      have t3 : b 3 = true := ha 3 (by decide)
      have t4 : b 4 = true := ha 4 (by decide)
      have t5 : b 5 = true := ha 5 (by decide)
      have t6 : b 6 = true := ha 6 (by decide)
      have t7 : b 7 = true := ha 7 (by decide)
      have t8 : b 8 = true := ha 8 (by decide)
      have t9 : b 9 = true := ha 9 (by decide)
      refine Chain.runK [22] 1 fun K hK => ?_; simp [h0, t0, t1, t2, t3, t5, t6, t7, t8, t9]; refine hK _ _ ?_; clear hK K
      exact Chain.nil (Sub.table (by simp [t0, t1, t2, t3, t5, t6, t7, t8, t9]) (by simp [t7]))
     ·intro b hb
      have t0 := hb 0 (by decide)
      have t1 := hb 1 (by decide)
      have t2 := hb 2 (by decide)
      have t3 := hb 3 (by decide)
      have t4 := hb 4 (by decide)
      have t5 := hb 5 (by decide)
      have t6 := hb 6 (by decide)
      have t7 := hb 7 (by decide)
      have t8 := hb 8 (by decide)
      have t9 := hb 9 (by decide)
      have t10 := hb 10 (by decide)
      exact Sub.table (by simp [t0, t1, t2, t3, t5, t6, t7, t8, t9]) (by simp [t7, t10])
     ·skip
      refine blockQ.normal ?_
      refine thenQ_normal ?_
      refine AW.region ?_
      replace h := bsome h; obtain ⟨v25, hv25, h⟩ := h
      have hv25 := chkI_some hv25
      refine Chain.runK [] 2 fun K hK => ?_; simp [hv25]; refine hK _ _ ?_; clear hK K
      refine Chain.sub (S' := mk 28 [] [(4, .ptr 12 0 0), (13, .d (.lit (.int .i64 a0))), (14, .d (.lit (.int .i64 v25)))] [(12, some (.box [.ref 5240 0 ((l9 ++ [l23]).length), .ref 5241 0 (([] : List S66).length)])), (5240, some (.arr 30 1 ((l9 ++ [l23]).map (cL (cI .u8))))), (5241, some (.arr 66 2 (([] : List S66).map cS66)))]) Sub.tt ?_
      refine Chain.nil ?_
      cases h
      refine PostI.next ?_
      exact Sub.tt
    ·have c22_ : decide (v10 < a0) = false := decide_eq_false c22
     refine AW.condF (b := decide (v10 < a0)) rfl c22_ ?_
     refine AW.sub (Sub.bool 15 (b := decide (v10 < a0)) rfl c22_) ?_
     refine AW.sub (S' := mk 28 [] [(4, .ptr 12 0 0), (13, .d (.lit (.int .i64 a0))), (14, .d (.lit (.int .i64 v10))), (15, .d (.lit (.bool false)))] [(12, some (.box [.ref 5240 0 l9.length, .ref 5241 0 (([] : List S66).length)])), (5240, some (.arr 30 1 (l9.map (cL (cI .u8))))), (5241, some (.arr 66 2 (([] : List S66).map cS66)))]) (by simp; exact Sub.table (by simp) (by simp)) ?_
     refine AW.exit ?_
     cases h
     refine thenQ_pass (by simp) ?_
     refine PostI.out (by simp) ?_
     rintro rfl
     refine blockQ.hit ?_
     refine PostN.next ?_
     exact Sub.tt
   ·rintro l21 h
    refine thenQ_normal ?_
    refine AW.seqR ?_
    refine Chain.runK [] 3 fun K hK => ?_; simp; refine hK _ _ ?_; clear hK K
    refine Chain.sub (S' := mk 28 [] [(2, .ptr 12 0 0), (3, .d (.lit (.int .i64 0)))] [(12, some (.box [.ref 5240 0 l21.length, .ref 5241 0 (([] : List S66).length)])), (5240, some (.arr 30 1 (l21.map (cL (cI .u8))))), (5241, some (.arr 66 2 (([] : List S66).map cS66)))]) Sub.tt ?_
    refine Chain.nil ?_
    refine AW.sub (S' := mk 28 [] [(2, .ptr 1000 0 0), (3, .d (.lit (.int .i64 0)))] [(1000, some (.box [.ref 25000 0 l21.length, .ref 25001 0 (([] : List S66).length)])), (25000, some (.arr 30 1 (l21.map (cL (cI .u8))))), (25001, some (.arr 66 2 (([] : List S66).map cS66)))]) (Sub.names [(12, 1000), (5240, 25000), (5241, 25001)] (by simp) (by simp) (by simp [back]) (by simp [V.rnm, lk2]) (by simp [back, Blk.rnm, V.rnm, rnmL, lk2])) ?_
    refine AW.ret ?_
    cases h
    exact FinF.ret (by simp) (by simp)

/-- (*stemma/disk.Disk).Write -/
def d6 (_N : Nat) (a0 : S64) (a1 : Int) (a2 : (List Int)) : Option (S64 × Int) :=
 Option.bind (α := Bool) (
  if a1 < 0 then (
   some true
  ) else
  some (decide (a1 ≥ (a0.durable.length : Int)))
 ) fun (v2 : Bool) =>
 if v2 = true then (
  some (a0, 1)
 ) else
 if (a2.length : Int) > 32 then (
  some (a0, 2)
 ) else
 if ((a0.pending.length : Int) == 1000) then (
  some (a0, 18)
 ) else
 (mkL 1 32 0).bind fun l7 =>
 letv (a2.take (Nat.min a2.length l7.length) ++ l7.drop (Nat.min a2.length l7.length)) fun l8 =>
 (appL 32 a0.pending [(S66.mk a1 l8)]).bind fun _l9 =>
 some ((S64.mk a0.durable (a0.pending ++ [(S66.mk a1 l8)])), 0)
set_option maxRecDepth 100000 in
set_option maxHeartbeats 4000000 in
theorem p6 (N : Nat) (a0 : S64) (a1 : Int) (a2 : (List Int)) (r : (S64 × Int)) (h : d6 N a0 a1 a2 = some r) : FunM Try.prog 6 [.ptr 1000 0 0, .d (.lit (.int .i64 a1)), .d (.sl (a2.map (cI .u8)))] [(1000, some (.box [.ref 25000 0 a0.durable.length, .ref 25001 0 a0.pending.length])), (25000, some (.arr 30 1 (a0.durable.map (cL (cI .u8))))), (25001, some (.arr 66 2 (a0.pending.map cS66)))] [1000] (.d (.lit (.int .i64 r.2))) ([(1000, (.box [.ref 25000 0 r.1.durable.length, .ref 25001 0 r.1.pending.length])), (25000, (.arr 30 1 (r.1.durable.map (cL (cI .u8))))), (25001, (.arr 66 2 (r.1.pending.map cS66)))]) := by
 unfold d6 at h
 refine FunM.enter 44 [(0, .ptr 1000 0 0), (1, .d (.lit (.int .i64 a1))), (2, .d (.sl (a2.map (cI .u8))))] Try.func6 rfl (of_decide_eq_true rfl) rfl rfl ?_
 refine AW.seqR ?_
 refine Chain.runK [] 1 fun K hK => ?_; simp; refine hK _ _ ?_; clear hK K
 refine Chain.sub (S' := mk 44 [1000] [(0, .ptr 1000 0 0), (1, .d (.lit (.int .i64 a1))), (2, .d (.sl (a2.map (cI .u8))))] [(1000, some (.box [.ref 25000 0 a0.durable.length, .ref 25001 0 a0.pending.length])), (25000, some (.arr 30 1 (a0.durable.map (cL (cI .u8))))), (25001, some (.arr 66 2 (a0.pending.map cS66)))]) Sub.tt ?_
 refine Chain.nil ?_
 refine AW.seq ?_
 replace h := bsome h; obtain ⟨v2, hj, h⟩ := h
 refine AW.cutR (mk 44 [1000] [(0, .ptr 1000 0 0), (1, .d (.lit (.int .i64 a1))), (2, .d (.sl (a2.map (cI .u8)))), (18, .d (.lit (.bool v2)))] [(1000, some (.box [.ref 25000 0 a0.durable.length, .ref 25001 0 a0.pending.length])), (25000, some (.arr 30 1 (a0.durable.map (cL (cI .u8))))), (25001, some (.arr 66 2 (a0.pending.map cS66)))]) ?_ ?_
 ·clear h; have h := hj; clear hj
  refine Chain.runK [] 3 fun K hK => ?_; simp; refine hK _ _ ?_; clear hK K
  refine Chain.sub (S' := mk 44 [1000] [(0, .ptr 1000 0 0), (1, .d (.lit (.int .i64 a1))), (2, .d (.sl (a2.map (cI .u8)))), (10, .d (.lit (.bool (decide (a1 < 0)))))] [(1000, some (.box [.ref 25000 0 a0.durable.length, .ref 25001 0 a0.pending.length])), (25000, some (.arr 30 1 (a0.durable.map (cL (cI .u8))))), (25001, some (.arr 66 2 (a0.pending.map cS66)))]) Sub.tt ?_
  replace h := isome h; rcases h with ⟨c3, h⟩ | ⟨c3, h⟩
  ·have c3_ : decide (a1 < 0) = true := decide_eq_true c3
   refine Chain.sub (Sub.bool 10 (b := decide (a1 < 0)) rfl c3_) ?_
   refine Chain.sub (S' := mk 44 [1000] [(0, .ptr 1000 0 0), (1, .d (.lit (.int .i64 a1))), (2, .d (.sl (a2.map (cI .u8)))), (10, .d (.lit (.bool true)))] [(1000, some (.box [.ref 25000 0 a0.durable.length, .ref 25001 0 a0.pending.length])), (25000, some (.arr 30 1 (a0.durable.map (cL (cI .u8))))), (25001, some (.arr 66 2 (a0.pending.map cS66)))]) (by simp; exact Sub.table (by simp) (by simp)) ?_
   refine Chain.runK [] 8 fun K hK => ?_; simp; refine hK _ _ ?_; clear hK K
   refine Chain.sub (S' := mk 44 [1000] [(0, .ptr 1000 0 0), (1, .d (.lit (.int .i64 a1))), (2, .d (.sl (a2.map (cI .u8)))), (18, .d (.lit (.bool true)))] [(1000, some (.box [.ref 25000 0 a0.durable.length, .ref 25001 0 a0.pending.length])), (25000, some (.arr 30 1 (a0.durable.map (cL (cI .u8))))), (25001, some (.arr 66 2 (a0.pending.map cS66)))]) Sub.tt ?_
   cases h
   exact Chain.nil Sub.tt
  ·have c3_ : decide (a1 < 0) = false := decide_eq_false c3
   refine Chain.sub (Sub.bool 10 (b := decide (a1 < 0)) rfl c3_) ?_
   refine Chain.sub (S' := mk 44 [1000] [(0, .ptr 1000 0 0), (1, .d (.lit (.int .i64 a1))), (2, .d (.sl (a2.map (cI .u8)))), (10, .d (.lit (.bool false)))] [(1000, some (.box [.ref 25000 0 a0.durable.length, .ref 25001 0 a0.pending.length])), (25000, some (.arr 30 1 (a0.durable.map (cL (cI .u8))))), (25001, some (.arr 66 2 (a0.pending.map cS66)))]) (by simp; exact Sub.table (by simp) (by simp)) ?_
   refine Chain.runK [] 8 fun K hK => ?_; simp; refine hK _ _ ?_; clear hK K
   refine Chain.sub (S' := mk 44 [1000] [(0, .ptr 1000 0 0), (1, .d (.lit (.int .i64 a1))), (2, .d (.sl (a2.map (cI .u8)))), (18, .d (.lit (.bool (decide (a1 ≥ (a0.durable.length : Int))))))] [(1000, some (.box [.ref 25000 0 a0.durable.length, .ref 25001 0 a0.pending.length])), (25000, some (.arr 30 1 (a0.durable.map (cL (cI .u8))))), (25001, some (.arr 66 2 (a0.pending.map cS66)))]) Sub.tt ?_
   cases h
   exact Chain.nil Sub.tt
 ·clear hj
  replace h := isome h; rcases h with ⟨c4, h⟩ | ⟨c4, h⟩
  ·have c4_ : v2 = true := c4
   refine AW.condT (b := v2) rfl c4_ ?_
   refine AW.sub (Sub.bool 18 (b := v2) rfl c4_) ?_
   refine AW.sub (S' := mk 44 [1000] [(0, .ptr 1000 0 0), (1, .d (.lit (.int .i64 a1))), (2, .d (.sl (a2.map (cI .u8)))), (18, .d (.lit (.bool true)))] [(1000, some (.box [.ref 25000 0 a0.durable.length, .ref 25001 0 a0.pending.length])), (25000, some (.arr 30 1 (a0.durable.map (cL (cI .u8))))), (25001, some (.arr 66 2 (a0.pending.map cS66)))]) (by simp; exact Sub.table (by simp) (by simp)) ?_
   refine AW.seqR ?_
   refine Chain.runK [] 1 fun K hK => ?_; simp; refine hK _ _ ?_; clear hK K
   refine Chain.sub (S' := mk 44 [1000] [(6, .d (.lit (.int .i64 1)))] [(1000, some (.box [.ref 25000 0 a0.durable.length, .ref 25001 0 a0.pending.length])), (25000, some (.arr 30 1 (a0.durable.map (cL (cI .u8))))), (25001, some (.arr 66 2 (a0.pending.map cS66)))]) Sub.tt ?_
   refine Chain.nil ?_
   refine AW.ret ?_
   cases h
   refine thenQ_pass (by simp) ?_
   exact FinF.ret (by simp) (by simp)
  ·have c4_ : v2 = false := Bool.eq_false_iff.2 c4
   refine AW.condF (b := v2) rfl c4_ ?_
   refine AW.sub (Sub.bool 18 (b := v2) rfl c4_) ?_
   refine AW.sub (S' := mk 44 [1000] [(0, .ptr 1000 0 0), (1, .d (.lit (.int .i64 a1))), (2, .d (.sl (a2.map (cI .u8)))), (18, .d (.lit (.bool false)))] [(1000, some (.box [.ref 25000 0 a0.durable.length, .ref 25001 0 a0.pending.length])), (25000, some (.arr 30 1 (a0.durable.map (cL (cI .u8))))), (25001, some (.arr 66 2 (a0.pending.map cS66)))]) (by simp; exact Sub.table (by simp) (by simp)) ?_
   refine AW.skip ?_
   refine thenQ_normal ?_
   refine AW.seq ?_
   refine AW.seqR ?_
   refine Chain.runK [] 3 fun K hK => ?_; simp; refine hK _ _ ?_; clear hK K
   refine Chain.sub (S' := mk 44 [1000] [(0, .ptr 1000 0 0), (1, .d (.lit (.int .i64 a1))), (2, .d (.sl (a2.map (cI .u8)))), (21, .d (.lit (.bool (decide ((a2.length : Int) > 32)))))] [(1000, some (.box [.ref 25000 0 a0.durable.length, .ref 25001 0 a0.pending.length])), (25000, some (.arr 30 1 (a0.durable.map (cL (cI .u8))))), (25001, some (.arr 66 2 (a0.pending.map cS66)))]) Sub.tt ?_
   refine Chain.nil ?_
   replace h := isome h; rcases h with ⟨c5, h⟩ | ⟨c5, h⟩
   ·have c5_ : decide ((a2.length : Int) > 32) = true := decide_eq_true c5
    refine AW.condT (b := decide ((a2.length : Int) > 32)) rfl c5_ ?_
    refine AW.sub (Sub.bool 21 (b := decide ((a2.length : Int) > 32)) rfl c5_) ?_
    refine AW.sub (S' := mk 44 [1000] [(0, .ptr 1000 0 0), (1, .d (.lit (.int .i64 a1))), (2, .d (.sl (a2.map (cI .u8)))), (21, .d (.lit (.bool true)))] [(1000, some (.box [.ref 25000 0 a0.durable.length, .ref 25001 0 a0.pending.length])), (25000, some (.arr 30 1 (a0.durable.map (cL (cI .u8))))), (25001, some (.arr 66 2 (a0.pending.map cS66)))]) (by simp; exact Sub.table (by simp) (by simp)) ?_
    refine AW.seqR ?_
    refine Chain.runK [] 1 fun K hK => ?_; simp; refine hK _ _ ?_; clear hK K
    refine Chain.sub (S' := mk 44 [1000] [(6, .d (.lit (.int .i64 2)))] [(1000, some (.box [.ref 25000 0 a0.durable.length, .ref 25001 0 a0.pending.length])), (25000, some (.arr 30 1 (a0.durable.map (cL (cI .u8))))), (25001, some (.arr 66 2 (a0.pending.map cS66)))]) Sub.tt ?_
    refine Chain.nil ?_
    refine AW.ret ?_
    cases h
    refine thenQ_pass (by simp) ?_
    exact FinF.ret (by simp) (by simp)
   ·have c5_ : decide ((a2.length : Int) > 32) = false := decide_eq_false c5
    refine AW.condF (b := decide ((a2.length : Int) > 32)) rfl c5_ ?_
    refine AW.sub (Sub.bool 21 (b := decide ((a2.length : Int) > 32)) rfl c5_) ?_
    refine AW.sub (S' := mk 44 [1000] [(0, .ptr 1000 0 0), (1, .d (.lit (.int .i64 a1))), (2, .d (.sl (a2.map (cI .u8)))), (21, .d (.lit (.bool false)))] [(1000, some (.box [.ref 25000 0 a0.durable.length, .ref 25001 0 a0.pending.length])), (25000, some (.arr 30 1 (a0.durable.map (cL (cI .u8))))), (25001, some (.arr 66 2 (a0.pending.map cS66)))]) (by simp; exact Sub.table (by simp) (by simp)) ?_
    refine AW.skip ?_
    refine thenQ_normal ?_
    refine AW.seq ?_
    refine AW.seqR ?_
    refine Chain.runK [] 6 fun K hK => ?_; simp; refine hK _ _ ?_; clear hK K
    refine Chain.sub (S' := mk 44 [1000] [(0, .ptr 1000 0 0), (1, .d (.lit (.int .i64 a1))), (2, .d (.sl (a2.map (cI .u8)))), (27, .d (.lit (.bool ((a0.pending.length : Int) == 1000))))] [(1000, some (.box [.ref 25000 0 a0.durable.length, .ref 25001 0 a0.pending.length])), (25000, some (.arr 30 1 (a0.durable.map (cL (cI .u8))))), (25001, some (.arr 66 2 (a0.pending.map cS66)))]) Sub.tt ?_
    refine Chain.nil ?_
    replace h := isome h; rcases h with ⟨c6, h⟩ | ⟨c6, h⟩
    ·have c6_ : ((a0.pending.length : Int) == 1000) = true := c6
     refine AW.condT (b := ((a0.pending.length : Int) == 1000)) rfl c6_ ?_
     refine AW.sub (Sub.bool 27 (b := ((a0.pending.length : Int) == 1000)) rfl c6_) ?_
     refine AW.sub (S' := mk 44 [1000] [(0, .ptr 1000 0 0), (1, .d (.lit (.int .i64 a1))), (2, .d (.sl (a2.map (cI .u8)))), (27, .d (.lit (.bool true)))] [(1000, some (.box [.ref 25000 0 a0.durable.length, .ref 25001 0 a0.pending.length])), (25000, some (.arr 30 1 (a0.durable.map (cL (cI .u8))))), (25001, some (.arr 66 2 (a0.pending.map cS66)))]) (by simp; exact Sub.table (by simp) (by simp)) ?_
     refine AW.seqR ?_
     refine Chain.runK [] 1 fun K hK => ?_; simp; refine hK _ _ ?_; clear hK K
     refine Chain.sub (S' := mk 44 [1000] [(6, .d (.lit (.int .i64 18)))] [(1000, some (.box [.ref 25000 0 a0.durable.length, .ref 25001 0 a0.pending.length])), (25000, some (.arr 30 1 (a0.durable.map (cL (cI .u8))))), (25001, some (.arr 66 2 (a0.pending.map cS66)))]) Sub.tt ?_
     refine Chain.nil ?_
     refine AW.ret ?_
     cases h
     refine thenQ_pass (by simp) ?_
     exact FinF.ret (by simp) (by simp)
    ·have c6_ : ((a0.pending.length : Int) == 1000) = false := Bool.eq_false_iff.2 c6
     refine AW.condF (b := ((a0.pending.length : Int) == 1000)) rfl c6_ ?_
     refine AW.sub (Sub.bool 27 (b := ((a0.pending.length : Int) == 1000)) rfl c6_) ?_
     refine AW.sub (S' := mk 44 [1000] [(0, .ptr 1000 0 0), (1, .d (.lit (.int .i64 a1))), (2, .d (.sl (a2.map (cI .u8)))), (27, .d (.lit (.bool false)))] [(1000, some (.box [.ref 25000 0 a0.durable.length, .ref 25001 0 a0.pending.length])), (25000, some (.arr 30 1 (a0.durable.map (cL (cI .u8))))), (25001, some (.arr 66 2 (a0.pending.map cS66)))]) (by simp; exact Sub.table (by simp) (by simp)) ?_
     refine AW.skip ?_
     refine thenQ_normal ?_
     refine AW.seqR ?_
     replace h := bsome h; obtain ⟨l7, gl7, h⟩ := h
     obtain ⟨hl7a, hl7b, hl7c, hl7d⟩ := mkL_some (cI .u8) gl7
     clear gl7
     replace hl7c : List.replicate l7.length [.lit (.int .u8 0)] = l7.map (cI .u8) := hl7c
     simp only [Nat.mul_one] at hl7b
     refine Chain.runK [] 2 fun K hK => ?_; simp [hl7a, hl7b, hl7c, hl7d]; refine hK _ _ ?_; clear hK K
     refine Chain.sub (S' := mk 44 [1000] [(0, .ptr 1000 0 0), (1, .d (.lit (.int .i64 a1))), (2, .d (.sl (a2.map (cI .u8)))), (7, .ref 28 0 l7.length)] [(28, some (.arr 5 1 (l7.map (cI .u8)))), (1000, some (.box [.ref 25000 0 a0.durable.length, .ref 25001 0 a0.pending.length])), (25000, some (.arr 30 1 (a0.durable.map (cL (cI .u8))))), (25001, some (.arr 66 2 (a0.pending.map cS66)))]) Sub.tt ?_
     refine Chain.nil ?_
     refine AW.seqR ?_
     refine Chain.runK [] 2 fun K hK => ?_; simp; refine hK _ _ ?_; clear hK K
     refine Chain.sub (S' := mk 44 [1000] [(0, .ptr 1000 0 0), (1, .d (.lit (.int .i64 a1))), (7, .ref 28 0 l7.length), (29, .ref 28 0 l7.length), (30, .d (.sl (a2.map (cI .u8))))] [(28, some (.arr 5 1 (l7.map (cI .u8)))), (1000, some (.box [.ref 25000 0 a0.durable.length, .ref 25001 0 a0.pending.length])), (25000, some (.arr 30 1 (a0.durable.map (cL (cI .u8))))), (25001, some (.arr 66 2 (a0.pending.map cS66)))]) Sub.tt ?_
     replace h := lsome h; obtain ⟨l8, hl8, h⟩ := h
     have hl8m : (a2.map (cI .u8)).take (Nat.min a2.length l7.length) ++ (l7.map (cI .u8)).drop (Nat.min a2.length l7.length) = l8.map (cI .u8) := by subst hl8; simp
     have hl8l : l8.length = l7.length := by subst hl8; have h1 : (Nat.min a2.length l7.length) ≤ a2.length := Nat.min_le_left _ _; have h2 : (Nat.min a2.length l7.length) ≤ l7.length := Nat.min_le_right _ _; simp only [List.length_append, List.length_take, List.length_drop]; omega
     refine Chain.copyD (Nat.min a2.length l7.length) (by simp) rfl rfl rfl rfl ty30 rfl ty5 rfl rfl (by simp) rfl rfl (by simp) (by simp) ?_
     refine Chain.sub (S' := mk 44 [1000] [(0, .ptr 1000 0 0), (1, .d (.lit (.int .i64 a1))), (7, .ref 28 0 l8.length), (29, .ref 28 0 l8.length), (30, .d (.sl (a2.map (cI .u8)))), (31, .d (.lit (.int .i64 ((Nat.min a2.length l7.length) : Int))))] [(28, some (.arr 5 1 (l8.map (cI .u8)))), (1000, some (.box [.ref 25000 0 a0.durable.length, .ref 25001 0 a0.pending.length])), (25000, some (.arr 30 1 (a0.durable.map (cL (cI .u8))))), (25001, some (.arr 66 2 (a0.pending.map cS66)))]) (by simp [hl8m]; exact Sub.table (by simp [hl8l]) (by simp)) ?_
     refine Chain.nil ?_
     refine AW.seqR ?_
     refine Chain.runK [40] 8 fun K hK => ?_; simp; refine hK _ _ ?_; clear hK K
     refine Chain.sub (S' := mk 44 [1000] [(32, .ptr 1000 0 0), (36, .ref 25001 0 a0.pending.length), (39, .agg [.d (.lit (.int .i64 a1)), .ref 28 0 l8.length])] [(28, some (.arr 5 1 (l8.map (cI .u8)))), (1000, some (.box [.ref 25000 0 a0.durable.length, .ref 25001 0 a0.pending.length])), (25000, some (.arr 30 1 (a0.durable.map (cL (cI .u8))))), (25001, some (.arr 66 2 (a0.pending.map cS66)))]) Sub.tt ?_
     refine Chain.sub (Sub.freeze 28 rfl) ?_
     refine Chain.sub (S' := mk 44 [1000] [(32, .ptr 1000 0 0), (36, .ref 25001 0 a0.pending.length), (39, .agg [.d (.lit (.int .i64 a1)), .d (.sl (l8.map (cI .u8)))])] [(1000, some (.box [.ref 25000 0 a0.durable.length, .ref 25001 0 a0.pending.length])), (25000, some (.arr 30 1 (a0.durable.map (cL (cI .u8))))), (25001, some (.arr 66 2 (a0.pending.map cS66)))]) (by simp; exact Sub.table (by simp) (by simp)) ?_
     replace h := bsome h; obtain ⟨l9, hl9, h⟩ := h
     obtain ⟨hl9a, hl9⟩ := appL_some hl9
     subst hl9
     try simp only [List.length_cons, List.length_nil, Nat.zero_add] at hl9a
     refine Chain.runK [40] 5 fun K hK => ?_; simp [hl9a]; refine hK _ _ ?_; clear hK K
     refine Chain.sub (S' := mk 44 [1000] [] [(1000, some (.box [.ref 25000 0 a0.durable.length, .ref 25001 0 ((a0.pending ++ [(S66.mk a1 l8)]).length)])), (25000, some (.arr 30 1 (a0.durable.map (cL (cI .u8))))), (25001, some (.arr 66 2 ((a0.pending ++ [(S66.mk a1 l8)]).map cS66)))]) Sub.tt ?_
     refine Chain.nil ?_
     refine AW.seqR ?_
     refine Chain.runK [] 1 fun K hK => ?_; simp; refine hK _ _ ?_; clear hK K
     refine Chain.sub (S' := mk 44 [1000] [(6, .d (.lit (.int .i64 0)))] [(1000, some (.box [.ref 25000 0 a0.durable.length, .ref 25001 0 ((a0.pending ++ [(S66.mk a1 l8)]).length)])), (25000, some (.arr 30 1 (a0.durable.map (cL (cI .u8))))), (25001, some (.arr 66 2 ((a0.pending ++ [(S66.mk a1 l8)]).map cS66)))]) Sub.tt ?_
     refine Chain.nil ?_
     refine AW.ret ?_
     cases h
     exact FinF.ret (by simp) (by simp)

/-- (*stemma/disk.Disk).Pending -/
def d7 (_N : Nat) (a0 : S64) : Option (S64 × Int) :=
 some (a0, (a0.pending.length : Int))
set_option maxRecDepth 100000 in
set_option maxHeartbeats 4000000 in
theorem p7 (N : Nat) (a0 : S64) (r : (S64 × Int)) (h : d7 N a0 = some r) : FunM Try.prog 7 [.ptr 1000 0 0] [(1000, some (.box [.ref 25000 0 a0.durable.length, .ref 25001 0 a0.pending.length])), (25000, some (.arr 30 1 (a0.durable.map (cL (cI .u8))))), (25001, some (.arr 66 2 (a0.pending.map cS66)))] [1000] (.d (.lit (.int .i64 r.2))) ([(1000, (.box [.ref 25000 0 r.1.durable.length, .ref 25001 0 r.1.pending.length])), (25000, (.arr 30 1 (r.1.durable.map (cL (cI .u8))))), (25001, (.arr 66 2 (r.1.pending.map cS66)))]) := by
 unfold d7 at h
 refine FunM.enter 8 [(0, .ptr 1000 0 0)] Try.func7 rfl (of_decide_eq_true rfl) rfl rfl ?_
 refine AW.seqR ?_
 refine Chain.runK [] 1 fun K hK => ?_; simp; refine hK _ _ ?_; clear hK K
 refine Chain.sub (S' := mk 8 [1000] [(0, .ptr 1000 0 0)] [(1000, some (.box [.ref 25000 0 a0.durable.length, .ref 25001 0 a0.pending.length])), (25000, some (.arr 30 1 (a0.durable.map (cL (cI .u8))))), (25001, some (.arr 66 2 (a0.pending.map cS66)))]) Sub.tt ?_
 refine Chain.nil ?_
 refine AW.seqR ?_
 refine Chain.runK [] 6 fun K hK => ?_; simp; refine hK _ _ ?_; clear hK K
 refine Chain.sub (S' := mk 8 [1000] [(2, .d (.lit (.int .i64 (a0.pending.length : Int))))] [(1000, some (.box [.ref 25000 0 a0.durable.length, .ref 25001 0 a0.pending.length])), (25000, some (.arr 30 1 (a0.durable.map (cL (cI .u8))))), (25001, some (.arr 66 2 (a0.pending.map cS66)))]) Sub.tt ?_
 refine Chain.nil ?_
 refine AW.ret ?_
 cases h
 exact FinF.ret (by simp) (by simp)

/-- (*stemma/disk.Disk).Sectors -/
def d8 (_N : Nat) (a0 : S64) : Option (S64 × Int) :=
 some (a0, (a0.durable.length : Int))
set_option maxRecDepth 100000 in
set_option maxHeartbeats 4000000 in
theorem p8 (N : Nat) (a0 : S64) (r : (S64 × Int)) (h : d8 N a0 = some r) : FunM Try.prog 8 [.ptr 1000 0 0] [(1000, some (.box [.ref 25000 0 a0.durable.length, .ref 25001 0 a0.pending.length])), (25000, some (.arr 30 1 (a0.durable.map (cL (cI .u8))))), (25001, some (.arr 66 2 (a0.pending.map cS66)))] [1000] (.d (.lit (.int .i64 r.2))) ([(1000, (.box [.ref 25000 0 r.1.durable.length, .ref 25001 0 r.1.pending.length])), (25000, (.arr 30 1 (r.1.durable.map (cL (cI .u8))))), (25001, (.arr 66 2 (r.1.pending.map cS66)))]) := by
 unfold d8 at h
 refine FunM.enter 8 [(0, .ptr 1000 0 0)] Try.func8 rfl (of_decide_eq_true rfl) rfl rfl ?_
 refine AW.seqR ?_
 refine Chain.runK [] 1 fun K hK => ?_; simp; refine hK _ _ ?_; clear hK K
 refine Chain.sub (S' := mk 8 [1000] [(0, .ptr 1000 0 0)] [(1000, some (.box [.ref 25000 0 a0.durable.length, .ref 25001 0 a0.pending.length])), (25000, some (.arr 30 1 (a0.durable.map (cL (cI .u8))))), (25001, some (.arr 66 2 (a0.pending.map cS66)))]) Sub.tt ?_
 refine Chain.nil ?_
 refine AW.seqR ?_
 refine Chain.runK [] 6 fun K hK => ?_; simp; refine hK _ _ ?_; clear hK K
 refine Chain.sub (S' := mk 8 [1000] [(2, .d (.lit (.int .i64 (a0.durable.length : Int))))] [(1000, some (.box [.ref 25000 0 a0.durable.length, .ref 25001 0 a0.pending.length])), (25000, some (.arr 30 1 (a0.durable.map (cL (cI .u8))))), (25001, some (.arr 66 2 (a0.pending.map cS66)))]) Sub.tt ?_
 refine Chain.nil ?_
 refine AW.ret ?_
 cases h
 exact FinF.ret (by simp) (by simp)

/-- stemma/stemlaw5.arg -/
def d9 (_N : Nat) (a0 : (List Int)) (a1 : Int) : Option Int :=
 if a1 < (a0.length : Int) then (
  (idx a0 a1).bind fun x2 =>
  some x2
 ) else
 some 0
set_option maxRecDepth 100000 in
set_option maxHeartbeats 4000000 in
theorem p9 (N : Nat) (a0 : (List Int)) (a1 : Int) (r : Int) (h : d9 N a0 a1 = some r) : FunC Try.prog 9 [.d (.sl (a0.map (cI .i64))), .d (.lit (.int .i64 a1))] (.d (.lit (.int .i64 r))) := by
 unfold d9 at h
 refine FunC.enter 13 [(0, .d (.sl (a0.map (cI .i64)))), (1, .d (.lit (.int .i64 a1)))] (by simp) Try.func9 rfl (of_decide_eq_true rfl) rfl rfl ?_
 refine AW.seqR ?_
 refine Chain.runK [] 1 fun K hK => ?_; simp; refine hK _ _ ?_; clear hK K
 refine Chain.sub (S' := mk 13 [] [(0, .d (.sl (a0.map (cI .i64)))), (1, .d (.lit (.int .i64 a1)))] []) Sub.tt ?_
 refine Chain.nil ?_
 refine AW.seq ?_
 refine AW.seqR ?_
 refine Chain.runK [] 4 fun K hK => ?_; simp; refine hK _ _ ?_; clear hK K
 refine Chain.sub (S' := mk 13 [] [(0, .d (.sl (a0.map (cI .i64)))), (1, .d (.lit (.int .i64 a1))), (8, .d (.lit (.bool (decide (a1 < (a0.length : Int))))))] []) Sub.tt ?_
 refine Chain.nil ?_
 replace h := isome h; rcases h with ⟨c1, h⟩ | ⟨c1, h⟩
 ·have c1_ : decide (a1 < (a0.length : Int)) = true := decide_eq_true c1
  refine AW.condT (b := decide (a1 < (a0.length : Int))) rfl c1_ ?_
  refine AW.sub (Sub.bool 8 (b := decide (a1 < (a0.length : Int))) rfl c1_) ?_
  refine AW.sub (S' := mk 13 [] [(0, .d (.sl (a0.map (cI .i64)))), (1, .d (.lit (.int .i64 a1))), (8, .d (.lit (.bool true)))] []) (by simp; exact Sub.table (by simp) (by simp)) ?_
  refine AW.seqR ?_
  replace h := bsome h; obtain ⟨x2, hx2, h⟩ := h
  obtain ⟨k3, hx2k, hx2, hx2a, hx2b⟩ := idx_some hx2
  refine Chain.runK [] 5 fun K hK => ?_; simp [hx2, hx2k, hx2a]; refine hK _ _ ?_; clear hK K
  refine Chain.sub (S' := mk 13 [] [(4, .d (.lit (.int .i64 x2)))] []) Sub.tt ?_
  refine Chain.nil ?_
  refine AW.ret ?_
  cases h
  refine thenQ_pass (by simp) ?_
  exact FinC.ret (by simp) (by simp)
 ·have c1_ : decide (a1 < (a0.length : Int)) = false := decide_eq_false c1
  refine AW.condF (b := decide (a1 < (a0.length : Int))) rfl c1_ ?_
  refine AW.sub (Sub.bool 8 (b := decide (a1 < (a0.length : Int))) rfl c1_) ?_
  refine AW.sub (S' := mk 13 [] [(0, .d (.sl (a0.map (cI .i64)))), (1, .d (.lit (.int .i64 a1))), (8, .d (.lit (.bool false)))] []) (by simp; exact Sub.table (by simp) (by simp)) ?_
  refine AW.skip ?_
  refine thenQ_normal ?_
  refine AW.seqR ?_
  refine Chain.runK [] 1 fun K hK => ?_; simp; refine hK _ _ ?_; clear hK K
  refine Chain.sub (S' := mk 13 [] [(4, .d (.lit (.int .i64 0)))] []) Sub.tt ?_
  refine Chain.nil ?_
  refine AW.ret ?_
  cases h
  exact FinC.ret (by simp) (by simp)

/-- stemma/stemlaw5.choose[[]byte] -/
def d10 (_N : Nat) (a0 : (List (List Int))) (a1 : Int) : Option (List Int) :=
 if ((a0.length : Int) == 0) then (
  some ([] : List Int)
 ) else
 letv (IntKind.u64.wrap (a1)) fun v2 =>
 letv (IntKind.u64.wrap ((a0.length : Int))) fun v3 =>
 (remI v2 v3).bind fun v4 =>
 (chkI (v4)).bind fun v5 =>
 (idx a0 v5).bind fun x6 =>
 some x6
set_option maxRecDepth 100000 in
set_option maxHeartbeats 4000000 in
theorem p10 (N : Nat) (a0 : (List (List Int))) (a1 : Int) (r : (List Int)) (h : d10 N a0 a1 = some r) : FunC Try.prog 10 [.d (.sl (a0.map (cL (cI .u8)))), .d (.lit (.int .i64 a1))] (.d (.sl (r.map (cI .u8)))) := by
 unfold d10 at h
 refine FunC.enter 20 [(0, .d (.sl (a0.map (cL (cI .u8))))), (1, .d (.lit (.int .i64 a1)))] (by simp) Try.func10 rfl (of_decide_eq_true rfl) rfl rfl ?_
 refine AW.seqR ?_
 refine Chain.runK [] 1 fun K hK => ?_; simp; refine hK _ _ ?_; clear hK K
 refine Chain.sub (S' := mk 20 [] [(0, .d (.sl (a0.map (cL (cI .u8))))), (1, .d (.lit (.int .i64 a1)))] []) Sub.tt ?_
 refine Chain.nil ?_
 refine AW.seqR ?_
 refine Chain.runK [] 1 fun K hK => ?_; simp; refine hK _ _ ?_; clear hK K
 refine Chain.sub (S' := mk 20 [] [(0, .d (.sl (a0.map (cL (cI .u8))))), (1, .d (.lit (.int .i64 a1))), (5, .d (.lit (.slice none 0 0)))] []) Sub.tt ?_
 refine Chain.nil ?_
 refine AW.seq ?_
 refine AW.seqR ?_
 refine Chain.runK [] 3 fun K hK => ?_; simp; refine hK _ _ ?_; clear hK K
 refine Chain.sub (S' := mk 20 [] [(0, .d (.sl (a0.map (cL (cI .u8))))), (1, .d (.lit (.int .i64 a1))), (5, .d (.lit (.slice none 0 0))), (8, .d (.lit (.bool ((a0.length : Int) == 0))))] []) Sub.tt ?_
 refine Chain.nil ?_
 replace h := isome h; rcases h with ⟨c1, h⟩ | ⟨c1, h⟩
 ·have c1_ : ((a0.length : Int) == 0) = true := c1
  refine AW.condT (b := ((a0.length : Int) == 0)) rfl c1_ ?_
  refine AW.sub (Sub.bool 8 (b := ((a0.length : Int) == 0)) rfl c1_) ?_
  refine AW.sub (S' := mk 20 [] [(0, .d (.sl (a0.map (cL (cI .u8))))), (1, .d (.lit (.int .i64 a1))), (5, .d (.lit (.slice none 0 0))), (8, .d (.lit (.bool true)))] []) (by simp; exact Sub.table (by simp) (by simp)) ?_
  refine AW.seqR ?_
  refine Chain.runK [] 2 fun K hK => ?_; simp; refine hK _ _ ?_; clear hK K
  refine Chain.sub (S' := mk 20 [] [(4, .d (.lit (.slice none 0 0)))] []) Sub.tt ?_
  refine Chain.nil ?_
  refine AW.sub (Sub.wk 4 rfl) ?_
  refine AW.sub (S' := mk 20 [] [(4, .d (.sl (([] : List Int).map (cI .u8))))] []) (by simp; exact Sub.table (by simp) (by simp)) ?_
  refine AW.ret ?_
  cases h
  refine thenQ_pass (by simp) ?_
  exact FinC.ret (by simp) (by simp)
 ·have c1_ : ((a0.length : Int) == 0) = false := Bool.eq_false_iff.2 c1
  refine AW.condF (b := ((a0.length : Int) == 0)) rfl c1_ ?_
  refine AW.sub (Sub.bool 8 (b := ((a0.length : Int) == 0)) rfl c1_) ?_
  refine AW.sub (S' := mk 20 [] [(0, .d (.sl (a0.map (cL (cI .u8))))), (1, .d (.lit (.int .i64 a1))), (5, .d (.lit (.slice none 0 0))), (8, .d (.lit (.bool false)))] []) (by simp; exact Sub.table (by simp) (by simp)) ?_
  refine AW.skip ?_
  refine thenQ_normal ?_
  refine AW.seqR ?_
  replace h := lsome h; obtain ⟨v2, hv2, h⟩ := h
  replace h := lsome h; obtain ⟨v3, hv3, h⟩ := h
  replace h := bsome h; obtain ⟨v4, hv4, h⟩ := h
  obtain ⟨hv4a, hv4⟩ := remI_some hv4
  replace h := bsome h; obtain ⟨v5, hv5, h⟩ := h
  have hv5 := chkI_some hv5
  replace h := bsome h; obtain ⟨x6, hx6, h⟩ := h
  obtain ⟨k7, hx6k, hx6, hx6a, hx6b⟩ := idx_some hx6
  refine Chain.runK [] 11 fun K hK => ?_; simp [hv2, hv3, hv4, hv4a, hv5, hx6, hx6k, hx6a]; refine hK _ _ ?_; clear hK K
  refine Chain.sub (S' := mk 20 [] [(4, .d (.sl (x6.map (cI .u8))))] []) Sub.tt ?_
  refine Chain.nil ?_
  refine AW.ret ?_
  cases h
  exact FinC.ret (by simp) (by simp)

/-- stemma/stemlaw5.choose[[]bool] -/
def d11 (_N : Nat) (a0 : (List (List Bool))) (a1 : Int) : Option (List Bool) :=
 if ((a0.length : Int) == 0) then (
  some ([] : List Bool)
 ) else
 letv (IntKind.u64.wrap (a1)) fun v2 =>
 letv (IntKind.u64.wrap ((a0.length : Int))) fun v3 =>
 (remI v2 v3).bind fun v4 =>
 (chkI (v4)).bind fun v5 =>
 (idx a0 v5).bind fun x6 =>
 some x6
set_option maxRecDepth 100000 in
set_option maxHeartbeats 4000000 in
theorem p11 (N : Nat) (a0 : (List (List Bool))) (a1 : Int) (r : (List Bool)) (h : d11 N a0 a1 = some r) : FunC Try.prog 11 [.d (.sl (a0.map (cL cB))), .d (.lit (.int .i64 a1))] (.d (.sl (r.map cB))) := by
 unfold d11 at h
 refine FunC.enter 20 [(0, .d (.sl (a0.map (cL cB)))), (1, .d (.lit (.int .i64 a1)))] (by simp) Try.func11 rfl (of_decide_eq_true rfl) rfl rfl ?_
 refine AW.seqR ?_
 refine Chain.runK [] 1 fun K hK => ?_; simp; refine hK _ _ ?_; clear hK K
 refine Chain.sub (S' := mk 20 [] [(0, .d (.sl (a0.map (cL cB)))), (1, .d (.lit (.int .i64 a1)))] []) Sub.tt ?_
 refine Chain.nil ?_
 refine AW.seqR ?_
 refine Chain.runK [] 1 fun K hK => ?_; simp; refine hK _ _ ?_; clear hK K
 refine Chain.sub (S' := mk 20 [] [(0, .d (.sl (a0.map (cL cB)))), (1, .d (.lit (.int .i64 a1))), (5, .d (.lit (.slice none 0 0)))] []) Sub.tt ?_
 refine Chain.nil ?_
 refine AW.seq ?_
 refine AW.seqR ?_
 refine Chain.runK [] 3 fun K hK => ?_; simp; refine hK _ _ ?_; clear hK K
 refine Chain.sub (S' := mk 20 [] [(0, .d (.sl (a0.map (cL cB)))), (1, .d (.lit (.int .i64 a1))), (5, .d (.lit (.slice none 0 0))), (8, .d (.lit (.bool ((a0.length : Int) == 0))))] []) Sub.tt ?_
 refine Chain.nil ?_
 replace h := isome h; rcases h with ⟨c1, h⟩ | ⟨c1, h⟩
 ·have c1_ : ((a0.length : Int) == 0) = true := c1
  refine AW.condT (b := ((a0.length : Int) == 0)) rfl c1_ ?_
  refine AW.sub (Sub.bool 8 (b := ((a0.length : Int) == 0)) rfl c1_) ?_
  refine AW.sub (S' := mk 20 [] [(0, .d (.sl (a0.map (cL cB)))), (1, .d (.lit (.int .i64 a1))), (5, .d (.lit (.slice none 0 0))), (8, .d (.lit (.bool true)))] []) (by simp; exact Sub.table (by simp) (by simp)) ?_
  refine AW.seqR ?_
  refine Chain.runK [] 2 fun K hK => ?_; simp; refine hK _ _ ?_; clear hK K
  refine Chain.sub (S' := mk 20 [] [(4, .d (.lit (.slice none 0 0)))] []) Sub.tt ?_
  refine Chain.nil ?_
  refine AW.sub (Sub.wk 4 rfl) ?_
  refine AW.sub (S' := mk 20 [] [(4, .d (.sl (([] : List Bool).map cB)))] []) (by simp; exact Sub.table (by simp) (by simp)) ?_
  refine AW.ret ?_
  cases h
  refine thenQ_pass (by simp) ?_
  exact FinC.ret (by simp) (by simp)
 ·have c1_ : ((a0.length : Int) == 0) = false := Bool.eq_false_iff.2 c1
  refine AW.condF (b := ((a0.length : Int) == 0)) rfl c1_ ?_
  refine AW.sub (Sub.bool 8 (b := ((a0.length : Int) == 0)) rfl c1_) ?_
  refine AW.sub (S' := mk 20 [] [(0, .d (.sl (a0.map (cL cB)))), (1, .d (.lit (.int .i64 a1))), (5, .d (.lit (.slice none 0 0))), (8, .d (.lit (.bool false)))] []) (by simp; exact Sub.table (by simp) (by simp)) ?_
  refine AW.skip ?_
  refine thenQ_normal ?_
  refine AW.seqR ?_
  replace h := lsome h; obtain ⟨v2, hv2, h⟩ := h
  replace h := lsome h; obtain ⟨v3, hv3, h⟩ := h
  replace h := bsome h; obtain ⟨v4, hv4, h⟩ := h
  obtain ⟨hv4a, hv4⟩ := remI_some hv4
  replace h := bsome h; obtain ⟨v5, hv5, h⟩ := h
  have hv5 := chkI_some hv5
  replace h := bsome h; obtain ⟨x6, hx6, h⟩ := h
  obtain ⟨k7, hx6k, hx6, hx6a, hx6b⟩ := idx_some hx6
  refine Chain.runK [] 11 fun K hK => ?_; simp [hv2, hv3, hv4, hv4a, hv5, hx6, hx6k, hx6a]; refine hK _ _ ?_; clear hK K
  refine Chain.sub (S' := mk 20 [] [(4, .d (.sl (x6.map cB)))] []) Sub.tt ?_
  refine Chain.nil ?_
  refine AW.ret ?_
  cases h
  exact FinC.ret (by simp) (by simp)

/-- (*stemma/disk.Disk).Flush -/
def d12 (N : Nat) (a0 : S64) : Option S64 :=
 Option.bind (α := List (List Int)) (
  iterN (σ := ((List (List Int)) × Int)) (ρ := List (List Int)) (fun ((l7, v8) : ((List (List Int)) × Int)) =>
   if v8 < (a0.pending.length : Int) then (
    (idx a0.pending v8).bind fun x27 =>
    (idx l7 x27.sector).bind fun _x29 =>
    letv (setI l7 x27.sector x27.data) fun l31 =>
    (chkI (v8 + 1)).bind fun v32 =>
    some (.inl (l31, v32))
   ) else
   some (.inr l7)
  ) N (a0.durable, 0)
 ) fun (l25 : List (List Int)) =>
 some (S64.mk l25 ([] : List S66))
set_option maxRecDepth 100000 in
set_option maxHeartbeats 4000000 in
theorem p12 (N : Nat) (a0 : S64) (r : S64) (h : d12 N a0 = some r) : FunM Try.prog 12 [.ptr 1000 0 0] [(1000, some (.box [.ref 25000 0 a0.durable.length, .ref 25001 0 a0.pending.length])), (25000, some (.arr 30 1 (a0.durable.map (cL (cI .u8))))), (25001, some (.arr 66 2 (a0.pending.map cS66)))] [1000] (.tup []) ([(1000, (.box [.ref 25000 0 r.durable.length, .ref 25001 0 r.pending.length])), (25000, (.arr 30 1 (r.durable.map (cL (cI .u8))))), (25001, (.arr 66 2 (r.pending.map cS66)))]) := by
 unfold d12 at h
 refine FunM.enter 26 [(0, .ptr 1000 0 0)] Try.func12 rfl (of_decide_eq_true rfl) rfl rfl ?_
 refine AW.seq ?_
 refine AW.seqR ?_
 refine Chain.runK [] 6 fun K hK => ?_; simp; refine hK _ _ ?_; clear hK K
 refine Chain.sub (S' := mk 26 [1000] [(0, .ptr 1000 0 0), (7, .ref 25001 0 a0.pending.length), (8, .d (.lit (.int .i64 (a0.pending.length : Int)))), (9, .d (.lit (.int .i64 0)))] [(1000, some (.box [.ref 25000 0 a0.durable.length, .ref 25001 0 a0.pending.length])), (25000, some (.arr 30 1 (a0.durable.map (cL (cI .u8))))), (25001, some (.arr 66 2 (a0.pending.map cS66)))]) Sub.tt ?_
 refine Chain.nil ?_
 refine AW.lastN (fun (l25 : List (List Int)) => mk 26 [1000] [(0, .ptr 1000 0 0)] [(1000, some (.box [.ref 25000 0 l25.length, .ref 25001 0 a0.pending.length])), (25000, some (.arr 30 1 (l25.map (cL (cI .u8))))), (25001, some (.arr 66 2 (a0.pending.map cS66)))]) h ?_ ?_ <;> clear h
 ·intro o h
  refine AW.block ?_
  refine AW.iter (fun ((l7, v8) : ((List (List Int)) × Int)) => mk 26 [1000] [(0, .ptr 1000 0 0), (7, .ref 25001 0 a0.pending.length), (8, .d (.lit (.int .i64 (a0.pending.length : Int)))), (9, .d (.lit (.int .i64 v8)))] [(1000, some (.box [.ref 25000 0 l7.length, .ref 25001 0 a0.pending.length])), (25000, some (.arr 30 1 (l7.map (cL (cI .u8))))), (25001, some (.arr 66 2 (a0.pending.map cS66)))]) h Sub.tt ?_
  clear h
  rintro ⟨l7, v8⟩ x h
  dsimp only at h ⊢
  refine AW.seqR ?_
  refine Chain.runK [] 1 fun K hK => ?_; simp; refine hK _ _ ?_; clear hK K
  refine Chain.sub (S' := mk 26 [1000] [(0, .ptr 1000 0 0), (7, .ref 25001 0 a0.pending.length), (8, .d (.lit (.int .i64 (a0.pending.length : Int)))), (9, .d (.lit (.int .i64 v8))), (10, .d (.lit (.bool (decide (v8 < (a0.pending.length : Int))))))] [(1000, some (.box [.ref 25000 0 l7.length, .ref 25001 0 a0.pending.length])), (25000, some (.arr 30 1 (l7.map (cL (cI .u8))))), (25001, some (.arr 66 2 (a0.pending.map cS66)))]) Sub.tt ?_
  refine Chain.nil ?_
  refine AW.seq ?_
  replace h := isome h; rcases h with ⟨c26, h⟩ | ⟨c26, h⟩
  ·have c26_ : decide (v8 < (a0.pending.length : Int)) = true := decide_eq_true c26
   refine AW.condT (b := decide (v8 < (a0.pending.length : Int))) rfl c26_ ?_
   refine AW.sub (Sub.bool 10 (b := decide (v8 < (a0.pending.length : Int))) rfl c26_) ?_
   refine AW.sub (S' := mk 26 [1000] [(0, .ptr 1000 0 0), (7, .ref 25001 0 a0.pending.length), (8, .d (.lit (.int .i64 (a0.pending.length : Int)))), (9, .d (.lit (.int .i64 v8))), (10, .d (.lit (.bool true)))] [(1000, some (.box [.ref 25000 0 l7.length, .ref 25001 0 a0.pending.length])), (25000, some (.arr 30 1 (l7.map (cL (cI .u8))))), (25001, some (.arr 66 2 (a0.pending.map cS66)))]) (by simp; exact Sub.table (by simp) (by simp)) ?_
   refine AW.skip ?_
   refine thenQ_normal ?_
   refine AW.seq ?_
   refine AW.block ?_
   refine AW.seqR ?_
   replace h := bsome h; obtain ⟨x27, hx27, h⟩ := h
   obtain ⟨k28, hx27k, hx27, hx27a, hx27b⟩ := idx_some hx27
   refine Chain.runK [] 4 fun K hK => ?_; simp [hx27, hx27k, hx27a, hx27b]; refine hK _ _ ?_; clear hK K
   refine Chain.sub (S' := mk 26 [1000] [(0, .ptr 1000 0 0), (3, .ptr 3 0 0), (7, .ref 25001 0 a0.pending.length), (8, .d (.lit (.int .i64 (a0.pending.length : Int)))), (9, .d (.lit (.int .i64 v8)))] [(3, some (.box [.d (.lit (.int .i64 x27.sector)), .d (.sl (x27.data.map (cI .u8)))])), (1000, some (.box [.ref 25000 0 l7.length, .ref 25001 0 a0.pending.length])), (25000, some (.arr 30 1 (l7.map (cL (cI .u8))))), (25001, some (.arr 66 2 (a0.pending.map cS66)))]) Sub.tt ?_
   refine Chain.nil ?_
   replace h := bsome h; obtain ⟨x29, hx29, h⟩ := h
   obtain ⟨k30, hx29k, hx29, hx29a, hx29b⟩ := idx_some hx29
   refine AW.regionT 9 (by kernel_rfl) (by kernel_rfl) fun K hK => ?_; simp [hx29k, hx29a, hx29b]; refine hK _ _ ?_; clear hK K
   refine Chain.sub (S' := mk 26 [1000] [(0, .ptr 1000 0 0), (7, .ref 25001 0 a0.pending.length), (8, .d (.lit (.int .i64 (a0.pending.length : Int)))), (9, .d (.lit (.int .i64 v8))), (20, .d (.sl (x27.data.map (cI .u8)))), (21, .ptr 25000 k30 0)] [(1000, some (.box [.ref 25000 0 l7.length, .ref 25001 0 a0.pending.length])), (25000, some (.arr 30 1 (l7.map (cL (cI .u8))))), (25001, some (.arr 66 2 (a0.pending.map cS66)))]) Sub.tt ?_
   replace h := lsome h; obtain ⟨l31, gl31, h⟩ := h
   obtain ⟨hl31, hl31n⟩ := setI_some (cL (cI .u8)) gl31 hx29k
   replace hl31 : (l7.map (cL (cI .u8))).set k30 [.sl (x27.data.map (cI .u8))] = l31.map (cL (cI .u8)) := hl31
   clear gl31
   refine Chain.runK [] 1 fun K hK => ?_; simp [hx29, hl31]; refine hK _ _ ?_; clear hK K
   refine Chain.sub (S' := mk 26 [1000] [(0, .ptr 1000 0 0), (7, .ref 25001 0 a0.pending.length), (8, .d (.lit (.int .i64 (a0.pending.length : Int)))), (9, .d (.lit (.int .i64 v8)))] [(1000, some (.box [.ref 25000 0 l31.length, .ref 25001 0 a0.pending.length])), (25000, some (.arr 30 1 (l31.map (cL (cI .u8))))), (25001, some (.arr 66 2 (a0.pending.map cS66)))]) (Sub.table (by simp) (by simp [hl31n])) ?_
   refine Chain.nil ?_
   refine blockQ.normal ?_
   refine thenQ_normal ?_
   refine AW.region ?_
   replace h := bsome h; obtain ⟨v32, hv32, h⟩ := h
   have hv32 := chkI_some hv32
   refine Chain.runK [] 2 fun K hK => ?_; simp [hv32]; refine hK _ _ ?_; clear hK K
   refine Chain.sub (S' := mk 26 [1000] [(0, .ptr 1000 0 0), (7, .ref 25001 0 a0.pending.length), (8, .d (.lit (.int .i64 (a0.pending.length : Int)))), (9, .d (.lit (.int .i64 v32)))] [(1000, some (.box [.ref 25000 0 l31.length, .ref 25001 0 a0.pending.length])), (25000, some (.arr 30 1 (l31.map (cL (cI .u8))))), (25001, some (.arr 66 2 (a0.pending.map cS66)))]) Sub.tt ?_
   refine Chain.nil ?_
   cases h
   refine PostI.next ?_
   exact Sub.tt
  ·have c26_ : decide (v8 < (a0.pending.length : Int)) = false := decide_eq_false c26
   refine AW.condF (b := decide (v8 < (a0.pending.length : Int))) rfl c26_ ?_
   refine AW.sub (Sub.bool 10 (b := decide (v8 < (a0.pending.length : Int))) rfl c26_) ?_
   refine AW.sub (S' := mk 26 [1000] [(0, .ptr 1000 0 0), (7, .ref 25001 0 a0.pending.length), (8, .d (.lit (.int .i64 (a0.pending.length : Int)))), (9, .d (.lit (.int .i64 v8))), (10, .d (.lit (.bool false)))] [(1000, some (.box [.ref 25000 0 l7.length, .ref 25001 0 a0.pending.length])), (25000, some (.arr 30 1 (l7.map (cL (cI .u8))))), (25001, some (.arr 66 2 (a0.pending.map cS66)))]) (by simp; exact Sub.table (by simp) (by simp)) ?_
   refine AW.exit ?_
   cases h
   refine thenQ_pass (by simp) ?_
   refine PostI.out (by simp) ?_
   rintro rfl
   refine blockQ.hit ?_
   refine PostN.next ?_
   exact Sub.tt
 ·rintro l25 h
  refine thenQ_normal ?_
  refine AW.region ?_
  refine Chain.runK [] 4 fun K hK => ?_; simp; refine hK _ _ ?_; clear hK K
  refine Chain.sub (S' := mk 26 [1000] [] [(1000, some (.box [.ref 25000 0 l25.length, .d (.lit (.slice none 0 0))])), (25000, some (.arr 30 1 (l25.map (cL (cI .u8)))))]) Sub.tt ?_
  refine Chain.sub (Sub.nilOwnBox (bid := 1000) (j := 1) (id := 25001) (T := 66) (n := 2) rfl rfl (by decide) rfl (by decide)) ?_
  refine Chain.sub (S' := mk 26 [1000] [] [(1000, some (.box [.ref 25000 0 l25.length, .ref 25001 0 (([] : List S66).length)])), (25000, some (.arr 30 1 (l25.map (cL (cI .u8))))), (25001, some (.arr 66 2 (([] : List S66).map cS66)))]) (by simp; exact Sub.table (by simp) (by simp)) ?_
  refine Chain.nil ?_
  cases h
  exact FinF.normal (by simp) (by simp)

end Go.Proofs.Ytiikoldaocnilaa
