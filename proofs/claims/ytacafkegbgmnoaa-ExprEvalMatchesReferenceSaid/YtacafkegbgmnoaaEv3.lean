/- Functions of the program as functional programs; the code computes them. -/
import Derived.Test.YtacafkegbgmnoaaEv2
namespace Go.Proofs.Ytacafkegbgmnoaa
open Go.Ab Go.Rp
attribute [-simp] List.all_eq_true Array.all_toList Array.all_eq_true

/-- stemma/expr.plain -/
def d39 (N : Nat) (a0 : ByteArray) (a1 : (List S24)) : Option S24 :=
 if decide (a0 = (ByteArray.mk #[61])) = true then (
  (idx a1 0).bind fun x2 =>
  (idx a1 1).bind fun x3 =>
  (d15 N (beqS24 x2 x3)).bind fun r4 =>
  some r4
 ) else
 if decide (a0 = (ByteArray.mk #[60])) = true then (
  (idx a1 0).bind fun x6 =>
  (idx a1 1).bind fun x7 =>
  (d55 N x6 x7).bind fun r8 =>
  (d15 N r8).bind fun r9 =>
  some r9
 ) else
 if decide (a0 = (ByteArray.mk #[60, 61])) = true then (
  (idx a1 1).bind fun x11 =>
  (idx a1 0).bind fun x12 =>
  (d55 N x11 x12).bind fun r13 =>
  (d15 N (!r13)).bind fun r14 =>
  some r14
 ) else
 if decide (a0 = (ByteArray.mk #[110, 111, 116])) = true then (
  (d53 N 2 a1).bind fun r16 =>
  if r16 = true then (
   (idx a1 0).bind fun x18 =>
   (d15 N (x18.Int == 0)).bind fun r19 =>
   some r19
  ) else
  some (S24.mk 0 0 (ByteArray.mk #[]))
 ) else
 if decide (a0 = (ByteArray.mk #[108, 101, 110, 103, 116, 104])) = true then (
  (d53 N 3 a1).bind fun r21 =>
  if r21 = true then (
   (idx a1 0).bind fun x23 =>
   (d56 N (x23.Text.size : Int)).bind fun r24 =>
   some r24
  ) else
  some (S24.mk 0 0 (ByteArray.mk #[]))
 ) else
 if decide (a0 = (ByteArray.mk #[124, 124])) = true then (
  Option.bind (α := Bool) (
   (d53 N 3 a1).bind fun r32 =>
   if r32 = true then (
    (idx a1 0).bind fun x34 =>
    (idx a1 1).bind fun x35 =>
    (chkI ((x34.Text.size : Int) + (x35.Text.size : Int))).bind fun v36 =>
    some (decide (v36 ≤ 24))
   ) else
   some false
  ) fun (v31 : Bool) =>
  if v31 = true then (
   (idx a1 0).bind fun x38 =>
   (idx a1 1).bind fun x39 =>
   (catB x38.Text x39.Text).bind fun v40 =>
   some (S24.mk 3 0 v40)
  ) else
  some (S24.mk 0 0 (ByteArray.mk #[]))
 ) else
 (d53 N 1 a1).bind fun r41 =>
 if r41 = true then (
  (idx a1 0).bind fun x43 =>
  (idx a1 1).bind fun x44 =>
  (d57 N a0 x43.Int x44.Int).bind fun r45 =>
  some r45
 ) else
 some (S24.mk 0 0 (ByteArray.mk #[]))
set_option maxRecDepth 100000 in
set_option maxHeartbeats 4000000 in
theorem p39 (N : Nat) (a0 : ByteArray) (a1 : (List S24)) (r : S24) (h : d39 N a0 a1 = some r) : FunC Try.prog 39 [.d (.lit (.string a0)), .d (.sl (a1.map cS24))] (.agg [.d (.lit (.int .i64 r.Kind)), .d (.lit (.int .i64 r.Int)), .d (.lit (.string r.Text))]) := by
 unfold d39 at h
 refine FunC.enter 100 [(0, .d (.lit (.string a0))), (1, .d (.sl (a1.map cS24)))] (by simp) Try.func39 rfl (of_decide_eq_true rfl) rfl rfl ?_
 refine AW.seqR ?_
 refine Chain.runK [] 2 fun K hK => ?_; simp; refine hK _ _ ?_; clear hK K
 refine Chain.sub (S' := mk 100 [] [(0, .d (.lit (.string a0))), (3, .ptr 3 0 0), (4, .ptr 4 0 0)] [(3, some (.box [.d (.sl (a1.map cS24))])), (4, some (.box [.d (.lit (.int .i64 0)), .d (.lit (.int .i64 0)), .d (.lit (.string (ByteArray.mk #[])))]))]) Sub.tt ?_
 refine Chain.nil ?_
 refine AW.seqR ?_
 refine Chain.runK [] 2 fun K hK => ?_; simp; refine hK _ _ ?_; clear hK K
 refine Chain.sub (S' := mk 100 [] [(0, .d (.lit (.string a0))), (3, .ptr 3 0 0), (4, .ptr 4 0 0), (5, .fn (.func 53) [.ptr 3 0 0])] [(3, some (.box [.d (.sl (a1.map cS24))])), (4, some (.box [.d (.lit (.int .i64 0)), .d (.lit (.int .i64 0)), .d (.lit (.string (ByteArray.mk #[])))]))]) Sub.tt ?_
 refine Chain.nil ?_
 refine AW.seq ?_
 refine AW.seqR ?_
 refine Chain.runK [] 1 fun K hK => ?_; simp; refine hK _ _ ?_; clear hK K
 refine Chain.sub (S' := mk 100 [] [(0, .d (.lit (.string a0))), (3, .ptr 3 0 0), (4, .ptr 4 0 0), (5, .fn (.func 53) [.ptr 3 0 0]), (7, .d (.lit (.string a0)))] [(3, some (.box [.d (.sl (a1.map cS24))])), (4, some (.box [.d (.lit (.int .i64 0)), .d (.lit (.int .i64 0)), .d (.lit (.string (ByteArray.mk #[])))]))]) Sub.tt ?_
 refine Chain.nil ?_
 refine AW.block ?_
 refine AW.seqR ?_
 refine Chain.runK [] 2 fun K hK => ?_; simp; refine hK _ _ ?_; clear hK K
 refine Chain.sub (S' := mk 100 [] [(0, .d (.lit (.string a0))), (3, .ptr 3 0 0), (4, .ptr 4 0 0), (5, .fn (.func 53) [.ptr 3 0 0]), (7, .d (.lit (.string a0))), (20, .d (.lit (.bool (decide (a0 = (ByteArray.mk #[61]))))))] [(3, some (.box [.d (.sl (a1.map cS24))])), (4, some (.box [.d (.lit (.int .i64 0)), .d (.lit (.int .i64 0)), .d (.lit (.string (ByteArray.mk #[])))]))]) Sub.tt ?_
 refine Chain.nil ?_
 replace h := isome h; rcases h with ⟨c1, h⟩ | ⟨c1, h⟩
 ·have c1_ : decide (a0 = (ByteArray.mk #[61])) = true := c1
  refine AW.condT (b := decide (a0 = (ByteArray.mk #[61]))) rfl c1_ ?_
  refine AW.sub (Sub.bool 20 (b := decide (a0 = (ByteArray.mk #[61]))) rfl c1_) ?_
  refine AW.sub (S' := mk 100 [] [(0, .d (.lit (.string a0))), (3, .ptr 3 0 0), (4, .ptr 4 0 0), (5, .fn (.func 53) [.ptr 3 0 0]), (7, .d (.lit (.string a0))), (20, .d (.lit (.bool true)))] [(3, some (.box [.d (.sl (a1.map cS24))])), (4, some (.box [.d (.lit (.int .i64 0)), .d (.lit (.int .i64 0)), .d (.lit (.string (ByteArray.mk #[])))]))]) (by simp; exact Sub.table (by simp) (by simp)) ?_
  replace h := bsome h; obtain ⟨x2, hx2, h⟩ := h
  obtain ⟨hx2, hx2b, hx2c⟩ := idx_someN (n := 0) hx2
  replace h := bsome h; obtain ⟨x3, hx3, h⟩ := h
  obtain ⟨hx3, hx3b, hx3c⟩ := idx_someN (n := 1) hx3
  replace h := bsome h; obtain ⟨r4, hr4, h⟩ := h
  refine AW.seqAnyS [[], [0], [0, 1], [], [3], [3, 4], [0, 1, 2, 3, 4, 5], [0, 1, 2, 3, 4, 5, 6], [0, 1, 2, 3, 4, 5, 6, 7]] (fun (b : Nat → Bool) => mk 100 [] [(3, .ptr 3 0 0), (4, .ptr 4 0 0), (22, (if b 0 then .d (.sl (a1.map cS24)) else .junk)), (23, (if b 1 then .d (.pim [.lit (.int .i64 x2.Kind), .lit (.int .i64 x2.Int), .lit (.string x2.Text)]) else .junk)), (24, (if b 2 then .agg [.d (.lit (.int .i64 x2.Kind)), .d (.lit (.int .i64 x2.Int)), .d (.lit (.string x2.Text))] else .junk)), (25, (if b 3 then .d (.sl (a1.map cS24)) else .junk)), (26, (if b 4 then .d (.pim [.lit (.int .i64 x3.Kind), .lit (.int .i64 x3.Int), .lit (.string x3.Text)]) else .junk)), (27, (if b 5 then .agg [.d (.lit (.int .i64 x3.Kind)), .d (.lit (.int .i64 x3.Int)), .d (.lit (.string x3.Text))] else .junk)), (28, (if b 6 then .d (.lit (.bool (beqS24 x2 x3))) else .junk)), (29, (if b 7 then .agg [.d (.lit (.int .i64 r4.Kind)), .d (.lit (.int .i64 r4.Int)), .d (.lit (.string r4.Text))] else .junk))] [(3, some (.box [.d (.sl (a1.map cS24))])), (4, (if b 8 then some (.box [.d (.lit (.int .i64 r4.Kind)), .d (.lit (.int .i64 r4.Int)), .d (.lit (.string r4.Text))]) else some (.box [.d (.lit (.int .i64 0)), .d (.lit (.int .i64 0)), .d (.lit (.string (ByteArray.mk #[])))])))]) (mk 100 [] [(4, .ptr 4 0 0)] [(4, some (.box [.d (.lit (.int .i64 r4.Kind)), .d (.lit (.int .i64 r4.Int)), .d (.lit (.string r4.Text))]))]) (by kernel_rfl) (by kernel_rfl) Sub.tt (Steps.cons ?_ (Steps.cons ?_ (Steps.cons ?_ (Steps.cons ?_ (Steps.cons ?_ (Steps.cons ?_ (Steps.cons ?_ (Steps.cons ?_ (Steps.cons ?_ (Steps.nil)))))))))) ?_ ?_
  ·intro b h0 ha hd
   have f1 : b 1 = false := hd 1 (by decide)
   have f2 : b 2 = false := hd 2 (by decide)
   have f6 : b 6 = false := hd 6 (by decide)
   have f7 : b 7 = false := hd 7 (by decide)
   have f8 : b 8 = false := hd 8 (by decide)
   refine Chain.runK [] 1 fun K hK => ?_; simp [h0, f1, f2, f6, f7, f8]; refine hK _ _ ?_; clear hK K
   exact Chain.nil (Sub.table (by simp [f1, f2, f6, f7]) (by simp [f8]))
  ·intro b h0 ha hd
   have t0 : b 0 = true := ha 0 (by decide)
   have f2 : b 2 = false := hd 2 (by decide)
   have f6 : b 6 = false := hd 6 (by decide)
   have f7 : b 7 = false := hd 7 (by decide)
   have f8 : b 8 = false := hd 8 (by decide)
   refine Chain.runK [] 1 fun K hK => ?_; simp [h0, t0, f2, f6, f7, f8, hx2]; refine hK _ _ ?_; clear hK K
   exact Chain.nil (Sub.table (by simp [t0, f2, f6, f7]) (by simp [f8]))
  ·intro b h0 ha hd
   have t0 : b 0 = true := ha 0 (by decide)
   have t1 : b 1 = true := ha 1 (by decide)
   have f6 : b 6 = false := hd 6 (by decide)
   have f7 : b 7 = false := hd 7 (by decide)
   have f8 : b 8 = false := hd 8 (by decide)
   refine Chain.runK [] 1 fun K hK => ?_; simp [h0, t0, t1, f6, f7, f8]; refine hK _ _ ?_; clear hK K
   exact Chain.nil (Sub.table (by simp [t0, t1, f6, f7]) (by simp [f8]))
  ·intro b h0 ha hd
   have f4 : b 4 = false := hd 4 (by decide)
   have f5 : b 5 = false := hd 5 (by decide)
   have f6 : b 6 = false := hd 6 (by decide)
   have f7 : b 7 = false := hd 7 (by decide)
   have f8 : b 8 = false := hd 8 (by decide)
   refine Chain.runK [] 1 fun K hK => ?_; simp [h0, f4, f5, f6, f7, f8]; refine hK _ _ ?_; clear hK K
   exact Chain.nil (Sub.table (by simp [f4, f5, f6, f7]) (by simp [f8]))
  ·intro b h0 ha hd
   have t3 : b 3 = true := ha 3 (by decide)
   have f5 : b 5 = false := hd 5 (by decide)
   have f6 : b 6 = false := hd 6 (by decide)
   have f7 : b 7 = false := hd 7 (by decide)
   have f8 : b 8 = false := hd 8 (by decide)
   refine Chain.runK [] 1 fun K hK => ?_; simp [h0, t3, f5, f6, f7, f8, hx3]; refine hK _ _ ?_; clear hK K
   exact Chain.nil (Sub.table (by simp [t3, f5, f6, f7]) (by simp [f8]))
  ·intro b h0 ha hd
   have t3 : b 3 = true := ha 3 (by decide)
   have t4 : b 4 = true := ha 4 (by decide)
   have f6 : b 6 = false := hd 6 (by decide)
   have f7 : b 7 = false := hd 7 (by decide)
   have f8 : b 8 = false := hd 8 (by decide)
   refine Chain.runK [] 1 fun K hK => ?_; simp [h0, t3, t4, f6, f7, f8]; refine hK _ _ ?_; clear hK K
   exact Chain.nil (Sub.table (by simp [t3, t4, f6, f7]) (by simp [f8]))
  ·intro b h0 ha hd
   have t0 : b 0 = true := ha 0 (by decide)
   have t1 : b 1 = true := ha 1 (by decide)
   have t2 : b 2 = true := ha 2 (by decide)
   have t3 : b 3 = true := ha 3 (by decide)
   have t4 : b 4 = true := ha 4 (by decide)
   have t5 : b 5 = true := ha 5 (by decide)
   have f7 : b 7 = false := hd 7 (by decide)
   have f8 : b 8 = false := hd 8 (by decide)
   simp only [h0, t0, t1, t2, t3, t4, t5, f7, f8, if_true, if_false, Bool.false_eq_true]
   refine Chain.pureP (by simp) (pure_eqA false rfl rfl rfl rfl (by kernel_rfl) (eqv24 x2 x3)) ?_
   exact Chain.nil (by simp [t0, t1, t2, t3, t4, t5, f7, f8]; exact Sub.table (by simp) (by simp))
  ·intro b h0 ha hd
   have t0 : b 0 = true := ha 0 (by decide)
   have t1 : b 1 = true := ha 1 (by decide)
   have t2 : b 2 = true := ha 2 (by decide)
   have t3 : b 3 = true := ha 3 (by decide)
   have t4 : b 4 = true := ha 4 (by decide)
   have t5 : b 5 = true := ha 5 (by decide)
   have t6 : b 6 = true := ha 6 (by decide)
   have f8 : b 8 = false := hd 8 (by decide)
   simp only [h0, t0, t1, t2, t3, t4, t5, t6, f8, if_true, if_false, Bool.false_eq_true]
   refine Chain.callC (d := 29) (p15 N (beqS24 x2 x3) r4 hr4) (by simp) rfl rfl (by simp <;> rfl) (by simp <;> rfl) ent15 (by simp) (.inl ⟨by simp, by simp⟩) ?_
   exact Chain.nil (by simp [t0, t1, t2, t3, t4, t5, t6, f8]; exact Sub.table (by simp) (by simp))
  ·intro b h0 ha hd
   have t0 : b 0 = true := ha 0 (by decide)
   have t1 : b 1 = true := ha 1 (by decide)
   have t2 : b 2 = true := ha 2 (by decide)
   have t3 : b 3 = true := ha 3 (by decide)
   have t4 : b 4 = true := ha 4 (by decide)
   have t5 : b 5 = true := ha 5 (by decide)
   have t6 : b 6 = true := ha 6 (by decide)
   have t7 : b 7 = true := ha 7 (by decide)
   refine Chain.runK [] 1 fun K hK => ?_; simp [h0, t0, t1, t2, t3, t4, t5, t6, t7]; refine hK _ _ ?_; clear hK K
   exact Chain.nil (Sub.table (by simp [t0, t1, t2, t3, t4, t5, t6, t7]) (by simp))
  ·intro b hb
   have t0 := hb 0 (by decide)
   have t1 := hb 1 (by decide)
   have t2 := hb 2 (by decide)
   have t3 := hb 3 (by decide)
   have t4 := hb 4 (by decide)
   have t5 := hb 5 (by decide)
   have t6 := hb 6 (by decide)
   have t7 := hb 7 (by decide)
   have t8 := hb 8 (by decide)
   exact Sub.table (by simp [t0, t1, t2, t3, t4, t5, t6, t7]) (by simp [t8])
  ·skip
   refine AW.ret ?_
   cases h
   refine blockQ.ret ?_
   refine thenQ_pass (by simp) ?_
   exact FinC.ret (by simp) (by simp)
 ·have c1_ : decide (a0 = (ByteArray.mk #[61])) = false := Bool.eq_false_iff.2 c1
  refine AW.condF (b := decide (a0 = (ByteArray.mk #[61]))) rfl c1_ ?_
  refine AW.sub (Sub.bool 20 (b := decide (a0 = (ByteArray.mk #[61]))) rfl c1_) ?_
  refine AW.sub (S' := mk 100 [] [(0, .d (.lit (.string a0))), (3, .ptr 3 0 0), (4, .ptr 4 0 0), (5, .fn (.func 53) [.ptr 3 0 0]), (7, .d (.lit (.string a0))), (20, .d (.lit (.bool false)))] [(3, some (.box [.d (.sl (a1.map cS24))])), (4, some (.box [.d (.lit (.int .i64 0)), .d (.lit (.int .i64 0)), .d (.lit (.string (ByteArray.mk #[])))]))]) (by simp; exact Sub.table (by simp) (by simp)) ?_
  refine AW.seqR ?_
  refine Chain.runK [] 2 fun K hK => ?_; simp; refine hK _ _ ?_; clear hK K
  refine Chain.sub (S' := mk 100 [] [(0, .d (.lit (.string a0))), (3, .ptr 3 0 0), (4, .ptr 4 0 0), (5, .fn (.func 53) [.ptr 3 0 0]), (7, .d (.lit (.string a0))), (30, .d (.lit (.bool (decide (a0 = (ByteArray.mk #[60]))))))] [(3, some (.box [.d (.sl (a1.map cS24))])), (4, some (.box [.d (.lit (.int .i64 0)), .d (.lit (.int .i64 0)), .d (.lit (.string (ByteArray.mk #[])))]))]) Sub.tt ?_
  refine Chain.nil ?_
  replace h := isome h; rcases h with ⟨c5, h⟩ | ⟨c5, h⟩
  ·have c5_ : decide (a0 = (ByteArray.mk #[60])) = true := c5
   refine AW.condT (b := decide (a0 = (ByteArray.mk #[60]))) rfl c5_ ?_
   refine AW.sub (Sub.bool 30 (b := decide (a0 = (ByteArray.mk #[60]))) rfl c5_) ?_
   refine AW.sub (S' := mk 100 [] [(0, .d (.lit (.string a0))), (3, .ptr 3 0 0), (4, .ptr 4 0 0), (5, .fn (.func 53) [.ptr 3 0 0]), (7, .d (.lit (.string a0))), (30, .d (.lit (.bool true)))] [(3, some (.box [.d (.sl (a1.map cS24))])), (4, some (.box [.d (.lit (.int .i64 0)), .d (.lit (.int .i64 0)), .d (.lit (.string (ByteArray.mk #[])))]))]) (by simp; exact Sub.table (by simp) (by simp)) ?_
   replace h := bsome h; obtain ⟨x6, hx6, h⟩ := h
   obtain ⟨hx6, hx6b, hx6c⟩ := idx_someN (n := 0) hx6
   replace h := bsome h; obtain ⟨x7, hx7, h⟩ := h
   obtain ⟨hx7, hx7b, hx7c⟩ := idx_someN (n := 1) hx7
   replace h := bsome h; obtain ⟨r8, hr8, h⟩ := h
   replace h := bsome h; obtain ⟨r9, hr9, h⟩ := h
   refine AW.seqAnyS [[], [0], [0, 1], [], [3], [3, 4], [0, 1, 2, 3, 4, 5], [0, 1, 2, 3, 4, 5, 6], [0, 1, 2, 3, 4, 5, 6, 7]] (fun (b : Nat → Bool) => mk 100 [] [(3, .ptr 3 0 0), (4, .ptr 4 0 0), (32, (if b 0 then .d (.sl (a1.map cS24)) else .junk)), (33, (if b 1 then .d (.pim [.lit (.int .i64 x6.Kind), .lit (.int .i64 x6.Int), .lit (.string x6.Text)]) else .junk)), (34, (if b 2 then .agg [.d (.lit (.int .i64 x6.Kind)), .d (.lit (.int .i64 x6.Int)), .d (.lit (.string x6.Text))] else .junk)), (35, (if b 3 then .d (.sl (a1.map cS24)) else .junk)), (36, (if b 4 then .d (.pim [.lit (.int .i64 x7.Kind), .lit (.int .i64 x7.Int), .lit (.string x7.Text)]) else .junk)), (37, (if b 5 then .agg [.d (.lit (.int .i64 x7.Kind)), .d (.lit (.int .i64 x7.Int)), .d (.lit (.string x7.Text))] else .junk)), (38, (if b 6 then .d (.lit (.bool r8)) else .junk)), (39, (if b 7 then .agg [.d (.lit (.int .i64 r9.Kind)), .d (.lit (.int .i64 r9.Int)), .d (.lit (.string r9.Text))] else .junk))] [(3, some (.box [.d (.sl (a1.map cS24))])), (4, (if b 8 then some (.box [.d (.lit (.int .i64 r9.Kind)), .d (.lit (.int .i64 r9.Int)), .d (.lit (.string r9.Text))]) else some (.box [.d (.lit (.int .i64 0)), .d (.lit (.int .i64 0)), .d (.lit (.string (ByteArray.mk #[])))])))]) (mk 100 [] [(4, .ptr 4 0 0)] [(4, some (.box [.d (.lit (.int .i64 r9.Kind)), .d (.lit (.int .i64 r9.Int)), .d (.lit (.string r9.Text))]))]) (by kernel_rfl) (by kernel_rfl) Sub.tt (Steps.cons ?_ (Steps.cons ?_ (Steps.cons ?_ (Steps.cons ?_ (Steps.cons ?_ (Steps.cons ?_ (Steps.cons ?_ (Steps.cons ?_ (Steps.cons ?_ (Steps.nil)))))))))) ?_ ?_
   ·intro b h0 ha hd
    have f1 : b 1 = false := hd 1 (by decide)
    have f2 : b 2 = false := hd 2 (by decide)
    have f6 : b 6 = false := hd 6 (by decide)
    have f7 : b 7 = false := hd 7 (by decide)
    have f8 : b 8 = false := hd 8 (by decide)
    refine Chain.runK [] 1 fun K hK => ?_; simp [h0, f1, f2, f6, f7, f8]; refine hK _ _ ?_; clear hK K
    exact Chain.nil (Sub.table (by simp [f1, f2, f6, f7]) (by simp [f8]))
   ·intro b h0 ha hd
    have t0 : b 0 = true := ha 0 (by decide)
    have f2 : b 2 = false := hd 2 (by decide)
    have f6 : b 6 = false := hd 6 (by decide)
    have f7 : b 7 = false := hd 7 (by decide)
    have f8 : b 8 = false := hd 8 (by decide)
    refine Chain.runK [] 1 fun K hK => ?_; simp [h0, t0, f2, f6, f7, f8, hx6]; refine hK _ _ ?_; clear hK K
    exact Chain.nil (Sub.table (by simp [t0, f2, f6, f7]) (by simp [f8]))
   ·intro b h0 ha hd
    have t0 : b 0 = true := ha 0 (by decide)
    have t1 : b 1 = true := ha 1 (by decide)
    have f6 : b 6 = false := hd 6 (by decide)
    have f7 : b 7 = false := hd 7 (by decide)
    have f8 : b 8 = false := hd 8 (by decide)
    refine Chain.runK [] 1 fun K hK => ?_; simp [h0, t0, t1, f6, f7, f8]; refine hK _ _ ?_; clear hK K
    exact Chain.nil (Sub.table (by simp [t0, t1, f6, f7]) (by simp [f8]))
   ·intro b h0 ha hd
    have f4 : b 4 = false := hd 4 (by decide)
    have f5 : b 5 = false := hd 5 (by decide)
    have f6 : b 6 = false := hd 6 (by decide)
    have f7 : b 7 = false := hd 7 (by decide)
    have f8 : b 8 = false := hd 8 (by decide)
    refine Chain.runK [] 1 fun K hK => ?_; simp [h0, f4, f5, f6, f7, f8]; refine hK _ _ ?_; clear hK K
    exact Chain.nil (Sub.table (by simp [f4, f5, f6, f7]) (by simp [f8]))
   ·intro b h0 ha hd
    have t3 : b 3 = true := ha 3 (by decide)
    have f5 : b 5 = false := hd 5 (by decide)
    have f6 : b 6 = false := hd 6 (by decide)
    have f7 : b 7 = false := hd 7 (by decide)
    have f8 : b 8 = false := hd 8 (by decide)
    refine Chain.runK [] 1 fun K hK => ?_; simp [h0, t3, f5, f6, f7, f8, hx7]; refine hK _ _ ?_; clear hK K
    exact Chain.nil (Sub.table (by simp [t3, f5, f6, f7]) (by simp [f8]))
   ·intro b h0 ha hd
    have t3 : b 3 = true := ha 3 (by decide)
    have t4 : b 4 = true := ha 4 (by decide)
    have f6 : b 6 = false := hd 6 (by decide)
    have f7 : b 7 = false := hd 7 (by decide)
    have f8 : b 8 = false := hd 8 (by decide)
    refine Chain.runK [] 1 fun K hK => ?_; simp [h0, t3, t4, f6, f7, f8]; refine hK _ _ ?_; clear hK K
    exact Chain.nil (Sub.table (by simp [t3, t4, f6, f7]) (by simp [f8]))
   ·intro b h0 ha hd
    have t0 : b 0 = true := ha 0 (by decide)
    have t1 : b 1 = true := ha 1 (by decide)
    have t2 : b 2 = true := ha 2 (by decide)
    have t3 : b 3 = true := ha 3 (by decide)
    have t4 : b 4 = true := ha 4 (by decide)
    have t5 : b 5 = true := ha 5 (by decide)
    have f7 : b 7 = false := hd 7 (by decide)
    have f8 : b 8 = false := hd 8 (by decide)
    simp only [h0, t0, t1, t2, t3, t4, t5, f7, f8, if_true, if_false, Bool.false_eq_true]
    refine Chain.callL (d := 38) (p55 N x6 x7 r8 hr8) (by simp) rfl rfl (by simp <;> rfl) (by simp <;> rfl) ent55 (by simp <;> rfl) ?_
    exact Chain.nil (by simp [t0, t1, t2, t3, t4, t5, f7, f8]; exact Sub.table (by simp) (by simp))
   ·intro b h0 ha hd
    have t0 : b 0 = true := ha 0 (by decide)
    have t1 : b 1 = true := ha 1 (by decide)
    have t2 : b 2 = true := ha 2 (by decide)
    have t3 : b 3 = true := ha 3 (by decide)
    have t4 : b 4 = true := ha 4 (by decide)
    have t5 : b 5 = true := ha 5 (by decide)
    have t6 : b 6 = true := ha 6 (by decide)
    have f8 : b 8 = false := hd 8 (by decide)
    simp only [h0, t0, t1, t2, t3, t4, t5, t6, f8, if_true, if_false, Bool.false_eq_true]
    refine Chain.callC (d := 39) (p15 N r8 r9 hr9) (by simp) rfl rfl (by simp <;> rfl) (by simp <;> rfl) ent15 (by simp) (.inl ⟨by simp, by simp⟩) ?_
    exact Chain.nil (by simp [t0, t1, t2, t3, t4, t5, t6, f8]; exact Sub.table (by simp) (by simp))
   ·intro b h0 ha hd
    have t0 : b 0 = true := ha 0 (by decide)
    have t1 : b 1 = true := ha 1 (by decide)
    have t2 : b 2 = true := ha 2 (by decide)
    have t3 : b 3 = true := ha 3 (by decide)
    have t4 : b 4 = true := ha 4 (by decide)
    have t5 : b 5 = true := ha 5 (by decide)
    have t6 : b 6 = true := ha 6 (by decide)
    have t7 : b 7 = true := ha 7 (by decide)
    refine Chain.runK [] 1 fun K hK => ?_; simp [h0, t0, t1, t2, t3, t4, t5, t6, t7]; refine hK _ _ ?_; clear hK K
    exact Chain.nil (Sub.table (by simp [t0, t1, t2, t3, t4, t5, t6, t7]) (by simp))
   ·intro b hb
    have t0 := hb 0 (by decide)
    have t1 := hb 1 (by decide)
    have t2 := hb 2 (by decide)
    have t3 := hb 3 (by decide)
    have t4 := hb 4 (by decide)
    have t5 := hb 5 (by decide)
    have t6 := hb 6 (by decide)
    have t7 := hb 7 (by decide)
    have t8 := hb 8 (by decide)
    exact Sub.table (by simp [t0, t1, t2, t3, t4, t5, t6, t7]) (by simp [t8])
   ·skip
    refine AW.ret ?_
    cases h
    refine blockQ.ret ?_
    refine thenQ_pass (by simp) ?_
    exact FinC.ret (by simp) (by simp)
  ·have c5_ : decide (a0 = (ByteArray.mk #[60])) = false := Bool.eq_false_iff.2 c5
   refine AW.condF (b := decide (a0 = (ByteArray.mk #[60]))) rfl c5_ ?_
   refine AW.sub (Sub.bool 30 (b := decide (a0 = (ByteArray.mk #[60]))) rfl c5_) ?_
   refine AW.sub (S' := mk 100 [] [(0, .d (.lit (.string a0))), (3, .ptr 3 0 0), (4, .ptr 4 0 0), (5, .fn (.func 53) [.ptr 3 0 0]), (7, .d (.lit (.string a0))), (30, .d (.lit (.bool false)))] [(3, some (.box [.d (.sl (a1.map cS24))])), (4, some (.box [.d (.lit (.int .i64 0)), .d (.lit (.int .i64 0)), .d (.lit (.string (ByteArray.mk #[])))]))]) (by simp; exact Sub.table (by simp) (by simp)) ?_
   refine AW.seqR ?_
   refine Chain.runK [] 2 fun K hK => ?_; simp; refine hK _ _ ?_; clear hK K
   refine Chain.sub (S' := mk 100 [] [(0, .d (.lit (.string a0))), (3, .ptr 3 0 0), (4, .ptr 4 0 0), (5, .fn (.func 53) [.ptr 3 0 0]), (7, .d (.lit (.string a0))), (40, .d (.lit (.bool (decide (a0 = (ByteArray.mk #[60, 61]))))))] [(3, some (.box [.d (.sl (a1.map cS24))])), (4, some (.box [.d (.lit (.int .i64 0)), .d (.lit (.int .i64 0)), .d (.lit (.string (ByteArray.mk #[])))]))]) Sub.tt ?_
   refine Chain.nil ?_
   replace h := isome h; rcases h with ⟨c10, h⟩ | ⟨c10, h⟩
   ·have c10_ : decide (a0 = (ByteArray.mk #[60, 61])) = true := c10
    refine AW.condT (b := decide (a0 = (ByteArray.mk #[60, 61]))) rfl c10_ ?_
    refine AW.sub (Sub.bool 40 (b := decide (a0 = (ByteArray.mk #[60, 61]))) rfl c10_) ?_
    refine AW.sub (S' := mk 100 [] [(0, .d (.lit (.string a0))), (3, .ptr 3 0 0), (4, .ptr 4 0 0), (5, .fn (.func 53) [.ptr 3 0 0]), (7, .d (.lit (.string a0))), (40, .d (.lit (.bool true)))] [(3, some (.box [.d (.sl (a1.map cS24))])), (4, some (.box [.d (.lit (.int .i64 0)), .d (.lit (.int .i64 0)), .d (.lit (.string (ByteArray.mk #[])))]))]) (by simp; exact Sub.table (by simp) (by simp)) ?_
    replace h := bsome h; obtain ⟨x11, hx11, h⟩ := h
    obtain ⟨hx11, hx11b, hx11c⟩ := idx_someN (n := 1) hx11
    replace h := bsome h; obtain ⟨x12, hx12, h⟩ := h
    obtain ⟨hx12, hx12b, hx12c⟩ := idx_someN (n := 0) hx12
    replace h := bsome h; obtain ⟨r13, hr13, h⟩ := h
    replace h := bsome h; obtain ⟨r14, hr14, h⟩ := h
    refine AW.seqAnyS [[], [0], [0, 1], [], [3], [3, 4], [0, 1, 2, 3, 4, 5], [0, 1, 2, 3, 4, 5, 6], [0, 1, 2, 3, 4, 5, 6, 7], [0, 1, 2, 3, 4, 5, 6, 7, 8]] (fun (b : Nat → Bool) => mk 100 [] [(3, .ptr 3 0 0), (4, .ptr 4 0 0), (42, (if b 0 then .d (.sl (a1.map cS24)) else .junk)), (43, (if b 1 then .d (.pim [.lit (.int .i64 x11.Kind), .lit (.int .i64 x11.Int), .lit (.string x11.Text)]) else .junk)), (44, (if b 2 then .agg [.d (.lit (.int .i64 x11.Kind)), .d (.lit (.int .i64 x11.Int)), .d (.lit (.string x11.Text))] else .junk)), (45, (if b 3 then .d (.sl (a1.map cS24)) else .junk)), (46, (if b 4 then .d (.pim [.lit (.int .i64 x12.Kind), .lit (.int .i64 x12.Int), .lit (.string x12.Text)]) else .junk)), (47, (if b 5 then .agg [.d (.lit (.int .i64 x12.Kind)), .d (.lit (.int .i64 x12.Int)), .d (.lit (.string x12.Text))] else .junk)), (48, (if b 6 then .d (.lit (.bool r13)) else .junk)), (49, (if b 7 then .d (.lit (.bool (!r13))) else .junk)), (50, (if b 8 then .agg [.d (.lit (.int .i64 r14.Kind)), .d (.lit (.int .i64 r14.Int)), .d (.lit (.string r14.Text))] else .junk))] [(3, some (.box [.d (.sl (a1.map cS24))])), (4, (if b 9 then some (.box [.d (.lit (.int .i64 r14.Kind)), .d (.lit (.int .i64 r14.Int)), .d (.lit (.string r14.Text))]) else some (.box [.d (.lit (.int .i64 0)), .d (.lit (.int .i64 0)), .d (.lit (.string (ByteArray.mk #[])))])))]) (mk 100 [] [(4, .ptr 4 0 0)] [(4, some (.box [.d (.lit (.int .i64 r14.Kind)), .d (.lit (.int .i64 r14.Int)), .d (.lit (.string r14.Text))]))]) (by kernel_rfl) (by kernel_rfl) Sub.tt (Steps.cons ?_ (Steps.cons ?_ (Steps.cons ?_ (Steps.cons ?_ (Steps.cons ?_ (Steps.cons ?_ (Steps.cons ?_ (Steps.cons ?_ (Steps.cons ?_ (Steps.cons ?_ (Steps.nil))))))))))) ?_ ?_
    ·intro b h0 ha hd
     have f1 : b 1 = false := hd 1 (by decide)
     have f2 : b 2 = false := hd 2 (by decide)
     have f6 : b 6 = false := hd 6 (by decide)
     have f7 : b 7 = false := hd 7 (by decide)
     have f8 : b 8 = false := hd 8 (by decide)
     have f9 : b 9 = false := hd 9 (by decide)
     refine Chain.runK [] 1 fun K hK => ?_; simp [h0, f1, f2, f6, f7, f8, f9]; refine hK _ _ ?_; clear hK K
     exact Chain.nil (Sub.table (by simp [f1, f2, f6, f7, f8]) (by simp [f9]))
    ·intro b h0 ha hd
     have t0 : b 0 = true := ha 0 (by decide)
     have f2 : b 2 = false := hd 2 (by decide)
     have f6 : b 6 = false := hd 6 (by decide)
     have f7 : b 7 = false := hd 7 (by decide)
     have f8 : b 8 = false := hd 8 (by decide)
     have f9 : b 9 = false := hd 9 (by decide)
     refine Chain.runK [] 1 fun K hK => ?_; simp [h0, t0, f2, f6, f7, f8, f9, hx11]; refine hK _ _ ?_; clear hK K
     exact Chain.nil (Sub.table (by simp [t0, f2, f6, f7, f8]) (by simp [f9]))
    ·intro b h0 ha hd
     have t0 : b 0 = true := ha 0 (by decide)
     have t1 : b 1 = true := ha 1 (by decide)
     have f6 : b 6 = false := hd 6 (by decide)
     have f7 : b 7 = false := hd 7 (by decide)
     have f8 : b 8 = false := hd 8 (by decide)
     have f9 : b 9 = false := hd 9 (by decide)
     refine Chain.runK [] 1 fun K hK => ?_; simp [h0, t0, t1, f6, f7, f8, f9]; refine hK _ _ ?_; clear hK K
     exact Chain.nil (Sub.table (by simp [t0, t1, f6, f7, f8]) (by simp [f9]))
    ·intro b h0 ha hd
     have f4 : b 4 = false := hd 4 (by decide)
     have f5 : b 5 = false := hd 5 (by decide)
     have f6 : b 6 = false := hd 6 (by decide)
     have f7 : b 7 = false := hd 7 (by decide)
     have f8 : b 8 = false := hd 8 (by decide)
     have f9 : b 9 = false := hd 9 (by decide)
     refine Chain.runK [] 1 fun K hK => ?_; simp [h0, f4, f5, f6, f7, f8, f9]; refine hK _ _ ?_; clear hK K
     exact Chain.nil (Sub.table (by simp [f4, f5, f6, f7, f8]) (by simp [f9]))
    ·intro b h0 ha hd
     have t3 : b 3 = true := ha 3 (by decide)
     have f5 : b 5 = false := hd 5 (by decide)
     have f6 : b 6 = false := hd 6 (by decide)
     have f7 : b 7 = false := hd 7 (by decide)
     have f8 : b 8 = false := hd 8 (by decide)
     have f9 : b 9 = false := hd 9 (by decide)
     refine Chain.runK [] 1 fun K hK => ?_; simp [h0, t3, f5, f6, f7, f8, f9, hx12]; refine hK _ _ ?_; clear hK K
     exact Chain.nil (Sub.table (by simp [t3, f5, f6, f7, f8]) (by simp [f9]))
    ·intro b h0 ha hd
     have t3 : b 3 = true := ha 3 (by decide)
     have t4 : b 4 = true := ha 4 (by decide)
     have f6 : b 6 = false := hd 6 (by decide)
     have f7 : b 7 = false := hd 7 (by decide)
     have f8 : b 8 = false := hd 8 (by decide)
     have f9 : b 9 = false := hd 9 (by decide)
     refine Chain.runK [] 1 fun K hK => ?_; simp [h0, t3, t4, f6, f7, f8, f9]; refine hK _ _ ?_; clear hK K
     exact Chain.nil (Sub.table (by simp [t3, t4, f6, f7, f8]) (by simp [f9]))
    ·intro b h0 ha hd
     have t0 : b 0 = true := ha 0 (by decide)
     have t1 : b 1 = true := ha 1 (by decide)
     have t2 : b 2 = true := ha 2 (by decide)
     have t3 : b 3 = true := ha 3 (by decide)
     have t4 : b 4 = true := ha 4 (by decide)
     have t5 : b 5 = true := ha 5 (by decide)
     have f7 : b 7 = false := hd 7 (by decide)
     have f8 : b 8 = false := hd 8 (by decide)
     have f9 : b 9 = false := hd 9 (by decide)
     simp only [h0, t0, t1, t2, t3, t4, t5, f7, f8, f9, if_true, if_false, Bool.false_eq_true]
     refine Chain.callL (d := 48) (p55 N x11 x12 r13 hr13) (by simp) rfl rfl (by simp <;> rfl) (by simp <;> rfl) ent55 (by simp <;> rfl) ?_
     exact Chain.nil (by simp [t0, t1, t2, t3, t4, t5, f7, f8, f9]; exact Sub.table (by simp) (by simp))
    ·intro b h0 ha hd
     have t0 : b 0 = true := ha 0 (by decide)
     have t1 : b 1 = true := ha 1 (by decide)
     have t2 : b 2 = true := ha 2 (by decide)
     have t3 : b 3 = true := ha 3 (by decide)
     have t4 : b 4 = true := ha 4 (by decide)
     have t5 : b 5 = true := ha 5 (by decide)
     have t6 : b 6 = true := ha 6 (by decide)
     have f8 : b 8 = false := hd 8 (by decide)
     have f9 : b 9 = false := hd 9 (by decide)
     refine Chain.runK [] 1 fun K hK => ?_; simp [h0, t0, t1, t2, t3, t4, t5, t6, f8, f9]; refine hK _ _ ?_; clear hK K
     exact Chain.nil (Sub.table (by simp [t0, t1, t2, t3, t4, t5, t6, f8]) (by simp [f9]))
    ·intro b h0 ha hd
     have t0 : b 0 = true := ha 0 (by decide)
     have t1 : b 1 = true := ha 1 (by decide)
     have t2 : b 2 = true := ha 2 (by decide)
     have t3 : b 3 = true := ha 3 (by decide)
     have t4 : b 4 = true := ha 4 (by decide)
     have t5 : b 5 = true := ha 5 (by decide)
     have t6 : b 6 = true := ha 6 (by decide)
     have t7 : b 7 = true := ha 7 (by decide)
     have f9 : b 9 = false := hd 9 (by decide)
     simp only [h0, t0, t1, t2, t3, t4, t5, t6, t7, f9, if_true, if_false, Bool.false_eq_true]
     refine Chain.callC (d := 50) (p15 N (!r13) r14 hr14) (by simp) rfl rfl (by simp <;> rfl) (by simp <;> rfl) ent15 (by simp) (.inl ⟨by simp, by simp⟩) ?_
     exact Chain.nil (by simp [t0, t1, t2, t3, t4, t5, t6, t7, f9]; exact Sub.table (by simp) (by simp))
    ·intro b h0 ha hd
     have t0 : b 0 = true := ha 0 (by decide)
     have t1 : b 1 = true := ha 1 (by decide)
     have t2 : b 2 = true := ha 2 (by decide)
     have t3 : b 3 = true := ha 3 (by decide)
     have t4 : b 4 = true := ha 4 (by decide)
     have t5 : b 5 = true := ha 5 (by decide)
     have t6 : b 6 = true := ha 6 (by decide)
     have t7 : b 7 = true := ha 7 (by decide)
     have t8 : b 8 = true := ha 8 (by decide)
     refine Chain.runK [] 1 fun K hK => ?_; simp [h0, t0, t1, t2, t3, t4, t5, t6, t7, t8]; refine hK _ _ ?_; clear hK K
     exact Chain.nil (Sub.table (by simp [t0, t1, t2, t3, t4, t5, t6, t7, t8]) (by simp))
    ·intro b hb
     have t0 := hb 0 (by decide)
     have t1 := hb 1 (by decide)
     have t2 := hb 2 (by decide)
     have t3 := hb 3 (by decide)
     have t4 := hb 4 (by decide)
     have t5 := hb 5 (by decide)
     have t6 := hb 6 (by decide)
     have t7 := hb 7 (by decide)
     have t8 := hb 8 (by decide)
     have t9 := hb 9 (by decide)
     exact Sub.table (by simp [t0, t1, t2, t3, t4, t5, t6, t7, t8]) (by simp [t9])
    ·skip
     refine AW.ret ?_
     cases h
     refine blockQ.ret ?_
     refine thenQ_pass (by simp) ?_
     exact FinC.ret (by simp) (by simp)
   ·have c10_ : decide (a0 = (ByteArray.mk #[60, 61])) = false := Bool.eq_false_iff.2 c10
    refine AW.condF (b := decide (a0 = (ByteArray.mk #[60, 61]))) rfl c10_ ?_
    refine AW.sub (Sub.bool 40 (b := decide (a0 = (ByteArray.mk #[60, 61]))) rfl c10_) ?_
    refine AW.sub (S' := mk 100 [] [(0, .d (.lit (.string a0))), (3, .ptr 3 0 0), (4, .ptr 4 0 0), (5, .fn (.func 53) [.ptr 3 0 0]), (7, .d (.lit (.string a0))), (40, .d (.lit (.bool false)))] [(3, some (.box [.d (.sl (a1.map cS24))])), (4, some (.box [.d (.lit (.int .i64 0)), .d (.lit (.int .i64 0)), .d (.lit (.string (ByteArray.mk #[])))]))]) (by simp; exact Sub.table (by simp) (by simp)) ?_
    refine AW.seqR ?_
    refine Chain.runK [] 2 fun K hK => ?_; simp; refine hK _ _ ?_; clear hK K
    refine Chain.sub (S' := mk 100 [] [(0, .d (.lit (.string a0))), (3, .ptr 3 0 0), (4, .ptr 4 0 0), (5, .fn (.func 53) [.ptr 3 0 0]), (7, .d (.lit (.string a0))), (51, .d (.lit (.bool (decide (a0 = (ByteArray.mk #[110, 111, 116]))))))] [(3, some (.box [.d (.sl (a1.map cS24))])), (4, some (.box [.d (.lit (.int .i64 0)), .d (.lit (.int .i64 0)), .d (.lit (.string (ByteArray.mk #[])))]))]) Sub.tt ?_
    refine Chain.nil ?_
    replace h := isome h; rcases h with ⟨c15, h⟩ | ⟨c15, h⟩
    ·have c15_ : decide (a0 = (ByteArray.mk #[110, 111, 116])) = true := c15
     refine AW.condT (b := decide (a0 = (ByteArray.mk #[110, 111, 116]))) rfl c15_ ?_
     refine AW.sub (Sub.bool 51 (b := decide (a0 = (ByteArray.mk #[110, 111, 116]))) rfl c15_) ?_
     refine AW.sub (S' := mk 100 [] [(0, .d (.lit (.string a0))), (3, .ptr 3 0 0), (4, .ptr 4 0 0), (5, .fn (.func 53) [.ptr 3 0 0]), (7, .d (.lit (.string a0))), (51, .d (.lit (.bool true)))] [(3, some (.box [.d (.sl (a1.map cS24))])), (4, some (.box [.d (.lit (.int .i64 0)), .d (.lit (.int .i64 0)), .d (.lit (.string (ByteArray.mk #[])))]))]) (by simp; exact Sub.table (by simp) (by simp)) ?_
     refine AW.seqR ?_
     refine Chain.runK [] 1 fun K hK => ?_; simp; refine hK _ _ ?_; clear hK K
     refine Chain.sub (S' := mk 100 [] [(3, .ptr 3 0 0), (4, .ptr 4 0 0), (53, .fn (.func 53) [.ptr 3 0 0])] [(3, some (.box [.d (.sl (a1.map cS24))])), (4, some (.box [.d (.lit (.int .i64 0)), .d (.lit (.int .i64 0)), .d (.lit (.string (ByteArray.mk #[])))]))]) Sub.tt ?_
     replace h := bsome h; obtain ⟨r16, hr16, h⟩ := h
     refine Chain.callL (d := 54) (p53 N 2 a1 r16 hr16) (by simp) rfl rfl (by simp <;> rfl) (by simp <;> rfl) ent53 (by simp <;> rfl) ?_
     refine Chain.sub (S' := mk 100 [] [(3, .ptr 3 0 0), (4, .ptr 4 0 0), (53, .fn (.func 53) [.ptr 3 0 0]), (54, .d (.lit (.bool r16)))] [(3, some (.box [.d (.sl (a1.map cS24))])), (4, some (.box [.d (.lit (.int .i64 0)), .d (.lit (.int .i64 0)), .d (.lit (.string (ByteArray.mk #[])))]))]) (by simp; exact Sub.table (by simp) (by simp)) ?_
     refine Chain.nil ?_
     replace h := isome h; rcases h with ⟨c17, h⟩ | ⟨c17, h⟩
     ·have c17_ : r16 = true := c17
      refine AW.condT (b := r16) rfl c17_ ?_
      refine AW.sub (Sub.bool 54 (b := r16) rfl c17_) ?_
      refine AW.sub (S' := mk 100 [] [(3, .ptr 3 0 0), (4, .ptr 4 0 0), (53, .fn (.func 53) [.ptr 3 0 0]), (54, .d (.lit (.bool true)))] [(3, some (.box [.d (.sl (a1.map cS24))])), (4, some (.box [.d (.lit (.int .i64 0)), .d (.lit (.int .i64 0)), .d (.lit (.string (ByteArray.mk #[])))]))]) (by simp; exact Sub.table (by simp) (by simp)) ?_
      refine AW.seqR ?_
      replace h := bsome h; obtain ⟨x18, hx18, h⟩ := h
      obtain ⟨hx18, hx18b, hx18c⟩ := idx_someN (n := 0) hx18
      refine Chain.runK [] 5 fun K hK => ?_; simp [hx18]; refine hK _ _ ?_; clear hK K
      refine Chain.sub (S' := mk 100 [] [(4, .ptr 4 0 0), (59, .d (.lit (.bool (x18.Int == 0))))] [(4, some (.box [.d (.lit (.int .i64 0)), .d (.lit (.int .i64 0)), .d (.lit (.string (ByteArray.mk #[])))]))]) Sub.tt ?_
      replace h := bsome h; obtain ⟨r19, hr19, h⟩ := h
      refine Chain.callC (d := 60) (p15 N (x18.Int == 0) r19 hr19) (by simp) rfl rfl (by simp <;> rfl) (by simp <;> rfl) ent15 (by simp) (.inl ⟨by simp, by simp⟩) ?_
      refine Chain.sub (S' := mk 100 [] [(4, .ptr 4 0 0), (59, .d (.lit (.bool (x18.Int == 0)))), (60, .agg [.d (.lit (.int .i64 r19.Kind)), .d (.lit (.int .i64 r19.Int)), .d (.lit (.string r19.Text))])] [(4, some (.box [.d (.lit (.int .i64 0)), .d (.lit (.int .i64 0)), .d (.lit (.string (ByteArray.mk #[])))]))]) (by simp; exact Sub.table (by simp) (by simp)) ?_
      refine Chain.runK [] 1 fun K hK => ?_; simp; refine hK _ _ ?_; clear hK K
      refine Chain.sub (S' := mk 100 [] [(4, .ptr 4 0 0)] [(4, some (.box [.d (.lit (.int .i64 r19.Kind)), .d (.lit (.int .i64 r19.Int)), .d (.lit (.string r19.Text))]))]) Sub.tt ?_
      refine Chain.nil ?_
      refine AW.ret ?_
      cases h
      refine blockQ.ret ?_
      refine thenQ_pass (by simp) ?_
      exact FinC.ret (by simp) (by simp)
     ·have c17_ : r16 = false := Bool.eq_false_iff.2 c17
      refine AW.condF (b := r16) rfl c17_ ?_
      refine AW.sub (Sub.bool 54 (b := r16) rfl c17_) ?_
      refine AW.sub (S' := mk 100 [] [(3, .ptr 3 0 0), (4, .ptr 4 0 0), (53, .fn (.func 53) [.ptr 3 0 0]), (54, .d (.lit (.bool false)))] [(3, some (.box [.d (.sl (a1.map cS24))])), (4, some (.box [.d (.lit (.int .i64 0)), .d (.lit (.int .i64 0)), .d (.lit (.string (ByteArray.mk #[])))]))]) (by simp; exact Sub.table (by simp) (by simp)) ?_
      refine AW.skip ?_
      refine blockQ.normal ?_
      refine thenQ_normal ?_
      refine AW.seqR ?_
      refine Chain.runK [] 2 fun K hK => ?_; simp; refine hK _ _ ?_; clear hK K
      refine Chain.sub (S' := mk 100 [] [(4, .ptr 4 0 0)] [(4, some (.box [.d (.lit (.int .i64 0)), .d (.lit (.int .i64 0)), .d (.lit (.string (ByteArray.mk #[])))]))]) Sub.tt ?_
      refine Chain.nil ?_
      refine AW.ret ?_
      cases h
      exact FinC.ret (by simp) (by simp)
    ·have c15_ : decide (a0 = (ByteArray.mk #[110, 111, 116])) = false := Bool.eq_false_iff.2 c15
     refine AW.condF (b := decide (a0 = (ByteArray.mk #[110, 111, 116]))) rfl c15_ ?_
     refine AW.sub (Sub.bool 51 (b := decide (a0 = (ByteArray.mk #[110, 111, 116]))) rfl c15_) ?_
     refine AW.sub (S' := mk 100 [] [(0, .d (.lit (.string a0))), (3, .ptr 3 0 0), (4, .ptr 4 0 0), (5, .fn (.func 53) [.ptr 3 0 0]), (7, .d (.lit (.string a0))), (51, .d (.lit (.bool false)))] [(3, some (.box [.d (.sl (a1.map cS24))])), (4, some (.box [.d (.lit (.int .i64 0)), .d (.lit (.int .i64 0)), .d (.lit (.string (ByteArray.mk #[])))]))]) (by simp; exact Sub.table (by simp) (by simp)) ?_
     refine AW.seqR ?_
     refine Chain.runK [] 2 fun K hK => ?_; simp; refine hK _ _ ?_; clear hK K
     refine Chain.sub (S' := mk 100 [] [(0, .d (.lit (.string a0))), (3, .ptr 3 0 0), (4, .ptr 4 0 0), (5, .fn (.func 53) [.ptr 3 0 0]), (7, .d (.lit (.string a0))), (61, .d (.lit (.bool (decide (a0 = (ByteArray.mk #[108, 101, 110, 103, 116, 104]))))))] [(3, some (.box [.d (.sl (a1.map cS24))])), (4, some (.box [.d (.lit (.int .i64 0)), .d (.lit (.int .i64 0)), .d (.lit (.string (ByteArray.mk #[])))]))]) Sub.tt ?_
     refine Chain.nil ?_
     replace h := isome h; rcases h with ⟨c20, h⟩ | ⟨c20, h⟩
     ·have c20_ : decide (a0 = (ByteArray.mk #[108, 101, 110, 103, 116, 104])) = true := c20
      refine AW.condT (b := decide (a0 = (ByteArray.mk #[108, 101, 110, 103, 116, 104]))) rfl c20_ ?_
      refine AW.sub (Sub.bool 61 (b := decide (a0 = (ByteArray.mk #[108, 101, 110, 103, 116, 104]))) rfl c20_) ?_
      refine AW.sub (S' := mk 100 [] [(0, .d (.lit (.string a0))), (3, .ptr 3 0 0), (4, .ptr 4 0 0), (5, .fn (.func 53) [.ptr 3 0 0]), (7, .d (.lit (.string a0))), (61, .d (.lit (.bool true)))] [(3, some (.box [.d (.sl (a1.map cS24))])), (4, some (.box [.d (.lit (.int .i64 0)), .d (.lit (.int .i64 0)), .d (.lit (.string (ByteArray.mk #[])))]))]) (by simp; exact Sub.table (by simp) (by simp)) ?_
      refine AW.seqR ?_
      refine Chain.runK [] 1 fun K hK => ?_; simp; refine hK _ _ ?_; clear hK K
      refine Chain.sub (S' := mk 100 [] [(3, .ptr 3 0 0), (4, .ptr 4 0 0), (63, .fn (.func 53) [.ptr 3 0 0])] [(3, some (.box [.d (.sl (a1.map cS24))])), (4, some (.box [.d (.lit (.int .i64 0)), .d (.lit (.int .i64 0)), .d (.lit (.string (ByteArray.mk #[])))]))]) Sub.tt ?_
      replace h := bsome h; obtain ⟨r21, hr21, h⟩ := h
      refine Chain.callL (d := 64) (p53 N 3 a1 r21 hr21) (by simp) rfl rfl (by simp <;> rfl) (by simp <;> rfl) ent53 (by simp <;> rfl) ?_
      refine Chain.sub (S' := mk 100 [] [(3, .ptr 3 0 0), (4, .ptr 4 0 0), (63, .fn (.func 53) [.ptr 3 0 0]), (64, .d (.lit (.bool r21)))] [(3, some (.box [.d (.sl (a1.map cS24))])), (4, some (.box [.d (.lit (.int .i64 0)), .d (.lit (.int .i64 0)), .d (.lit (.string (ByteArray.mk #[])))]))]) (by simp; exact Sub.table (by simp) (by simp)) ?_
      refine Chain.nil ?_
      replace h := isome h; rcases h with ⟨c22, h⟩ | ⟨c22, h⟩
      ·have c22_ : r21 = true := c22
       refine AW.condT (b := r21) rfl c22_ ?_
       refine AW.sub (Sub.bool 64 (b := r21) rfl c22_) ?_
       refine AW.sub (S' := mk 100 [] [(3, .ptr 3 0 0), (4, .ptr 4 0 0), (63, .fn (.func 53) [.ptr 3 0 0]), (64, .d (.lit (.bool true)))] [(3, some (.box [.d (.sl (a1.map cS24))])), (4, some (.box [.d (.lit (.int .i64 0)), .d (.lit (.int .i64 0)), .d (.lit (.string (ByteArray.mk #[])))]))]) (by simp; exact Sub.table (by simp) (by simp)) ?_
       refine AW.seqR ?_
       replace h := bsome h; obtain ⟨x23, hx23, h⟩ := h
       obtain ⟨hx23, hx23b, hx23c⟩ := idx_someN (n := 0) hx23
       refine Chain.runK [] 5 fun K hK => ?_; simp [hx23]; refine hK _ _ ?_; clear hK K
       refine Chain.sub (S' := mk 100 [] [(4, .ptr 4 0 0), (69, .d (.lit (.int .i64 (x23.Text.size : Int))))] [(4, some (.box [.d (.lit (.int .i64 0)), .d (.lit (.int .i64 0)), .d (.lit (.string (ByteArray.mk #[])))]))]) Sub.tt ?_
       replace h := bsome h; obtain ⟨r24, hr24, h⟩ := h
       refine Chain.callC (d := 70) (p56 N (x23.Text.size : Int) r24 hr24) (by simp) rfl rfl (by simp <;> rfl) (by simp <;> rfl) ent56 (by simp) (.inl ⟨by simp, by simp⟩) ?_
       refine Chain.sub (S' := mk 100 [] [(4, .ptr 4 0 0), (69, .d (.lit (.int .i64 (x23.Text.size : Int)))), (70, .agg [.d (.lit (.int .i64 r24.Kind)), .d (.lit (.int .i64 r24.Int)), .d (.lit (.string r24.Text))])] [(4, some (.box [.d (.lit (.int .i64 0)), .d (.lit (.int .i64 0)), .d (.lit (.string (ByteArray.mk #[])))]))]) (by simp; exact Sub.table (by simp) (by simp)) ?_
       refine Chain.runK [] 1 fun K hK => ?_; simp; refine hK _ _ ?_; clear hK K
       refine Chain.sub (S' := mk 100 [] [(4, .ptr 4 0 0)] [(4, some (.box [.d (.lit (.int .i64 r24.Kind)), .d (.lit (.int .i64 r24.Int)), .d (.lit (.string r24.Text))]))]) Sub.tt ?_
       refine Chain.nil ?_
       refine AW.ret ?_
       cases h
       refine blockQ.ret ?_
       refine thenQ_pass (by simp) ?_
       exact FinC.ret (by simp) (by simp)
      ·have c22_ : r21 = false := Bool.eq_false_iff.2 c22
       refine AW.condF (b := r21) rfl c22_ ?_
       refine AW.sub (Sub.bool 64 (b := r21) rfl c22_) ?_
       refine AW.sub (S' := mk 100 [] [(3, .ptr 3 0 0), (4, .ptr 4 0 0), (63, .fn (.func 53) [.ptr 3 0 0]), (64, .d (.lit (.bool false)))] [(3, some (.box [.d (.sl (a1.map cS24))])), (4, some (.box [.d (.lit (.int .i64 0)), .d (.lit (.int .i64 0)), .d (.lit (.string (ByteArray.mk #[])))]))]) (by simp; exact Sub.table (by simp) (by simp)) ?_
       refine AW.skip ?_
       refine blockQ.normal ?_
       refine thenQ_normal ?_
       refine AW.seqR ?_
       refine Chain.runK [] 2 fun K hK => ?_; simp; refine hK _ _ ?_; clear hK K
       refine Chain.sub (S' := mk 100 [] [(4, .ptr 4 0 0)] [(4, some (.box [.d (.lit (.int .i64 0)), .d (.lit (.int .i64 0)), .d (.lit (.string (ByteArray.mk #[])))]))]) Sub.tt ?_
       refine Chain.nil ?_
       refine AW.ret ?_
       cases h
       exact FinC.ret (by simp) (by simp)
     ·have c20_ : decide (a0 = (ByteArray.mk #[108, 101, 110, 103, 116, 104])) = false := Bool.eq_false_iff.2 c20
      refine AW.condF (b := decide (a0 = (ByteArray.mk #[108, 101, 110, 103, 116, 104]))) rfl c20_ ?_
      refine AW.sub (Sub.bool 61 (b := decide (a0 = (ByteArray.mk #[108, 101, 110, 103, 116, 104]))) rfl c20_) ?_
      refine AW.sub (S' := mk 100 [] [(0, .d (.lit (.string a0))), (3, .ptr 3 0 0), (4, .ptr 4 0 0), (5, .fn (.func 53) [.ptr 3 0 0]), (7, .d (.lit (.string a0))), (61, .d (.lit (.bool false)))] [(3, some (.box [.d (.sl (a1.map cS24))])), (4, some (.box [.d (.lit (.int .i64 0)), .d (.lit (.int .i64 0)), .d (.lit (.string (ByteArray.mk #[])))]))]) (by simp; exact Sub.table (by simp) (by simp)) ?_
      refine AW.seqR ?_
      refine Chain.runK [] 2 fun K hK => ?_; simp; refine hK _ _ ?_; clear hK K
      refine Chain.sub (S' := mk 100 [] [(0, .d (.lit (.string a0))), (3, .ptr 3 0 0), (4, .ptr 4 0 0), (5, .fn (.func 53) [.ptr 3 0 0]), (71, .d (.lit (.bool (decide (a0 = (ByteArray.mk #[124, 124]))))))] [(3, some (.box [.d (.sl (a1.map cS24))])), (4, some (.box [.d (.lit (.int .i64 0)), .d (.lit (.int .i64 0)), .d (.lit (.string (ByteArray.mk #[])))]))]) Sub.tt ?_
      refine Chain.nil ?_
      replace h := isome h; rcases h with ⟨c25, h⟩ | ⟨c25, h⟩
      ·have c25_ : decide (a0 = (ByteArray.mk #[124, 124])) = true := c25
       refine AW.condT (b := decide (a0 = (ByteArray.mk #[124, 124]))) rfl c25_ ?_
       refine AW.sub (Sub.bool 71 (b := decide (a0 = (ByteArray.mk #[124, 124]))) rfl c25_) ?_
       refine AW.sub (S' := mk 100 [] [(0, .d (.lit (.string a0))), (3, .ptr 3 0 0), (4, .ptr 4 0 0), (5, .fn (.func 53) [.ptr 3 0 0]), (71, .d (.lit (.bool true)))] [(3, some (.box [.d (.sl (a1.map cS24))])), (4, some (.box [.d (.lit (.int .i64 0)), .d (.lit (.int .i64 0)), .d (.lit (.string (ByteArray.mk #[])))]))]) (by simp; exact Sub.table (by simp) (by simp)) ?_
       replace h := bsome h; obtain ⟨v31, hj, h⟩ := h
       refine AW.cutQ (by kernel_rfl) (by kernel_rfl) (mk 100 [] [(3, .ptr 3 0 0), (4, .ptr 4 0 0), (88, .d (.lit (.bool v31)))] [(3, some (.box [.d (.sl (a1.map cS24))])), (4, some (.box [.d (.lit (.int .i64 0)), .d (.lit (.int .i64 0)), .d (.lit (.string (ByteArray.mk #[])))]))]) ?_ ?_
       ·clear h; have h := hj; clear hj
        refine Chain.runQ 1 fun K hK => ?_; simp; refine hK _ _ ?_; clear hK K
        refine Chain.sub (S' := mk 100 [] [(3, .ptr 3 0 0), (4, .ptr 4 0 0), (73, .fn (.func 53) [.ptr 3 0 0])] [(3, some (.box [.d (.sl (a1.map cS24))])), (4, some (.box [.d (.lit (.int .i64 0)), .d (.lit (.int .i64 0)), .d (.lit (.string (ByteArray.mk #[])))]))]) Sub.tt ?_
        replace h := bsome h; obtain ⟨r32, hr32, h⟩ := h
        refine Chain.callL (d := 74) (p53 N 3 a1 r32 hr32) (by simp) rfl rfl (by simp <;> rfl) (by simp <;> rfl) ent53 (by simp <;> rfl) ?_
        refine Chain.sub (S' := mk 100 [] [(3, .ptr 3 0 0), (4, .ptr 4 0 0), (73, .fn (.func 53) [.ptr 3 0 0]), (74, .d (.lit (.bool r32)))] [(3, some (.box [.d (.sl (a1.map cS24))])), (4, some (.box [.d (.lit (.int .i64 0)), .d (.lit (.int .i64 0)), .d (.lit (.string (ByteArray.mk #[])))]))]) (by simp; exact Sub.table (by simp) (by simp)) ?_
        refine Chain.runQ 1 fun K hK => ?_; simp; refine hK _ _ ?_; clear hK K
        refine Chain.sub (S' := mk 100 [] [(3, .ptr 3 0 0), (4, .ptr 4 0 0), (75, .d (.lit (.bool r32)))] [(3, some (.box [.d (.sl (a1.map cS24))])), (4, some (.box [.d (.lit (.int .i64 0)), .d (.lit (.int .i64 0)), .d (.lit (.string (ByteArray.mk #[])))]))]) Sub.tt ?_
        replace h := isome h; rcases h with ⟨c33, h⟩ | ⟨c33, h⟩
        ·have c33_ : r32 = true := c33
         refine Chain.sub (Sub.bool 75 (b := r32) rfl c33_) ?_
         refine Chain.sub (S' := mk 100 [] [(3, .ptr 3 0 0), (4, .ptr 4 0 0), (75, .d (.lit (.bool true)))] [(3, some (.box [.d (.sl (a1.map cS24))])), (4, some (.box [.d (.lit (.int .i64 0)), .d (.lit (.int .i64 0)), .d (.lit (.string (ByteArray.mk #[])))]))]) (by simp; exact Sub.table (by simp) (by simp)) ?_
         replace h := bsome h; obtain ⟨x34, hx34, h⟩ := h
         obtain ⟨hx34, hx34b, hx34c⟩ := idx_someN (n := 0) hx34
         replace h := bsome h; obtain ⟨x35, hx35, h⟩ := h
         obtain ⟨hx35, hx35b, hx35c⟩ := idx_someN (n := 1) hx35
         replace h := bsome h; obtain ⟨v36, hv36, h⟩ := h
         have hv36 := chkI_some hv36
         refine Chain.runQ 13 fun K hK => ?_; simp [hx34, hx35, hv36]; refine hK _ _ ?_; clear hK K
         refine Chain.sub (S' := mk 100 [] [(3, .ptr 3 0 0), (4, .ptr 4 0 0), (88, .d (.lit (.bool (decide (v36 ≤ 24)))))] [(3, some (.box [.d (.sl (a1.map cS24))])), (4, some (.box [.d (.lit (.int .i64 0)), .d (.lit (.int .i64 0)), .d (.lit (.string (ByteArray.mk #[])))]))]) Sub.tt ?_
         cases h
         exact Chain.nil Sub.tt
        ·have c33_ : r32 = false := Bool.eq_false_iff.2 c33
         refine Chain.sub (Sub.bool 75 (b := r32) rfl c33_) ?_
         refine Chain.sub (S' := mk 100 [] [(3, .ptr 3 0 0), (4, .ptr 4 0 0), (75, .d (.lit (.bool false)))] [(3, some (.box [.d (.sl (a1.map cS24))])), (4, some (.box [.d (.lit (.int .i64 0)), .d (.lit (.int .i64 0)), .d (.lit (.string (ByteArray.mk #[])))]))]) (by simp; exact Sub.table (by simp) (by simp)) ?_
         refine Chain.runQ 13 fun K hK => ?_; simp; refine hK _ _ ?_; clear hK K
         refine Chain.sub (S' := mk 100 [] [(3, .ptr 3 0 0), (4, .ptr 4 0 0), (88, .d (.lit (.bool false)))] [(3, some (.box [.d (.sl (a1.map cS24))])), (4, some (.box [.d (.lit (.int .i64 0)), .d (.lit (.int .i64 0)), .d (.lit (.string (ByteArray.mk #[])))]))]) Sub.tt ?_
         cases h
         exact Chain.nil Sub.tt
       ·clear hj
        replace h := isome h; rcases h with ⟨c37, h⟩ | ⟨c37, h⟩
        ·have c37_ : v31 = true := c37
         refine AW.condT (b := v31) rfl c37_ ?_
         refine AW.sub (Sub.bool 88 (b := v31) rfl c37_) ?_
         refine AW.sub (S' := mk 100 [] [(3, .ptr 3 0 0), (4, .ptr 4 0 0), (88, .d (.lit (.bool true)))] [(3, some (.box [.d (.sl (a1.map cS24))])), (4, some (.box [.d (.lit (.int .i64 0)), .d (.lit (.int .i64 0)), .d (.lit (.string (ByteArray.mk #[])))]))]) (by simp; exact Sub.table (by simp) (by simp)) ?_
         replace h := bsome h; obtain ⟨x38, hx38, h⟩ := h
         obtain ⟨hx38, hx38b, hx38c⟩ := idx_someN (n := 0) hx38
         replace h := bsome h; obtain ⟨x39, hx39, h⟩ := h
         obtain ⟨hx39, hx39b, hx39c⟩ := idx_someN (n := 1) hx39
         replace h := bsome h; obtain ⟨v40, gv40, h⟩ := h
         obtain ⟨hv40a, hv40⟩ := catB_some gv40
         refine AW.seqT 10 (by kernel_rfl) (by kernel_rfl) fun K hK => ?_; simp [hx38, hx39, hv40, hv40a]; refine hK _ _ ?_; clear hK K
         refine Chain.sub (S' := mk 100 [] [(4, .ptr 4 0 0), (98, .agg [.d (.lit (.int .i64 3)), .d (.lit (.int .i64 0)), .d (.lit (.string v40))])] [(4, some (.box [.d (.lit (.int .i64 0)), .d (.lit (.int .i64 0)), .d (.lit (.string (ByteArray.mk #[])))]))]) Sub.tt ?_
         refine Chain.runK [] 1 fun K hK => ?_; simp; refine hK _ _ ?_; clear hK K
         refine Chain.sub (S' := mk 100 [] [(4, .ptr 4 0 0)] [(4, some (.box [.d (.lit (.int .i64 3)), .d (.lit (.int .i64 0)), .d (.lit (.string v40))]))]) Sub.tt ?_
         refine Chain.nil ?_
         refine AW.ret ?_
         cases h
         refine blockQ.ret ?_
         refine thenQ_pass (by simp) ?_
         exact FinC.ret (by simp) (by simp)
        ·have c37_ : v31 = false := Bool.eq_false_iff.2 c37
         refine AW.condF (b := v31) rfl c37_ ?_
         refine AW.sub (Sub.bool 88 (b := v31) rfl c37_) ?_
         refine AW.sub (S' := mk 100 [] [(3, .ptr 3 0 0), (4, .ptr 4 0 0), (88, .d (.lit (.bool false)))] [(3, some (.box [.d (.sl (a1.map cS24))])), (4, some (.box [.d (.lit (.int .i64 0)), .d (.lit (.int .i64 0)), .d (.lit (.string (ByteArray.mk #[])))]))]) (by simp; exact Sub.table (by simp) (by simp)) ?_
         refine AW.skip ?_
         refine blockQ.normal ?_
         refine thenQ_normal ?_
         refine AW.seqR ?_
         refine Chain.runK [] 2 fun K hK => ?_; simp; refine hK _ _ ?_; clear hK K
         refine Chain.sub (S' := mk 100 [] [(4, .ptr 4 0 0)] [(4, some (.box [.d (.lit (.int .i64 0)), .d (.lit (.int .i64 0)), .d (.lit (.string (ByteArray.mk #[])))]))]) Sub.tt ?_
         refine Chain.nil ?_
         refine AW.ret ?_
         cases h
         exact FinC.ret (by simp) (by simp)
      ·have c25_ : decide (a0 = (ByteArray.mk #[124, 124])) = false := Bool.eq_false_iff.2 c25
       refine AW.condF (b := decide (a0 = (ByteArray.mk #[124, 124]))) rfl c25_ ?_
       refine AW.sub (Sub.bool 71 (b := decide (a0 = (ByteArray.mk #[124, 124]))) rfl c25_) ?_
       refine AW.sub (S' := mk 100 [] [(0, .d (.lit (.string a0))), (3, .ptr 3 0 0), (4, .ptr 4 0 0), (5, .fn (.func 53) [.ptr 3 0 0]), (71, .d (.lit (.bool false)))] [(3, some (.box [.d (.sl (a1.map cS24))])), (4, some (.box [.d (.lit (.int .i64 0)), .d (.lit (.int .i64 0)), .d (.lit (.string (ByteArray.mk #[])))]))]) (by simp; exact Sub.table (by simp) (by simp)) ?_
       refine AW.seqR ?_
       refine Chain.runK [] 1 fun K hK => ?_; simp; refine hK _ _ ?_; clear hK K
       refine Chain.sub (S' := mk 100 [] [(0, .d (.lit (.string a0))), (3, .ptr 3 0 0), (4, .ptr 4 0 0), (8, .fn (.func 53) [.ptr 3 0 0])] [(3, some (.box [.d (.sl (a1.map cS24))])), (4, some (.box [.d (.lit (.int .i64 0)), .d (.lit (.int .i64 0)), .d (.lit (.string (ByteArray.mk #[])))]))]) Sub.tt ?_
       replace h := bsome h; obtain ⟨r41, hr41, h⟩ := h
       refine Chain.callL (d := 9) (p53 N 1 a1 r41 hr41) (by simp) rfl rfl (by simp <;> rfl) (by simp <;> rfl) ent53 (by simp <;> rfl) ?_
       refine Chain.sub (S' := mk 100 [] [(0, .d (.lit (.string a0))), (3, .ptr 3 0 0), (4, .ptr 4 0 0), (8, .fn (.func 53) [.ptr 3 0 0]), (9, .d (.lit (.bool r41)))] [(3, some (.box [.d (.sl (a1.map cS24))])), (4, some (.box [.d (.lit (.int .i64 0)), .d (.lit (.int .i64 0)), .d (.lit (.string (ByteArray.mk #[])))]))]) (by simp; exact Sub.table (by simp) (by simp)) ?_
       refine Chain.nil ?_
       replace h := isome h; rcases h with ⟨c42, h⟩ | ⟨c42, h⟩
       ·have c42_ : r41 = true := c42
        refine AW.condT (b := r41) rfl c42_ ?_
        refine AW.sub (Sub.bool 9 (b := r41) rfl c42_) ?_
        refine AW.sub (S' := mk 100 [] [(0, .d (.lit (.string a0))), (3, .ptr 3 0 0), (4, .ptr 4 0 0), (8, .fn (.func 53) [.ptr 3 0 0]), (9, .d (.lit (.bool true)))] [(3, some (.box [.d (.sl (a1.map cS24))])), (4, some (.box [.d (.lit (.int .i64 0)), .d (.lit (.int .i64 0)), .d (.lit (.string (ByteArray.mk #[])))]))]) (by simp; exact Sub.table (by simp) (by simp)) ?_
        replace h := bsome h; obtain ⟨x43, hx43, h⟩ := h
        obtain ⟨hx43, hx43b, hx43c⟩ := idx_someN (n := 0) hx43
        replace h := bsome h; obtain ⟨x44, hx44, h⟩ := h
        obtain ⟨hx44, hx44b, hx44c⟩ := idx_someN (n := 1) hx44
        replace h := bsome h; obtain ⟨r45, hr45, h⟩ := h
        refine AW.seqAnyS [[], [], [1], [1, 2], [1, 2, 3], [], [5], [5, 6], [5, 6, 7], [0, 1, 2, 3, 4, 5, 6, 7, 8], [0, 1, 2, 3, 4, 5, 6, 7, 8, 9]] (fun (b : Nat → Bool) => mk 100 [] [(0, .d (.lit (.string a0))), (3, .ptr 3 0 0), (4, .ptr 4 0 0), (10, (if b 0 then .d (.lit (.string a0)) else .junk)), (11, (if b 1 then .d (.sl (a1.map cS24)) else .junk)), (12, (if b 2 then .d (.pim [.lit (.int .i64 x43.Kind), .lit (.int .i64 x43.Int), .lit (.string x43.Text)]) else .junk)), (13, (if b 3 then .d (.pim [.lit (.int .i64 x43.Int), .lit (.string x43.Text)]) else .junk)), (14, (if b 4 then .d (.lit (.int .i64 x43.Int)) else .junk)), (15, (if b 5 then .d (.sl (a1.map cS24)) else .junk)), (16, (if b 6 then .d (.pim [.lit (.int .i64 x44.Kind), .lit (.int .i64 x44.Int), .lit (.string x44.Text)]) else .junk)), (17, (if b 7 then .d (.pim [.lit (.int .i64 x44.Int), .lit (.string x44.Text)]) else .junk)), (18, (if b 8 then .d (.lit (.int .i64 x44.Int)) else .junk)), (19, (if b 9 then .agg [.d (.lit (.int .i64 r45.Kind)), .d (.lit (.int .i64 r45.Int)), .d (.lit (.string r45.Text))] else .junk))] [(3, some (.box [.d (.sl (a1.map cS24))])), (4, (if b 10 then some (.box [.d (.lit (.int .i64 r45.Kind)), .d (.lit (.int .i64 r45.Int)), .d (.lit (.string r45.Text))]) else some (.box [.d (.lit (.int .i64 0)), .d (.lit (.int .i64 0)), .d (.lit (.string (ByteArray.mk #[])))])))]) (mk 100 [] [(4, .ptr 4 0 0)] [(4, some (.box [.d (.lit (.int .i64 r45.Kind)), .d (.lit (.int .i64 r45.Int)), .d (.lit (.string r45.Text))]))]) (by kernel_rfl) (by kernel_rfl) Sub.tt (Steps.cons ?_ (Steps.cons ?_ (Steps.cons ?_ (Steps.cons ?_ (Steps.cons ?_ (Steps.cons ?_ (Steps.cons ?_ (Steps.cons ?_ (Steps.cons ?_ (Steps.cons ?_ (Steps.cons ?_ (Steps.nil)))))))))))) ?_ ?_
        ·intro b h0 ha hd
         have f9 : b 9 = false := hd 9 (by decide)
         have f10 : b 10 = false := hd 10 (by decide)
         refine Chain.runK [] 1 fun K hK => ?_; simp [h0, f9, f10]; refine hK _ _ ?_; clear hK K
         exact Chain.nil (Sub.table (by simp [f9]) (by simp [f10]))
        ·intro b h0 ha hd
         have f2 : b 2 = false := hd 2 (by decide)
         have f3 : b 3 = false := hd 3 (by decide)
         have f4 : b 4 = false := hd 4 (by decide)
         have f9 : b 9 = false := hd 9 (by decide)
         have f10 : b 10 = false := hd 10 (by decide)
         refine Chain.runK [] 1 fun K hK => ?_; simp [h0, f2, f3, f4, f9, f10]; refine hK _ _ ?_; clear hK K
         exact Chain.nil (Sub.table (by simp [f2, f3, f4, f9]) (by simp [f10]))
        ·intro b h0 ha hd
         have t1 : b 1 = true := ha 1 (by decide)
         have f3 : b 3 = false := hd 3 (by decide)
         have f4 : b 4 = false := hd 4 (by decide)
         have f9 : b 9 = false := hd 9 (by decide)
         have f10 : b 10 = false := hd 10 (by decide)
         refine Chain.runK [] 1 fun K hK => ?_; simp [h0, t1, f3, f4, f9, f10, hx43]; refine hK _ _ ?_; clear hK K
         exact Chain.nil (Sub.table (by simp [t1, f3, f4, f9]) (by simp [f10]))
        ·intro b h0 ha hd
         have t1 : b 1 = true := ha 1 (by decide)
         have t2 : b 2 = true := ha 2 (by decide)
         have f4 : b 4 = false := hd 4 (by decide)
         have f9 : b 9 = false := hd 9 (by decide)
         have f10 : b 10 = false := hd 10 (by decide)
         refine Chain.runK [] 1 fun K hK => ?_; simp [h0, t1, t2, f4, f9, f10]; refine hK _ _ ?_; clear hK K
         exact Chain.nil (Sub.table (by simp [t1, t2, f4, f9]) (by simp [f10]))
        ·intro b h0 ha hd
         have t1 : b 1 = true := ha 1 (by decide)
         have t2 : b 2 = true := ha 2 (by decide)
         have t3 : b 3 = true := ha 3 (by decide)
         have f9 : b 9 = false := hd 9 (by decide)
         have f10 : b 10 = false := hd 10 (by decide)
         refine Chain.runK [] 1 fun K hK => ?_; simp [h0, t1, t2, t3, f9, f10]; refine hK _ _ ?_; clear hK K
         exact Chain.nil (Sub.table (by simp [t1, t2, t3, f9]) (by simp [f10]))
        ·intro b h0 ha hd
         have f6 : b 6 = false := hd 6 (by decide)
         have f7 : b 7 = false := hd 7 (by decide)
         have f8 : b 8 = false := hd 8 (by decide)
         have f9 : b 9 = false := hd 9 (by decide)
         have f10 : b 10 = false := hd 10 (by decide)
         refine Chain.runK [] 1 fun K hK => ?_; simp [h0, f6, f7, f8, f9, f10]; refine hK _ _ ?_; clear hK K
         exact Chain.nil (Sub.table (by simp [f6, f7, f8, f9]) (by simp [f10]))
        ·intro b h0 ha hd
         have t5 : b 5 = true := ha 5 (by decide)
         have f7 : b 7 = false := hd 7 (by decide)
         have f8 : b 8 = false := hd 8 (by decide)
         have f9 : b 9 = false := hd 9 (by decide)
         have f10 : b 10 = false := hd 10 (by decide)
         refine Chain.runK [] 1 fun K hK => ?_; simp [h0, t5, f7, f8, f9, f10, hx44]; refine hK _ _ ?_; clear hK K
         exact Chain.nil (Sub.table (by simp [t5, f7, f8, f9]) (by simp [f10]))
        ·intro b h0 ha hd
         have t5 : b 5 = true := ha 5 (by decide)
         have t6 : b 6 = true := ha 6 (by decide)
         have f8 : b 8 = false := hd 8 (by decide)
         have f9 : b 9 = false := hd 9 (by decide)
         have f10 : b 10 = false := hd 10 (by decide)
         refine Chain.runK [] 1 fun K hK => ?_; simp [h0, t5, t6, f8, f9, f10]; refine hK _ _ ?_; clear hK K
         exact Chain.nil (Sub.table (by simp [t5, t6, f8, f9]) (by simp [f10]))
        ·intro b h0 ha hd
         have t5 : b 5 = true := ha 5 (by decide)
         have t6 : b 6 = true := ha 6 (by decide)
         have t7 : b 7 = true := ha 7 (by decide)
         have f9 : b 9 = false := hd 9 (by decide)
         have f10 : b 10 = false := hd 10 (by decide)
         refine Chain.runK [] 1 fun K hK => ?_; simp [h0, t5, t6, t7, f9, f10]; refine hK _ _ ?_; clear hK K
         exact Chain.nil (Sub.table (by simp [t5, t6, t7, f9]) (by simp [f10]))
        ·intro b h0 ha hd
         have t0 : b 0 = true := ha 0 (by decide)
         have t1 : b 1 = true := ha 1 (by decide)
         have t2 : b 2 = true := ha 2 (by decide)
         have t3 : b 3 = true := ha 3 (by decide)
         have t4 : b 4 = true := ha 4 (by decide)
         have t5 : b 5 = true := ha 5 (by decide)
         have t6 : b 6 = true := ha 6 (by decide)
         have t7 : b 7 = true := ha 7 (by decide)
         have t8 : b 8 = true := ha 8 (by decide)
         have f10 : b 10 = false := hd 10 (by decide)
         simp only [h0, t0, t1, t2, t3, t4, t5, t6, t7, t8, f10, if_true, if_false, Bool.false_eq_true]
         refine Chain.callC (d := 19) (p57 N a0 x43.Int x44.Int r45 hr45) (by simp) rfl rfl (by simp <;> rfl) (by simp <;> rfl) ent57 (by simp) (.inl ⟨by simp, by simp⟩) ?_
         exact Chain.nil (by simp [t0, t1, t2, t3, t4, t5, t6, t7, t8, f10]; exact Sub.table (by simp) (by simp))
        ·intro b h0 ha hd
         have t0 : b 0 = true := ha 0 (by decide)
         have t1 : b 1 = true := ha 1 (by decide)
         have t2 : b 2 = true := ha 2 (by decide)
         have t3 : b 3 = true := ha 3 (by decide)
         have t4 : b 4 = true := ha 4 (by decide)
         have t5 : b 5 = true := ha 5 (by decide)
         have t6 : b 6 = true := ha 6 (by decide)
         have t7 : b 7 = true := ha 7 (by decide)
         have t8 : b 8 = true := ha 8 (by decide)
         have t9 : b 9 = true := ha 9 (by decide)
         refine Chain.runK [] 1 fun K hK => ?_; simp [h0, t0, t1, t2, t3, t4, t5, t6, t7, t8, t9]; refine hK _ _ ?_; clear hK K
         exact Chain.nil (Sub.table (by simp [t0, t1, t2, t3, t4, t5, t6, t7, t8, t9]) (by simp))
        ·intro b hb
         have t0 := hb 0 (by decide)
         have t1 := hb 1 (by decide)
         have t2 := hb 2 (by decide)
         have t3 := hb 3 (by decide)
         have t4 := hb 4 (by decide)
         have t5 := hb 5 (by decide)
         have t6 := hb 6 (by decide)
         have t7 := hb 7 (by decide)
         have t8 := hb 8 (by decide)
         have t9 := hb 9 (by decide)
         have t10 := hb 10 (by decide)
         exact Sub.table (by simp [t0, t1, t2, t3, t4, t5, t6, t7, t8, t9]) (by simp [t10])
        ·skip
         refine AW.ret ?_
         cases h
         refine blockQ.ret ?_
         refine thenQ_pass (by simp) ?_
         exact FinC.ret (by simp) (by simp)
       ·have c42_ : r41 = false := Bool.eq_false_iff.2 c42
        refine AW.condF (b := r41) rfl c42_ ?_
        refine AW.sub (Sub.bool 9 (b := r41) rfl c42_) ?_
        refine AW.sub (S' := mk 100 [] [(0, .d (.lit (.string a0))), (3, .ptr 3 0 0), (4, .ptr 4 0 0), (8, .fn (.func 53) [.ptr 3 0 0]), (9, .d (.lit (.bool false)))] [(3, some (.box [.d (.sl (a1.map cS24))])), (4, some (.box [.d (.lit (.int .i64 0)), .d (.lit (.int .i64 0)), .d (.lit (.string (ByteArray.mk #[])))]))]) (by simp; exact Sub.table (by simp) (by simp)) ?_
        refine AW.skip ?_
        refine blockQ.normal ?_
        refine thenQ_normal ?_
        refine AW.seqR ?_
        refine Chain.runK [] 2 fun K hK => ?_; simp; refine hK _ _ ?_; clear hK K
        refine Chain.sub (S' := mk 100 [] [(4, .ptr 4 0 0)] [(4, some (.box [.d (.lit (.int .i64 0)), .d (.lit (.int .i64 0)), .d (.lit (.string (ByteArray.mk #[])))]))]) Sub.tt ?_
        refine Chain.nil ?_
        refine AW.ret ?_
        cases h
        exact FinC.ret (by simp) (by simp)

end Go.Proofs.Ytacafkegbgmnoaa
