/- Functions of the program as functional programs; the code computes them. -/
import Derived.Test.YtacafkegbgmnoaaEv9
namespace Go.Proofs.Ytacafkegbgmnoaa
open Go.Ab Go.Rp
attribute [-simp] List.all_eq_true Array.all_toList Array.all_eq_true

/-- stemma/stemref3.binary -/
def d28 (N : Nat) (a0 : ByteArray) (a1 : S24) (a2 : S24) : Option S24 :=
 Option.bind (α := Bool) (
  if decide (a0 = (ByteArray.mk #[97, 110, 100])) = true then (
   some true
  ) else
  some (decide (a0 = (ByteArray.mk #[111, 114])))
 ) fun (v2 : Bool) =>
 if v2 = true then (
  (d26 N a1).bind fun r5 =>
  (d26 N a2).bind fun r6 =>
  letv (minI r5 r6) fun v7 =>
  Option.bind (α := Int) (
   if decide (a0 = (ByteArray.mk #[111, 114])) = true then (
    (d26 N a1).bind fun r14 =>
    (d26 N a2).bind fun r15 =>
    letv (maxI r14 r15) fun v16 =>
    some v16
   ) else
   some v7
  ) fun (v12 : Int) =>
  if (v12 == 0) then (
   some (S24.mk 0 0 (ByteArray.mk #[]))
  ) else
  (d25 N (decide (v12 > 0))).bind fun r18 =>
  some r18
 ) else
 Option.bind (α := Bool) (
  if (a1.Kind == 0) then (
   some true
  ) else
  some (a2.Kind == 0)
 ) fun (v20 : Bool) =>
 if v20 = true then (
  some (S24.mk 0 0 (ByteArray.mk #[]))
 ) else
 if decide (a0 = (ByteArray.mk #[61])) = true then (
  Option.bind (α := (Int × Int × ByteArray)) (
   (d40 N a1 a2).bind fun r32 =>
   if (!r32) = true then (
    (d40 N a2 a1).bind fun r34 =>
    (d25 N (!r34)).bind fun r35 =>
    some (r35.Kind, r35.Int, r35.Text)
   ) else
   (d25 N false).bind fun r36 =>
   some (r36.Kind, r36.Int, r36.Text)
  ) fun ((v29, v30, v31) : (Int × Int × ByteArray)) =>
  some (S24.mk v29 v30 v31)
 ) else
 if decide (a0 = (ByteArray.mk #[60])) = true then (
  (d40 N a1 a2).bind fun r38 =>
  (d25 N r38).bind fun r39 =>
  some r39
 ) else
 if decide (a0 = (ByteArray.mk #[60, 61])) = true then (
  (d40 N a2 a1).bind fun r41 =>
  (d25 N (!r41)).bind fun r42 =>
  some r42
 ) else
 if decide (a0 = (ByteArray.mk #[124, 124])) = true then (
  (chkI ((a1.Text.size : Int) + (a2.Text.size : Int))).bind fun v44 =>
  if v44 > 24 then (
   some (S24.mk 0 0 (ByteArray.mk #[]))
  ) else
  (catB a1.Text a2.Text).bind fun v46 =>
  some (S24.mk 3 0 v46)
 ) else
 if decide (a0 = (ByteArray.mk #[43])) = true then (
  (chkI (a1.Int + a2.Int)).bind fun v48 =>
  (d27 N v48).bind fun r49 =>
  some r49
 ) else
 if decide (a0 = (ByteArray.mk #[45])) = true then (
  (chkI (a1.Int - a2.Int)).bind fun v51 =>
  (d27 N v51).bind fun r52 =>
  some r52
 ) else
 (d41 N a1.Int a2.Int).bind fun r53 =>
 some r53
set_option maxRecDepth 100000 in
set_option maxHeartbeats 4000000 in
theorem p28 (N : Nat) (a0 : ByteArray) (a1 : S24) (a2 : S24) (r : S24) (h : d28 N a0 a1 a2 = some r) : FunC Try.prog 28 [.d (.lit (.string a0)), .agg [.d (.lit (.int .i64 a1.Kind)), .d (.lit (.int .i64 a1.Int)), .d (.lit (.string a1.Text))], .agg [.d (.lit (.int .i64 a2.Kind)), .d (.lit (.int .i64 a2.Int)), .d (.lit (.string a2.Text))]] (.agg [.d (.lit (.int .i64 r.Kind)), .d (.lit (.int .i64 r.Int)), .d (.lit (.string r.Text))]) := by
 unfold d28 at h
 refine FunC.enter 106 [(0, .d (.lit (.string a0))), (1, .agg [.d (.lit (.int .i64 a1.Kind)), .d (.lit (.int .i64 a1.Int)), .d (.lit (.string a1.Text))]), (2, .agg [.d (.lit (.int .i64 a2.Kind)), .d (.lit (.int .i64 a2.Int)), .d (.lit (.string a2.Text))])] (by simp) Try.func28 rfl (of_decide_eq_true rfl) rfl rfl ?_
 refine AW.seqR ?_
 refine Chain.runK [] 3 fun K hK => ?_; simp; refine hK _ _ ?_; clear hK K
 refine Chain.sub (S' := mk 106 [] [(0, .d (.lit (.string a0))), (4, .ptr 4 0 0), (5, .ptr 5 0 0), (6, .ptr 6 0 0)] [(4, some (.box [.d (.lit (.int .i64 a1.Kind)), .d (.lit (.int .i64 a1.Int)), .d (.lit (.string a1.Text))])), (5, some (.box [.d (.lit (.int .i64 a2.Kind)), .d (.lit (.int .i64 a2.Int)), .d (.lit (.string a2.Text))])), (6, some (.box [.d (.lit (.int .i64 0)), .d (.lit (.int .i64 0)), .d (.lit (.string (ByteArray.mk #[])))]))]) Sub.tt ?_
 refine Chain.nil ?_
 refine AW.seq ?_
 replace h := bsome h; obtain ⟨v2, hj, h⟩ := h
 refine AW.cutR (mk 106 [] [(0, .d (.lit (.string a0))), (4, .ptr 4 0 0), (5, .ptr 5 0 0), (6, .ptr 6 0 0), (13, .d (.lit (.bool v2)))] [(4, some (.box [.d (.lit (.int .i64 a1.Kind)), .d (.lit (.int .i64 a1.Int)), .d (.lit (.string a1.Text))])), (5, some (.box [.d (.lit (.int .i64 a2.Kind)), .d (.lit (.int .i64 a2.Int)), .d (.lit (.string a2.Text))])), (6, some (.box [.d (.lit (.int .i64 0)), .d (.lit (.int .i64 0)), .d (.lit (.string (ByteArray.mk #[])))]))]) ?_ ?_
 ·clear h; have h := hj; clear hj
  refine Chain.runK [] 3 fun K hK => ?_; simp; refine hK _ _ ?_; clear hK K
  refine Chain.sub (S' := mk 106 [] [(0, .d (.lit (.string a0))), (4, .ptr 4 0 0), (5, .ptr 5 0 0), (6, .ptr 6 0 0), (10, .d (.lit (.bool (decide (a0 = (ByteArray.mk #[97, 110, 100]))))))] [(4, some (.box [.d (.lit (.int .i64 a1.Kind)), .d (.lit (.int .i64 a1.Int)), .d (.lit (.string a1.Text))])), (5, some (.box [.d (.lit (.int .i64 a2.Kind)), .d (.lit (.int .i64 a2.Int)), .d (.lit (.string a2.Text))])), (6, some (.box [.d (.lit (.int .i64 0)), .d (.lit (.int .i64 0)), .d (.lit (.string (ByteArray.mk #[])))]))]) Sub.tt ?_
  replace h := isome h; rcases h with ⟨c3, h⟩ | ⟨c3, h⟩
  ·have c3_ : decide (a0 = (ByteArray.mk #[97, 110, 100])) = true := c3
   refine Chain.sub (Sub.bool 10 (b := decide (a0 = (ByteArray.mk #[97, 110, 100]))) rfl c3_) ?_
   refine Chain.sub (S' := mk 106 [] [(0, .d (.lit (.string a0))), (4, .ptr 4 0 0), (5, .ptr 5 0 0), (6, .ptr 6 0 0), (10, .d (.lit (.bool true)))] [(4, some (.box [.d (.lit (.int .i64 a1.Kind)), .d (.lit (.int .i64 a1.Int)), .d (.lit (.string a1.Text))])), (5, some (.box [.d (.lit (.int .i64 a2.Kind)), .d (.lit (.int .i64 a2.Int)), .d (.lit (.string a2.Text))])), (6, some (.box [.d (.lit (.int .i64 0)), .d (.lit (.int .i64 0)), .d (.lit (.string (ByteArray.mk #[])))]))]) (by simp; exact Sub.table (by simp) (by simp)) ?_
   refine Chain.runK [] 3 fun K hK => ?_; simp; refine hK _ _ ?_; clear hK K
   refine Chain.sub (S' := mk 106 [] [(0, .d (.lit (.string a0))), (4, .ptr 4 0 0), (5, .ptr 5 0 0), (6, .ptr 6 0 0), (13, .d (.lit (.bool true)))] [(4, some (.box [.d (.lit (.int .i64 a1.Kind)), .d (.lit (.int .i64 a1.Int)), .d (.lit (.string a1.Text))])), (5, some (.box [.d (.lit (.int .i64 a2.Kind)), .d (.lit (.int .i64 a2.Int)), .d (.lit (.string a2.Text))])), (6, some (.box [.d (.lit (.int .i64 0)), .d (.lit (.int .i64 0)), .d (.lit (.string (ByteArray.mk #[])))]))]) Sub.tt ?_
   cases h
   exact Chain.nil Sub.tt
  ·have c3_ : decide (a0 = (ByteArray.mk #[97, 110, 100])) = false := Bool.eq_false_iff.2 c3
   refine Chain.sub (Sub.bool 10 (b := decide (a0 = (ByteArray.mk #[97, 110, 100]))) rfl c3_) ?_
   refine Chain.sub (S' := mk 106 [] [(0, .d (.lit (.string a0))), (4, .ptr 4 0 0), (5, .ptr 5 0 0), (6, .ptr 6 0 0), (10, .d (.lit (.bool false)))] [(4, some (.box [.d (.lit (.int .i64 a1.Kind)), .d (.lit (.int .i64 a1.Int)), .d (.lit (.string a1.Text))])), (5, some (.box [.d (.lit (.int .i64 a2.Kind)), .d (.lit (.int .i64 a2.Int)), .d (.lit (.string a2.Text))])), (6, some (.box [.d (.lit (.int .i64 0)), .d (.lit (.int .i64 0)), .d (.lit (.string (ByteArray.mk #[])))]))]) (by simp; exact Sub.table (by simp) (by simp)) ?_
   refine Chain.runK [] 3 fun K hK => ?_; simp; refine hK _ _ ?_; clear hK K
   refine Chain.sub (S' := mk 106 [] [(0, .d (.lit (.string a0))), (4, .ptr 4 0 0), (5, .ptr 5 0 0), (6, .ptr 6 0 0), (13, .d (.lit (.bool (decide (a0 = (ByteArray.mk #[111, 114]))))))] [(4, some (.box [.d (.lit (.int .i64 a1.Kind)), .d (.lit (.int .i64 a1.Int)), .d (.lit (.string a1.Text))])), (5, some (.box [.d (.lit (.int .i64 a2.Kind)), .d (.lit (.int .i64 a2.Int)), .d (.lit (.string a2.Text))])), (6, some (.box [.d (.lit (.int .i64 0)), .d (.lit (.int .i64 0)), .d (.lit (.string (ByteArray.mk #[])))]))]) Sub.tt ?_
   cases h
   exact Chain.nil Sub.tt
 ·clear hj
  replace h := isome h; rcases h with ⟨c4, h⟩ | ⟨c4, h⟩
  ·have c4_ : v2 = true := c4
   refine AW.condT (b := v2) rfl c4_ ?_
   refine AW.sub (Sub.bool 13 (b := v2) rfl c4_) ?_
   refine AW.sub (S' := mk 106 [] [(0, .d (.lit (.string a0))), (4, .ptr 4 0 0), (5, .ptr 5 0 0), (6, .ptr 6 0 0), (13, .d (.lit (.bool true)))] [(4, some (.box [.d (.lit (.int .i64 a1.Kind)), .d (.lit (.int .i64 a1.Int)), .d (.lit (.string a1.Text))])), (5, some (.box [.d (.lit (.int .i64 a2.Kind)), .d (.lit (.int .i64 a2.Int)), .d (.lit (.string a2.Text))])), (6, some (.box [.d (.lit (.int .i64 0)), .d (.lit (.int .i64 0)), .d (.lit (.string (ByteArray.mk #[])))]))]) (by simp; exact Sub.table (by simp) (by simp)) ?_
   refine AW.seqQ (by kernel_rfl) (by kernel_rfl) ?_
   refine Chain.runQ 1 fun K hK => ?_; simp; refine hK _ _ ?_; clear hK K
   refine Chain.sub (S' := mk 106 [] [(0, .d (.lit (.string a0))), (4, .ptr 4 0 0), (5, .ptr 5 0 0), (6, .ptr 6 0 0), (14, .agg [.d (.lit (.int .i64 a1.Kind)), .d (.lit (.int .i64 a1.Int)), .d (.lit (.string a1.Text))])] [(4, some (.box [.d (.lit (.int .i64 a1.Kind)), .d (.lit (.int .i64 a1.Int)), .d (.lit (.string a1.Text))])), (5, some (.box [.d (.lit (.int .i64 a2.Kind)), .d (.lit (.int .i64 a2.Int)), .d (.lit (.string a2.Text))])), (6, some (.box [.d (.lit (.int .i64 0)), .d (.lit (.int .i64 0)), .d (.lit (.string (ByteArray.mk #[])))]))]) Sub.tt ?_
   replace h := bsome h; obtain ⟨r5, hr5, h⟩ := h
   refine Chain.callL (d := 15) (p26 N a1 r5 hr5) (by simp) rfl rfl (by simp <;> rfl) (by simp <;> rfl) ent26 (by simp <;> rfl) ?_
   refine Chain.sub (S' := mk 106 [] [(0, .d (.lit (.string a0))), (4, .ptr 4 0 0), (5, .ptr 5 0 0), (6, .ptr 6 0 0), (14, .agg [.d (.lit (.int .i64 a1.Kind)), .d (.lit (.int .i64 a1.Int)), .d (.lit (.string a1.Text))]), (15, .d (.lit (.int .i64 r5)))] [(4, some (.box [.d (.lit (.int .i64 a1.Kind)), .d (.lit (.int .i64 a1.Int)), .d (.lit (.string a1.Text))])), (5, some (.box [.d (.lit (.int .i64 a2.Kind)), .d (.lit (.int .i64 a2.Int)), .d (.lit (.string a2.Text))])), (6, some (.box [.d (.lit (.int .i64 0)), .d (.lit (.int .i64 0)), .d (.lit (.string (ByteArray.mk #[])))]))]) (by simp; exact Sub.table (by simp) (by simp)) ?_
   refine Chain.runQ 1 fun K hK => ?_; simp; refine hK _ _ ?_; clear hK K
   refine Chain.sub (S' := mk 106 [] [(0, .d (.lit (.string a0))), (4, .ptr 4 0 0), (5, .ptr 5 0 0), (6, .ptr 6 0 0), (15, .d (.lit (.int .i64 r5))), (16, .agg [.d (.lit (.int .i64 a2.Kind)), .d (.lit (.int .i64 a2.Int)), .d (.lit (.string a2.Text))])] [(4, some (.box [.d (.lit (.int .i64 a1.Kind)), .d (.lit (.int .i64 a1.Int)), .d (.lit (.string a1.Text))])), (5, some (.box [.d (.lit (.int .i64 a2.Kind)), .d (.lit (.int .i64 a2.Int)), .d (.lit (.string a2.Text))])), (6, some (.box [.d (.lit (.int .i64 0)), .d (.lit (.int .i64 0)), .d (.lit (.string (ByteArray.mk #[])))]))]) Sub.tt ?_
   replace h := bsome h; obtain ⟨r6, hr6, h⟩ := h
   refine Chain.callL (d := 17) (p26 N a2 r6 hr6) (by simp) rfl rfl (by simp <;> rfl) (by simp <;> rfl) ent26 (by simp <;> rfl) ?_
   refine Chain.sub (S' := mk 106 [] [(0, .d (.lit (.string a0))), (4, .ptr 4 0 0), (5, .ptr 5 0 0), (6, .ptr 6 0 0), (15, .d (.lit (.int .i64 r5))), (16, .agg [.d (.lit (.int .i64 a2.Kind)), .d (.lit (.int .i64 a2.Int)), .d (.lit (.string a2.Text))]), (17, .d (.lit (.int .i64 r6)))] [(4, some (.box [.d (.lit (.int .i64 a1.Kind)), .d (.lit (.int .i64 a1.Int)), .d (.lit (.string a1.Text))])), (5, some (.box [.d (.lit (.int .i64 a2.Kind)), .d (.lit (.int .i64 a2.Int)), .d (.lit (.string a2.Text))])), (6, some (.box [.d (.lit (.int .i64 0)), .d (.lit (.int .i64 0)), .d (.lit (.string (ByteArray.mk #[])))]))]) (by simp; exact Sub.table (by simp) (by simp)) ?_
   replace h := lsome h; obtain ⟨v7, hv7, h⟩ := h
   unfold minI at hv7
   refine Chain.runQ 2 fun K hK => ?_; simp [hv7]; refine hK _ _ ?_; clear hK K
   refine Chain.sub (S' := mk 106 [] [(0, .d (.lit (.string a0))), (4, .ptr 4 0 0), (5, .ptr 5 0 0), (6, .ptr 6 0 0), (7, .d (.lit (.int .i64 v7)))] [(4, some (.box [.d (.lit (.int .i64 a1.Kind)), .d (.lit (.int .i64 a1.Int)), .d (.lit (.string a1.Text))])), (5, some (.box [.d (.lit (.int .i64 a2.Kind)), .d (.lit (.int .i64 a2.Int)), .d (.lit (.string a2.Text))])), (6, some (.box [.d (.lit (.int .i64 0)), .d (.lit (.int .i64 0)), .d (.lit (.string (ByteArray.mk #[])))]))]) Sub.tt ?_
   refine Chain.nil ?_
   refine AW.seq ?_
   refine AW.seqR ?_
   refine Chain.runK [] 2 fun K hK => ?_; simp; refine hK _ _ ?_; clear hK K
   refine Chain.sub (S' := mk 106 [] [(4, .ptr 4 0 0), (5, .ptr 5 0 0), (6, .ptr 6 0 0), (7, .d (.lit (.int .i64 v7))), (20, .d (.lit (.bool (decide (a0 = (ByteArray.mk #[111, 114]))))))] [(4, some (.box [.d (.lit (.int .i64 a1.Kind)), .d (.lit (.int .i64 a1.Int)), .d (.lit (.string a1.Text))])), (5, some (.box [.d (.lit (.int .i64 a2.Kind)), .d (.lit (.int .i64 a2.Int)), .d (.lit (.string a2.Text))])), (6, some (.box [.d (.lit (.int .i64 0)), .d (.lit (.int .i64 0)), .d (.lit (.string (ByteArray.mk #[])))]))]) Sub.tt ?_
   refine Chain.nil ?_
   refine AW.lastN (fun (v12 : Int) => mk 106 [] [(6, .ptr 6 0 0), (7, .d (.lit (.int .i64 v12)))] [(6, some (.box [.d (.lit (.int .i64 0)), .d (.lit (.int .i64 0)), .d (.lit (.string (ByteArray.mk #[])))]))]) h ?_ ?_ <;> clear h
   ·intro o h
    replace h := isome h; rcases h with ⟨c13, h⟩ | ⟨c13, h⟩
    ·have c13_ : decide (a0 = (ByteArray.mk #[111, 114])) = true := c13
     refine AW.condT (b := decide (a0 = (ByteArray.mk #[111, 114]))) rfl c13_ ?_
     refine AW.sub (Sub.bool 20 (b := decide (a0 = (ByteArray.mk #[111, 114]))) rfl c13_) ?_
     refine AW.sub (S' := mk 106 [] [(4, .ptr 4 0 0), (5, .ptr 5 0 0), (6, .ptr 6 0 0), (7, .d (.lit (.int .i64 v7))), (20, .d (.lit (.bool true)))] [(4, some (.box [.d (.lit (.int .i64 a1.Kind)), .d (.lit (.int .i64 a1.Int)), .d (.lit (.string a1.Text))])), (5, some (.box [.d (.lit (.int .i64 a2.Kind)), .d (.lit (.int .i64 a2.Int)), .d (.lit (.string a2.Text))])), (6, some (.box [.d (.lit (.int .i64 0)), .d (.lit (.int .i64 0)), .d (.lit (.string (ByteArray.mk #[])))]))]) (by simp; exact Sub.table (by simp) (by simp)) ?_
     refine AW.regionQ (by kernel_rfl) (by kernel_rfl) ?_
     refine Chain.runQ 1 fun K hK => ?_; simp; refine hK _ _ ?_; clear hK K
     refine Chain.sub (S' := mk 106 [] [(5, .ptr 5 0 0), (6, .ptr 6 0 0), (21, .agg [.d (.lit (.int .i64 a1.Kind)), .d (.lit (.int .i64 a1.Int)), .d (.lit (.string a1.Text))])] [(5, some (.box [.d (.lit (.int .i64 a2.Kind)), .d (.lit (.int .i64 a2.Int)), .d (.lit (.string a2.Text))])), (6, some (.box [.d (.lit (.int .i64 0)), .d (.lit (.int .i64 0)), .d (.lit (.string (ByteArray.mk #[])))]))]) Sub.tt ?_
     replace h := bsome h; obtain ⟨r14, hr14, h⟩ := h
     refine Chain.callL (d := 22) (p26 N a1 r14 hr14) (by simp) rfl rfl (by simp <;> rfl) (by simp <;> rfl) ent26 (by simp <;> rfl) ?_
     refine Chain.sub (S' := mk 106 [] [(5, .ptr 5 0 0), (6, .ptr 6 0 0), (21, .agg [.d (.lit (.int .i64 a1.Kind)), .d (.lit (.int .i64 a1.Int)), .d (.lit (.string a1.Text))]), (22, .d (.lit (.int .i64 r14)))] [(5, some (.box [.d (.lit (.int .i64 a2.Kind)), .d (.lit (.int .i64 a2.Int)), .d (.lit (.string a2.Text))])), (6, some (.box [.d (.lit (.int .i64 0)), .d (.lit (.int .i64 0)), .d (.lit (.string (ByteArray.mk #[])))]))]) (by simp; exact Sub.table (by simp) (by simp)) ?_
     refine Chain.runQ 1 fun K hK => ?_; simp; refine hK _ _ ?_; clear hK K
     refine Chain.sub (S' := mk 106 [] [(6, .ptr 6 0 0), (22, .d (.lit (.int .i64 r14))), (23, .agg [.d (.lit (.int .i64 a2.Kind)), .d (.lit (.int .i64 a2.Int)), .d (.lit (.string a2.Text))])] [(6, some (.box [.d (.lit (.int .i64 0)), .d (.lit (.int .i64 0)), .d (.lit (.string (ByteArray.mk #[])))]))]) Sub.tt ?_
     replace h := bsome h; obtain ⟨r15, hr15, h⟩ := h
     refine Chain.callL (d := 24) (p26 N a2 r15 hr15) (by simp) rfl rfl (by simp <;> rfl) (by simp <;> rfl) ent26 (by simp <;> rfl) ?_
     refine Chain.sub (S' := mk 106 [] [(6, .ptr 6 0 0), (22, .d (.lit (.int .i64 r14))), (23, .agg [.d (.lit (.int .i64 a2.Kind)), .d (.lit (.int .i64 a2.Int)), .d (.lit (.string a2.Text))]), (24, .d (.lit (.int .i64 r15)))] [(6, some (.box [.d (.lit (.int .i64 0)), .d (.lit (.int .i64 0)), .d (.lit (.string (ByteArray.mk #[])))]))]) (by simp; exact Sub.table (by simp) (by simp)) ?_
     replace h := lsome h; obtain ⟨v16, hv16, h⟩ := h
     unfold maxI at hv16
     refine Chain.runQ 2 fun K hK => ?_; simp [hv16]; refine hK _ _ ?_; clear hK K
     refine Chain.sub (S' := mk 106 [] [(6, .ptr 6 0 0), (7, .d (.lit (.int .i64 v16)))] [(6, some (.box [.d (.lit (.int .i64 0)), .d (.lit (.int .i64 0)), .d (.lit (.string (ByteArray.mk #[])))]))]) Sub.tt ?_
     refine Chain.nil ?_
     cases h
     refine PostN.next ?_
     exact Sub.tt
    ·have c13_ : decide (a0 = (ByteArray.mk #[111, 114])) = false := Bool.eq_false_iff.2 c13
     refine AW.condF (b := decide (a0 = (ByteArray.mk #[111, 114]))) rfl c13_ ?_
     refine AW.sub (Sub.bool 20 (b := decide (a0 = (ByteArray.mk #[111, 114]))) rfl c13_) ?_
     refine AW.sub (S' := mk 106 [] [(4, .ptr 4 0 0), (5, .ptr 5 0 0), (6, .ptr 6 0 0), (7, .d (.lit (.int .i64 v7))), (20, .d (.lit (.bool false)))] [(4, some (.box [.d (.lit (.int .i64 a1.Kind)), .d (.lit (.int .i64 a1.Int)), .d (.lit (.string a1.Text))])), (5, some (.box [.d (.lit (.int .i64 a2.Kind)), .d (.lit (.int .i64 a2.Int)), .d (.lit (.string a2.Text))])), (6, some (.box [.d (.lit (.int .i64 0)), .d (.lit (.int .i64 0)), .d (.lit (.string (ByteArray.mk #[])))]))]) (by simp; exact Sub.table (by simp) (by simp)) ?_
     refine AW.skip ?_
     cases h
     refine PostN.next ?_
     exact Sub.tt
   ·rintro v12 h
    refine thenQ_normal ?_
    refine AW.seq ?_
    refine AW.seqR ?_
    refine Chain.runK [] 2 fun K hK => ?_; simp; refine hK _ _ ?_; clear hK K
    refine Chain.sub (S' := mk 106 [] [(6, .ptr 6 0 0), (7, .d (.lit (.int .i64 v12))), (27, .d (.lit (.bool (v12 == 0))))] [(6, some (.box [.d (.lit (.int .i64 0)), .d (.lit (.int .i64 0)), .d (.lit (.string (ByteArray.mk #[])))]))]) Sub.tt ?_
    refine Chain.nil ?_
    replace h := isome h; rcases h with ⟨c17, h⟩ | ⟨c17, h⟩
    ·have c17_ : (v12 == 0) = true := c17
     refine AW.condT (b := (v12 == 0)) rfl c17_ ?_
     refine AW.sub (Sub.bool 27 (b := (v12 == 0)) rfl c17_) ?_
     refine AW.sub (S' := mk 106 [] [(6, .ptr 6 0 0), (7, .d (.lit (.int .i64 v12))), (27, .d (.lit (.bool true)))] [(6, some (.box [.d (.lit (.int .i64 0)), .d (.lit (.int .i64 0)), .d (.lit (.string (ByteArray.mk #[])))]))]) (by simp; exact Sub.table (by simp) (by simp)) ?_
     refine AW.seqR ?_
     refine Chain.runK [] 2 fun K hK => ?_; simp; refine hK _ _ ?_; clear hK K
     refine Chain.sub (S' := mk 106 [] [(6, .ptr 6 0 0)] [(6, some (.box [.d (.lit (.int .i64 0)), .d (.lit (.int .i64 0)), .d (.lit (.string (ByteArray.mk #[])))]))]) Sub.tt ?_
     refine Chain.nil ?_
     refine AW.ret ?_
     cases h
     refine thenQ_pass (by simp) ?_
     refine thenQ_pass (by simp) ?_
     exact FinC.ret (by simp) (by simp)
    ·have c17_ : (v12 == 0) = false := Bool.eq_false_iff.2 c17
     refine AW.condF (b := (v12 == 0)) rfl c17_ ?_
     refine AW.sub (Sub.bool 27 (b := (v12 == 0)) rfl c17_) ?_
     refine AW.sub (S' := mk 106 [] [(6, .ptr 6 0 0), (7, .d (.lit (.int .i64 v12))), (27, .d (.lit (.bool false)))] [(6, some (.box [.d (.lit (.int .i64 0)), .d (.lit (.int .i64 0)), .d (.lit (.string (ByteArray.mk #[])))]))]) (by simp; exact Sub.table (by simp) (by simp)) ?_
     refine AW.skip ?_
     refine thenQ_normal ?_
     refine AW.seqR ?_
     refine Chain.runK [] 2 fun K hK => ?_; simp; refine hK _ _ ?_; clear hK K
     refine Chain.sub (S' := mk 106 [] [(6, .ptr 6 0 0), (30, .d (.lit (.bool (decide (v12 > 0)))))] [(6, some (.box [.d (.lit (.int .i64 0)), .d (.lit (.int .i64 0)), .d (.lit (.string (ByteArray.mk #[])))]))]) Sub.tt ?_
     replace h := bsome h; obtain ⟨r18, hr18, h⟩ := h
     refine Chain.callC (d := 31) (p25 N (decide (v12 > 0)) r18 hr18) (by simp) rfl rfl (by simp <;> rfl) (by simp <;> rfl) ent25 (by simp) (.inl ⟨by simp, by simp⟩) ?_
     refine Chain.sub (S' := mk 106 [] [(6, .ptr 6 0 0), (30, .d (.lit (.bool (decide (v12 > 0))))), (31, .agg [.d (.lit (.int .i64 r18.Kind)), .d (.lit (.int .i64 r18.Int)), .d (.lit (.string r18.Text))])] [(6, some (.box [.d (.lit (.int .i64 0)), .d (.lit (.int .i64 0)), .d (.lit (.string (ByteArray.mk #[])))]))]) (by simp; exact Sub.table (by simp) (by simp)) ?_
     refine Chain.runK [] 1 fun K hK => ?_; simp; refine hK _ _ ?_; clear hK K
     refine Chain.sub (S' := mk 106 [] [(6, .ptr 6 0 0)] [(6, some (.box [.d (.lit (.int .i64 r18.Kind)), .d (.lit (.int .i64 r18.Int)), .d (.lit (.string r18.Text))]))]) Sub.tt ?_
     refine Chain.nil ?_
     refine AW.ret ?_
     cases h
     refine thenQ_pass (by simp) ?_
     exact FinC.ret (by simp) (by simp)
  ·have c4_ : v2 = false := Bool.eq_false_iff.2 c4
   refine AW.condF (b := v2) rfl c4_ ?_
   refine AW.sub (Sub.bool 13 (b := v2) rfl c4_) ?_
   refine AW.sub (S' := mk 106 [] [(0, .d (.lit (.string a0))), (4, .ptr 4 0 0), (5, .ptr 5 0 0), (6, .ptr 6 0 0), (13, .d (.lit (.bool false)))] [(4, some (.box [.d (.lit (.int .i64 a1.Kind)), .d (.lit (.int .i64 a1.Int)), .d (.lit (.string a1.Text))])), (5, some (.box [.d (.lit (.int .i64 a2.Kind)), .d (.lit (.int .i64 a2.Int)), .d (.lit (.string a2.Text))])), (6, some (.box [.d (.lit (.int .i64 0)), .d (.lit (.int .i64 0)), .d (.lit (.string (ByteArray.mk #[])))]))]) (by simp; exact Sub.table (by simp) (by simp)) ?_
   refine AW.skip ?_
   refine thenQ_normal ?_
   refine AW.seq ?_
   replace h := bsome h; obtain ⟨v20, hj, h⟩ := h
   refine AW.cutR (mk 106 [] [(0, .d (.lit (.string a0))), (4, .ptr 4 0 0), (5, .ptr 5 0 0), (6, .ptr 6 0 0), (39, .d (.lit (.bool v20)))] [(4, some (.box [.d (.lit (.int .i64 a1.Kind)), .d (.lit (.int .i64 a1.Int)), .d (.lit (.string a1.Text))])), (5, some (.box [.d (.lit (.int .i64 a2.Kind)), .d (.lit (.int .i64 a2.Int)), .d (.lit (.string a2.Text))])), (6, some (.box [.d (.lit (.int .i64 0)), .d (.lit (.int .i64 0)), .d (.lit (.string (ByteArray.mk #[])))]))]) ?_ ?_
   ·clear h; have h := hj; clear hj
    refine Chain.runK [] 4 fun K hK => ?_; simp; refine hK _ _ ?_; clear hK K
    refine Chain.sub (S' := mk 106 [] [(0, .d (.lit (.string a0))), (4, .ptr 4 0 0), (5, .ptr 5 0 0), (6, .ptr 6 0 0), (35, .d (.lit (.bool (a1.Kind == 0))))] [(4, some (.box [.d (.lit (.int .i64 a1.Kind)), .d (.lit (.int .i64 a1.Int)), .d (.lit (.string a1.Text))])), (5, some (.box [.d (.lit (.int .i64 a2.Kind)), .d (.lit (.int .i64 a2.Int)), .d (.lit (.string a2.Text))])), (6, some (.box [.d (.lit (.int .i64 0)), .d (.lit (.int .i64 0)), .d (.lit (.string (ByteArray.mk #[])))]))]) Sub.tt ?_
    replace h := isome h; rcases h with ⟨c21, h⟩ | ⟨c21, h⟩
    ·have c21_ : (a1.Kind == 0) = true := c21
     refine Chain.sub (Sub.bool 35 (b := (a1.Kind == 0)) rfl c21_) ?_
     refine Chain.sub (S' := mk 106 [] [(0, .d (.lit (.string a0))), (4, .ptr 4 0 0), (5, .ptr 5 0 0), (6, .ptr 6 0 0), (35, .d (.lit (.bool true)))] [(4, some (.box [.d (.lit (.int .i64 a1.Kind)), .d (.lit (.int .i64 a1.Int)), .d (.lit (.string a1.Text))])), (5, some (.box [.d (.lit (.int .i64 a2.Kind)), .d (.lit (.int .i64 a2.Int)), .d (.lit (.string a2.Text))])), (6, some (.box [.d (.lit (.int .i64 0)), .d (.lit (.int .i64 0)), .d (.lit (.string (ByteArray.mk #[])))]))]) (by simp; exact Sub.table (by simp) (by simp)) ?_
     refine Chain.runK [] 4 fun K hK => ?_; simp; refine hK _ _ ?_; clear hK K
     refine Chain.sub (S' := mk 106 [] [(0, .d (.lit (.string a0))), (4, .ptr 4 0 0), (5, .ptr 5 0 0), (6, .ptr 6 0 0), (39, .d (.lit (.bool true)))] [(4, some (.box [.d (.lit (.int .i64 a1.Kind)), .d (.lit (.int .i64 a1.Int)), .d (.lit (.string a1.Text))])), (5, some (.box [.d (.lit (.int .i64 a2.Kind)), .d (.lit (.int .i64 a2.Int)), .d (.lit (.string a2.Text))])), (6, some (.box [.d (.lit (.int .i64 0)), .d (.lit (.int .i64 0)), .d (.lit (.string (ByteArray.mk #[])))]))]) Sub.tt ?_
     cases h
     exact Chain.nil Sub.tt
    ·have c21_ : (a1.Kind == 0) = false := Bool.eq_false_iff.2 c21
     refine Chain.sub (Sub.bool 35 (b := (a1.Kind == 0)) rfl c21_) ?_
     refine Chain.sub (S' := mk 106 [] [(0, .d (.lit (.string a0))), (4, .ptr 4 0 0), (5, .ptr 5 0 0), (6, .ptr 6 0 0), (35, .d (.lit (.bool false)))] [(4, some (.box [.d (.lit (.int .i64 a1.Kind)), .d (.lit (.int .i64 a1.Int)), .d (.lit (.string a1.Text))])), (5, some (.box [.d (.lit (.int .i64 a2.Kind)), .d (.lit (.int .i64 a2.Int)), .d (.lit (.string a2.Text))])), (6, some (.box [.d (.lit (.int .i64 0)), .d (.lit (.int .i64 0)), .d (.lit (.string (ByteArray.mk #[])))]))]) (by simp; exact Sub.table (by simp) (by simp)) ?_
     refine Chain.runK [] 4 fun K hK => ?_; simp; refine hK _ _ ?_; clear hK K
     refine Chain.sub (S' := mk 106 [] [(0, .d (.lit (.string a0))), (4, .ptr 4 0 0), (5, .ptr 5 0 0), (6, .ptr 6 0 0), (39, .d (.lit (.bool (a2.Kind == 0))))] [(4, some (.box [.d (.lit (.int .i64 a1.Kind)), .d (.lit (.int .i64 a1.Int)), .d (.lit (.string a1.Text))])), (5, some (.box [.d (.lit (.int .i64 a2.Kind)), .d (.lit (.int .i64 a2.Int)), .d (.lit (.string a2.Text))])), (6, some (.box [.d (.lit (.int .i64 0)), .d (.lit (.int .i64 0)), .d (.lit (.string (ByteArray.mk #[])))]))]) Sub.tt ?_
     cases h
     exact Chain.nil Sub.tt
   ·clear hj
    replace h := isome h; rcases h with ⟨c22, h⟩ | ⟨c22, h⟩
    ·have c22_ : v20 = true := c22
     refine AW.condT (b := v20) rfl c22_ ?_
     refine AW.sub (Sub.bool 39 (b := v20) rfl c22_) ?_
     refine AW.sub (S' := mk 106 [] [(0, .d (.lit (.string a0))), (4, .ptr 4 0 0), (5, .ptr 5 0 0), (6, .ptr 6 0 0), (39, .d (.lit (.bool true)))] [(4, some (.box [.d (.lit (.int .i64 a1.Kind)), .d (.lit (.int .i64 a1.Int)), .d (.lit (.string a1.Text))])), (5, some (.box [.d (.lit (.int .i64 a2.Kind)), .d (.lit (.int .i64 a2.Int)), .d (.lit (.string a2.Text))])), (6, some (.box [.d (.lit (.int .i64 0)), .d (.lit (.int .i64 0)), .d (.lit (.string (ByteArray.mk #[])))]))]) (by simp; exact Sub.table (by simp) (by simp)) ?_
     refine AW.seqR ?_
     refine Chain.runK [] 2 fun K hK => ?_; simp; refine hK _ _ ?_; clear hK K
     refine Chain.sub (S' := mk 106 [] [(6, .ptr 6 0 0)] [(6, some (.box [.d (.lit (.int .i64 0)), .d (.lit (.int .i64 0)), .d (.lit (.string (ByteArray.mk #[])))]))]) Sub.tt ?_
     refine Chain.nil ?_
     refine AW.ret ?_
     cases h
     refine thenQ_pass (by simp) ?_
     exact FinC.ret (by simp) (by simp)
    ·have c22_ : v20 = false := Bool.eq_false_iff.2 c22
     refine AW.condF (b := v20) rfl c22_ ?_
     refine AW.sub (Sub.bool 39 (b := v20) rfl c22_) ?_
     refine AW.sub (S' := mk 106 [] [(0, .d (.lit (.string a0))), (4, .ptr 4 0 0), (5, .ptr 5 0 0), (6, .ptr 6 0 0), (39, .d (.lit (.bool false)))] [(4, some (.box [.d (.lit (.int .i64 a1.Kind)), .d (.lit (.int .i64 a1.Int)), .d (.lit (.string a1.Text))])), (5, some (.box [.d (.lit (.int .i64 a2.Kind)), .d (.lit (.int .i64 a2.Int)), .d (.lit (.string a2.Text))])), (6, some (.box [.d (.lit (.int .i64 0)), .d (.lit (.int .i64 0)), .d (.lit (.string (ByteArray.mk #[])))]))]) (by simp; exact Sub.table (by simp) (by simp)) ?_
     refine AW.skip ?_
     refine thenQ_normal ?_
     refine AW.seq ?_
     refine AW.seqR ?_
     refine Chain.runK [] 1 fun K hK => ?_; simp; refine hK _ _ ?_; clear hK K
     refine Chain.sub (S' := mk 106 [] [(4, .ptr 4 0 0), (5, .ptr 5 0 0), (6, .ptr 6 0 0), (41, .d (.lit (.string a0)))] [(4, some (.box [.d (.lit (.int .i64 a1.Kind)), .d (.lit (.int .i64 a1.Int)), .d (.lit (.string a1.Text))])), (5, some (.box [.d (.lit (.int .i64 a2.Kind)), .d (.lit (.int .i64 a2.Int)), .d (.lit (.string a2.Text))])), (6, some (.box [.d (.lit (.int .i64 0)), .d (.lit (.int .i64 0)), .d (.lit (.string (ByteArray.mk #[])))]))]) Sub.tt ?_
     refine Chain.nil ?_
     refine AW.block ?_
     refine AW.seqR ?_
     refine Chain.runK [] 2 fun K hK => ?_; simp; refine hK _ _ ?_; clear hK K
     refine Chain.sub (S' := mk 106 [] [(4, .ptr 4 0 0), (5, .ptr 5 0 0), (6, .ptr 6 0 0), (41, .d (.lit (.string a0))), (42, .d (.lit (.bool (decide (a0 = (ByteArray.mk #[61]))))))] [(4, some (.box [.d (.lit (.int .i64 a1.Kind)), .d (.lit (.int .i64 a1.Int)), .d (.lit (.string a1.Text))])), (5, some (.box [.d (.lit (.int .i64 a2.Kind)), .d (.lit (.int .i64 a2.Int)), .d (.lit (.string a2.Text))])), (6, some (.box [.d (.lit (.int .i64 0)), .d (.lit (.int .i64 0)), .d (.lit (.string (ByteArray.mk #[])))]))]) Sub.tt ?_
     refine Chain.nil ?_
     replace h := isome h; rcases h with ⟨c23, h⟩ | ⟨c23, h⟩
     ·have c23_ : decide (a0 = (ByteArray.mk #[61])) = true := c23
      refine AW.condT (b := decide (a0 = (ByteArray.mk #[61]))) rfl c23_ ?_
      refine AW.sub (Sub.bool 42 (b := decide (a0 = (ByteArray.mk #[61]))) rfl c23_) ?_
      refine AW.sub (S' := mk 106 [] [(4, .ptr 4 0 0), (5, .ptr 5 0 0), (6, .ptr 6 0 0), (41, .d (.lit (.string a0))), (42, .d (.lit (.bool true)))] [(4, some (.box [.d (.lit (.int .i64 a1.Kind)), .d (.lit (.int .i64 a1.Int)), .d (.lit (.string a1.Text))])), (5, some (.box [.d (.lit (.int .i64 a2.Kind)), .d (.lit (.int .i64 a2.Int)), .d (.lit (.string a2.Text))])), (6, some (.box [.d (.lit (.int .i64 0)), .d (.lit (.int .i64 0)), .d (.lit (.string (ByteArray.mk #[])))]))]) (by simp; exact Sub.table (by simp) (by simp)) ?_
      replace h := bsome h; obtain ⟨⟨v29, v30, v31⟩, hj, h⟩ := h
      dsimp only at h
      refine AW.cutR (mk 106 [] [(6, .ptr 6 0 0)] [(6, some (.box [.d (.lit (.int .i64 v29)), .d (.lit (.int .i64 v30)), .d (.lit (.string v31))]))]) ?_ ?_
      ·clear h; have h := hj; clear hj
       refine Chain.runK [] 2 fun K hK => ?_; simp; refine hK _ _ ?_; clear hK K
       refine Chain.sub (S' := mk 106 [] [(4, .ptr 4 0 0), (5, .ptr 5 0 0), (6, .ptr 6 0 0), (44, .agg [.d (.lit (.int .i64 a1.Kind)), .d (.lit (.int .i64 a1.Int)), .d (.lit (.string a1.Text))]), (45, .agg [.d (.lit (.int .i64 a2.Kind)), .d (.lit (.int .i64 a2.Int)), .d (.lit (.string a2.Text))])] [(4, some (.box [.d (.lit (.int .i64 a1.Kind)), .d (.lit (.int .i64 a1.Int)), .d (.lit (.string a1.Text))])), (5, some (.box [.d (.lit (.int .i64 a2.Kind)), .d (.lit (.int .i64 a2.Int)), .d (.lit (.string a2.Text))])), (6, some (.box [.d (.lit (.int .i64 0)), .d (.lit (.int .i64 0)), .d (.lit (.string (ByteArray.mk #[])))]))]) Sub.tt ?_
       replace h := bsome h; obtain ⟨r32, hr32, h⟩ := h
       refine Chain.callL (d := 46) (p40 N a1 a2 r32 hr32) (by simp) rfl rfl (by simp <;> rfl) (by simp <;> rfl) ent40 (by simp <;> rfl) ?_
       refine Chain.sub (S' := mk 106 [] [(4, .ptr 4 0 0), (5, .ptr 5 0 0), (6, .ptr 6 0 0), (44, .agg [.d (.lit (.int .i64 a1.Kind)), .d (.lit (.int .i64 a1.Int)), .d (.lit (.string a1.Text))]), (45, .agg [.d (.lit (.int .i64 a2.Kind)), .d (.lit (.int .i64 a2.Int)), .d (.lit (.string a2.Text))]), (46, .d (.lit (.bool r32)))] [(4, some (.box [.d (.lit (.int .i64 a1.Kind)), .d (.lit (.int .i64 a1.Int)), .d (.lit (.string a1.Text))])), (5, some (.box [.d (.lit (.int .i64 a2.Kind)), .d (.lit (.int .i64 a2.Int)), .d (.lit (.string a2.Text))])), (6, some (.box [.d (.lit (.int .i64 0)), .d (.lit (.int .i64 0)), .d (.lit (.string (ByteArray.mk #[])))]))]) (by simp; exact Sub.table (by simp) (by simp)) ?_
       refine Chain.runK [] 2 fun K hK => ?_; simp; refine hK _ _ ?_; clear hK K
       refine Chain.sub (S' := mk 106 [] [(4, .ptr 4 0 0), (5, .ptr 5 0 0), (6, .ptr 6 0 0), (48, .d (.lit (.bool (!r32))))] [(4, some (.box [.d (.lit (.int .i64 a1.Kind)), .d (.lit (.int .i64 a1.Int)), .d (.lit (.string a1.Text))])), (5, some (.box [.d (.lit (.int .i64 a2.Kind)), .d (.lit (.int .i64 a2.Int)), .d (.lit (.string a2.Text))])), (6, some (.box [.d (.lit (.int .i64 0)), .d (.lit (.int .i64 0)), .d (.lit (.string (ByteArray.mk #[])))]))]) Sub.tt ?_
       replace h := isome h; rcases h with ⟨c33, h⟩ | ⟨c33, h⟩
       ·have c33_ : (!r32) = true := c33
        refine Chain.sub (Sub.bool 48 (b := (!r32)) rfl c33_) ?_
        refine Chain.sub (S' := mk 106 [] [(4, .ptr 4 0 0), (5, .ptr 5 0 0), (6, .ptr 6 0 0), (48, .d (.lit (.bool true)))] [(4, some (.box [.d (.lit (.int .i64 a1.Kind)), .d (.lit (.int .i64 a1.Int)), .d (.lit (.string a1.Text))])), (5, some (.box [.d (.lit (.int .i64 a2.Kind)), .d (.lit (.int .i64 a2.Int)), .d (.lit (.string a2.Text))])), (6, some (.box [.d (.lit (.int .i64 0)), .d (.lit (.int .i64 0)), .d (.lit (.string (ByteArray.mk #[])))]))]) (by simp; exact Sub.table (by simp) (by simp)) ?_
        refine Chain.runK [] 2 fun K hK => ?_; simp; refine hK _ _ ?_; clear hK K
        refine Chain.sub (S' := mk 106 [] [(6, .ptr 6 0 0), (48, .d (.lit (.bool true))), (49, .agg [.d (.lit (.int .i64 a2.Kind)), .d (.lit (.int .i64 a2.Int)), .d (.lit (.string a2.Text))]), (50, .agg [.d (.lit (.int .i64 a1.Kind)), .d (.lit (.int .i64 a1.Int)), .d (.lit (.string a1.Text))])] [(6, some (.box [.d (.lit (.int .i64 0)), .d (.lit (.int .i64 0)), .d (.lit (.string (ByteArray.mk #[])))]))]) Sub.tt ?_
        replace h := bsome h; obtain ⟨r34, hr34, h⟩ := h
        refine Chain.callL (d := 51) (p40 N a2 a1 r34 hr34) (by simp) rfl rfl (by simp <;> rfl) (by simp <;> rfl) ent40 (by simp <;> rfl) ?_
        refine Chain.sub (S' := mk 106 [] [(6, .ptr 6 0 0), (48, .d (.lit (.bool true))), (49, .agg [.d (.lit (.int .i64 a2.Kind)), .d (.lit (.int .i64 a2.Int)), .d (.lit (.string a2.Text))]), (50, .agg [.d (.lit (.int .i64 a1.Kind)), .d (.lit (.int .i64 a1.Int)), .d (.lit (.string a1.Text))]), (51, .d (.lit (.bool r34)))] [(6, some (.box [.d (.lit (.int .i64 0)), .d (.lit (.int .i64 0)), .d (.lit (.string (ByteArray.mk #[])))]))]) (by simp; exact Sub.table (by simp) (by simp)) ?_
        refine Chain.runK [] 2 fun K hK => ?_; simp; refine hK _ _ ?_; clear hK K
        refine Chain.sub (S' := mk 106 [] [(6, .ptr 6 0 0), (53, .d (.lit (.bool (!r34))))] [(6, some (.box [.d (.lit (.int .i64 0)), .d (.lit (.int .i64 0)), .d (.lit (.string (ByteArray.mk #[])))]))]) Sub.tt ?_
        replace h := bsome h; obtain ⟨r35, hr35, h⟩ := h
        refine Chain.callC (d := 54) (p25 N (!r34) r35 hr35) (by simp) rfl rfl (by simp <;> rfl) (by simp <;> rfl) ent25 (by simp) (.inl ⟨by simp, by simp⟩) ?_
        refine Chain.sub (S' := mk 106 [] [(6, .ptr 6 0 0), (53, .d (.lit (.bool (!r34)))), (54, .agg [.d (.lit (.int .i64 r35.Kind)), .d (.lit (.int .i64 r35.Int)), .d (.lit (.string r35.Text))])] [(6, some (.box [.d (.lit (.int .i64 0)), .d (.lit (.int .i64 0)), .d (.lit (.string (ByteArray.mk #[])))]))]) (by simp; exact Sub.table (by simp) (by simp)) ?_
        refine Chain.runK [] 1 fun K hK => ?_; simp; refine hK _ _ ?_; clear hK K
        refine Chain.sub (S' := mk 106 [] [(6, .ptr 6 0 0)] [(6, some (.box [.d (.lit (.int .i64 r35.Kind)), .d (.lit (.int .i64 r35.Int)), .d (.lit (.string r35.Text))]))]) Sub.tt ?_
        cases h
        exact Chain.nil Sub.tt
       ·have c33_ : (!r32) = false := Bool.eq_false_iff.2 c33
        refine Chain.sub (Sub.bool 48 (b := (!r32)) rfl c33_) ?_
        refine Chain.sub (S' := mk 106 [] [(4, .ptr 4 0 0), (5, .ptr 5 0 0), (6, .ptr 6 0 0), (48, .d (.lit (.bool false)))] [(4, some (.box [.d (.lit (.int .i64 a1.Kind)), .d (.lit (.int .i64 a1.Int)), .d (.lit (.string a1.Text))])), (5, some (.box [.d (.lit (.int .i64 a2.Kind)), .d (.lit (.int .i64 a2.Int)), .d (.lit (.string a2.Text))])), (6, some (.box [.d (.lit (.int .i64 0)), .d (.lit (.int .i64 0)), .d (.lit (.string (ByteArray.mk #[])))]))]) (by simp; exact Sub.table (by simp) (by simp)) ?_
        refine Chain.runK [] 5 fun K hK => ?_; simp; refine hK _ _ ?_; clear hK K
        refine Chain.sub (S' := mk 106 [] [(6, .ptr 6 0 0), (53, .d (.lit (.bool false)))] [(6, some (.box [.d (.lit (.int .i64 0)), .d (.lit (.int .i64 0)), .d (.lit (.string (ByteArray.mk #[])))]))]) Sub.tt ?_
        replace h := bsome h; obtain ⟨r36, hr36, h⟩ := h
        refine Chain.callC (d := 54) (p25 N false r36 hr36) (by simp) rfl rfl (by simp <;> rfl) (by simp <;> rfl) ent25 (by simp) (.inl ⟨by simp, by simp⟩) ?_
        refine Chain.sub (S' := mk 106 [] [(6, .ptr 6 0 0), (53, .d (.lit (.bool false))), (54, .agg [.d (.lit (.int .i64 r36.Kind)), .d (.lit (.int .i64 r36.Int)), .d (.lit (.string r36.Text))])] [(6, some (.box [.d (.lit (.int .i64 0)), .d (.lit (.int .i64 0)), .d (.lit (.string (ByteArray.mk #[])))]))]) (by simp; exact Sub.table (by simp) (by simp)) ?_
        refine Chain.runK [] 1 fun K hK => ?_; simp; refine hK _ _ ?_; clear hK K
        refine Chain.sub (S' := mk 106 [] [(6, .ptr 6 0 0)] [(6, some (.box [.d (.lit (.int .i64 r36.Kind)), .d (.lit (.int .i64 r36.Int)), .d (.lit (.string r36.Text))]))]) Sub.tt ?_
        cases h
        exact Chain.nil Sub.tt
      ·clear hj
       refine AW.ret ?_
       cases h
       refine blockQ.ret ?_
       refine thenQ_pass (by simp) ?_
       exact FinC.ret (by simp) (by simp)
     ·have c23_ : decide (a0 = (ByteArray.mk #[61])) = false := Bool.eq_false_iff.2 c23
      refine AW.condF (b := decide (a0 = (ByteArray.mk #[61]))) rfl c23_ ?_
      refine AW.sub (Sub.bool 42 (b := decide (a0 = (ByteArray.mk #[61]))) rfl c23_) ?_
      refine AW.sub (S' := mk 106 [] [(4, .ptr 4 0 0), (5, .ptr 5 0 0), (6, .ptr 6 0 0), (41, .d (.lit (.string a0))), (42, .d (.lit (.bool false)))] [(4, some (.box [.d (.lit (.int .i64 a1.Kind)), .d (.lit (.int .i64 a1.Int)), .d (.lit (.string a1.Text))])), (5, some (.box [.d (.lit (.int .i64 a2.Kind)), .d (.lit (.int .i64 a2.Int)), .d (.lit (.string a2.Text))])), (6, some (.box [.d (.lit (.int .i64 0)), .d (.lit (.int .i64 0)), .d (.lit (.string (ByteArray.mk #[])))]))]) (by simp; exact Sub.table (by simp) (by simp)) ?_
      refine AW.seqR ?_
      refine Chain.runK [] 2 fun K hK => ?_; simp; refine hK _ _ ?_; clear hK K
      refine Chain.sub (S' := mk 106 [] [(4, .ptr 4 0 0), (5, .ptr 5 0 0), (6, .ptr 6 0 0), (41, .d (.lit (.string a0))), (55, .d (.lit (.bool (decide (a0 = (ByteArray.mk #[60]))))))] [(4, some (.box [.d (.lit (.int .i64 a1.Kind)), .d (.lit (.int .i64 a1.Int)), .d (.lit (.string a1.Text))])), (5, some (.box [.d (.lit (.int .i64 a2.Kind)), .d (.lit (.int .i64 a2.Int)), .d (.lit (.string a2.Text))])), (6, some (.box [.d (.lit (.int .i64 0)), .d (.lit (.int .i64 0)), .d (.lit (.string (ByteArray.mk #[])))]))]) Sub.tt ?_
      refine Chain.nil ?_
      replace h := isome h; rcases h with ⟨c37, h⟩ | ⟨c37, h⟩
      ·have c37_ : decide (a0 = (ByteArray.mk #[60])) = true := c37
       refine AW.condT (b := decide (a0 = (ByteArray.mk #[60]))) rfl c37_ ?_
       refine AW.sub (Sub.bool 55 (b := decide (a0 = (ByteArray.mk #[60]))) rfl c37_) ?_
       refine AW.sub (S' := mk 106 [] [(4, .ptr 4 0 0), (5, .ptr 5 0 0), (6, .ptr 6 0 0), (41, .d (.lit (.string a0))), (55, .d (.lit (.bool true)))] [(4, some (.box [.d (.lit (.int .i64 a1.Kind)), .d (.lit (.int .i64 a1.Int)), .d (.lit (.string a1.Text))])), (5, some (.box [.d (.lit (.int .i64 a2.Kind)), .d (.lit (.int .i64 a2.Int)), .d (.lit (.string a2.Text))])), (6, some (.box [.d (.lit (.int .i64 0)), .d (.lit (.int .i64 0)), .d (.lit (.string (ByteArray.mk #[])))]))]) (by simp; exact Sub.table (by simp) (by simp)) ?_
       refine AW.seqR ?_
       refine Chain.runK [] 2 fun K hK => ?_; simp; refine hK _ _ ?_; clear hK K
       refine Chain.sub (S' := mk 106 [] [(6, .ptr 6 0 0), (57, .agg [.d (.lit (.int .i64 a1.Kind)), .d (.lit (.int .i64 a1.Int)), .d (.lit (.string a1.Text))]), (58, .agg [.d (.lit (.int .i64 a2.Kind)), .d (.lit (.int .i64 a2.Int)), .d (.lit (.string a2.Text))])] [(6, some (.box [.d (.lit (.int .i64 0)), .d (.lit (.int .i64 0)), .d (.lit (.string (ByteArray.mk #[])))]))]) Sub.tt ?_
       replace h := bsome h; obtain ⟨r38, hr38, h⟩ := h
       refine Chain.callL (d := 59) (p40 N a1 a2 r38 hr38) (by simp) rfl rfl (by simp <;> rfl) (by simp <;> rfl) ent40 (by simp <;> rfl) ?_
       refine Chain.sub (S' := mk 106 [] [(6, .ptr 6 0 0), (57, .agg [.d (.lit (.int .i64 a1.Kind)), .d (.lit (.int .i64 a1.Int)), .d (.lit (.string a1.Text))]), (58, .agg [.d (.lit (.int .i64 a2.Kind)), .d (.lit (.int .i64 a2.Int)), .d (.lit (.string a2.Text))]), (59, .d (.lit (.bool r38)))] [(6, some (.box [.d (.lit (.int .i64 0)), .d (.lit (.int .i64 0)), .d (.lit (.string (ByteArray.mk #[])))]))]) (by simp; exact Sub.table (by simp) (by simp)) ?_
       replace h := bsome h; obtain ⟨r39, hr39, h⟩ := h
       refine Chain.callC (d := 60) (p25 N r38 r39 hr39) (by simp) rfl rfl (by simp <;> rfl) (by simp <;> rfl) ent25 (by simp) (.inl ⟨by simp, by simp⟩) ?_
       refine Chain.sub (S' := mk 106 [] [(6, .ptr 6 0 0), (57, .agg [.d (.lit (.int .i64 a1.Kind)), .d (.lit (.int .i64 a1.Int)), .d (.lit (.string a1.Text))]), (58, .agg [.d (.lit (.int .i64 a2.Kind)), .d (.lit (.int .i64 a2.Int)), .d (.lit (.string a2.Text))]), (59, .d (.lit (.bool r38))), (60, .agg [.d (.lit (.int .i64 r39.Kind)), .d (.lit (.int .i64 r39.Int)), .d (.lit (.string r39.Text))])] [(6, some (.box [.d (.lit (.int .i64 0)), .d (.lit (.int .i64 0)), .d (.lit (.string (ByteArray.mk #[])))]))]) (by simp; exact Sub.table (by simp) (by simp)) ?_
       refine Chain.runK [] 1 fun K hK => ?_; simp; refine hK _ _ ?_; clear hK K
       refine Chain.sub (S' := mk 106 [] [(6, .ptr 6 0 0)] [(6, some (.box [.d (.lit (.int .i64 r39.Kind)), .d (.lit (.int .i64 r39.Int)), .d (.lit (.string r39.Text))]))]) Sub.tt ?_
       refine Chain.nil ?_
       refine AW.ret ?_
       cases h
       refine blockQ.ret ?_
       refine thenQ_pass (by simp) ?_
       exact FinC.ret (by simp) (by simp)
      ·have c37_ : decide (a0 = (ByteArray.mk #[60])) = false := Bool.eq_false_iff.2 c37
       refine AW.condF (b := decide (a0 = (ByteArray.mk #[60]))) rfl c37_ ?_
       refine AW.sub (Sub.bool 55 (b := decide (a0 = (ByteArray.mk #[60]))) rfl c37_) ?_
       refine AW.sub (S' := mk 106 [] [(4, .ptr 4 0 0), (5, .ptr 5 0 0), (6, .ptr 6 0 0), (41, .d (.lit (.string a0))), (55, .d (.lit (.bool false)))] [(4, some (.box [.d (.lit (.int .i64 a1.Kind)), .d (.lit (.int .i64 a1.Int)), .d (.lit (.string a1.Text))])), (5, some (.box [.d (.lit (.int .i64 a2.Kind)), .d (.lit (.int .i64 a2.Int)), .d (.lit (.string a2.Text))])), (6, some (.box [.d (.lit (.int .i64 0)), .d (.lit (.int .i64 0)), .d (.lit (.string (ByteArray.mk #[])))]))]) (by simp; exact Sub.table (by simp) (by simp)) ?_
       refine AW.seqR ?_
       refine Chain.runK [] 2 fun K hK => ?_; simp; refine hK _ _ ?_; clear hK K
       refine Chain.sub (S' := mk 106 [] [(4, .ptr 4 0 0), (5, .ptr 5 0 0), (6, .ptr 6 0 0), (41, .d (.lit (.string a0))), (61, .d (.lit (.bool (decide (a0 = (ByteArray.mk #[60, 61]))))))] [(4, some (.box [.d (.lit (.int .i64 a1.Kind)), .d (.lit (.int .i64 a1.Int)), .d (.lit (.string a1.Text))])), (5, some (.box [.d (.lit (.int .i64 a2.Kind)), .d (.lit (.int .i64 a2.Int)), .d (.lit (.string a2.Text))])), (6, some (.box [.d (.lit (.int .i64 0)), .d (.lit (.int .i64 0)), .d (.lit (.string (ByteArray.mk #[])))]))]) Sub.tt ?_
       refine Chain.nil ?_
       replace h := isome h; rcases h with ⟨c40, h⟩ | ⟨c40, h⟩
       ·have c40_ : decide (a0 = (ByteArray.mk #[60, 61])) = true := c40
        refine AW.condT (b := decide (a0 = (ByteArray.mk #[60, 61]))) rfl c40_ ?_
        refine AW.sub (Sub.bool 61 (b := decide (a0 = (ByteArray.mk #[60, 61]))) rfl c40_) ?_
        refine AW.sub (S' := mk 106 [] [(4, .ptr 4 0 0), (5, .ptr 5 0 0), (6, .ptr 6 0 0), (41, .d (.lit (.string a0))), (61, .d (.lit (.bool true)))] [(4, some (.box [.d (.lit (.int .i64 a1.Kind)), .d (.lit (.int .i64 a1.Int)), .d (.lit (.string a1.Text))])), (5, some (.box [.d (.lit (.int .i64 a2.Kind)), .d (.lit (.int .i64 a2.Int)), .d (.lit (.string a2.Text))])), (6, some (.box [.d (.lit (.int .i64 0)), .d (.lit (.int .i64 0)), .d (.lit (.string (ByteArray.mk #[])))]))]) (by simp; exact Sub.table (by simp) (by simp)) ?_
        refine AW.seqR ?_
        refine Chain.runK [] 2 fun K hK => ?_; simp; refine hK _ _ ?_; clear hK K
        refine Chain.sub (S' := mk 106 [] [(6, .ptr 6 0 0), (63, .agg [.d (.lit (.int .i64 a2.Kind)), .d (.lit (.int .i64 a2.Int)), .d (.lit (.string a2.Text))]), (64, .agg [.d (.lit (.int .i64 a1.Kind)), .d (.lit (.int .i64 a1.Int)), .d (.lit (.string a1.Text))])] [(6, some (.box [.d (.lit (.int .i64 0)), .d (.lit (.int .i64 0)), .d (.lit (.string (ByteArray.mk #[])))]))]) Sub.tt ?_
        replace h := bsome h; obtain ⟨r41, hr41, h⟩ := h
        refine Chain.callL (d := 65) (p40 N a2 a1 r41 hr41) (by simp) rfl rfl (by simp <;> rfl) (by simp <;> rfl) ent40 (by simp <;> rfl) ?_
        refine Chain.sub (S' := mk 106 [] [(6, .ptr 6 0 0), (63, .agg [.d (.lit (.int .i64 a2.Kind)), .d (.lit (.int .i64 a2.Int)), .d (.lit (.string a2.Text))]), (64, .agg [.d (.lit (.int .i64 a1.Kind)), .d (.lit (.int .i64 a1.Int)), .d (.lit (.string a1.Text))]), (65, .d (.lit (.bool r41)))] [(6, some (.box [.d (.lit (.int .i64 0)), .d (.lit (.int .i64 0)), .d (.lit (.string (ByteArray.mk #[])))]))]) (by simp; exact Sub.table (by simp) (by simp)) ?_
        refine Chain.runK [] 1 fun K hK => ?_; simp; refine hK _ _ ?_; clear hK K
        refine Chain.sub (S' := mk 106 [] [(6, .ptr 6 0 0), (66, .d (.lit (.bool (!r41))))] [(6, some (.box [.d (.lit (.int .i64 0)), .d (.lit (.int .i64 0)), .d (.lit (.string (ByteArray.mk #[])))]))]) Sub.tt ?_
        replace h := bsome h; obtain ⟨r42, hr42, h⟩ := h
        refine Chain.callC (d := 67) (p25 N (!r41) r42 hr42) (by simp) rfl rfl (by simp <;> rfl) (by simp <;> rfl) ent25 (by simp) (.inl ⟨by simp, by simp⟩) ?_
        refine Chain.sub (S' := mk 106 [] [(6, .ptr 6 0 0), (66, .d (.lit (.bool (!r41)))), (67, .agg [.d (.lit (.int .i64 r42.Kind)), .d (.lit (.int .i64 r42.Int)), .d (.lit (.string r42.Text))])] [(6, some (.box [.d (.lit (.int .i64 0)), .d (.lit (.int .i64 0)), .d (.lit (.string (ByteArray.mk #[])))]))]) (by simp; exact Sub.table (by simp) (by simp)) ?_
        refine Chain.runK [] 1 fun K hK => ?_; simp; refine hK _ _ ?_; clear hK K
        refine Chain.sub (S' := mk 106 [] [(6, .ptr 6 0 0)] [(6, some (.box [.d (.lit (.int .i64 r42.Kind)), .d (.lit (.int .i64 r42.Int)), .d (.lit (.string r42.Text))]))]) Sub.tt ?_
        refine Chain.nil ?_
        refine AW.ret ?_
        cases h
        refine blockQ.ret ?_
        refine thenQ_pass (by simp) ?_
        exact FinC.ret (by simp) (by simp)
       ·have c40_ : decide (a0 = (ByteArray.mk #[60, 61])) = false := Bool.eq_false_iff.2 c40
        refine AW.condF (b := decide (a0 = (ByteArray.mk #[60, 61]))) rfl c40_ ?_
        refine AW.sub (Sub.bool 61 (b := decide (a0 = (ByteArray.mk #[60, 61]))) rfl c40_) ?_
        refine AW.sub (S' := mk 106 [] [(4, .ptr 4 0 0), (5, .ptr 5 0 0), (6, .ptr 6 0 0), (41, .d (.lit (.string a0))), (61, .d (.lit (.bool false)))] [(4, some (.box [.d (.lit (.int .i64 a1.Kind)), .d (.lit (.int .i64 a1.Int)), .d (.lit (.string a1.Text))])), (5, some (.box [.d (.lit (.int .i64 a2.Kind)), .d (.lit (.int .i64 a2.Int)), .d (.lit (.string a2.Text))])), (6, some (.box [.d (.lit (.int .i64 0)), .d (.lit (.int .i64 0)), .d (.lit (.string (ByteArray.mk #[])))]))]) (by simp; exact Sub.table (by simp) (by simp)) ?_
        refine AW.seqR ?_
        refine Chain.runK [] 2 fun K hK => ?_; simp; refine hK _ _ ?_; clear hK K
        refine Chain.sub (S' := mk 106 [] [(4, .ptr 4 0 0), (5, .ptr 5 0 0), (6, .ptr 6 0 0), (41, .d (.lit (.string a0))), (68, .d (.lit (.bool (decide (a0 = (ByteArray.mk #[124, 124]))))))] [(4, some (.box [.d (.lit (.int .i64 a1.Kind)), .d (.lit (.int .i64 a1.Int)), .d (.lit (.string a1.Text))])), (5, some (.box [.d (.lit (.int .i64 a2.Kind)), .d (.lit (.int .i64 a2.Int)), .d (.lit (.string a2.Text))])), (6, some (.box [.d (.lit (.int .i64 0)), .d (.lit (.int .i64 0)), .d (.lit (.string (ByteArray.mk #[])))]))]) Sub.tt ?_
        refine Chain.nil ?_
        replace h := isome h; rcases h with ⟨c43, h⟩ | ⟨c43, h⟩
        ·have c43_ : decide (a0 = (ByteArray.mk #[124, 124])) = true := c43
         refine AW.condT (b := decide (a0 = (ByteArray.mk #[124, 124]))) rfl c43_ ?_
         refine AW.sub (Sub.bool 68 (b := decide (a0 = (ByteArray.mk #[124, 124]))) rfl c43_) ?_
         refine AW.sub (S' := mk 106 [] [(4, .ptr 4 0 0), (5, .ptr 5 0 0), (6, .ptr 6 0 0), (41, .d (.lit (.string a0))), (68, .d (.lit (.bool true)))] [(4, some (.box [.d (.lit (.int .i64 a1.Kind)), .d (.lit (.int .i64 a1.Int)), .d (.lit (.string a1.Text))])), (5, some (.box [.d (.lit (.int .i64 a2.Kind)), .d (.lit (.int .i64 a2.Int)), .d (.lit (.string a2.Text))])), (6, some (.box [.d (.lit (.int .i64 0)), .d (.lit (.int .i64 0)), .d (.lit (.string (ByteArray.mk #[])))]))]) (by simp; exact Sub.table (by simp) (by simp)) ?_
         refine AW.seq ?_
         refine AW.seqR ?_
         replace h := bsome h; obtain ⟨v44, hv44, h⟩ := h
         have hv44 := chkI_some hv44
         refine Chain.runK [] 8 fun K hK => ?_; simp [hv44]; refine hK _ _ ?_; clear hK K
         refine Chain.sub (S' := mk 106 [] [(4, .ptr 4 0 0), (5, .ptr 5 0 0), (6, .ptr 6 0 0), (77, .d (.lit (.bool (decide (v44 > 24)))))] [(4, some (.box [.d (.lit (.int .i64 a1.Kind)), .d (.lit (.int .i64 a1.Int)), .d (.lit (.string a1.Text))])), (5, some (.box [.d (.lit (.int .i64 a2.Kind)), .d (.lit (.int .i64 a2.Int)), .d (.lit (.string a2.Text))])), (6, some (.box [.d (.lit (.int .i64 0)), .d (.lit (.int .i64 0)), .d (.lit (.string (ByteArray.mk #[])))]))]) Sub.tt ?_
         refine Chain.nil ?_
         replace h := isome h; rcases h with ⟨c45, h⟩ | ⟨c45, h⟩
         ·have c45_ : decide (v44 > 24) = true := decide_eq_true c45
          refine AW.condT (b := decide (v44 > 24)) rfl c45_ ?_
          refine AW.sub (Sub.bool 77 (b := decide (v44 > 24)) rfl c45_) ?_
          refine AW.sub (S' := mk 106 [] [(4, .ptr 4 0 0), (5, .ptr 5 0 0), (6, .ptr 6 0 0), (77, .d (.lit (.bool true)))] [(4, some (.box [.d (.lit (.int .i64 a1.Kind)), .d (.lit (.int .i64 a1.Int)), .d (.lit (.string a1.Text))])), (5, some (.box [.d (.lit (.int .i64 a2.Kind)), .d (.lit (.int .i64 a2.Int)), .d (.lit (.string a2.Text))])), (6, some (.box [.d (.lit (.int .i64 0)), .d (.lit (.int .i64 0)), .d (.lit (.string (ByteArray.mk #[])))]))]) (by simp; exact Sub.table (by simp) (by simp)) ?_
          refine AW.seqR ?_
          refine Chain.runK [] 2 fun K hK => ?_; simp; refine hK _ _ ?_; clear hK K
          refine Chain.sub (S' := mk 106 [] [(6, .ptr 6 0 0)] [(6, some (.box [.d (.lit (.int .i64 0)), .d (.lit (.int .i64 0)), .d (.lit (.string (ByteArray.mk #[])))]))]) Sub.tt ?_
          refine Chain.nil ?_
          refine AW.ret ?_
          cases h
          refine thenQ_pass (by simp) ?_
          refine blockQ.ret ?_
          refine thenQ_pass (by simp) ?_
          exact FinC.ret (by simp) (by simp)
         ·have c45_ : decide (v44 > 24) = false := decide_eq_false c45
          refine AW.condF (b := decide (v44 > 24)) rfl c45_ ?_
          refine AW.sub (Sub.bool 77 (b := decide (v44 > 24)) rfl c45_) ?_
          refine AW.sub (S' := mk 106 [] [(4, .ptr 4 0 0), (5, .ptr 5 0 0), (6, .ptr 6 0 0), (77, .d (.lit (.bool false)))] [(4, some (.box [.d (.lit (.int .i64 a1.Kind)), .d (.lit (.int .i64 a1.Int)), .d (.lit (.string a1.Text))])), (5, some (.box [.d (.lit (.int .i64 a2.Kind)), .d (.lit (.int .i64 a2.Int)), .d (.lit (.string a2.Text))])), (6, some (.box [.d (.lit (.int .i64 0)), .d (.lit (.int .i64 0)), .d (.lit (.string (ByteArray.mk #[])))]))]) (by simp; exact Sub.table (by simp) (by simp)) ?_
          refine AW.skip ?_
          refine thenQ_normal ?_
          refine AW.seqR ?_
          replace h := bsome h; obtain ⟨v46, gv46, h⟩ := h
          obtain ⟨hv46a, hv46⟩ := catB_some gv46
          refine Chain.runK [] 7 fun K hK => ?_; simp [hv46, hv46a]; refine hK _ _ ?_; clear hK K
          refine Chain.sub (S' := mk 106 [] [(6, .ptr 6 0 0)] [(6, some (.box [.d (.lit (.int .i64 3)), .d (.lit (.int .i64 0)), .d (.lit (.string v46))]))]) Sub.tt ?_
          refine Chain.nil ?_
          refine AW.ret ?_
          cases h
          refine blockQ.ret ?_
          refine thenQ_pass (by simp) ?_
          exact FinC.ret (by simp) (by simp)
        ·have c43_ : decide (a0 = (ByteArray.mk #[124, 124])) = false := Bool.eq_false_iff.2 c43
         refine AW.condF (b := decide (a0 = (ByteArray.mk #[124, 124]))) rfl c43_ ?_
         refine AW.sub (Sub.bool 68 (b := decide (a0 = (ByteArray.mk #[124, 124]))) rfl c43_) ?_
         refine AW.sub (S' := mk 106 [] [(4, .ptr 4 0 0), (5, .ptr 5 0 0), (6, .ptr 6 0 0), (41, .d (.lit (.string a0))), (68, .d (.lit (.bool false)))] [(4, some (.box [.d (.lit (.int .i64 a1.Kind)), .d (.lit (.int .i64 a1.Int)), .d (.lit (.string a1.Text))])), (5, some (.box [.d (.lit (.int .i64 a2.Kind)), .d (.lit (.int .i64 a2.Int)), .d (.lit (.string a2.Text))])), (6, some (.box [.d (.lit (.int .i64 0)), .d (.lit (.int .i64 0)), .d (.lit (.string (ByteArray.mk #[])))]))]) (by simp; exact Sub.table (by simp) (by simp)) ?_
         refine AW.seqR ?_
         refine Chain.runK [] 2 fun K hK => ?_; simp; refine hK _ _ ?_; clear hK K
         refine Chain.sub (S' := mk 106 [] [(4, .ptr 4 0 0), (5, .ptr 5 0 0), (6, .ptr 6 0 0), (41, .d (.lit (.string a0))), (85, .d (.lit (.bool (decide (a0 = (ByteArray.mk #[43]))))))] [(4, some (.box [.d (.lit (.int .i64 a1.Kind)), .d (.lit (.int .i64 a1.Int)), .d (.lit (.string a1.Text))])), (5, some (.box [.d (.lit (.int .i64 a2.Kind)), .d (.lit (.int .i64 a2.Int)), .d (.lit (.string a2.Text))])), (6, some (.box [.d (.lit (.int .i64 0)), .d (.lit (.int .i64 0)), .d (.lit (.string (ByteArray.mk #[])))]))]) Sub.tt ?_
         refine Chain.nil ?_
         replace h := isome h; rcases h with ⟨c47, h⟩ | ⟨c47, h⟩
         ·have c47_ : decide (a0 = (ByteArray.mk #[43])) = true := c47
          refine AW.condT (b := decide (a0 = (ByteArray.mk #[43]))) rfl c47_ ?_
          refine AW.sub (Sub.bool 85 (b := decide (a0 = (ByteArray.mk #[43]))) rfl c47_) ?_
          refine AW.sub (S' := mk 106 [] [(4, .ptr 4 0 0), (5, .ptr 5 0 0), (6, .ptr 6 0 0), (41, .d (.lit (.string a0))), (85, .d (.lit (.bool true)))] [(4, some (.box [.d (.lit (.int .i64 a1.Kind)), .d (.lit (.int .i64 a1.Int)), .d (.lit (.string a1.Text))])), (5, some (.box [.d (.lit (.int .i64 a2.Kind)), .d (.lit (.int .i64 a2.Int)), .d (.lit (.string a2.Text))])), (6, some (.box [.d (.lit (.int .i64 0)), .d (.lit (.int .i64 0)), .d (.lit (.string (ByteArray.mk #[])))]))]) (by simp; exact Sub.table (by simp) (by simp)) ?_
          refine AW.seqR ?_
          replace h := bsome h; obtain ⟨v48, hv48, h⟩ := h
          have hv48 := chkI_some hv48
          refine Chain.runK [] 5 fun K hK => ?_; simp [hv48]; refine hK _ _ ?_; clear hK K
          refine Chain.sub (S' := mk 106 [] [(6, .ptr 6 0 0), (91, .d (.lit (.int .i64 v48)))] [(6, some (.box [.d (.lit (.int .i64 0)), .d (.lit (.int .i64 0)), .d (.lit (.string (ByteArray.mk #[])))]))]) Sub.tt ?_
          replace h := bsome h; obtain ⟨r49, hr49, h⟩ := h
          refine Chain.callC (d := 92) (p27 N v48 r49 hr49) (by simp) rfl rfl (by simp <;> rfl) (by simp <;> rfl) ent27 (by simp) (.inl ⟨by simp, by simp⟩) ?_
          refine Chain.sub (S' := mk 106 [] [(6, .ptr 6 0 0), (91, .d (.lit (.int .i64 v48))), (92, .agg [.d (.lit (.int .i64 r49.Kind)), .d (.lit (.int .i64 r49.Int)), .d (.lit (.string r49.Text))])] [(6, some (.box [.d (.lit (.int .i64 0)), .d (.lit (.int .i64 0)), .d (.lit (.string (ByteArray.mk #[])))]))]) (by simp; exact Sub.table (by simp) (by simp)) ?_
          refine Chain.runK [] 1 fun K hK => ?_; simp; refine hK _ _ ?_; clear hK K
          refine Chain.sub (S' := mk 106 [] [(6, .ptr 6 0 0)] [(6, some (.box [.d (.lit (.int .i64 r49.Kind)), .d (.lit (.int .i64 r49.Int)), .d (.lit (.string r49.Text))]))]) Sub.tt ?_
          refine Chain.nil ?_
          refine AW.ret ?_
          cases h
          refine blockQ.ret ?_
          refine thenQ_pass (by simp) ?_
          exact FinC.ret (by simp) (by simp)
         ·have c47_ : decide (a0 = (ByteArray.mk #[43])) = false := Bool.eq_false_iff.2 c47
          refine AW.condF (b := decide (a0 = (ByteArray.mk #[43]))) rfl c47_ ?_
          refine AW.sub (Sub.bool 85 (b := decide (a0 = (ByteArray.mk #[43]))) rfl c47_) ?_
          refine AW.sub (S' := mk 106 [] [(4, .ptr 4 0 0), (5, .ptr 5 0 0), (6, .ptr 6 0 0), (41, .d (.lit (.string a0))), (85, .d (.lit (.bool false)))] [(4, some (.box [.d (.lit (.int .i64 a1.Kind)), .d (.lit (.int .i64 a1.Int)), .d (.lit (.string a1.Text))])), (5, some (.box [.d (.lit (.int .i64 a2.Kind)), .d (.lit (.int .i64 a2.Int)), .d (.lit (.string a2.Text))])), (6, some (.box [.d (.lit (.int .i64 0)), .d (.lit (.int .i64 0)), .d (.lit (.string (ByteArray.mk #[])))]))]) (by simp; exact Sub.table (by simp) (by simp)) ?_
          refine AW.seqR ?_
          refine Chain.runK [] 2 fun K hK => ?_; simp; refine hK _ _ ?_; clear hK K
          refine Chain.sub (S' := mk 106 [] [(4, .ptr 4 0 0), (5, .ptr 5 0 0), (6, .ptr 6 0 0), (93, .d (.lit (.bool (decide (a0 = (ByteArray.mk #[45]))))))] [(4, some (.box [.d (.lit (.int .i64 a1.Kind)), .d (.lit (.int .i64 a1.Int)), .d (.lit (.string a1.Text))])), (5, some (.box [.d (.lit (.int .i64 a2.Kind)), .d (.lit (.int .i64 a2.Int)), .d (.lit (.string a2.Text))])), (6, some (.box [.d (.lit (.int .i64 0)), .d (.lit (.int .i64 0)), .d (.lit (.string (ByteArray.mk #[])))]))]) Sub.tt ?_
          refine Chain.nil ?_
          replace h := isome h; rcases h with ⟨c50, h⟩ | ⟨c50, h⟩
          ·have c50_ : decide (a0 = (ByteArray.mk #[45])) = true := c50
           refine AW.condT (b := decide (a0 = (ByteArray.mk #[45]))) rfl c50_ ?_
           refine AW.sub (Sub.bool 93 (b := decide (a0 = (ByteArray.mk #[45]))) rfl c50_) ?_
           refine AW.sub (S' := mk 106 [] [(4, .ptr 4 0 0), (5, .ptr 5 0 0), (6, .ptr 6 0 0), (93, .d (.lit (.bool true)))] [(4, some (.box [.d (.lit (.int .i64 a1.Kind)), .d (.lit (.int .i64 a1.Int)), .d (.lit (.string a1.Text))])), (5, some (.box [.d (.lit (.int .i64 a2.Kind)), .d (.lit (.int .i64 a2.Int)), .d (.lit (.string a2.Text))])), (6, some (.box [.d (.lit (.int .i64 0)), .d (.lit (.int .i64 0)), .d (.lit (.string (ByteArray.mk #[])))]))]) (by simp; exact Sub.table (by simp) (by simp)) ?_
           refine AW.seqR ?_
           replace h := bsome h; obtain ⟨v51, hv51, h⟩ := h
           have hv51 := chkI_some hv51
           refine Chain.runK [] 5 fun K hK => ?_; simp [hv51]; refine hK _ _ ?_; clear hK K
           refine Chain.sub (S' := mk 106 [] [(6, .ptr 6 0 0), (99, .d (.lit (.int .i64 v51)))] [(6, some (.box [.d (.lit (.int .i64 0)), .d (.lit (.int .i64 0)), .d (.lit (.string (ByteArray.mk #[])))]))]) Sub.tt ?_
           replace h := bsome h; obtain ⟨r52, hr52, h⟩ := h
           refine Chain.callC (d := 100) (p27 N v51 r52 hr52) (by simp) rfl rfl (by simp <;> rfl) (by simp <;> rfl) ent27 (by simp) (.inl ⟨by simp, by simp⟩) ?_
           refine Chain.sub (S' := mk 106 [] [(6, .ptr 6 0 0), (99, .d (.lit (.int .i64 v51))), (100, .agg [.d (.lit (.int .i64 r52.Kind)), .d (.lit (.int .i64 r52.Int)), .d (.lit (.string r52.Text))])] [(6, some (.box [.d (.lit (.int .i64 0)), .d (.lit (.int .i64 0)), .d (.lit (.string (ByteArray.mk #[])))]))]) (by simp; exact Sub.table (by simp) (by simp)) ?_
           refine Chain.runK [] 1 fun K hK => ?_; simp; refine hK _ _ ?_; clear hK K
           refine Chain.sub (S' := mk 106 [] [(6, .ptr 6 0 0)] [(6, some (.box [.d (.lit (.int .i64 r52.Kind)), .d (.lit (.int .i64 r52.Int)), .d (.lit (.string r52.Text))]))]) Sub.tt ?_
           refine Chain.nil ?_
           refine AW.ret ?_
           cases h
           refine blockQ.ret ?_
           refine thenQ_pass (by simp) ?_
           exact FinC.ret (by simp) (by simp)
          ·have c50_ : decide (a0 = (ByteArray.mk #[45])) = false := Bool.eq_false_iff.2 c50
           refine AW.condF (b := decide (a0 = (ByteArray.mk #[45]))) rfl c50_ ?_
           refine AW.sub (Sub.bool 93 (b := decide (a0 = (ByteArray.mk #[45]))) rfl c50_) ?_
           refine AW.sub (S' := mk 106 [] [(4, .ptr 4 0 0), (5, .ptr 5 0 0), (6, .ptr 6 0 0), (93, .d (.lit (.bool false)))] [(4, some (.box [.d (.lit (.int .i64 a1.Kind)), .d (.lit (.int .i64 a1.Int)), .d (.lit (.string a1.Text))])), (5, some (.box [.d (.lit (.int .i64 a2.Kind)), .d (.lit (.int .i64 a2.Int)), .d (.lit (.string a2.Text))])), (6, some (.box [.d (.lit (.int .i64 0)), .d (.lit (.int .i64 0)), .d (.lit (.string (ByteArray.mk #[])))]))]) (by simp; exact Sub.table (by simp) (by simp)) ?_
           refine AW.skip ?_
           refine blockQ.normal ?_
           refine thenQ_normal ?_
           refine AW.seqR ?_
           refine Chain.runK [] 4 fun K hK => ?_; simp; refine hK _ _ ?_; clear hK K
           refine Chain.sub (S' := mk 106 [] [(6, .ptr 6 0 0), (102, .d (.lit (.int .i64 a1.Int))), (104, .d (.lit (.int .i64 a2.Int)))] [(6, some (.box [.d (.lit (.int .i64 0)), .d (.lit (.int .i64 0)), .d (.lit (.string (ByteArray.mk #[])))]))]) Sub.tt ?_
           replace h := bsome h; obtain ⟨r53, hr53, h⟩ := h
           refine Chain.callC (d := 105) (p41 N a1.Int a2.Int r53 hr53) (by simp) rfl rfl (by simp <;> rfl) (by simp <;> rfl) ent41 (by simp) (.inl ⟨by simp, by simp⟩) ?_
           refine Chain.sub (S' := mk 106 [] [(6, .ptr 6 0 0), (102, .d (.lit (.int .i64 a1.Int))), (104, .d (.lit (.int .i64 a2.Int))), (105, .agg [.d (.lit (.int .i64 r53.Kind)), .d (.lit (.int .i64 r53.Int)), .d (.lit (.string r53.Text))])] [(6, some (.box [.d (.lit (.int .i64 0)), .d (.lit (.int .i64 0)), .d (.lit (.string (ByteArray.mk #[])))]))]) (by simp; exact Sub.table (by simp) (by simp)) ?_
           refine Chain.runK [] 1 fun K hK => ?_; simp; refine hK _ _ ?_; clear hK K
           refine Chain.sub (S' := mk 106 [] [(6, .ptr 6 0 0)] [(6, some (.box [.d (.lit (.int .i64 r53.Kind)), .d (.lit (.int .i64 r53.Int)), .d (.lit (.string r53.Text))]))]) Sub.tt ?_
           refine Chain.nil ?_
           refine AW.ret ?_
           cases h
           exact FinC.ret (by simp) (by simp)

end Go.Proofs.Ytacafkegbgmnoaa
