/- Functions of the program as functional programs; the code computes them. -/
import Derived.Test.YtdiekinmoklonabDoorLx5
namespace Go.Proofs.YtdiekinmoklonabDoor
open Go.Ab Go.Rp
attribute [-simp] List.all_eq_true Array.all_toList Array.all_eq_true

/-- stemma/stemref3.token -/
def d12 (N : Nat) (a0 : ByteArray) (a1 : Int) : Option (S29 × Int) :=
 (idxB a0 a1).bind fun v1 =>
 (d21 N a0 a1).bind fun r2 =>
 (natI r2 a0.size).bind fun n3 =>
 (natI a1 n3).bind fun n4 =>
 letv (a0.extract n4 n3) fun v5 =>
 Option.bind (α := Bool) (
  (d22 N v1).bind fun r10 =>
  if r10 = true then (
   (d23 N v5).bind fun r12 =>
   some r12
  ) else
  some false
 ) fun (v9 : Bool) =>
 if v9 = true then (
  some ((S29.mk 2 v5 0 0), (n3 : Int))
 ) else
 Option.bind (α := Bool) (
  (d22 N v1).bind fun r17 =>
  if r17 = true then (
   some (decide ((v5.size : Int) ≤ 12))
  ) else
  some false
 ) fun (v16 : Bool) =>
 if v16 = true then (
  some ((S29.mk 1 v5 0 0), (n3 : Int))
 ) else
 (d24 N v1).bind fun r20 =>
 if r20 = true then (
  (d25 N v5).bind fun r22 =>
  Option.bind (α := Bool) (
   if (!r22.2) = true then (
    if r22.1 ≤ 1000000000000 then (
     if decide (v5 = (ByteArray.mk #[48])) = true then (
      some true
     ) else
     some (v1 != 48)
    ) else
    some false
   ) else
   some false
  ) fun (v26 : Bool) =>
  if v26 = true then (
   some ((S29.mk 3 (ByteArray.mk #[]) r22.1 0), (n3 : Int))
  ) else
  some ((S29.mk 0 (ByteArray.mk #[]) 0 0), (-1))
 ) else
 if (v1 == 63) then (
  (chkI ((n4 : Int) + 1)).bind fun v32 =>
  (d21 N a0 v32).bind fun r33 =>
  (natI r33 a0.size).bind fun n34 =>
  (natI v32 n34).bind fun n35 =>
  letv (a0.extract n35 n34) fun v36 =>
  Option.bind (α := Bool) (
   if ((v36.size : Int) == 2) then (
    (idxB v36 0).bind fun v48 =>
    (d24 N v48).bind fun r49 =>
    if r49 = true then (
     (idxB v36 1).bind fun v51 =>
     if (v51 == 105) then (
      some true
     ) else
     (idxB v36 1).bind fun v53 =>
     if (v53 == 98) then (
      some true
     ) else
     (idxB v36 1).bind fun v55 =>
     some (v55 == 116)
    ) else
    some false
   ) else
   some false
  ) fun (v46 : Bool) =>
  if v46 = true then (
   (idxB v36 0).bind fun v57 =>
   (chkI (v57)).bind fun v58 =>
   (chkI (v58 - 48)).bind fun v59 =>
   (natI 1 v36.size).bind fun _ =>
   letv (v36.extract 1 v36.size) fun v61 =>
   (chkI ((n4 : Int) + 3)).bind fun v62 =>
   some ((S29.mk 6 v61 v59 0), v62)
  ) else
  some ((S29.mk 0 (ByteArray.mk #[]) 0 0), (-1))
 ) else
 if (v1 == 39) then (
  (d26 N a0 (n4 : Int)).bind fun r64 =>
  some (r64.1, r64.2)
 ) else
 (d27 N a0 (n4 : Int)).bind fun r65 =>
 some (r65.1, r65.2)
set_option maxRecDepth 100000 in
set_option maxHeartbeats 4000000 in
theorem p12 (N : Nat) (a0 : ByteArray) (a1 : Int) (r : (S29 × Int)) (h : d12 N a0 a1 = some r) : FunC Tryd.prog 12 [.d (.lit (.string a0)), .i a1] (.tup [.agg [.i r.1.Kind, .d (.lit (.string r.1.Text)), .i r.1.Number, .i r.1.Offset], .i r.2]) := by
 unfold d12 at h
 refine FunC.enter 125 [(0, .d (.lit (.string a0))), (1, .i a1)] (by simp) Tryd.func12 rfl (of_decide_eq_true rfl) rfl rfl ?_
 refine AW.seqR ?_
 refine Chain.runK [] 2 fun K hK => ?_; simp; refine hK _ _ ?_; clear hK K
 refine Chain.sub (S' := mk 125 [] [(0, .d (.lit (.string a0))), (1, .i a1), (4, .ptr 4 0 0)] [(4, some (.box [.i 0, .d (.lit (.string (ByteArray.mk #[]))), .i 0, .i 0]))]) Sub.tt ?_
 refine Chain.nil ?_
 refine AW.seqR ?_
 replace h := bsome h; obtain ⟨v1, gv1, h⟩ := h
 obtain ⟨bv1, kv1, hv1k, hv1a, hv1b, hv1c⟩ := idxB_some gv1
 refine Chain.runK [] 4 fun K hK => ?_; simp [hv1k, hv1a, hv1b, hv1c]; refine hK _ _ ?_; clear hK K
 refine Chain.sub (S' := mk 125 [] [(0, .d (.lit (.string a0))), (1, .i a1), (4, .ptr 4 0 0), (6, .d (.lit (.int .u8 v1)))] [(4, some (.box [.i 0, .d (.lit (.string (ByteArray.mk #[]))), .i 0, .i 0]))]) Sub.tt ?_
 refine Chain.nil ?_
 refine AW.seqR ?_
 refine Chain.runK [] 2 fun K hK => ?_; simp; refine hK _ _ ?_; clear hK K
 refine Chain.sub (S' := mk 125 [] [(0, .d (.lit (.string a0))), (1, .i a1), (4, .ptr 4 0 0), (6, .d (.lit (.int .u8 v1))), (15, .d (.lit (.string a0))), (16, .i a1)] [(4, some (.box [.i 0, .d (.lit (.string (ByteArray.mk #[]))), .i 0, .i 0]))]) Sub.tt ?_
 replace h := bsome h; obtain ⟨r2, hr2, h⟩ := h
 refine Chain.callL (d := 17) (p21 N a0 a1 r2 hr2) (by simp) rfl rfl (by simp <;> rfl) (by simp <;> rfl) ent21 (by simp <;> rfl) ?_
 refine Chain.sub (S' := mk 125 [] [(0, .d (.lit (.string a0))), (1, .i a1), (4, .ptr 4 0 0), (6, .d (.lit (.int .u8 v1))), (15, .d (.lit (.string a0))), (16, .i a1), (17, .i r2)] [(4, some (.box [.i 0, .d (.lit (.string (ByteArray.mk #[]))), .i 0, .i 0]))]) (by simp; exact Sub.table (by simp) (by simp)) ?_
 refine Chain.runK [] 1 fun K hK => ?_; simp; refine hK _ _ ?_; clear hK K
 refine Chain.sub (S' := mk 125 [] [(0, .d (.lit (.string a0))), (1, .i a1), (4, .ptr 4 0 0), (6, .d (.lit (.int .u8 v1))), (7, .i r2)] [(4, some (.box [.i 0, .d (.lit (.string (ByteArray.mk #[]))), .i 0, .i 0]))]) Sub.tt ?_
 refine Chain.nil ?_
 refine AW.seqR ?_
 replace h := bsome h; obtain ⟨n3, gn3, h⟩ := h
 obtain ⟨hn3a, hn3⟩ := natI_some gn3
 clear gn3
 subst hn3a
 replace h := bsome h; obtain ⟨n4, gn4, h⟩ := h
 obtain ⟨hn4a, hn4⟩ := natI_some gn4
 clear gn4
 subst hn4a
 replace h := lsome h; obtain ⟨v5, hv5, h⟩ := h
 refine Chain.runK [] 5 fun K hK => ?_; simp [hn3, hn4, hv5]; refine hK _ _ ?_; clear hK K
 refine Chain.sub (S' := mk 125 [] [(0, .d (.lit (.string a0))), (1, .i (n4 : Int)), (4, .ptr 4 0 0), (6, .d (.lit (.int .u8 v1))), (7, .i (n3 : Int)), (8, .d (.lit (.string v5)))] [(4, some (.box [.i 0, .d (.lit (.string (ByteArray.mk #[]))), .i 0, .i 0]))]) Sub.tt ?_
 refine Chain.nil ?_
 refine AW.seq ?_
 refine AW.block ?_
 replace h := bsome h; obtain ⟨v9, hj, h⟩ := h
 refine AW.cutR (mk 125 [] [(0, .d (.lit (.string a0))), (1, .i (n4 : Int)), (4, .ptr 4 0 0), (6, .d (.lit (.int .u8 v1))), (7, .i (n3 : Int)), (8, .d (.lit (.string v5))), (27, .b v9)] [(4, some (.box [.i 0, .d (.lit (.string (ByteArray.mk #[]))), .i 0, .i 0]))]) ?_ ?_
 ·clear h; have h := hj; clear hj
  refine Chain.runK [] 1 fun K hK => ?_; simp; refine hK _ _ ?_; clear hK K
  refine Chain.sub (S' := mk 125 [] [(0, .d (.lit (.string a0))), (1, .i (n4 : Int)), (4, .ptr 4 0 0), (6, .d (.lit (.int .u8 v1))), (7, .i (n3 : Int)), (8, .d (.lit (.string v5))), (28, .d (.lit (.int .u8 v1)))] [(4, some (.box [.i 0, .d (.lit (.string (ByteArray.mk #[]))), .i 0, .i 0]))]) Sub.tt ?_
  replace h := bsome h; obtain ⟨r10, hr10, h⟩ := h
  refine Chain.callL (d := 29) (p22 N v1 r10 hr10) (by simp) rfl rfl (by simp <;> rfl) (by simp <;> rfl) ent22 (by simp <;> rfl) ?_
  refine Chain.sub (S' := mk 125 [] [(0, .d (.lit (.string a0))), (1, .i (n4 : Int)), (4, .ptr 4 0 0), (6, .d (.lit (.int .u8 v1))), (7, .i (n3 : Int)), (8, .d (.lit (.string v5))), (28, .d (.lit (.int .u8 v1))), (29, .b r10)] [(4, some (.box [.i 0, .d (.lit (.string (ByteArray.mk #[]))), .i 0, .i 0]))]) (by simp; exact Sub.table (by simp) (by simp)) ?_
  refine Chain.runK [] 1 fun K hK => ?_; simp; refine hK _ _ ?_; clear hK K
  refine Chain.sub (S' := mk 125 [] [(0, .d (.lit (.string a0))), (1, .i (n4 : Int)), (4, .ptr 4 0 0), (6, .d (.lit (.int .u8 v1))), (7, .i (n3 : Int)), (8, .d (.lit (.string v5))), (30, .b r10)] [(4, some (.box [.i 0, .d (.lit (.string (ByteArray.mk #[]))), .i 0, .i 0]))]) Sub.tt ?_
  replace h := isome h; rcases h with ⟨c11, h⟩ | ⟨c11, h⟩
  ·have c11_ : r10 = true := c11
   refine Chain.sub (Sub.bool 30 (b := r10) rfl c11_) ?_
   refine Chain.sub (S' := mk 125 [] [(0, .d (.lit (.string a0))), (1, .i (n4 : Int)), (4, .ptr 4 0 0), (6, .d (.lit (.int .u8 v1))), (7, .i (n3 : Int)), (8, .d (.lit (.string v5))), (30, .b true)] [(4, some (.box [.i 0, .d (.lit (.string (ByteArray.mk #[]))), .i 0, .i 0]))]) (by simp; exact Sub.table (by simp) (by simp)) ?_
   refine Chain.runK [] 1 fun K hK => ?_; simp; refine hK _ _ ?_; clear hK K
   refine Chain.sub (S' := mk 125 [] [(0, .d (.lit (.string a0))), (1, .i (n4 : Int)), (4, .ptr 4 0 0), (6, .d (.lit (.int .u8 v1))), (7, .i (n3 : Int)), (8, .d (.lit (.string v5))), (30, .b true), (31, .d (.lit (.string v5)))] [(4, some (.box [.i 0, .d (.lit (.string (ByteArray.mk #[]))), .i 0, .i 0]))]) Sub.tt ?_
   replace h := bsome h; obtain ⟨r12, hr12, h⟩ := h
   refine Chain.callL (d := 32) (p23 N v5 r12 hr12) (by simp) rfl rfl (by simp <;> rfl) (by simp <;> rfl) ent23 (by simp <;> rfl) ?_
   refine Chain.sub (S' := mk 125 [] [(0, .d (.lit (.string a0))), (1, .i (n4 : Int)), (4, .ptr 4 0 0), (6, .d (.lit (.int .u8 v1))), (7, .i (n3 : Int)), (8, .d (.lit (.string v5))), (30, .b true), (31, .d (.lit (.string v5))), (32, .b r12)] [(4, some (.box [.i 0, .d (.lit (.string (ByteArray.mk #[]))), .i 0, .i 0]))]) (by simp; exact Sub.table (by simp) (by simp)) ?_
   refine Chain.runK [] 2 fun K hK => ?_; simp; refine hK _ _ ?_; clear hK K
   refine Chain.sub (S' := mk 125 [] [(0, .d (.lit (.string a0))), (1, .i (n4 : Int)), (4, .ptr 4 0 0), (6, .d (.lit (.int .u8 v1))), (7, .i (n3 : Int)), (8, .d (.lit (.string v5))), (27, .b r12)] [(4, some (.box [.i 0, .d (.lit (.string (ByteArray.mk #[]))), .i 0, .i 0]))]) Sub.tt ?_
   cases h
   exact Chain.nil Sub.tt
  ·have c11_ : r10 = false := Bool.eq_false_iff.2 c11
   refine Chain.sub (Sub.bool 30 (b := r10) rfl c11_) ?_
   refine Chain.sub (S' := mk 125 [] [(0, .d (.lit (.string a0))), (1, .i (n4 : Int)), (4, .ptr 4 0 0), (6, .d (.lit (.int .u8 v1))), (7, .i (n3 : Int)), (8, .d (.lit (.string v5))), (30, .b false)] [(4, some (.box [.i 0, .d (.lit (.string (ByteArray.mk #[]))), .i 0, .i 0]))]) (by simp; exact Sub.table (by simp) (by simp)) ?_
   refine Chain.runK [] 4 fun K hK => ?_; simp; refine hK _ _ ?_; clear hK K
   refine Chain.sub (S' := mk 125 [] [(0, .d (.lit (.string a0))), (1, .i (n4 : Int)), (4, .ptr 4 0 0), (6, .d (.lit (.int .u8 v1))), (7, .i (n3 : Int)), (8, .d (.lit (.string v5))), (27, .b false)] [(4, some (.box [.i 0, .d (.lit (.string (ByteArray.mk #[]))), .i 0, .i 0]))]) Sub.tt ?_
   cases h
   exact Chain.nil Sub.tt
 ·clear hj
  replace h := isome h; rcases h with ⟨c13, h⟩ | ⟨c13, h⟩
  ·have c13_ : v9 = true := c13
   refine AW.condT (b := v9) rfl c13_ ?_
   refine AW.sub (Sub.bool 27 (b := v9) rfl c13_) ?_
   refine AW.sub (S' := mk 125 [] [(0, .d (.lit (.string a0))), (1, .i (n4 : Int)), (4, .ptr 4 0 0), (6, .d (.lit (.int .u8 v1))), (7, .i (n3 : Int)), (8, .d (.lit (.string v5))), (27, .b true)] [(4, some (.box [.i 0, .d (.lit (.string (ByteArray.mk #[]))), .i 0, .i 0]))]) (by simp; exact Sub.table (by simp) (by simp)) ?_
   refine AW.seqR ?_
   refine Chain.runK [] 5 fun K hK => ?_; simp; refine hK _ _ ?_; clear hK K
   refine Chain.sub (S' := mk 125 [] [(4, .ptr 4 0 0), (5, .i (n3 : Int))] [(4, some (.box [.i 2, .d (.lit (.string v5)), .i 0, .i 0]))]) Sub.tt ?_
   refine Chain.nil ?_
   refine AW.ret ?_
   cases h
   refine blockQ.ret ?_
   refine thenQ_pass (by simp) ?_
   exact FinC.ret (by simp) (by simp)
  ·have c13_ : v9 = false := Bool.eq_false_iff.2 c13
   refine AW.condF (b := v9) rfl c13_ ?_
   refine AW.sub (Sub.bool 27 (b := v9) rfl c13_) ?_
   refine AW.sub (S' := mk 125 [] [(0, .d (.lit (.string a0))), (1, .i (n4 : Int)), (4, .ptr 4 0 0), (6, .d (.lit (.int .u8 v1))), (7, .i (n3 : Int)), (8, .d (.lit (.string v5))), (27, .b false)] [(4, some (.box [.i 0, .d (.lit (.string (ByteArray.mk #[]))), .i 0, .i 0]))]) (by simp; exact Sub.table (by simp) (by simp)) ?_
   replace h := bsome h; obtain ⟨v16, hj, h⟩ := h
   refine AW.cutR (mk 125 [] [(0, .d (.lit (.string a0))), (1, .i (n4 : Int)), (4, .ptr 4 0 0), (6, .d (.lit (.int .u8 v1))), (7, .i (n3 : Int)), (8, .d (.lit (.string v5))), (37, .b v16)] [(4, some (.box [.i 0, .d (.lit (.string (ByteArray.mk #[]))), .i 0, .i 0]))]) ?_ ?_
   ·clear h; have h := hj; clear hj
    refine Chain.runK [] 1 fun K hK => ?_; simp; refine hK _ _ ?_; clear hK K
    refine Chain.sub (S' := mk 125 [] [(0, .d (.lit (.string a0))), (1, .i (n4 : Int)), (4, .ptr 4 0 0), (6, .d (.lit (.int .u8 v1))), (7, .i (n3 : Int)), (8, .d (.lit (.string v5))), (38, .d (.lit (.int .u8 v1)))] [(4, some (.box [.i 0, .d (.lit (.string (ByteArray.mk #[]))), .i 0, .i 0]))]) Sub.tt ?_
    replace h := bsome h; obtain ⟨r17, hr17, h⟩ := h
    refine Chain.callL (d := 39) (p22 N v1 r17 hr17) (by simp) rfl rfl (by simp <;> rfl) (by simp <;> rfl) ent22 (by simp <;> rfl) ?_
    refine Chain.sub (S' := mk 125 [] [(0, .d (.lit (.string a0))), (1, .i (n4 : Int)), (4, .ptr 4 0 0), (6, .d (.lit (.int .u8 v1))), (7, .i (n3 : Int)), (8, .d (.lit (.string v5))), (38, .d (.lit (.int .u8 v1))), (39, .b r17)] [(4, some (.box [.i 0, .d (.lit (.string (ByteArray.mk #[]))), .i 0, .i 0]))]) (by simp; exact Sub.table (by simp) (by simp)) ?_
    refine Chain.runK [] 1 fun K hK => ?_; simp; refine hK _ _ ?_; clear hK K
    refine Chain.sub (S' := mk 125 [] [(0, .d (.lit (.string a0))), (1, .i (n4 : Int)), (4, .ptr 4 0 0), (6, .d (.lit (.int .u8 v1))), (7, .i (n3 : Int)), (8, .d (.lit (.string v5))), (40, .b r17)] [(4, some (.box [.i 0, .d (.lit (.string (ByteArray.mk #[]))), .i 0, .i 0]))]) Sub.tt ?_
    replace h := isome h; rcases h with ⟨c18, h⟩ | ⟨c18, h⟩
    ·have c18_ : r17 = true := c18
     refine Chain.sub (Sub.bool 40 (b := r17) rfl c18_) ?_
     refine Chain.sub (S' := mk 125 [] [(0, .d (.lit (.string a0))), (1, .i (n4 : Int)), (4, .ptr 4 0 0), (6, .d (.lit (.int .u8 v1))), (7, .i (n3 : Int)), (8, .d (.lit (.string v5))), (40, .b true)] [(4, some (.box [.i 0, .d (.lit (.string (ByteArray.mk #[]))), .i 0, .i 0]))]) (by simp; exact Sub.table (by simp) (by simp)) ?_
     refine Chain.runK [] 5 fun K hK => ?_; simp; refine hK _ _ ?_; clear hK K
     refine Chain.sub (S' := mk 125 [] [(0, .d (.lit (.string a0))), (1, .i (n4 : Int)), (4, .ptr 4 0 0), (6, .d (.lit (.int .u8 v1))), (7, .i (n3 : Int)), (8, .d (.lit (.string v5))), (37, .b (decide ((v5.size : Int) ≤ 12)))] [(4, some (.box [.i 0, .d (.lit (.string (ByteArray.mk #[]))), .i 0, .i 0]))]) Sub.tt ?_
     cases h
     exact Chain.nil Sub.tt
    ·have c18_ : r17 = false := Bool.eq_false_iff.2 c18
     refine Chain.sub (Sub.bool 40 (b := r17) rfl c18_) ?_
     refine Chain.sub (S' := mk 125 [] [(0, .d (.lit (.string a0))), (1, .i (n4 : Int)), (4, .ptr 4 0 0), (6, .d (.lit (.int .u8 v1))), (7, .i (n3 : Int)), (8, .d (.lit (.string v5))), (40, .b false)] [(4, some (.box [.i 0, .d (.lit (.string (ByteArray.mk #[]))), .i 0, .i 0]))]) (by simp; exact Sub.table (by simp) (by simp)) ?_
     refine Chain.runK [] 5 fun K hK => ?_; simp; refine hK _ _ ?_; clear hK K
     refine Chain.sub (S' := mk 125 [] [(0, .d (.lit (.string a0))), (1, .i (n4 : Int)), (4, .ptr 4 0 0), (6, .d (.lit (.int .u8 v1))), (7, .i (n3 : Int)), (8, .d (.lit (.string v5))), (37, .b false)] [(4, some (.box [.i 0, .d (.lit (.string (ByteArray.mk #[]))), .i 0, .i 0]))]) Sub.tt ?_
     cases h
     exact Chain.nil Sub.tt
   ·clear hj
    replace h := isome h; rcases h with ⟨c19, h⟩ | ⟨c19, h⟩
    ·have c19_ : v16 = true := c19
     refine AW.condT (b := v16) rfl c19_ ?_
     refine AW.sub (Sub.bool 37 (b := v16) rfl c19_) ?_
     refine AW.sub (S' := mk 125 [] [(0, .d (.lit (.string a0))), (1, .i (n4 : Int)), (4, .ptr 4 0 0), (6, .d (.lit (.int .u8 v1))), (7, .i (n3 : Int)), (8, .d (.lit (.string v5))), (37, .b true)] [(4, some (.box [.i 0, .d (.lit (.string (ByteArray.mk #[]))), .i 0, .i 0]))]) (by simp; exact Sub.table (by simp) (by simp)) ?_
     refine AW.seqR ?_
     refine Chain.runK [] 5 fun K hK => ?_; simp; refine hK _ _ ?_; clear hK K
     refine Chain.sub (S' := mk 125 [] [(4, .ptr 4 0 0), (5, .i (n3 : Int))] [(4, some (.box [.i 1, .d (.lit (.string v5)), .i 0, .i 0]))]) Sub.tt ?_
     refine Chain.nil ?_
     refine AW.ret ?_
     cases h
     refine blockQ.ret ?_
     refine thenQ_pass (by simp) ?_
     exact FinC.ret (by simp) (by simp)
    ·have c19_ : v16 = false := Bool.eq_false_iff.2 c19
     refine AW.condF (b := v16) rfl c19_ ?_
     refine AW.sub (Sub.bool 37 (b := v16) rfl c19_) ?_
     refine AW.sub (S' := mk 125 [] [(0, .d (.lit (.string a0))), (1, .i (n4 : Int)), (4, .ptr 4 0 0), (6, .d (.lit (.int .u8 v1))), (7, .i (n3 : Int)), (8, .d (.lit (.string v5))), (37, .b false)] [(4, some (.box [.i 0, .d (.lit (.string (ByteArray.mk #[]))), .i 0, .i 0]))]) (by simp; exact Sub.table (by simp) (by simp)) ?_
     refine AW.seqR ?_
     refine Chain.runK [] 1 fun K hK => ?_; simp; refine hK _ _ ?_; clear hK K
     refine Chain.sub (S' := mk 125 [] [(0, .d (.lit (.string a0))), (1, .i (n4 : Int)), (4, .ptr 4 0 0), (6, .d (.lit (.int .u8 v1))), (7, .i (n3 : Int)), (8, .d (.lit (.string v5))), (49, .d (.lit (.int .u8 v1)))] [(4, some (.box [.i 0, .d (.lit (.string (ByteArray.mk #[]))), .i 0, .i 0]))]) Sub.tt ?_
     replace h := bsome h; obtain ⟨r20, hr20, h⟩ := h
     refine Chain.callL (d := 50) (p24 N v1 r20 hr20) (by simp) rfl rfl (by simp <;> rfl) (by simp <;> rfl) ent24 (by simp <;> rfl) ?_
     refine Chain.sub (S' := mk 125 [] [(0, .d (.lit (.string a0))), (1, .i (n4 : Int)), (4, .ptr 4 0 0), (6, .d (.lit (.int .u8 v1))), (7, .i (n3 : Int)), (8, .d (.lit (.string v5))), (49, .d (.lit (.int .u8 v1))), (50, .b r20)] [(4, some (.box [.i 0, .d (.lit (.string (ByteArray.mk #[]))), .i 0, .i 0]))]) (by simp; exact Sub.table (by simp) (by simp)) ?_
     refine Chain.runK [] 1 fun K hK => ?_; simp; refine hK _ _ ?_; clear hK K
     refine Chain.sub (S' := mk 125 [] [(0, .d (.lit (.string a0))), (1, .i (n4 : Int)), (4, .ptr 4 0 0), (6, .d (.lit (.int .u8 v1))), (7, .i (n3 : Int)), (8, .d (.lit (.string v5))), (48, .b r20)] [(4, some (.box [.i 0, .d (.lit (.string (ByteArray.mk #[]))), .i 0, .i 0]))]) Sub.tt ?_
     refine Chain.nil ?_
     replace h := isome h; rcases h with ⟨c21, h⟩ | ⟨c21, h⟩
     ·have c21_ : r20 = true := c21
      refine AW.condT (b := r20) rfl c21_ ?_
      refine AW.sub (Sub.bool 48 (b := r20) rfl c21_) ?_
      refine AW.sub (S' := mk 125 [] [(0, .d (.lit (.string a0))), (1, .i (n4 : Int)), (4, .ptr 4 0 0), (6, .d (.lit (.int .u8 v1))), (7, .i (n3 : Int)), (8, .d (.lit (.string v5))), (48, .b true)] [(4, some (.box [.i 0, .d (.lit (.string (ByteArray.mk #[]))), .i 0, .i 0]))]) (by simp; exact Sub.table (by simp) (by simp)) ?_
      refine AW.seqR ?_
      refine Chain.runK [] 1 fun K hK => ?_; simp; refine hK _ _ ?_; clear hK K
      refine Chain.sub (S' := mk 125 [] [(4, .ptr 4 0 0), (6, .d (.lit (.int .u8 v1))), (7, .i (n3 : Int)), (8, .d (.lit (.string v5))), (52, .d (.lit (.string v5)))] [(4, some (.box [.i 0, .d (.lit (.string (ByteArray.mk #[]))), .i 0, .i 0]))]) Sub.tt ?_
      replace h := bsome h; obtain ⟨r22, hr22, h⟩ := h
      refine Chain.callC (d := 53) (p25 N v5 r22 hr22) (by simp) rfl rfl (by simp <;> rfl) (by simp <;> rfl) ent25 (by simp) (.inl ⟨by simp, by simp⟩) ?_
      refine Chain.sub (S' := mk 125 [] [(4, .ptr 4 0 0), (6, .d (.lit (.int .u8 v1))), (7, .i (n3 : Int)), (8, .d (.lit (.string v5))), (52, .d (.lit (.string v5))), (53, .tup [.i r22.1, .d (.er r22.2)])] [(4, some (.box [.i 0, .d (.lit (.string (ByteArray.mk #[]))), .i 0, .i 0]))]) (by simp; exact Sub.table (by simp) (by simp)) ?_
      refine Chain.runK [] 5 fun K hK => ?_; simp; refine hK _ _ ?_; clear hK K
      refine Chain.sub (S' := mk 125 [] [(4, .ptr 4 0 0), (6, .d (.lit (.int .u8 v1))), (7, .i (n3 : Int)), (8, .d (.lit (.string v5))), (9, .i r22.1), (10, .d (.er r22.2))] [(4, some (.box [.i 0, .d (.lit (.string (ByteArray.mk #[]))), .i 0, .i 0]))]) Sub.tt ?_
      refine Chain.nil ?_
      replace h := bsome h; obtain ⟨v26, hj, h⟩ := h
      refine AW.cutR (mk 125 [] [(4, .ptr 4 0 0), (7, .i (n3 : Int)), (9, .i r22.1), (69, .b v26)] [(4, some (.box [.i 0, .d (.lit (.string (ByteArray.mk #[]))), .i 0, .i 0]))]) ?_ ?_
      ·clear h; have h := hj; clear hj
       refine Chain.runK [] 3 fun K hK => ?_; simp; refine hK _ _ ?_; clear hK K
       refine Chain.sub (S' := mk 125 [] [(4, .ptr 4 0 0), (6, .d (.lit (.int .u8 v1))), (7, .i (n3 : Int)), (8, .d (.lit (.string v5))), (9, .i r22.1), (58, .b (!r22.2))] [(4, some (.box [.i 0, .d (.lit (.string (ByteArray.mk #[]))), .i 0, .i 0]))]) Sub.tt ?_
       replace h := isome h; rcases h with ⟨c27, h⟩ | ⟨c27, h⟩
       ·have c27_ : (!r22.2) = true := c27
        refine Chain.sub (Sub.bool 58 (b := (!r22.2)) rfl c27_) ?_
        refine Chain.sub (S' := mk 125 [] [(4, .ptr 4 0 0), (6, .d (.lit (.int .u8 v1))), (7, .i (n3 : Int)), (8, .d (.lit (.string v5))), (9, .i r22.1), (58, .b true)] [(4, some (.box [.i 0, .d (.lit (.string (ByteArray.mk #[]))), .i 0, .i 0]))]) (by simp; exact Sub.table (by simp) (by simp)) ?_
        refine Chain.runK [] 4 fun K hK => ?_; simp; refine hK _ _ ?_; clear hK K
        refine Chain.sub (S' := mk 125 [] [(4, .ptr 4 0 0), (6, .d (.lit (.int .u8 v1))), (7, .i (n3 : Int)), (8, .d (.lit (.string v5))), (9, .i r22.1), (62, .b (decide (r22.1 ≤ 1000000000000)))] [(4, some (.box [.i 0, .d (.lit (.string (ByteArray.mk #[]))), .i 0, .i 0]))]) Sub.tt ?_
        replace h := isome h; rcases h with ⟨c28, h⟩ | ⟨c28, h⟩
        ·have c28_ : decide (r22.1 ≤ 1000000000000) = true := decide_eq_true c28
         refine Chain.sub (Sub.bool 62 (b := decide (r22.1 ≤ 1000000000000)) rfl c28_) ?_
         refine Chain.sub (S' := mk 125 [] [(4, .ptr 4 0 0), (6, .d (.lit (.int .u8 v1))), (7, .i (n3 : Int)), (8, .d (.lit (.string v5))), (9, .i r22.1), (62, .b true)] [(4, some (.box [.i 0, .d (.lit (.string (ByteArray.mk #[]))), .i 0, .i 0]))]) (by simp; exact Sub.table (by simp) (by simp)) ?_
         refine Chain.runK [] 3 fun K hK => ?_; simp; refine hK _ _ ?_; clear hK K
         refine Chain.sub (S' := mk 125 [] [(4, .ptr 4 0 0), (6, .d (.lit (.int .u8 v1))), (7, .i (n3 : Int)), (9, .i r22.1), (62, .b true), (65, .b (decide (v5 = (ByteArray.mk #[48]))))] [(4, some (.box [.i 0, .d (.lit (.string (ByteArray.mk #[]))), .i 0, .i 0]))]) Sub.tt ?_
         replace h := isome h; rcases h with ⟨c29, h⟩ | ⟨c29, h⟩
         ·have c29_ : decide (v5 = (ByteArray.mk #[48])) = true := c29
          refine Chain.sub (Sub.bool 65 (b := decide (v5 = (ByteArray.mk #[48]))) rfl c29_) ?_
          refine Chain.sub (S' := mk 125 [] [(4, .ptr 4 0 0), (6, .d (.lit (.int .u8 v1))), (7, .i (n3 : Int)), (9, .i r22.1), (62, .b true), (65, .b true)] [(4, some (.box [.i 0, .d (.lit (.string (ByteArray.mk #[]))), .i 0, .i 0]))]) (by simp; exact Sub.table (by simp) (by simp)) ?_
          refine Chain.runK [] 4 fun K hK => ?_; simp; refine hK _ _ ?_; clear hK K
          refine Chain.sub (S' := mk 125 [] [(4, .ptr 4 0 0), (7, .i (n3 : Int)), (9, .i r22.1), (69, .b true)] [(4, some (.box [.i 0, .d (.lit (.string (ByteArray.mk #[]))), .i 0, .i 0]))]) Sub.tt ?_
          cases h
          exact Chain.nil Sub.tt
         ·have c29_ : decide (v5 = (ByteArray.mk #[48])) = false := Bool.eq_false_iff.2 c29
          refine Chain.sub (Sub.bool 65 (b := decide (v5 = (ByteArray.mk #[48]))) rfl c29_) ?_
          refine Chain.sub (S' := mk 125 [] [(4, .ptr 4 0 0), (6, .d (.lit (.int .u8 v1))), (7, .i (n3 : Int)), (9, .i r22.1), (62, .b true), (65, .b false)] [(4, some (.box [.i 0, .d (.lit (.string (ByteArray.mk #[]))), .i 0, .i 0]))]) (by simp; exact Sub.table (by simp) (by simp)) ?_
          refine Chain.runK [] 4 fun K hK => ?_; simp; refine hK _ _ ?_; clear hK K
          refine Chain.sub (S' := mk 125 [] [(4, .ptr 4 0 0), (7, .i (n3 : Int)), (9, .i r22.1), (69, .b (v1 != 48))] [(4, some (.box [.i 0, .d (.lit (.string (ByteArray.mk #[]))), .i 0, .i 0]))]) Sub.tt ?_
          cases h
          exact Chain.nil Sub.tt
        ·have c28_ : decide (r22.1 ≤ 1000000000000) = false := decide_eq_false c28
         refine Chain.sub (Sub.bool 62 (b := decide (r22.1 ≤ 1000000000000)) rfl c28_) ?_
         refine Chain.sub (S' := mk 125 [] [(4, .ptr 4 0 0), (6, .d (.lit (.int .u8 v1))), (7, .i (n3 : Int)), (8, .d (.lit (.string v5))), (9, .i r22.1), (62, .b false)] [(4, some (.box [.i 0, .d (.lit (.string (ByteArray.mk #[]))), .i 0, .i 0]))]) (by simp; exact Sub.table (by simp) (by simp)) ?_
         refine Chain.runK [] 7 fun K hK => ?_; simp; refine hK _ _ ?_; clear hK K
         refine Chain.sub (S' := mk 125 [] [(4, .ptr 4 0 0), (7, .i (n3 : Int)), (9, .i r22.1), (69, .b false)] [(4, some (.box [.i 0, .d (.lit (.string (ByteArray.mk #[]))), .i 0, .i 0]))]) Sub.tt ?_
         cases h
         exact Chain.nil Sub.tt
       ·have c27_ : (!r22.2) = false := Bool.eq_false_iff.2 c27
        refine Chain.sub (Sub.bool 58 (b := (!r22.2)) rfl c27_) ?_
        refine Chain.sub (S' := mk 125 [] [(4, .ptr 4 0 0), (6, .d (.lit (.int .u8 v1))), (7, .i (n3 : Int)), (8, .d (.lit (.string v5))), (9, .i r22.1), (58, .b false)] [(4, some (.box [.i 0, .d (.lit (.string (ByteArray.mk #[]))), .i 0, .i 0]))]) (by simp; exact Sub.table (by simp) (by simp)) ?_
        refine Chain.runK [] 11 fun K hK => ?_; simp; refine hK _ _ ?_; clear hK K
        refine Chain.sub (S' := mk 125 [] [(4, .ptr 4 0 0), (7, .i (n3 : Int)), (9, .i r22.1), (69, .b false)] [(4, some (.box [.i 0, .d (.lit (.string (ByteArray.mk #[]))), .i 0, .i 0]))]) Sub.tt ?_
        cases h
        exact Chain.nil Sub.tt
      ·clear hj
       replace h := isome h; rcases h with ⟨c30, h⟩ | ⟨c30, h⟩
       ·have c30_ : v26 = true := c30
        refine AW.condT (b := v26) rfl c30_ ?_
        refine AW.sub (Sub.bool 69 (b := v26) rfl c30_) ?_
        refine AW.sub (S' := mk 125 [] [(4, .ptr 4 0 0), (7, .i (n3 : Int)), (9, .i r22.1), (69, .b true)] [(4, some (.box [.i 0, .d (.lit (.string (ByteArray.mk #[]))), .i 0, .i 0]))]) (by simp; exact Sub.table (by simp) (by simp)) ?_
        refine AW.seqR ?_
        refine Chain.runK [] 5 fun K hK => ?_; simp; refine hK _ _ ?_; clear hK K
        refine Chain.sub (S' := mk 125 [] [(4, .ptr 4 0 0), (5, .i (n3 : Int))] [(4, some (.box [.i 3, .d (.lit (.string (ByteArray.mk #[]))), .i r22.1, .i 0]))]) Sub.tt ?_
        refine Chain.nil ?_
        refine AW.ret ?_
        cases h
        refine blockQ.ret ?_
        refine thenQ_pass (by simp) ?_
        exact FinC.ret (by simp) (by simp)
       ·have c30_ : v26 = false := Bool.eq_false_iff.2 c30
        refine AW.condF (b := v26) rfl c30_ ?_
        refine AW.sub (Sub.bool 69 (b := v26) rfl c30_) ?_
        refine AW.sub (S' := mk 125 [] [(4, .ptr 4 0 0), (7, .i (n3 : Int)), (9, .i r22.1), (69, .b false)] [(4, some (.box [.i 0, .d (.lit (.string (ByteArray.mk #[]))), .i 0, .i 0]))]) (by simp; exact Sub.table (by simp) (by simp)) ?_
        refine AW.skip ?_
        refine blockQ.normal ?_
        refine thenQ_normal ?_
        refine AW.seqR ?_
        refine Chain.runK [] 3 fun K hK => ?_; simp; refine hK _ _ ?_; clear hK K
        refine Chain.sub (S' := mk 125 [] [(4, .ptr 4 0 0), (5, .i (-1))] [(4, some (.box [.i 0, .d (.lit (.string (ByteArray.mk #[]))), .i 0, .i 0]))]) Sub.tt ?_
        refine Chain.nil ?_
        refine AW.ret ?_
        cases h
        exact FinC.ret (by simp) (by simp)
     ·have c21_ : r20 = false := Bool.eq_false_iff.2 c21
      refine AW.condF (b := r20) rfl c21_ ?_
      refine AW.sub (Sub.bool 48 (b := r20) rfl c21_) ?_
      refine AW.sub (S' := mk 125 [] [(0, .d (.lit (.string a0))), (1, .i (n4 : Int)), (4, .ptr 4 0 0), (6, .d (.lit (.int .u8 v1))), (7, .i (n3 : Int)), (8, .d (.lit (.string v5))), (48, .b false)] [(4, some (.box [.i 0, .d (.lit (.string (ByteArray.mk #[]))), .i 0, .i 0]))]) (by simp; exact Sub.table (by simp) (by simp)) ?_
      refine AW.seqR ?_
      refine Chain.runK [] 3 fun K hK => ?_; simp; refine hK _ _ ?_; clear hK K
      refine Chain.sub (S' := mk 125 [] [(0, .d (.lit (.string a0))), (1, .i (n4 : Int)), (4, .ptr 4 0 0), (6, .d (.lit (.int .u8 v1))), (73, .b (v1 == 63))] [(4, some (.box [.i 0, .d (.lit (.string (ByteArray.mk #[]))), .i 0, .i 0]))]) Sub.tt ?_
      refine Chain.nil ?_
      replace h := isome h; rcases h with ⟨c31, h⟩ | ⟨c31, h⟩
      ·have c31_ : (v1 == 63) = true := c31
       refine AW.condT (b := (v1 == 63)) rfl c31_ ?_
       refine AW.sub (Sub.bool 73 (b := (v1 == 63)) rfl c31_) ?_
       refine AW.sub (S' := mk 125 [] [(0, .d (.lit (.string a0))), (1, .i (n4 : Int)), (4, .ptr 4 0 0), (6, .d (.lit (.int .u8 v1))), (73, .b true)] [(4, some (.box [.i 0, .d (.lit (.string (ByteArray.mk #[]))), .i 0, .i 0]))]) (by simp; exact Sub.table (by simp) (by simp)) ?_
       refine AW.seqR ?_
       replace h := bsome h; obtain ⟨v32, hv32, h⟩ := h
       have hv32 := chkI_some hv32
       refine Chain.runK [] 6 fun K hK => ?_; simp [hv32]; refine hK _ _ ?_; clear hK K
       refine Chain.sub (S' := mk 125 [] [(1, .i (n4 : Int)), (4, .ptr 4 0 0), (76, .d (.lit (.string a0))), (78, .i v32), (79, .d (.lit (.string a0))), (81, .i v32)] [(4, some (.box [.i 0, .d (.lit (.string (ByteArray.mk #[]))), .i 0, .i 0]))]) Sub.tt ?_
       replace h := bsome h; obtain ⟨r33, hr33, h⟩ := h
       refine Chain.callL (d := 82) (p21 N a0 v32 r33 hr33) (by simp) rfl rfl (by simp <;> rfl) (by simp <;> rfl) ent21 (by simp <;> rfl) ?_
       refine Chain.sub (S' := mk 125 [] [(1, .i (n4 : Int)), (4, .ptr 4 0 0), (76, .d (.lit (.string a0))), (78, .i v32), (79, .d (.lit (.string a0))), (81, .i v32), (82, .i r33)] [(4, some (.box [.i 0, .d (.lit (.string (ByteArray.mk #[]))), .i 0, .i 0]))]) (by simp; exact Sub.table (by simp) (by simp)) ?_
       replace h := bsome h; obtain ⟨n34, gn34, h⟩ := h
       obtain ⟨hn34a, hn34⟩ := natI_some gn34
       clear gn34
       subst hn34a
       replace h := bsome h; obtain ⟨n35, gn35, h⟩ := h
       obtain ⟨hn35a, hn35⟩ := natI_some gn35
       clear gn35
       subst hn35a
       replace h := lsome h; obtain ⟨v36, hv36, h⟩ := h
       refine Chain.runK [] 2 fun K hK => ?_; simp [hn34, hn35, hv36]; refine hK _ _ ?_; clear hK K
       refine Chain.sub (S' := mk 125 [] [(1, .i (n4 : Int)), (4, .ptr 4 0 0), (11, .d (.lit (.string v36)))] [(4, some (.box [.i 0, .d (.lit (.string (ByteArray.mk #[]))), .i 0, .i 0]))]) Sub.tt ?_
       refine Chain.nil ?_
       replace h := bsome h; obtain ⟨v46, hj, h⟩ := h
       refine AW.cutR (mk 125 [] [(1, .i (n4 : Int)), (4, .ptr 4 0 0), (11, .d (.lit (.string v36))), (106, .b v46)] [(4, some (.box [.i 0, .d (.lit (.string (ByteArray.mk #[]))), .i 0, .i 0]))]) ?_ ?_
       ·clear h; have h := hj; clear hj
        refine Chain.runK [] 4 fun K hK => ?_; simp; refine hK _ _ ?_; clear hK K
        refine Chain.sub (S' := mk 125 [] [(1, .i (n4 : Int)), (4, .ptr 4 0 0), (11, .d (.lit (.string v36))), (87, .b ((v36.size : Int) == 2))] [(4, some (.box [.i 0, .d (.lit (.string (ByteArray.mk #[]))), .i 0, .i 0]))]) Sub.tt ?_
        replace h := isome h; rcases h with ⟨c47, h⟩ | ⟨c47, h⟩
        ·have c47_ : ((v36.size : Int) == 2) = true := c47
         refine Chain.sub (Sub.bool 87 (b := ((v36.size : Int) == 2)) rfl c47_) ?_
         refine Chain.sub (S' := mk 125 [] [(1, .i (n4 : Int)), (4, .ptr 4 0 0), (11, .d (.lit (.string v36))), (87, .b true)] [(4, some (.box [.i 0, .d (.lit (.string (ByteArray.mk #[]))), .i 0, .i 0]))]) (by simp; exact Sub.table (by simp) (by simp)) ?_
         replace h := bsome h; obtain ⟨v48, gv48, h⟩ := h
         obtain ⟨bv48, hv48a, hv48b⟩ := idxB_someN (n := 0) gv48
         refine Chain.runK [] 2 fun K hK => ?_; simp [hv48a, hv48b]; refine hK _ _ ?_; clear hK K
         refine Chain.sub (S' := mk 125 [] [(1, .i (n4 : Int)), (4, .ptr 4 0 0), (11, .d (.lit (.string v36))), (87, .b true), (89, .d (.lit (.int .u8 v48)))] [(4, some (.box [.i 0, .d (.lit (.string (ByteArray.mk #[]))), .i 0, .i 0]))]) Sub.tt ?_
         replace h := bsome h; obtain ⟨r49, hr49, h⟩ := h
         refine Chain.callL (d := 90) (p24 N v48 r49 hr49) (by simp) rfl rfl (by simp <;> rfl) (by simp <;> rfl) ent24 (by simp <;> rfl) ?_
         refine Chain.sub (S' := mk 125 [] [(1, .i (n4 : Int)), (4, .ptr 4 0 0), (11, .d (.lit (.string v36))), (87, .b true), (89, .d (.lit (.int .u8 v48))), (90, .b r49)] [(4, some (.box [.i 0, .d (.lit (.string (ByteArray.mk #[]))), .i 0, .i 0]))]) (by simp; exact Sub.table (by simp) (by simp)) ?_
         refine Chain.runK [] 2 fun K hK => ?_; simp; refine hK _ _ ?_; clear hK K
         refine Chain.sub (S' := mk 125 [] [(1, .i (n4 : Int)), (4, .ptr 4 0 0), (11, .d (.lit (.string v36))), (92, .b r49)] [(4, some (.box [.i 0, .d (.lit (.string (ByteArray.mk #[]))), .i 0, .i 0]))]) Sub.tt ?_
         replace h := isome h; rcases h with ⟨c50, h⟩ | ⟨c50, h⟩
         ·have c50_ : r49 = true := c50
          refine Chain.sub (Sub.bool 92 (b := r49) rfl c50_) ?_
          refine Chain.sub (S' := mk 125 [] [(1, .i (n4 : Int)), (4, .ptr 4 0 0), (11, .d (.lit (.string v36))), (92, .b true)] [(4, some (.box [.i 0, .d (.lit (.string (ByteArray.mk #[]))), .i 0, .i 0]))]) (by simp; exact Sub.table (by simp) (by simp)) ?_
          replace h := bsome h; obtain ⟨v51, gv51, h⟩ := h
          obtain ⟨bv51, hv51a, hv51b⟩ := idxB_someN (n := 1) gv51
          refine Chain.runK [] 4 fun K hK => ?_; simp [hv51a, hv51b]; refine hK _ _ ?_; clear hK K
          refine Chain.sub (S' := mk 125 [] [(1, .i (n4 : Int)), (4, .ptr 4 0 0), (11, .d (.lit (.string v36))), (92, .b true), (96, .b (v51 == 105))] [(4, some (.box [.i 0, .d (.lit (.string (ByteArray.mk #[]))), .i 0, .i 0]))]) Sub.tt ?_
          replace h := isome h; rcases h with ⟨c52, h⟩ | ⟨c52, h⟩
          ·have c52_ : (v51 == 105) = true := c52
           refine Chain.sub (Sub.bool 96 (b := (v51 == 105)) rfl c52_) ?_
           refine Chain.sub (S' := mk 125 [] [(1, .i (n4 : Int)), (4, .ptr 4 0 0), (11, .d (.lit (.string v36))), (92, .b true), (96, .b true)] [(4, some (.box [.i 0, .d (.lit (.string (ByteArray.mk #[]))), .i 0, .i 0]))]) (by simp; exact Sub.table (by simp) (by simp)) ?_
           refine Chain.runK [] 10 fun K hK => ?_; simp; refine hK _ _ ?_; clear hK K
           refine Chain.sub (S' := mk 125 [] [(1, .i (n4 : Int)), (4, .ptr 4 0 0), (11, .d (.lit (.string v36))), (106, .b true)] [(4, some (.box [.i 0, .d (.lit (.string (ByteArray.mk #[]))), .i 0, .i 0]))]) Sub.tt ?_
           cases h
           exact Chain.nil Sub.tt
          ·have c52_ : (v51 == 105) = false := Bool.eq_false_iff.2 c52
           refine Chain.sub (Sub.bool 96 (b := (v51 == 105)) rfl c52_) ?_
           refine Chain.sub (S' := mk 125 [] [(1, .i (n4 : Int)), (4, .ptr 4 0 0), (11, .d (.lit (.string v36))), (92, .b true), (96, .b false)] [(4, some (.box [.i 0, .d (.lit (.string (ByteArray.mk #[]))), .i 0, .i 0]))]) (by simp; exact Sub.table (by simp) (by simp)) ?_
           replace h := bsome h; obtain ⟨v53, gv53, h⟩ := h
           obtain ⟨bv53, hv53a, hv53b⟩ := idxB_someN (n := 1) gv53
           refine Chain.runK [] 5 fun K hK => ?_; simp [hv53a, hv53b]; refine hK _ _ ?_; clear hK K
           refine Chain.sub (S' := mk 125 [] [(1, .i (n4 : Int)), (4, .ptr 4 0 0), (11, .d (.lit (.string v36))), (92, .b true), (101, .b (v53 == 98))] [(4, some (.box [.i 0, .d (.lit (.string (ByteArray.mk #[]))), .i 0, .i 0]))]) Sub.tt ?_
           replace h := isome h; rcases h with ⟨c54, h⟩ | ⟨c54, h⟩
           ·have c54_ : (v53 == 98) = true := c54
            refine Chain.sub (Sub.bool 101 (b := (v53 == 98)) rfl c54_) ?_
            refine Chain.sub (S' := mk 125 [] [(1, .i (n4 : Int)), (4, .ptr 4 0 0), (11, .d (.lit (.string v36))), (92, .b true), (101, .b true)] [(4, some (.box [.i 0, .d (.lit (.string (ByteArray.mk #[]))), .i 0, .i 0]))]) (by simp; exact Sub.table (by simp) (by simp)) ?_
            refine Chain.runK [] 5 fun K hK => ?_; simp; refine hK _ _ ?_; clear hK K
            refine Chain.sub (S' := mk 125 [] [(1, .i (n4 : Int)), (4, .ptr 4 0 0), (11, .d (.lit (.string v36))), (106, .b true)] [(4, some (.box [.i 0, .d (.lit (.string (ByteArray.mk #[]))), .i 0, .i 0]))]) Sub.tt ?_
            cases h
            exact Chain.nil Sub.tt
           ·have c54_ : (v53 == 98) = false := Bool.eq_false_iff.2 c54
            refine Chain.sub (Sub.bool 101 (b := (v53 == 98)) rfl c54_) ?_
            refine Chain.sub (S' := mk 125 [] [(1, .i (n4 : Int)), (4, .ptr 4 0 0), (11, .d (.lit (.string v36))), (92, .b true), (101, .b false)] [(4, some (.box [.i 0, .d (.lit (.string (ByteArray.mk #[]))), .i 0, .i 0]))]) (by simp; exact Sub.table (by simp) (by simp)) ?_
            replace h := bsome h; obtain ⟨v55, gv55, h⟩ := h
            obtain ⟨bv55, hv55a, hv55b⟩ := idxB_someN (n := 1) gv55
            refine Chain.runK [] 5 fun K hK => ?_; simp [hv55a, hv55b]; refine hK _ _ ?_; clear hK K
            refine Chain.sub (S' := mk 125 [] [(1, .i (n4 : Int)), (4, .ptr 4 0 0), (11, .d (.lit (.string v36))), (106, .b (v55 == 116))] [(4, some (.box [.i 0, .d (.lit (.string (ByteArray.mk #[]))), .i 0, .i 0]))]) Sub.tt ?_
            cases h
            exact Chain.nil Sub.tt
         ·have c50_ : r49 = false := Bool.eq_false_iff.2 c50
          refine Chain.sub (Sub.bool 92 (b := r49) rfl c50_) ?_
          refine Chain.sub (S' := mk 125 [] [(1, .i (n4 : Int)), (4, .ptr 4 0 0), (11, .d (.lit (.string v36))), (92, .b false)] [(4, some (.box [.i 0, .d (.lit (.string (ByteArray.mk #[]))), .i 0, .i 0]))]) (by simp; exact Sub.table (by simp) (by simp)) ?_
          refine Chain.runK [] 14 fun K hK => ?_; simp; refine hK _ _ ?_; clear hK K
          refine Chain.sub (S' := mk 125 [] [(1, .i (n4 : Int)), (4, .ptr 4 0 0), (11, .d (.lit (.string v36))), (106, .b false)] [(4, some (.box [.i 0, .d (.lit (.string (ByteArray.mk #[]))), .i 0, .i 0]))]) Sub.tt ?_
          cases h
          exact Chain.nil Sub.tt
        ·have c47_ : ((v36.size : Int) == 2) = false := Bool.eq_false_iff.2 c47
         refine Chain.sub (Sub.bool 87 (b := ((v36.size : Int) == 2)) rfl c47_) ?_
         refine Chain.sub (S' := mk 125 [] [(1, .i (n4 : Int)), (4, .ptr 4 0 0), (11, .d (.lit (.string v36))), (87, .b false)] [(4, some (.box [.i 0, .d (.lit (.string (ByteArray.mk #[]))), .i 0, .i 0]))]) (by simp; exact Sub.table (by simp) (by simp)) ?_
         refine Chain.runK [] 19 fun K hK => ?_; simp; refine hK _ _ ?_; clear hK K
         refine Chain.sub (S' := mk 125 [] [(1, .i (n4 : Int)), (4, .ptr 4 0 0), (11, .d (.lit (.string v36))), (106, .b false)] [(4, some (.box [.i 0, .d (.lit (.string (ByteArray.mk #[]))), .i 0, .i 0]))]) Sub.tt ?_
         cases h
         exact Chain.nil Sub.tt
       ·clear hj
        replace h := isome h; rcases h with ⟨c56, h⟩ | ⟨c56, h⟩
        ·have c56_ : v46 = true := c56
         refine AW.condT (b := v46) rfl c56_ ?_
         refine AW.sub (Sub.bool 106 (b := v46) rfl c56_) ?_
         refine AW.sub (S' := mk 125 [] [(1, .i (n4 : Int)), (4, .ptr 4 0 0), (11, .d (.lit (.string v36))), (106, .b true)] [(4, some (.box [.i 0, .d (.lit (.string (ByteArray.mk #[]))), .i 0, .i 0]))]) (by simp; exact Sub.table (by simp) (by simp)) ?_
         replace h := bsome h; obtain ⟨v57, gv57, h⟩ := h
         obtain ⟨bv57, hv57a, hv57b⟩ := idxB_someN (n := 0) gv57
         replace h := bsome h; obtain ⟨v58, hv58, h⟩ := h
         have hv58 := chkI_some hv58
         replace h := bsome h; obtain ⟨v59, hv59, h⟩ := h
         have hv59 := chkI_some hv59
         replace h := bsome h; obtain ⟨n60, gn60, h⟩ := h
         obtain ⟨hn60a, hn60⟩ := natI_some gn60
         have hn60b : (1 : Int) ≤ ((v36.size : Nat) : Int) := by omega
         replace hn60 : 1 ≤ v36.size := by omega
         clear gn60 hn60a
         replace h := lsome h; obtain ⟨v61, hv61, h⟩ := h
         replace h := bsome h; obtain ⟨v62, hv62, h⟩ := h
         have hv62 := chkI_some hv62
         refine AW.seqAnyS [[], [0], [0, 1], [0, 1, 2], [], [4], [0, 1, 2, 3, 4, 5], [], [7], [0, 1, 2, 3, 4, 5, 6], [0, 1, 2, 3, 4, 5, 6, 7, 8, 9]] (fun (b : Nat → Bool) => mk 125 [] [(1, .i (n4 : Int)), (4, .ptr 4 0 0), (5, (if b 10 then .i v62 else .junk)), (11, .d (.lit (.string v36))), (107, (if b 0 then .d (.lit (.string v36)) else .junk)), (108, (if b 1 then .d (.lit (.int .u8 v57)) else .junk)), (109, (if b 2 then .i v58 else .junk)), (110, (if b 3 then .i v59 else .junk)), (111, (if b 4 then .d (.lit (.string v36)) else .junk)), (112, (if b 5 then .d (.lit (.string v61)) else .junk)), (113, (if b 6 then .agg [.i 6, .d (.lit (.string v61)), .i v59, .i 0] else .junk)), (114, (if b 7 then .i (n4 : Int) else .junk)), (115, (if b 8 then .i v62 else .junk))] [(4, (if b 9 then some (.box [.i 6, .d (.lit (.string v61)), .i v59, .i 0]) else some (.box [.i 0, .d (.lit (.string (ByteArray.mk #[]))), .i 0, .i 0])))]) (mk 125 [] [(4, .ptr 4 0 0), (5, .i v62)] [(4, some (.box [.i 6, .d (.lit (.string v61)), .i v59, .i 0]))]) (by kernel_rfl) (by kernel_rfl) Sub.tt (Steps.cons ?_ (Steps.cons ?_ (Steps.cons ?_ (Steps.cons ?_ (Steps.cons ?_ (Steps.cons ?_ (Steps.cons ?_ (Steps.cons ?_ (Steps.cons ?_ (Steps.cons ?_ (Steps.cons ?_ (Steps.nil)))))))))))) ?_ ?_
         ·intro b h0 ha hd
          have f1 : b 1 = false := hd 1 (by decide)
          have f2 : b 2 = false := hd 2 (by decide)
          have f3 : b 3 = false := hd 3 (by decide)
          have f6 : b 6 = false := hd 6 (by decide)
          have f9 : b 9 = false := hd 9 (by decide)
          have f10 : b 10 = false := hd 10 (by decide)
          refine Chain.runK [] 1 fun K hK => ?_; simp [h0, f1, f2, f3, f6, f9, f10]; refine hK _ _ ?_; clear hK K
          exact Chain.nil (Sub.table (by simp [f1, f2, f3, f6, f10]) (by simp [f9]))
         ·intro b h0 ha hd
          have t0 : b 0 = true := ha 0 (by decide)
          have f2 : b 2 = false := hd 2 (by decide)
          have f3 : b 3 = false := hd 3 (by decide)
          have f6 : b 6 = false := hd 6 (by decide)
          have f9 : b 9 = false := hd 9 (by decide)
          have f10 : b 10 = false := hd 10 (by decide)
          refine Chain.runK [] 1 fun K hK => ?_; simp [h0, t0, f2, f3, f6, f9, f10, hv57a, hv57b]; refine hK _ _ ?_; clear hK K
          exact Chain.nil (Sub.table (by simp [t0, f2, f3, f6, f10]) (by simp [f9]))
         ·intro b h0 ha hd
          have t0 : b 0 = true := ha 0 (by decide)
          have t1 : b 1 = true := ha 1 (by decide)
          have f3 : b 3 = false := hd 3 (by decide)
          have f6 : b 6 = false := hd 6 (by decide)
          have f9 : b 9 = false := hd 9 (by decide)
          have f10 : b 10 = false := hd 10 (by decide)
          refine Chain.runK [] 1 fun K hK => ?_; simp [h0, t0, t1, f3, f6, f9, f10, hv58]; refine hK _ _ ?_; clear hK K
          exact Chain.nil (Sub.table (by simp [t0, t1, f3, f6, f10]) (by simp [f9]))
         ·intro b h0 ha hd
          have t0 : b 0 = true := ha 0 (by decide)
          have t1 : b 1 = true := ha 1 (by decide)
          have t2 : b 2 = true := ha 2 (by decide)
          have f6 : b 6 = false := hd 6 (by decide)
          have f9 : b 9 = false := hd 9 (by decide)
          have f10 : b 10 = false := hd 10 (by decide)
          refine Chain.runK [] 1 fun K hK => ?_; simp [h0, t0, t1, t2, f6, f9, f10, hv59]; refine hK _ _ ?_; clear hK K
          exact Chain.nil (Sub.table (by simp [t0, t1, t2, f6, f10]) (by simp [f9]))
         ·intro b h0 ha hd
          have f5 : b 5 = false := hd 5 (by decide)
          have f6 : b 6 = false := hd 6 (by decide)
          have f9 : b 9 = false := hd 9 (by decide)
          have f10 : b 10 = false := hd 10 (by decide)
          refine Chain.runK [] 1 fun K hK => ?_; simp [h0, f5, f6, f9, f10]; refine hK _ _ ?_; clear hK K
          exact Chain.nil (Sub.table (by simp [f5, f6, f10]) (by simp [f9]))
         ·intro b h0 ha hd
          have t4 : b 4 = true := ha 4 (by decide)
          have f6 : b 6 = false := hd 6 (by decide)
          have f9 : b 9 = false := hd 9 (by decide)
          have f10 : b 10 = false := hd 10 (by decide)
          refine Chain.runK [] 1 fun K hK => ?_; simp [h0, t4, f6, f9, f10, hn60b, hv61]; refine hK _ _ ?_; clear hK K
          exact Chain.nil (Sub.table (by simp [t4, f6, f10]) (by simp [f9]))
         ·intro b h0 ha hd
          have t0 : b 0 = true := ha 0 (by decide)
          have t1 : b 1 = true := ha 1 (by decide)
          have t2 : b 2 = true := ha 2 (by decide)
          have t3 : b 3 = true := ha 3 (by decide)
          have t4 : b 4 = true := ha 4 (by decide)
          have t5 : b 5 = true := ha 5 (by decide)
          have f9 : b 9 = false := hd 9 (by decide)
          have f10 : b 10 = false := hd 10 (by decide)
          refine Chain.runK [] 1 fun K hK => ?_; simp [h0, t0, t1, t2, t3, t4, t5, f9, f10]; refine hK _ _ ?_; clear hK K
          exact Chain.nil (Sub.table (by simp [t0, t1, t2, t3, t4, t5, f10]) (by simp [f9]))
         ·intro b h0 ha hd
          have f8 : b 8 = false := hd 8 (by decide)
          have f10 : b 10 = false := hd 10 (by decide)
          refine Chain.runK [] 1 fun K hK => ?_; simp [h0, f8, f10]; refine hK _ _ ?_; clear hK K
          exact Chain.nil (Sub.table (by simp [f8, f10]) (by simp))
         ·intro b h0 ha hd
          have t7 : b 7 = true := ha 7 (by decide)
          have f10 : b 10 = false := hd 10 (by decide)
          refine Chain.runK [] 1 fun K hK => ?_; simp [h0, t7, f10, hv62]; refine hK _ _ ?_; clear hK K
          exact Chain.nil (Sub.table (by simp [t7, f10]) (by simp))
         ·intro b h0 ha hd
          have t0 : b 0 = true := ha 0 (by decide)
          have t1 : b 1 = true := ha 1 (by decide)
          have t2 : b 2 = true := ha 2 (by decide)
          have t3 : b 3 = true := ha 3 (by decide)
          have t4 : b 4 = true := ha 4 (by decide)
          have t5 : b 5 = true := ha 5 (by decide)
          have t6 : b 6 = true := ha 6 (by decide)
          have f10 : b 10 = false := hd 10 (by decide)
          refine Chain.runK [] 1 fun K hK => ?_; simp [h0, t0, t1, t2, t3, t4, t5, t6, f10]; refine hK _ _ ?_; clear hK K
          exact Chain.nil (Sub.table (by simp [t0, t1, t2, t3, t4, t5, t6, f10]) (by simp))
         ·intro b h0 ha hd
          have t0 : b 0 = true := ha 0 (by decide)
          have t1 : b 1 = true := ha 1 (by decide)
          have t2 : b 2 = true := ha 2 (by decide)
          have t3 : b 3 = true := ha 3 (by decide)
          have t4 : b 4 = true := ha 4 (by decide)
          have t5 : b 5 = true := ha 5 (by decide)
          have t6 : b 6 = true := ha 6 (by decide)
          have t7 : b 7 = true := ha 7 (by decide)
          have t8 : b 8 = true := ha 8 (by decide)
          have t9 : b 9 = true := ha 9 (by decide)
          refine Chain.runK [] 1 fun K hK => ?_; simp [h0, t0, t1, t2, t3, t4, t5, t6, t7, t8, t9]; refine hK _ _ ?_; clear hK K
          exact Chain.nil (Sub.table (by simp [t0, t1, t2, t3, t4, t5, t6, t7, t8]) (by simp [t9]))
         ·intro b hb
          have t0 := hb 0 (by decide)
          have t1 := hb 1 (by decide)
          have t2 := hb 2 (by decide)
          have t3 := hb 3 (by decide)
          have t4 := hb 4 (by decide)
          have t5 := hb 5 (by decide)
          have t6 := hb 6 (by decide)
          have t7 := hb 7 (by decide)
          have t8 := hb 8 (by decide)
          have t9 := hb 9 (by decide)
          have t10 := hb 10 (by decide)
          exact Sub.table (by simp [t0, t1, t2, t3, t4, t5, t6, t7, t8, t10]) (by simp [t9])
         ·skip
          refine AW.ret ?_
          cases h
          refine blockQ.ret ?_
          refine thenQ_pass (by simp) ?_
          exact FinC.ret (by simp) (by simp)
        ·have c56_ : v46 = false := Bool.eq_false_iff.2 c56
         refine AW.condF (b := v46) rfl c56_ ?_
         refine AW.sub (Sub.bool 106 (b := v46) rfl c56_) ?_
         refine AW.sub (S' := mk 125 [] [(1, .i (n4 : Int)), (4, .ptr 4 0 0), (11, .d (.lit (.string v36))), (106, .b false)] [(4, some (.box [.i 0, .d (.lit (.string (ByteArray.mk #[]))), .i 0, .i 0]))]) (by simp; exact Sub.table (by simp) (by simp)) ?_
         refine AW.skip ?_
         refine blockQ.normal ?_
         refine thenQ_normal ?_
         refine AW.seqR ?_
         refine Chain.runK [] 3 fun K hK => ?_; simp; refine hK _ _ ?_; clear hK K
         refine Chain.sub (S' := mk 125 [] [(4, .ptr 4 0 0), (5, .i (-1))] [(4, some (.box [.i 0, .d (.lit (.string (ByteArray.mk #[]))), .i 0, .i 0]))]) Sub.tt ?_
         refine Chain.nil ?_
         refine AW.ret ?_
         cases h
         exact FinC.ret (by simp) (by simp)
      ·have c31_ : (v1 == 63) = false := Bool.eq_false_iff.2 c31
       refine AW.condF (b := (v1 == 63)) rfl c31_ ?_
       refine AW.sub (Sub.bool 73 (b := (v1 == 63)) rfl c31_) ?_
       refine AW.sub (S' := mk 125 [] [(0, .d (.lit (.string a0))), (1, .i (n4 : Int)), (4, .ptr 4 0 0), (6, .d (.lit (.int .u8 v1))), (73, .b false)] [(4, some (.box [.i 0, .d (.lit (.string (ByteArray.mk #[]))), .i 0, .i 0]))]) (by simp; exact Sub.table (by simp) (by simp)) ?_
       refine AW.seqR ?_
       refine Chain.runK [] 3 fun K hK => ?_; simp; refine hK _ _ ?_; clear hK K
       refine Chain.sub (S' := mk 125 [] [(0, .d (.lit (.string a0))), (1, .i (n4 : Int)), (4, .ptr 4 0 0), (116, .b (v1 == 39))] [(4, some (.box [.i 0, .d (.lit (.string (ByteArray.mk #[]))), .i 0, .i 0]))]) Sub.tt ?_
       refine Chain.nil ?_
       replace h := isome h; rcases h with ⟨c63, h⟩ | ⟨c63, h⟩
       ·have c63_ : (v1 == 39) = true := c63
        refine AW.condT (b := (v1 == 39)) rfl c63_ ?_
        refine AW.sub (Sub.bool 116 (b := (v1 == 39)) rfl c63_) ?_
        refine AW.sub (S' := mk 125 [] [(0, .d (.lit (.string a0))), (1, .i (n4 : Int)), (4, .ptr 4 0 0), (116, .b true)] [(4, some (.box [.i 0, .d (.lit (.string (ByteArray.mk #[]))), .i 0, .i 0]))]) (by simp; exact Sub.table (by simp) (by simp)) ?_
        refine AW.seqR ?_
        refine Chain.runK [] 2 fun K hK => ?_; simp; refine hK _ _ ?_; clear hK K
        refine Chain.sub (S' := mk 125 [] [(4, .ptr 4 0 0), (119, .d (.lit (.string a0))), (120, .i (n4 : Int))] [(4, some (.box [.i 0, .d (.lit (.string (ByteArray.mk #[]))), .i 0, .i 0]))]) Sub.tt ?_
        replace h := bsome h; obtain ⟨r64, hr64, h⟩ := h
        refine Chain.callC (d := 121) (p26 N a0 (n4 : Int) r64 hr64) (by simp) rfl rfl (by simp <;> rfl) (by simp <;> rfl) ent26 (by simp) (.inl ⟨by simp, by simp⟩) ?_
        refine Chain.sub (S' := mk 125 [] [(4, .ptr 4 0 0), (119, .d (.lit (.string a0))), (120, .i (n4 : Int)), (121, .tup [.agg [.i r64.1.Kind, .d (.lit (.string r64.1.Text)), .i r64.1.Number, .i r64.1.Offset], .i r64.2])] [(4, some (.box [.i 0, .d (.lit (.string (ByteArray.mk #[]))), .i 0, .i 0]))]) (by simp; exact Sub.table (by simp) (by simp)) ?_
        refine Chain.runK [] 4 fun K hK => ?_; simp; refine hK _ _ ?_; clear hK K
        refine Chain.sub (S' := mk 125 [] [(4, .ptr 4 0 0), (5, .i r64.2)] [(4, some (.box [.i r64.1.Kind, .d (.lit (.string r64.1.Text)), .i r64.1.Number, .i r64.1.Offset]))]) Sub.tt ?_
        refine Chain.nil ?_
        refine AW.ret ?_
        cases h
        refine blockQ.ret ?_
        refine thenQ_pass (by simp) ?_
        exact FinC.ret (by simp) (by simp)
       ·have c63_ : (v1 == 39) = false := Bool.eq_false_iff.2 c63
        refine AW.condF (b := (v1 == 39)) rfl c63_ ?_
        refine AW.sub (Sub.bool 116 (b := (v1 == 39)) rfl c63_) ?_
        refine AW.sub (S' := mk 125 [] [(0, .d (.lit (.string a0))), (1, .i (n4 : Int)), (4, .ptr 4 0 0), (116, .b false)] [(4, some (.box [.i 0, .d (.lit (.string (ByteArray.mk #[]))), .i 0, .i 0]))]) (by simp; exact Sub.table (by simp) (by simp)) ?_
        refine AW.seqR ?_
        refine Chain.runK [] 2 fun K hK => ?_; simp; refine hK _ _ ?_; clear hK K
        refine Chain.sub (S' := mk 125 [] [(4, .ptr 4 0 0), (22, .d (.lit (.string a0))), (23, .i (n4 : Int))] [(4, some (.box [.i 0, .d (.lit (.string (ByteArray.mk #[]))), .i 0, .i 0]))]) Sub.tt ?_
        replace h := bsome h; obtain ⟨r65, hr65, h⟩ := h
        refine Chain.callC (d := 24) (p27 N a0 (n4 : Int) r65 hr65) (by simp) rfl rfl (by simp <;> rfl) (by simp <;> rfl) ent27 (by simp) (.inl ⟨by simp, by simp⟩) ?_
        refine Chain.sub (S' := mk 125 [] [(4, .ptr 4 0 0), (22, .d (.lit (.string a0))), (23, .i (n4 : Int)), (24, .tup [.agg [.i r65.1.Kind, .d (.lit (.string r65.1.Text)), .i r65.1.Number, .i r65.1.Offset], .i r65.2])] [(4, some (.box [.i 0, .d (.lit (.string (ByteArray.mk #[]))), .i 0, .i 0]))]) (by simp; exact Sub.table (by simp) (by simp)) ?_
        refine Chain.runK [] 4 fun K hK => ?_; simp; refine hK _ _ ?_; clear hK K
        refine Chain.sub (S' := mk 125 [] [(4, .ptr 4 0 0), (5, .i r65.2)] [(4, some (.box [.i r65.1.Kind, .d (.lit (.string r65.1.Text)), .i r65.1.Number, .i r65.1.Offset]))]) Sub.tt ?_
        refine Chain.nil ?_
        refine AW.ret ?_
        cases h
        refine blockQ.ret ?_
        refine thenQ_pass (by simp) ?_
        exact FinC.ret (by simp) (by simp)

end Go.Proofs.YtdiekinmoklonabDoor
