/- Functions of the program as functional programs; the code computes them. -/
import Derived.Test.YtiikoldaocnilaaDk1
namespace Go.Proofs.Ytiikoldaocnilaa
open Go.Ab Go.Rp
attribute [-simp] List.all_eq_true Array.all_toList Array.all_eq_true

/-- (*stemma/disk.Disk).Crash -/
def d13 (N : Nat) (a0 : S64) (a1 : (List Bool)) : Option S64 :=
 Option.bind (α := List (List Int)) (
  iterN (σ := ((List (List Int)) × Int)) (ρ := List (List Int)) (fun ((l14, v15) : ((List (List Int)) × Int)) =>
   if v15 < (a0.pending.length : Int) then (
    (idx a0.pending v15).bind fun x48 =>
    Option.bind (α := Bool) (
     if v15 < (a1.length : Int) then (
      (idx a1 v15).bind fun x54 =>
      some x54
     ) else
     some false
    ) fun (v52 : Bool) =>
    if v52 = true then (
     (idx l14 x48.sector).bind fun _x56 =>
     letv (setI l14 x48.sector x48.data) fun l58 =>
     (chkI (v15 + 1)).bind fun v59 =>
     some (.inl (l58, v59))
    ) else
    (chkI (v15 + 1)).bind fun v60 =>
    some (.inl (l14, v60))
   ) else
   some (.inr l14)
  ) N (a0.durable, 0)
 ) fun (l46 : List (List Int)) =>
 some (S64.mk l46 ([] : List S66))
set_option maxRecDepth 100000 in
set_option maxHeartbeats 4000000 in
theorem p13 (N : Nat) (a0 : S64) (a1 : (List Bool)) (r : S64) (h : d13 N a0 a1 = some r) : FunM Try.prog 13 [.ptr 1000 0 0, .d (.sl (a1.map cB))] [(1000, some (.box [.ref 25000 0 a0.durable.length, .ref 25001 0 a0.pending.length])), (25000, some (.arr 30 1 (a0.durable.map (cL (cI .u8))))), (25001, some (.arr 66 2 (a0.pending.map cS66)))] [1000] (.tup []) ([(1000, (.box [.ref 25000 0 r.durable.length, .ref 25001 0 r.pending.length])), (25000, (.arr 30 1 (r.durable.map (cL (cI .u8))))), (25001, (.arr 66 2 (r.pending.map cS66)))]) := by
 unfold d13 at h
 refine FunM.enter 39 [(0, .ptr 1000 0 0), (1, .d (.sl (a1.map cB)))] Try.func13 rfl (of_decide_eq_true rfl) rfl rfl ?_
 refine AW.seq ?_
 refine AW.seqR ?_
 refine Chain.runK [] 6 fun K hK => ?_; simp; refine hK _ _ ?_; clear hK K
 refine Chain.sub (S' := mk 39 [1000] [(0, .ptr 1000 0 0), (1, .d (.sl (a1.map cB))), (9, .ref 25001 0 a0.pending.length), (10, .d (.lit (.int .i64 (a0.pending.length : Int)))), (11, .d (.lit (.int .i64 0)))] [(1000, some (.box [.ref 25000 0 a0.durable.length, .ref 25001 0 a0.pending.length])), (25000, some (.arr 30 1 (a0.durable.map (cL (cI .u8))))), (25001, some (.arr 66 2 (a0.pending.map cS66)))]) Sub.tt ?_
 refine Chain.nil ?_
 refine AW.lastN (fun (l46 : List (List Int)) => mk 39 [1000] [(0, .ptr 1000 0 0)] [(1000, some (.box [.ref 25000 0 l46.length, .ref 25001 0 a0.pending.length])), (25000, some (.arr 30 1 (l46.map (cL (cI .u8))))), (25001, some (.arr 66 2 (a0.pending.map cS66)))]) h ?_ ?_ <;> clear h
 ·intro o h
  refine AW.block ?_
  refine AW.iter (fun ((l14, v15) : ((List (List Int)) × Int)) => mk 39 [1000] [(0, .ptr 1000 0 0), (1, .d (.sl (a1.map cB))), (9, .ref 25001 0 a0.pending.length), (10, .d (.lit (.int .i64 (a0.pending.length : Int)))), (11, .d (.lit (.int .i64 v15)))] [(1000, some (.box [.ref 25000 0 l14.length, .ref 25001 0 a0.pending.length])), (25000, some (.arr 30 1 (l14.map (cL (cI .u8))))), (25001, some (.arr 66 2 (a0.pending.map cS66)))]) h Sub.tt ?_
  clear h
  rintro ⟨l14, v15⟩ x h
  dsimp only at h ⊢
  refine AW.seqR ?_
  refine Chain.runK [] 1 fun K hK => ?_; simp; refine hK _ _ ?_; clear hK K
  refine Chain.sub (S' := mk 39 [1000] [(0, .ptr 1000 0 0), (1, .d (.sl (a1.map cB))), (9, .ref 25001 0 a0.pending.length), (10, .d (.lit (.int .i64 (a0.pending.length : Int)))), (11, .d (.lit (.int .i64 v15))), (12, .d (.lit (.bool (decide (v15 < (a0.pending.length : Int))))))] [(1000, some (.box [.ref 25000 0 l14.length, .ref 25001 0 a0.pending.length])), (25000, some (.arr 30 1 (l14.map (cL (cI .u8))))), (25001, some (.arr 66 2 (a0.pending.map cS66)))]) Sub.tt ?_
  refine Chain.nil ?_
  refine AW.seq ?_
  replace h := isome h; rcases h with ⟨c47, h⟩ | ⟨c47, h⟩
  ·have c47_ : decide (v15 < (a0.pending.length : Int)) = true := decide_eq_true c47
   refine AW.condT (b := decide (v15 < (a0.pending.length : Int))) rfl c47_ ?_
   refine AW.sub (Sub.bool 12 (b := decide (v15 < (a0.pending.length : Int))) rfl c47_) ?_
   refine AW.sub (S' := mk 39 [1000] [(0, .ptr 1000 0 0), (1, .d (.sl (a1.map cB))), (9, .ref 25001 0 a0.pending.length), (10, .d (.lit (.int .i64 (a0.pending.length : Int)))), (11, .d (.lit (.int .i64 v15))), (12, .d (.lit (.bool true)))] [(1000, some (.box [.ref 25000 0 l14.length, .ref 25001 0 a0.pending.length])), (25000, some (.arr 30 1 (l14.map (cL (cI .u8))))), (25001, some (.arr 66 2 (a0.pending.map cS66)))]) (by simp; exact Sub.table (by simp) (by simp)) ?_
   refine AW.skip ?_
   refine thenQ_normal ?_
   refine AW.seq ?_
   refine AW.block ?_
   refine AW.seqR ?_
   replace h := bsome h; obtain ⟨x48, hx48, h⟩ := h
   obtain ⟨k49, hx48k, hx48, hx48a, hx48b⟩ := idx_some hx48
   refine Chain.runK [] 6 fun K hK => ?_; simp [hx48, hx48k, hx48a, hx48b]; refine hK _ _ ?_; clear hK K
   refine Chain.sub (S' := mk 39 [1000] [(0, .ptr 1000 0 0), (1, .d (.sl (a1.map cB))), (4, .d (.lit (.int .i64 v15))), (5, .ptr 5 0 0), (9, .ref 25001 0 a0.pending.length), (10, .d (.lit (.int .i64 (a0.pending.length : Int)))), (11, .d (.lit (.int .i64 v15)))] [(5, some (.box [.d (.lit (.int .i64 x48.sector)), .d (.sl (x48.data.map (cI .u8)))])), (1000, some (.box [.ref 25000 0 l14.length, .ref 25001 0 a0.pending.length])), (25000, some (.arr 30 1 (l14.map (cL (cI .u8))))), (25001, some (.arr 66 2 (a0.pending.map cS66)))]) Sub.tt ?_
   refine Chain.nil ?_
   replace h := bsome h; obtain ⟨v52, hj, h⟩ := h
   refine AW.cutR (mk 39 [1000] [(0, .ptr 1000 0 0), (1, .d (.sl (a1.map cB))), (5, .ptr 5 0 0), (9, .ref 25001 0 a0.pending.length), (10, .d (.lit (.int .i64 (a0.pending.length : Int)))), (11, .d (.lit (.int .i64 v15))), (25, .d (.lit (.bool v52)))] [(5, some (.box [.d (.lit (.int .i64 x48.sector)), .d (.sl (x48.data.map (cI .u8)))])), (1000, some (.box [.ref 25000 0 l14.length, .ref 25001 0 a0.pending.length])), (25000, some (.arr 30 1 (l14.map (cL (cI .u8))))), (25001, some (.arr 66 2 (a0.pending.map cS66)))]) ?_ ?_
   ·clear h; have h := hj; clear hj
    refine Chain.runK [] 5 fun K hK => ?_; simp; refine hK _ _ ?_; clear hK K
    refine Chain.sub (S' := mk 39 [1000] [(0, .ptr 1000 0 0), (1, .d (.sl (a1.map cB))), (4, .d (.lit (.int .i64 v15))), (5, .ptr 5 0 0), (9, .ref 25001 0 a0.pending.length), (10, .d (.lit (.int .i64 (a0.pending.length : Int)))), (11, .d (.lit (.int .i64 v15))), (20, .d (.lit (.bool (decide (v15 < (a1.length : Int))))))] [(5, some (.box [.d (.lit (.int .i64 x48.sector)), .d (.sl (x48.data.map (cI .u8)))])), (1000, some (.box [.ref 25000 0 l14.length, .ref 25001 0 a0.pending.length])), (25000, some (.arr 30 1 (l14.map (cL (cI .u8))))), (25001, some (.arr 66 2 (a0.pending.map cS66)))]) Sub.tt ?_
    replace h := isome h; rcases h with ⟨c53, h⟩ | ⟨c53, h⟩
    ·have c53_ : decide (v15 < (a1.length : Int)) = true := decide_eq_true c53
     refine Chain.sub (Sub.bool 20 (b := decide (v15 < (a1.length : Int))) rfl c53_) ?_
     refine Chain.sub (S' := mk 39 [1000] [(0, .ptr 1000 0 0), (1, .d (.sl (a1.map cB))), (4, .d (.lit (.int .i64 v15))), (5, .ptr 5 0 0), (9, .ref 25001 0 a0.pending.length), (10, .d (.lit (.int .i64 (a0.pending.length : Int)))), (11, .d (.lit (.int .i64 v15))), (20, .d (.lit (.bool true)))] [(5, some (.box [.d (.lit (.int .i64 x48.sector)), .d (.sl (x48.data.map (cI .u8)))])), (1000, some (.box [.ref 25000 0 l14.length, .ref 25001 0 a0.pending.length])), (25000, some (.arr 30 1 (l14.map (cL (cI .u8))))), (25001, some (.arr 66 2 (a0.pending.map cS66)))]) (by simp; exact Sub.table (by simp) (by simp)) ?_
     replace h := bsome h; obtain ⟨x54, hx54, h⟩ := h
     obtain ⟨hx54, hx54a, hx54b⟩ := idx_some2 hx54 hx48k
     refine Chain.runK [] 5 fun K hK => ?_; simp [hx54, hx48k, hx54a]; refine hK _ _ ?_; clear hK K
     refine Chain.sub (S' := mk 39 [1000] [(0, .ptr 1000 0 0), (1, .d (.sl (a1.map cB))), (5, .ptr 5 0 0), (9, .ref 25001 0 a0.pending.length), (10, .d (.lit (.int .i64 (a0.pending.length : Int)))), (11, .d (.lit (.int .i64 v15))), (21, .d (.sl (a1.map cB))), (22, .d (.lit (.int .i64 v15))), (23, .d (.pim [.lit (.bool x54)])), (24, .d (.lit (.bool x54))), (25, .d (.lit (.bool x54)))] [(5, some (.box [.d (.lit (.int .i64 x48.sector)), .d (.sl (x48.data.map (cI .u8)))])), (1000, some (.box [.ref 25000 0 l14.length, .ref 25001 0 a0.pending.length])), (25000, some (.arr 30 1 (l14.map (cL (cI .u8))))), (25001, some (.arr 66 2 (a0.pending.map cS66)))]) Sub.tt ?_
     cases h
     exact Chain.nil Sub.tt
    ·have c53_ : decide (v15 < (a1.length : Int)) = false := decide_eq_false c53
     refine Chain.sub (Sub.bool 20 (b := decide (v15 < (a1.length : Int))) rfl c53_) ?_
     refine Chain.sub (S' := mk 39 [1000] [(0, .ptr 1000 0 0), (1, .d (.sl (a1.map cB))), (4, .d (.lit (.int .i64 v15))), (5, .ptr 5 0 0), (9, .ref 25001 0 a0.pending.length), (10, .d (.lit (.int .i64 (a0.pending.length : Int)))), (11, .d (.lit (.int .i64 v15))), (20, .d (.lit (.bool false)))] [(5, some (.box [.d (.lit (.int .i64 x48.sector)), .d (.sl (x48.data.map (cI .u8)))])), (1000, some (.box [.ref 25000 0 l14.length, .ref 25001 0 a0.pending.length])), (25000, some (.arr 30 1 (l14.map (cL (cI .u8))))), (25001, some (.arr 66 2 (a0.pending.map cS66)))]) (by simp; exact Sub.table (by simp) (by simp)) ?_
     refine Chain.runK [] 5 fun K hK => ?_; simp; refine hK _ _ ?_; clear hK K
     refine Chain.sub (S' := mk 39 [1000] [(0, .ptr 1000 0 0), (1, .d (.sl (a1.map cB))), (5, .ptr 5 0 0), (9, .ref 25001 0 a0.pending.length), (10, .d (.lit (.int .i64 (a0.pending.length : Int)))), (11, .d (.lit (.int .i64 v15))), (21, .tup []), (22, .tup []), (23, .tup []), (24, .tup []), (25, .d (.lit (.bool false)))] [(5, some (.box [.d (.lit (.int .i64 x48.sector)), .d (.sl (x48.data.map (cI .u8)))])), (1000, some (.box [.ref 25000 0 l14.length, .ref 25001 0 a0.pending.length])), (25000, some (.arr 30 1 (l14.map (cL (cI .u8))))), (25001, some (.arr 66 2 (a0.pending.map cS66)))]) Sub.tt ?_
     cases h
     exact Chain.nil Sub.tt
   ·clear hj
    replace h := isome h; rcases h with ⟨c55, h⟩ | ⟨c55, h⟩
    ·have c55_ : v52 = true := c55
     refine AW.condT (b := v52) rfl c55_ ?_
     refine AW.sub (Sub.bool 25 (b := v52) rfl c55_) ?_
     refine AW.sub (S' := mk 39 [1000] [(0, .ptr 1000 0 0), (1, .d (.sl (a1.map cB))), (5, .ptr 5 0 0), (9, .ref 25001 0 a0.pending.length), (10, .d (.lit (.int .i64 (a0.pending.length : Int)))), (11, .d (.lit (.int .i64 v15))), (25, .d (.lit (.bool true)))] [(5, some (.box [.d (.lit (.int .i64 x48.sector)), .d (.sl (x48.data.map (cI .u8)))])), (1000, some (.box [.ref 25000 0 l14.length, .ref 25001 0 a0.pending.length])), (25000, some (.arr 30 1 (l14.map (cL (cI .u8))))), (25001, some (.arr 66 2 (a0.pending.map cS66)))]) (by simp; exact Sub.table (by simp) (by simp)) ?_
     replace h := bsome h; obtain ⟨x56, hx56, h⟩ := h
     obtain ⟨k57, hx56k, hx56, hx56a, hx56b⟩ := idx_some hx56
     refine AW.regionT 9 (by kernel_rfl) (by kernel_rfl) fun K hK => ?_; simp [hx56k, hx56a, hx56b]; refine hK _ _ ?_; clear hK K
     refine Chain.sub (S' := mk 39 [1000] [(0, .ptr 1000 0 0), (1, .d (.sl (a1.map cB))), (9, .ref 25001 0 a0.pending.length), (10, .d (.lit (.int .i64 (a0.pending.length : Int)))), (11, .d (.lit (.int .i64 v15))), (33, .d (.sl (x48.data.map (cI .u8)))), (34, .ptr 25000 k57 0)] [(1000, some (.box [.ref 25000 0 l14.length, .ref 25001 0 a0.pending.length])), (25000, some (.arr 30 1 (l14.map (cL (cI .u8))))), (25001, some (.arr 66 2 (a0.pending.map cS66)))]) Sub.tt ?_
     replace h := lsome h; obtain ⟨l58, gl58, h⟩ := h
     obtain ⟨hl58, hl58n⟩ := setI_some (cL (cI .u8)) gl58 hx56k
     replace hl58 : (l14.map (cL (cI .u8))).set k57 [.sl (x48.data.map (cI .u8))] = l58.map (cL (cI .u8)) := hl58
     clear gl58
     refine Chain.runK [] 1 fun K hK => ?_; simp [hx56, hl58]; refine hK _ _ ?_; clear hK K
     refine Chain.sub (S' := mk 39 [1000] [(0, .ptr 1000 0 0), (1, .d (.sl (a1.map cB))), (9, .ref 25001 0 a0.pending.length), (10, .d (.lit (.int .i64 (a0.pending.length : Int)))), (11, .d (.lit (.int .i64 v15)))] [(1000, some (.box [.ref 25000 0 l58.length, .ref 25001 0 a0.pending.length])), (25000, some (.arr 30 1 (l58.map (cL (cI .u8))))), (25001, some (.arr 66 2 (a0.pending.map cS66)))]) (Sub.table (by simp) (by simp [hl58n])) ?_
     refine Chain.nil ?_
     refine blockQ.normal ?_
     refine thenQ_normal ?_
     refine AW.region ?_
     replace h := bsome h; obtain ⟨v59, hv59, h⟩ := h
     have hv59 := chkI_some hv59
     refine Chain.runK [] 2 fun K hK => ?_; simp [hv59]; refine hK _ _ ?_; clear hK K
     refine Chain.sub (S' := mk 39 [1000] [(0, .ptr 1000 0 0), (1, .d (.sl (a1.map cB))), (9, .ref 25001 0 a0.pending.length), (10, .d (.lit (.int .i64 (a0.pending.length : Int)))), (11, .d (.lit (.int .i64 v59)))] [(1000, some (.box [.ref 25000 0 l58.length, .ref 25001 0 a0.pending.length])), (25000, some (.arr 30 1 (l58.map (cL (cI .u8))))), (25001, some (.arr 66 2 (a0.pending.map cS66)))]) Sub.tt ?_
     refine Chain.nil ?_
     cases h
     refine PostI.next ?_
     exact Sub.tt
    ·have c55_ : v52 = false := Bool.eq_false_iff.2 c55
     refine AW.condF (b := v52) rfl c55_ ?_
     refine AW.sub (Sub.bool 25 (b := v52) rfl c55_) ?_
     refine AW.sub (S' := mk 39 [1000] [(0, .ptr 1000 0 0), (1, .d (.sl (a1.map cB))), (5, .ptr 5 0 0), (9, .ref 25001 0 a0.pending.length), (10, .d (.lit (.int .i64 (a0.pending.length : Int)))), (11, .d (.lit (.int .i64 v15))), (25, .d (.lit (.bool false)))] [(5, some (.box [.d (.lit (.int .i64 x48.sector)), .d (.sl (x48.data.map (cI .u8)))])), (1000, some (.box [.ref 25000 0 l14.length, .ref 25001 0 a0.pending.length])), (25000, some (.arr 30 1 (l14.map (cL (cI .u8))))), (25001, some (.arr 66 2 (a0.pending.map cS66)))]) (by simp; exact Sub.table (by simp) (by simp)) ?_
     refine AW.skip ?_
     refine blockQ.normal ?_
     refine thenQ_normal ?_
     refine AW.region ?_
     replace h := bsome h; obtain ⟨v60, hv60, h⟩ := h
     have hv60 := chkI_some hv60
     refine Chain.runK [] 2 fun K hK => ?_; simp [hv60]; refine hK _ _ ?_; clear hK K
     refine Chain.sub (S' := mk 39 [1000] [(0, .ptr 1000 0 0), (1, .d (.sl (a1.map cB))), (9, .ref 25001 0 a0.pending.length), (10, .d (.lit (.int .i64 (a0.pending.length : Int)))), (11, .d (.lit (.int .i64 v60)))] [(1000, some (.box [.ref 25000 0 l14.length, .ref 25001 0 a0.pending.length])), (25000, some (.arr 30 1 (l14.map (cL (cI .u8))))), (25001, some (.arr 66 2 (a0.pending.map cS66)))]) Sub.tt ?_
     refine Chain.nil ?_
     cases h
     refine PostI.next ?_
     exact Sub.tt
  ·have c47_ : decide (v15 < (a0.pending.length : Int)) = false := decide_eq_false c47
   refine AW.condF (b := decide (v15 < (a0.pending.length : Int))) rfl c47_ ?_
   refine AW.sub (Sub.bool 12 (b := decide (v15 < (a0.pending.length : Int))) rfl c47_) ?_
   refine AW.sub (S' := mk 39 [1000] [(0, .ptr 1000 0 0), (1, .d (.sl (a1.map cB))), (9, .ref 25001 0 a0.pending.length), (10, .d (.lit (.int .i64 (a0.pending.length : Int)))), (11, .d (.lit (.int .i64 v15))), (12, .d (.lit (.bool false)))] [(1000, some (.box [.ref 25000 0 l14.length, .ref 25001 0 a0.pending.length])), (25000, some (.arr 30 1 (l14.map (cL (cI .u8))))), (25001, some (.arr 66 2 (a0.pending.map cS66)))]) (by simp; exact Sub.table (by simp) (by simp)) ?_
   refine AW.exit ?_
   cases h
   refine thenQ_pass (by simp) ?_
   refine PostI.out (by simp) ?_
   rintro rfl
   refine blockQ.hit ?_
   refine PostN.next ?_
   exact Sub.tt
 ·rintro l46 h
  refine thenQ_normal ?_
  refine AW.region ?_
  refine Chain.runK [] 4 fun K hK => ?_; simp; refine hK _ _ ?_; clear hK K
  refine Chain.sub (S' := mk 39 [1000] [] [(1000, some (.box [.ref 25000 0 l46.length, .d (.lit (.slice none 0 0))])), (25000, some (.arr 30 1 (l46.map (cL (cI .u8)))))]) Sub.tt ?_
  refine Chain.sub (Sub.nilOwnBox (bid := 1000) (j := 1) (id := 25001) (T := 66) (n := 2) rfl rfl (by decide) rfl (by decide)) ?_
  refine Chain.sub (S' := mk 39 [1000] [] [(1000, some (.box [.ref 25000 0 l46.length, .ref 25001 0 (([] : List S66).length)])), (25000, some (.arr 30 1 (l46.map (cL (cI .u8))))), (25001, some (.arr 66 2 (([] : List S66).map cS66)))]) (by simp; exact Sub.table (by simp) (by simp)) ?_
  refine Chain.nil ?_
  cases h
  exact FinF.normal (by simp) (by simp)

set_option maxRecDepth 100000 in
set_option maxHeartbeats 2000000 in
attribute [local go_sem] Oper.semAt_some in
open Go.RowKit Go.Shelf in
theorem bc38 : BackC Try.prog 38 2 := by
 intro pb po l N J Jx W hN hbase hY h0
 refine callsIn_of_wp Try.func38 rfl trivial ?_ rfl
 simp only [show Try.f38.ntmps = 19 from rfl, List.size_toArray, List.length_cons, List.length_nil, Nat.reduceAdd, Nat.reduceSub, Array.replicate_succ, Array.replicate_zero, List.push_toArray, List.append_toArray, List.nil_append, List.cons_append]
 have hN : N ≤ 9223372036854775807 := hN
 obtain ⟨A, cap, hb0⟩ := hbase 0 W (Nat.zero_le _) h0
 gi_wp2
 gi_loopw [3] (fun i wr => ∃ k : Nat, k ≤ N ∧ i = .int .i64 ((N : Int) - 1 - k) ∧ J k wr) (fun i _ => (intOf i + 1).toNat)
 case atStart => exact ⟨0, Nat.zero_le _, by simp, h0⟩
 case round =>
  obtain ⟨k, hk, rfl, hJs⟩ := hrel
  by_cases hlt : k < N
  ·obtain ⟨args, ⟨b, off, cap, vs, hc, hra, hvl, rfl⟩, fn, tmps, assign, body, hy, hR⟩ := hY k wr hlt hJs
   obtain ⟨j, hj⟩ : ∃ j : Nat, N - 1 - k = j := ⟨_, rfl⟩
   have hji : (N : Int) - 1 - k = (j : Int) := by omega
   have hjl : j < N := by omega
   rw [hj] at hra hy
   rw [hji]
   obtain ⟨c0_, c1_, rfl⟩ : ∃ c0_ c1_, vs = [c0_, c1_] := by
    match vs, hvl with
    | [c0_, c1_], _ => exact ⟨c0_, c1_, rfl⟩
   have hc0_ := hra 0 c0_ rfl; have hc1_ := hra 1 c1_ rfl
   simp only [Nat.add_zero] at hc0_
   simp only [elemW] at hy
   gi_wp2
   refine hR.mono ?_
   rintro e W3 (⟨rfl, hJ3⟩ | ⟨rfl, hJx3⟩)
   ·gi_wp2
    go_roundw
    case rel => exact ⟨k + 1, by omega, by simp; omega, hJ3⟩
    case measure => simp [intOf]
   ·gi_wp2
    refine bodyPost_ret (results_none rfl _ _ _) rfl ?_
    exact ⟨⟨_, rfl⟩, .inr hJx3⟩
  ·obtain rfl : k = N := by omega
   have hji : (k : Int) - 1 - k = -1 := by omega
   rw [hji]
   gi_wp2
   go_end0
   exact ⟨⟨_, rfl⟩, .inl hJs⟩

theorem pbo23 {α : Type} (c : α → List D) (xs : List α) : FunM Try.prog 23 [.ref 1000 0 xs.length] [(1000, some (.arr 66 2 (xs.map c)))] [1000] (.fn (.func 38) [.ptr 1 0 0]) [(1, .box [.ref 1000 0 xs.length]), (1000, .arr 66 2 (xs.map c))] := by
 refine FunM.enter 4 [(0, .ref 1000 0 xs.length)] Try.func23 rfl (of_decide_eq_true rfl) rfl rfl ?_
 refine AW.goR [] 2 fun K hK => ?_; simp; refine hK _ ?_; clear hK K
 refine AW.goR [] 2 fun K hK => ?_; simp; refine hK _ ?_; clear hK K
 refine AW.ret ?_
 exact FinF.ret (by simp) (by simp)
theorem pbd23 (es : List (List D)) : FunM Try.prog 23 [.d (.sl es)] [] [] (.fn (.func 38) [.ptr 1 0 0]) [(1, .box [.d (.sl es)])] := by
 refine FunM.enter 4 [(0, .d (.sl es))] Try.func23 rfl (of_decide_eq_true rfl) rfl rfl ?_
 refine AW.goR [] 2 fun K hK => ?_; simp; refine hK _ ?_; clear hK K
 refine AW.goR [] 2 fun K hK => ?_; simp; refine hK _ ?_; clear hK K
 refine AW.ret ?_
 exact FinF.ret (by simp) (by simp)

/-- slices.Clone[[]byte,byte] -/
def d16 (_ : Nat) (a0 : (List Int)) : Option (List Int) := if a0.length * 1 ≤ Rp.reach then some a0 else none
theorem p16 (N : Nat) (a0 : (List Int)) (r : (List Int)) (h : d16 N a0 = some r) : FunO Try.prog 16 [.d (.sl (a0.map (cI .u8)))] (.ref 0 0 r.length) (.arr 5 1 (r.map (cI .u8))) := by
 obtain ⟨hz, h⟩ := gsome h
 cases h
 simp only [Nat.mul_one] at hz
 refine FunO.enter 8 [(0, .d (.sl (a0.map (cI .u8))))] Try.func16 rfl (of_decide_eq_true rfl) rfl rfl ?_
 refine AW.goR [] 1 fun K hK => ?_; simp; refine hK _ ?_; clear hK K
 refine AW.seq ?_
 refine AW.seqR ?_
 refine Chain.runK [] 1 fun K hK => ?_; simp; refine hK _ _ ?_; clear hK K
 refine Chain.eqNilE (es := a0.map (cI .u8)) (by simp) rfl ty30 rfl (by simp) (by simp) fun b hb => ?_
 refine Chain.nil ?_
 cases b with
 | true =>
  have he : a0 = [] := by
   cases a0 with
   | nil => rfl
   | cons x xs => exact absurd (hb (by simp)) (by simp)
  subst he
  refine AW.condK fun K1 K2 k1 k2 => ?_; simp; refine k1 ?_; clear k1 k2 K1 K2
  refine AW.goR [] 1 fun K hK => ?_; simp; refine hK _ ?_; clear hK K
  refine AW.sub (Sub.nilOwn (t := 2) (id := 902) (T := 5) (n := 1) rfl rfl (by decide)) ?_
  refine AW.sub (S' := mk 8 [] [(2, .ref 902 0 0)] [(902, some (.arr 5 1 []))]) (by simp; exact Sub.table (by simp) (by simp)) ?_
  refine AW.ret ?_
  exact thenQ_pass (by simp) (FinO.ret (.ref 902 0 0) 902 (by simp) (by simp) (by simp) (by simp) rfl)
 | false =>
  refine AW.condK fun K1 K2 k1 k2 => ?_; simp; refine k2 ?_; clear k1 k2 K1 K2
  refine AW.skip ?_
  refine thenQ_normal ?_
  refine AW.goR [] 4 fun K hK => ?_; simp [hz]; refine hK _ ?_; clear hK K
  refine AW.sub (S' := mk 8 [] [(2, .ref 5 0 a0.length)] [(5, some (.arr 5 1 (a0.map (cI .u8))))]) Sub.tt ?_
  refine AW.ret ?_
  exact FinO.ret (.ref 5 0 a0.length) 5 (by simp) (by simp) (by simp) (by simp) rfl

/-- (*stemma/disk.Disk).Read -/
def d14 (N : Nat) (a0 : S64) (a1 : Int) : Option (S64 × (List Int) × Int) :=
 Option.bind (α := Bool) (
  if a1 < 0 then (
   some true
  ) else
  some (decide (a1 ≥ (a0.durable.length : Int)))
 ) fun (v2 : Bool) =>
 if v2 = true then (
  some (a0, ([] : List Int), 1)
 ) else
 bindO (β := Unit) (ρ := (S64 × (List Int) × Int)) (
  rangeL (α := S66) (β := Unit) (ρ := (S64 × (List Int) × Int)) (fun (x5 : S66) => fun (_ : Unit) =>
   if (x5.sector == a1) then (
    (d16 N x5.data).bind fun r11 =>
    some (.ret (a0, r11, 0))
   ) else
   some (.go ())
  ) (a0.pending).reverse ()
 ) fun (_ : Unit) =>
 (idx a0.durable a1).bind fun x12 =>
 (d16 N x12).bind fun r14 =>
 some (a0, r14, 0)
set_option maxRecDepth 100000 in
set_option maxHeartbeats 4000000 in
theorem p14 (N : Nat) (a0 : S64) (a1 : Int) (r : (S64 × (List Int) × Int)) (h : d14 N a0 a1 = some r) : FunM Try.prog 14 [.ptr 1000 0 0, .d (.lit (.int .i64 a1))] [(1000, some (.box [.ref 25000 0 a0.durable.length, .ref 25001 0 a0.pending.length])), (25000, some (.arr 30 1 (a0.durable.map (cL (cI .u8))))), (25001, some (.arr 66 2 (a0.pending.map cS66)))] [1000] (.tup [.d (.sl (r.2.1.map (cI .u8))), .d (.lit (.int .i64 r.2.2))]) ([(1000, (.box [.ref 25000 0 r.1.durable.length, .ref 25001 0 r.1.pending.length])), (25000, (.arr 30 1 (r.1.durable.map (cL (cI .u8))))), (25001, (.arr 66 2 (r.1.pending.map cS66)))]) := by
 unfold d14 at h
 refine FunM.enter 41 [(0, .ptr 1000 0 0), (1, .d (.lit (.int .i64 a1)))] Try.func14 rfl (of_decide_eq_true rfl) rfl rfl ?_
 refine AW.seqR ?_
 refine Chain.runK [] 3 fun K hK => ?_; simp; refine hK _ _ ?_; clear hK K
 refine Chain.sub (S' := mk 41 [1000] [(0, .ptr 1000 0 0), (3, .ptr 3 0 0), (4, .ptr 4 0 0), (5, .ptr 5 0 0)] [(3, some (.box [.d (.lit (.int .i64 a1))])), (4, some (.box [.d (.lit (.slice none 0 0))])), (5, some (.box [.d (.lit (.int .i64 0))])), (1000, some (.box [.ref 25000 0 a0.durable.length, .ref 25001 0 a0.pending.length])), (25000, some (.arr 30 1 (a0.durable.map (cL (cI .u8))))), (25001, some (.arr 66 2 (a0.pending.map cS66)))]) Sub.tt ?_
 refine Chain.nil ?_
 refine AW.seq ?_
 replace h := bsome h; obtain ⟨v2, hj, h⟩ := h
 refine AW.cutQ (by kernel_rfl) (by kernel_rfl) (mk 41 [1000] [(0, .ptr 1000 0 0), (3, .ptr 3 0 0), (4, .ptr 4 0 0), (5, .ptr 5 0 0), (18, .d (.lit (.bool v2)))] [(3, some (.box [.d (.lit (.int .i64 a1))])), (4, some (.box [.d (.lit (.slice none 0 0))])), (5, some (.box [.d (.lit (.int .i64 0))])), (1000, some (.box [.ref 25000 0 a0.durable.length, .ref 25001 0 a0.pending.length])), (25000, some (.arr 30 1 (a0.durable.map (cL (cI .u8))))), (25001, some (.arr 66 2 (a0.pending.map cS66)))]) ?_ ?_
 ·clear h; have h := hj; clear hj
  refine Chain.runQ 3 fun K hK => ?_; simp; refine hK _ _ ?_; clear hK K
  refine Chain.sub (S' := mk 41 [1000] [(0, .ptr 1000 0 0), (3, .ptr 3 0 0), (4, .ptr 4 0 0), (5, .ptr 5 0 0), (10, .d (.lit (.bool (decide (a1 < 0)))))] [(3, some (.box [.d (.lit (.int .i64 a1))])), (4, some (.box [.d (.lit (.slice none 0 0))])), (5, some (.box [.d (.lit (.int .i64 0))])), (1000, some (.box [.ref 25000 0 a0.durable.length, .ref 25001 0 a0.pending.length])), (25000, some (.arr 30 1 (a0.durable.map (cL (cI .u8))))), (25001, some (.arr 66 2 (a0.pending.map cS66)))]) Sub.tt ?_
  replace h := isome h; rcases h with ⟨c3, h⟩ | ⟨c3, h⟩
  ·have c3_ : decide (a1 < 0) = true := decide_eq_true c3
   refine Chain.sub (Sub.bool 10 (b := decide (a1 < 0)) rfl c3_) ?_
   refine Chain.sub (S' := mk 41 [1000] [(0, .ptr 1000 0 0), (3, .ptr 3 0 0), (4, .ptr 4 0 0), (5, .ptr 5 0 0), (10, .d (.lit (.bool true)))] [(3, some (.box [.d (.lit (.int .i64 a1))])), (4, some (.box [.d (.lit (.slice none 0 0))])), (5, some (.box [.d (.lit (.int .i64 0))])), (1000, some (.box [.ref 25000 0 a0.durable.length, .ref 25001 0 a0.pending.length])), (25000, some (.arr 30 1 (a0.durable.map (cL (cI .u8))))), (25001, some (.arr 66 2 (a0.pending.map cS66)))]) (by simp; exact Sub.table (by simp) (by simp)) ?_
   refine Chain.runQ 8 fun K hK => ?_; simp; refine hK _ _ ?_; clear hK K
   refine Chain.sub (S' := mk 41 [1000] [(0, .ptr 1000 0 0), (3, .ptr 3 0 0), (4, .ptr 4 0 0), (5, .ptr 5 0 0), (18, .d (.lit (.bool true)))] [(3, some (.box [.d (.lit (.int .i64 a1))])), (4, some (.box [.d (.lit (.slice none 0 0))])), (5, some (.box [.d (.lit (.int .i64 0))])), (1000, some (.box [.ref 25000 0 a0.durable.length, .ref 25001 0 a0.pending.length])), (25000, some (.arr 30 1 (a0.durable.map (cL (cI .u8))))), (25001, some (.arr 66 2 (a0.pending.map cS66)))]) Sub.tt ?_
   cases h
   exact Chain.nil Sub.tt
  ·have c3_ : decide (a1 < 0) = false := decide_eq_false c3
   refine Chain.sub (Sub.bool 10 (b := decide (a1 < 0)) rfl c3_) ?_
   refine Chain.sub (S' := mk 41 [1000] [(0, .ptr 1000 0 0), (3, .ptr 3 0 0), (4, .ptr 4 0 0), (5, .ptr 5 0 0), (10, .d (.lit (.bool false)))] [(3, some (.box [.d (.lit (.int .i64 a1))])), (4, some (.box [.d (.lit (.slice none 0 0))])), (5, some (.box [.d (.lit (.int .i64 0))])), (1000, some (.box [.ref 25000 0 a0.durable.length, .ref 25001 0 a0.pending.length])), (25000, some (.arr 30 1 (a0.durable.map (cL (cI .u8))))), (25001, some (.arr 66 2 (a0.pending.map cS66)))]) (by simp; exact Sub.table (by simp) (by simp)) ?_
   refine Chain.runQ 8 fun K hK => ?_; simp; refine hK _ _ ?_; clear hK K
   refine Chain.sub (S' := mk 41 [1000] [(0, .ptr 1000 0 0), (3, .ptr 3 0 0), (4, .ptr 4 0 0), (5, .ptr 5 0 0), (18, .d (.lit (.bool (decide (a1 ≥ (a0.durable.length : Int))))))] [(3, some (.box [.d (.lit (.int .i64 a1))])), (4, some (.box [.d (.lit (.slice none 0 0))])), (5, some (.box [.d (.lit (.int .i64 0))])), (1000, some (.box [.ref 25000 0 a0.durable.length, .ref 25001 0 a0.pending.length])), (25000, some (.arr 30 1 (a0.durable.map (cL (cI .u8))))), (25001, some (.arr 66 2 (a0.pending.map cS66)))]) Sub.tt ?_
   cases h
   exact Chain.nil Sub.tt
 ·clear hj
  replace h := isome h; rcases h with ⟨c4, h⟩ | ⟨c4, h⟩
  ·have c4_ : v2 = true := c4
   refine AW.condT (b := v2) rfl c4_ ?_
   refine AW.sub (Sub.bool 18 (b := v2) rfl c4_) ?_
   refine AW.sub (S' := mk 41 [1000] [(0, .ptr 1000 0 0), (3, .ptr 3 0 0), (4, .ptr 4 0 0), (5, .ptr 5 0 0), (18, .d (.lit (.bool true)))] [(3, some (.box [.d (.lit (.int .i64 a1))])), (4, some (.box [.d (.lit (.slice none 0 0))])), (5, some (.box [.d (.lit (.int .i64 0))])), (1000, some (.box [.ref 25000 0 a0.durable.length, .ref 25001 0 a0.pending.length])), (25000, some (.arr 30 1 (a0.durable.map (cL (cI .u8))))), (25001, some (.arr 66 2 (a0.pending.map cS66)))]) (by simp; exact Sub.table (by simp) (by simp)) ?_
   refine AW.seqR ?_
   refine Chain.runK [] 2 fun K hK => ?_; simp; refine hK _ _ ?_; clear hK K
   refine Chain.sub (S' := mk 41 [1000] [(4, .ptr 4 0 0), (5, .ptr 5 0 0)] [(4, some (.box [.d (.lit (.slice none 0 0))])), (5, some (.box [.d (.lit (.int .i64 1))])), (1000, some (.box [.ref 25000 0 a0.durable.length, .ref 25001 0 a0.pending.length])), (25000, some (.arr 30 1 (a0.durable.map (cL (cI .u8))))), (25001, some (.arr 66 2 (a0.pending.map cS66)))]) Sub.tt ?_
   refine Chain.nil ?_
   refine AW.sub (Sub.wkBox 4 rfl) ?_
   refine AW.sub (S' := mk 41 [1000] [(4, .ptr 4 0 0), (5, .ptr 5 0 0)] [(4, some (.box [.d (.sl (([] : List Int).map (cI .u8)))])), (5, some (.box [.d (.lit (.int .i64 1))])), (1000, some (.box [.ref 25000 0 a0.durable.length, .ref 25001 0 a0.pending.length])), (25000, some (.arr 30 1 (a0.durable.map (cL (cI .u8))))), (25001, some (.arr 66 2 (a0.pending.map cS66)))]) (by simp; exact Sub.table (by simp) (by simp)) ?_
   refine AW.ret ?_
   cases h
   refine thenQ_pass (by simp) ?_
   exact FinF.ret (by simp) (by simp)
  ·have c4_ : v2 = false := Bool.eq_false_iff.2 c4
   refine AW.condF (b := v2) rfl c4_ ?_
   refine AW.sub (Sub.bool 18 (b := v2) rfl c4_) ?_
   refine AW.sub (S' := mk 41 [1000] [(0, .ptr 1000 0 0), (3, .ptr 3 0 0), (4, .ptr 4 0 0), (5, .ptr 5 0 0), (18, .d (.lit (.bool false)))] [(3, some (.box [.d (.lit (.int .i64 a1))])), (4, some (.box [.d (.lit (.slice none 0 0))])), (5, some (.box [.d (.lit (.int .i64 0))])), (1000, some (.box [.ref 25000 0 a0.durable.length, .ref 25001 0 a0.pending.length])), (25000, some (.arr 30 1 (a0.durable.map (cL (cI .u8))))), (25001, some (.arr 66 2 (a0.pending.map cS66)))]) (by simp; exact Sub.table (by simp) (by simp)) ?_
   refine AW.skip ?_
   refine thenQ_normal ?_
   refine AW.seq ?_
   refine AW.seqR ?_
   refine Chain.runK [] 4 fun K hK => ?_; simp; refine hK _ _ ?_; clear hK K
   refine Chain.sub (S' := mk 41 [1000] [(0, .ptr 1000 0 0), (3, .ptr 3 0 0), (4, .ptr 4 0 0), (5, .ptr 5 0 0), (22, .ref 25001 0 a0.pending.length)] [(3, some (.box [.d (.lit (.int .i64 a1))])), (4, some (.box [.d (.lit (.slice none 0 0))])), (5, some (.box [.d (.lit (.int .i64 0))])), (1000, some (.box [.ref 25000 0 a0.durable.length, .ref 25001 0 a0.pending.length])), (25000, some (.arr 30 1 (a0.durable.map (cL (cI .u8))))), (25001, some (.arr 66 2 (a0.pending.map cS66)))]) Sub.tt ?_
   refine Chain.callF (pbo23 cS66 a0.pending) [(25001, 1000)] [25001] [(1, 23), (1000, 25001)] [(23, .box [.ref 25001 0 a0.pending.length]), (25001, (.arr 66 2 (a0.pending.map cS66)))] (.fn (.func 38) [.ptr 23 0 0]) (by simp) rfl (by simp <;> rfl) (by simp) (by simp) (by simp) (by simp) (by simp) ent23 (by simp) (by simp) (by simp) (by simp) (by simp) (by simp) ?_
   refine Chain.sub (S' := mk 41 [1000] [(0, .ptr 1000 0 0), (3, .ptr 3 0 0), (4, .ptr 4 0 0), (5, .ptr 5 0 0), (22, .ref 25001 0 a0.pending.length), (23, .fn (.func 38) [.ptr 23 0 0])] [(3, some (.box [.d (.lit (.int .i64 a1))])), (4, some (.box [.d (.lit (.slice none 0 0))])), (5, some (.box [.d (.lit (.int .i64 0))])), (23, some (.box [.ref 25001 0 a0.pending.length])), (1000, some (.box [.ref 25000 0 a0.durable.length, .ref 25001 0 a0.pending.length])), (25000, some (.arr 30 1 (a0.durable.map (cL (cI .u8))))), (25001, some (.arr 66 2 (a0.pending.map cS66)))]) (by simp; exact Sub.table (by simp) (by simp)) ?_
   refine Chain.nil ?_
   refine AW.block ?_
   refine AW.lastJ (fun b => mk 41 [1000] [(0, .ptr 1000 0 0), (3, .ptr 3 0 0), (4, .ptr 4 0 0), (5, .ptr 5 0 0), (23, .fn (.func 38) [.ptr 23 0 0])] ((fun (_ : Unit) => [(3, some (.box [.d (.lit (.int .i64 a1))])), (4, some (.box [.d (.lit (.slice none 0 0))])), (5, some (.box [.d (.lit (.int .i64 0))])), (23, some (.box [.ref 25001 0 a0.pending.length])), (1000, some (.box [.ref 25000 0 a0.durable.length, .ref 25001 0 a0.pending.length])), (25000, some (.arr 30 1 (a0.durable.map (cL (cI .u8))))), (25001, some (.arr 66 2 (a0.pending.map cS66)))]) b)) h ?_ ?_ <;> clear h
   ·intro o h
    refine AW.back (c := cS66) (xs := a0.pending) (B := 23) (fun (_ : Unit) => [(3, some (.box [.d (.lit (.int .i64 a1))])), (4, some (.box [.d (.lit (.slice none 0 0))])), (5, some (.box [.d (.lit (.int .i64 0))])), (23, some (.box [.ref 25001 0 a0.pending.length])), (1000, some (.box [.ref 25000 0 a0.durable.length, .ref 25001 0 a0.pending.length])), (25000, some (.arr 30 1 (a0.durable.map (cL (cI .u8))))), (25001, some (.arr 66 2 (a0.pending.map cS66)))]) [1000, 3, 4, 5, 23] bc38 ent38 Sub.tt rfl (by intros; rfl) (by intros; exact SrcOk.own' (T := 66) (by simp)) (fun _ => rfl) (by simp) (by simp [V.has]) h ?_
    clear h
    rintro ⟨⟩ x5 o' h
    try dsimp only at h ⊢
    refine AW.sub (S' := mk 41 [1000, 3, 4, 5, 23] [(3, .ptr 3 0 0), (4, .ptr 4 0 0), (5, .ptr 5 0 0), (25, .agg [.d (.lit (.int .i64 x5.sector)), .d (.sl (x5.data.map (cI .u8)))])] [(3, some (.box [.d (.lit (.int .i64 a1))])), (4, some (.box [.d (.lit (.slice none 0 0))])), (5, some (.box [.d (.lit (.int .i64 0))])), (23, some (.box [.ref 25001 0 a0.pending.length])), (1000, some (.box [.ref 25000 0 a0.durable.length, .ref 25001 0 a0.pending.length])), (25000, some (.arr 30 1 (a0.durable.map (cL (cI .u8))))), (25001, some (.arr 66 2 (a0.pending.map cS66)))]) (by simp; exact Sub.table (by simp) (by simp)) ?_
    refine AW.region ?_
    refine Chain.runK [] 2 fun K hK => ?_; simp; refine hK _ _ ?_; clear hK K
    refine Chain.sub (S' := mk 41 [1000, 3, 4, 5, 23] [(3, .ptr 3 0 0), (4, .ptr 4 0 0), (5, .ptr 5 0 0), (7, .ptr 7 0 0)] [(3, some (.box [.d (.lit (.int .i64 a1))])), (4, some (.box [.d (.lit (.slice none 0 0))])), (5, some (.box [.d (.lit (.int .i64 0))])), (7, some (.box [.d (.lit (.int .i64 x5.sector)), .d (.sl (x5.data.map (cI .u8)))])), (23, some (.box [.ref 25001 0 a0.pending.length])), (1000, some (.box [.ref 25000 0 a0.durable.length, .ref 25001 0 a0.pending.length])), (25000, some (.arr 30 1 (a0.durable.map (cL (cI .u8))))), (25001, some (.arr 66 2 (a0.pending.map cS66)))]) Sub.tt ?_
    refine Chain.nil ?_
    refine thenQ_normal ?_
    refine AW.block ?_
    refine AW.seqR ?_
    refine Chain.runK [] 4 fun K hK => ?_; simp; refine hK _ _ ?_; clear hK K
    refine Chain.sub (S' := mk 41 [1000, 3, 4, 5, 23] [(4, .ptr 4 0 0), (5, .ptr 5 0 0), (7, .ptr 7 0 0), (29, .d (.lit (.bool (x5.sector == a1))))] [(3, some (.box [.d (.lit (.int .i64 a1))])), (4, some (.box [.d (.lit (.slice none 0 0))])), (5, some (.box [.d (.lit (.int .i64 0))])), (7, some (.box [.d (.lit (.int .i64 x5.sector)), .d (.sl (x5.data.map (cI .u8)))])), (23, some (.box [.ref 25001 0 a0.pending.length])), (1000, some (.box [.ref 25000 0 a0.durable.length, .ref 25001 0 a0.pending.length])), (25000, some (.arr 30 1 (a0.durable.map (cL (cI .u8))))), (25001, some (.arr 66 2 (a0.pending.map cS66)))]) Sub.tt ?_
    refine Chain.nil ?_
    replace h := isome h; rcases h with ⟨c10, h⟩ | ⟨c10, h⟩
    ·have c10_ : (x5.sector == a1) = true := c10
     refine AW.condT (b := (x5.sector == a1)) rfl c10_ ?_
     refine AW.sub (Sub.bool 29 (b := (x5.sector == a1)) rfl c10_) ?_
     refine AW.sub (S' := mk 41 [1000, 3, 4, 5, 23] [(4, .ptr 4 0 0), (5, .ptr 5 0 0), (7, .ptr 7 0 0), (29, .d (.lit (.bool true)))] [(3, some (.box [.d (.lit (.int .i64 a1))])), (4, some (.box [.d (.lit (.slice none 0 0))])), (5, some (.box [.d (.lit (.int .i64 0))])), (7, some (.box [.d (.lit (.int .i64 x5.sector)), .d (.sl (x5.data.map (cI .u8)))])), (23, some (.box [.ref 25001 0 a0.pending.length])), (1000, some (.box [.ref 25000 0 a0.durable.length, .ref 25001 0 a0.pending.length])), (25000, some (.arr 30 1 (a0.durable.map (cL (cI .u8))))), (25001, some (.arr 66 2 (a0.pending.map cS66)))]) (by simp; exact Sub.table (by simp) (by simp)) ?_
     refine AW.seqR ?_
     refine Chain.runK [] 2 fun K hK => ?_; simp; refine hK _ _ ?_; clear hK K
     refine Chain.sub (S' := mk 41 [1000, 3, 4, 5, 23] [(4, .ptr 4 0 0), (5, .ptr 5 0 0), (31, .d (.sl (x5.data.map (cI .u8))))] [(3, some (.box [.d (.lit (.int .i64 a1))])), (4, some (.box [.d (.lit (.slice none 0 0))])), (5, some (.box [.d (.lit (.int .i64 0))])), (23, some (.box [.ref 25001 0 a0.pending.length])), (1000, some (.box [.ref 25000 0 a0.durable.length, .ref 25001 0 a0.pending.length])), (25000, some (.arr 30 1 (a0.durable.map (cL (cI .u8))))), (25001, some (.arr 66 2 (a0.pending.map cS66)))]) Sub.tt ?_
     replace h := bsome h; obtain ⟨r11, hr11, h⟩ := h
     refine Chain.callO (d := 32) (p16 N x5.data r11 hr11) (by simp) rfl rfl (by simp <;> rfl) (by simp <;> rfl) ent16 (by simp) ⟨by simp, by simp⟩ ?_
     refine Chain.sub (S' := mk 41 [1000, 3, 4, 5, 23] [(4, .ptr 4 0 0), (5, .ptr 5 0 0), (31, .d (.sl (x5.data.map (cI .u8)))), (32, .ref 32 0 r11.length)] [(3, some (.box [.d (.lit (.int .i64 a1))])), (4, some (.box [.d (.lit (.slice none 0 0))])), (5, some (.box [.d (.lit (.int .i64 0))])), (23, some (.box [.ref 25001 0 a0.pending.length])), (32, some (.arr 5 1 (r11.map (cI .u8)))), (1000, some (.box [.ref 25000 0 a0.durable.length, .ref 25001 0 a0.pending.length])), (25000, some (.arr 30 1 (a0.durable.map (cL (cI .u8))))), (25001, some (.arr 66 2 (a0.pending.map cS66)))]) (by simp; exact Sub.table (by simp) (by simp)) ?_
     refine Chain.runK [] 2 fun K hK => ?_; simp; refine hK _ _ ?_; clear hK K
     refine Chain.sub (S' := mk 41 [1000, 3, 4, 5, 23] [(4, .ptr 4 0 0), (5, .ptr 5 0 0)] [(3, some (.box [.d (.lit (.int .i64 a1))])), (4, some (.box [.ref 32 0 r11.length])), (5, some (.box [.d (.lit (.int .i64 0))])), (23, some (.box [.ref 25001 0 a0.pending.length])), (32, some (.arr 5 1 (r11.map (cI .u8)))), (1000, some (.box [.ref 25000 0 a0.durable.length, .ref 25001 0 a0.pending.length])), (25000, some (.arr 30 1 (a0.durable.map (cL (cI .u8))))), (25001, some (.arr 66 2 (a0.pending.map cS66)))]) Sub.tt ?_
     refine Chain.nil ?_
     refine AW.sub (Sub.freeze 32 rfl) ?_
     refine AW.sub (S' := mk 41 [1000, 3, 4, 5, 23] [(4, .ptr 4 0 0), (5, .ptr 5 0 0)] [(3, some (.box [.d (.lit (.int .i64 a1))])), (4, some (.box [.d (.sl (r11.map (cI .u8)))])), (5, some (.box [.d (.lit (.int .i64 0))])), (23, some (.box [.ref 25001 0 a0.pending.length])), (1000, some (.box [.ref 25000 0 a0.durable.length, .ref 25001 0 a0.pending.length])), (25000, some (.arr 30 1 (a0.durable.map (cL (cI .u8))))), (25001, some (.arr 66 2 (a0.pending.map cS66)))]) (by simp; exact Sub.table (by simp) (by simp)) ?_
     refine AW.ret ?_
     cases h
     refine blockQ.ret ?_
     refine ⟨by simp [jumpOf], [(3, some (.box [.d (.lit (.int .i64 a1))])), (4, some (.box [.d (.sl (r11.map (cI .u8)))])), (5, some (.box [.d (.lit (.int .i64 0))])), (23, some (.box [.ref 25001 0 a0.pending.length])), (1000, some (.box [.ref 25000 0 a0.durable.length, .ref 25001 0 a0.pending.length])), (25000, some (.arr 30 1 (a0.durable.map (cL (cI .u8))))), (25001, some (.arr 66 2 (a0.pending.map cS66)))], Sub.table (by simp) (by simp), ?_⟩
     rintro rfl
     refine blockQ.ret ?_
     refine thenQ_pass (by simp) ?_
     exact FinF.ret (by simp) (by simp)
    ·have c10_ : (x5.sector == a1) = false := Bool.eq_false_iff.2 c10
     refine AW.condF (b := (x5.sector == a1)) rfl c10_ ?_
     refine AW.sub (Sub.bool 29 (b := (x5.sector == a1)) rfl c10_) ?_
     refine AW.sub (S' := mk 41 [1000, 3, 4, 5, 23] [(4, .ptr 4 0 0), (5, .ptr 5 0 0), (7, .ptr 7 0 0), (29, .d (.lit (.bool false)))] [(3, some (.box [.d (.lit (.int .i64 a1))])), (4, some (.box [.d (.lit (.slice none 0 0))])), (5, some (.box [.d (.lit (.int .i64 0))])), (7, some (.box [.d (.lit (.int .i64 x5.sector)), .d (.sl (x5.data.map (cI .u8)))])), (23, some (.box [.ref 25001 0 a0.pending.length])), (1000, some (.box [.ref 25000 0 a0.durable.length, .ref 25001 0 a0.pending.length])), (25000, some (.arr 30 1 (a0.durable.map (cL (cI .u8))))), (25001, some (.arr 66 2 (a0.pending.map cS66)))]) (by simp; exact Sub.table (by simp) (by simp)) ?_
     refine AW.skip ?_
     cases h
     refine blockQ.normal ?_
     exact ⟨rfl, Sub.tt⟩
   ·rintro ⟨⟩ h
    try dsimp only at h ⊢
    refine blockQ.normal ?_
    refine thenQ_normal ?_
    replace h := bsome h; obtain ⟨x12, hx12, h⟩ := h
    obtain ⟨k13, hx12k, hx12, hx12a, hx12b⟩ := idx_some hx12
    replace h := bsome h; obtain ⟨r14, hr14, h⟩ := h
    refine AW.seqAnyS [[], [0], [0, 1], [0, 1, 2], [], [0, 1, 2, 3, 4], [0, 1, 2, 3, 4, 5], [0, 1, 2, 3, 4, 5, 6], [0, 1, 2, 3, 4, 5, 6, 7], [0, 1, 2, 3, 4, 5, 6, 7, 8]] (fun (b : Nat → Bool) => mk 41 [1000] [(0, .ptr 1000 0 0), (3, .ptr 3 0 0), (4, .ptr 4 0 0), (5, .ptr 5 0 0), (33, (if b 0 then .ptr 1000 0 0 else .junk)), (34, (if b 1 then .ptr 1000 0 0 else .junk)), (35, (if b 2 then .ptr 1000 0 0 else .junk)), (36, (if b 3 then .ref 25000 0 a0.durable.length else .junk)), (37, (if b 4 then .d (.lit (.int .i64 a1)) else .junk)), (38, (if b 5 then .ptr 25000 k13 0 else .junk)), (39, (if b 6 then .d (.sl (x12.map (cI .u8))) else .junk)), (40, (if b 7 then .ref 40 0 r14.length else .junk))] [(3, some (.box [.d (.lit (.int .i64 a1))])), (4, (if b 8 then some (.box [.ref 40 0 r14.length]) else some (.box [.d (.lit (.slice none 0 0))]))), (5, some (.box [.d (.lit (.int .i64 0))])), (40, (if b 7 then some (.arr 5 1 (r14.map (cI .u8))) else none)), (1000, some (.box [.ref 25000 0 a0.durable.length, .ref 25001 0 a0.pending.length])), (25000, some (.arr 30 1 (a0.durable.map (cL (cI .u8))))), (25001, some (.arr 66 2 (a0.pending.map cS66)))]) (mk 41 [1000] [(4, .ptr 4 0 0), (5, .ptr 5 0 0)] [(4, some (.box [.ref 40 0 r14.length])), (5, some (.box [.d (.lit (.int .i64 0))])), (40, some (.arr 5 1 (r14.map (cI .u8)))), (1000, some (.box [.ref 25000 0 a0.durable.length, .ref 25001 0 a0.pending.length])), (25000, some (.arr 30 1 (a0.durable.map (cL (cI .u8))))), (25001, some (.arr 66 2 (a0.pending.map cS66)))]) (by kernel_rfl) (by kernel_rfl) Sub.tt (Steps.cons ?_ (Steps.cons ?_ (Steps.cons ?_ (Steps.cons ?_ (Steps.cons ?_ (Steps.cons ?_ (Steps.cons ?_ (Steps.cons ?_ (Steps.cons ?_ (Steps.cons ?_ (Steps.nil))))))))))) ?_ ?_
    ·intro b h0 ha hd
     have f1 : b 1 = false := hd 1 (by decide)
     have f2 : b 2 = false := hd 2 (by decide)
     have f3 : b 3 = false := hd 3 (by decide)
     have f5 : b 5 = false := hd 5 (by decide)
     have f6 : b 6 = false := hd 6 (by decide)
     have f7 : b 7 = false := hd 7 (by decide)
     have f8 : b 8 = false := hd 8 (by decide)
     have f9 : b 9 = false := hd 9 (by decide)
     refine Chain.runK [] 1 fun K hK => ?_; simp [h0, f1, f2, f3, f5, f6, f7, f8]; refine hK _ _ ?_; clear hK K
     exact Chain.nil (Sub.table (by simp [f1, f2, f3, f5, f6, f7]) (by simp [f7, f8]))
    ·intro b h0 ha hd
     have t0 : b 0 = true := ha 0 (by decide)
     have f2 : b 2 = false := hd 2 (by decide)
     have f3 : b 3 = false := hd 3 (by decide)
     have f5 : b 5 = false := hd 5 (by decide)
     have f6 : b 6 = false := hd 6 (by decide)
     have f7 : b 7 = false := hd 7 (by decide)
     have f8 : b 8 = false := hd 8 (by decide)
     have f9 : b 9 = false := hd 9 (by decide)
     refine Chain.runK [] 1 fun K hK => ?_; simp [h0, t0, f2, f3, f5, f6, f7, f8]; refine hK _ _ ?_; clear hK K
     exact Chain.nil (Sub.table (by simp [t0, f2, f3, f5, f6, f7]) (by simp [f7, f8]))
    ·intro b h0 ha hd
     have t0 : b 0 = true := ha 0 (by decide)
     have t1 : b 1 = true := ha 1 (by decide)
     have f3 : b 3 = false := hd 3 (by decide)
     have f5 : b 5 = false := hd 5 (by decide)
     have f6 : b 6 = false := hd 6 (by decide)
     have f7 : b 7 = false := hd 7 (by decide)
     have f8 : b 8 = false := hd 8 (by decide)
     have f9 : b 9 = false := hd 9 (by decide)
     refine Chain.runK [] 1 fun K hK => ?_; simp [h0, t0, t1, f3, f5, f6, f7, f8]; refine hK _ _ ?_; clear hK K
     exact Chain.nil (Sub.table (by simp [t0, t1, f3, f5, f6, f7]) (by simp [f7, f8]))
    ·intro b h0 ha hd
     have t0 : b 0 = true := ha 0 (by decide)
     have t1 : b 1 = true := ha 1 (by decide)
     have t2 : b 2 = true := ha 2 (by decide)
     have f5 : b 5 = false := hd 5 (by decide)
     have f6 : b 6 = false := hd 6 (by decide)
     have f7 : b 7 = false := hd 7 (by decide)
     have f8 : b 8 = false := hd 8 (by decide)
     have f9 : b 9 = false := hd 9 (by decide)
     refine Chain.runK [] 1 fun K hK => ?_; simp [h0, t0, t1, t2, f5, f6, f7, f8]; refine hK _ _ ?_; clear hK K
     exact Chain.nil (Sub.table (by simp [t0, t1, t2, f5, f6, f7]) (by simp [f7, f8]))
    ·intro b h0 ha hd
     have f5 : b 5 = false := hd 5 (by decide)
     have f6 : b 6 = false := hd 6 (by decide)
     have f7 : b 7 = false := hd 7 (by decide)
     have f8 : b 8 = false := hd 8 (by decide)
     have f9 : b 9 = false := hd 9 (by decide)
     refine Chain.runK [] 1 fun K hK => ?_; simp [h0, f5, f6, f7, f8]; refine hK _ _ ?_; clear hK K
     exact Chain.nil (Sub.table (by simp [f5, f6, f7]) (by simp [f7, f8]))
    ·intro b h0 ha hd
     have t0 : b 0 = true := ha 0 (by decide)
     have t1 : b 1 = true := ha 1 (by decide)
     have t2 : b 2 = true := ha 2 (by decide)
     have t3 : b 3 = true := ha 3 (by decide)
     have t4 : b 4 = true := ha 4 (by decide)
     have f6 : b 6 = false := hd 6 (by decide)
     have f7 : b 7 = false := hd 7 (by decide)
     have f8 : b 8 = false := hd 8 (by decide)
     have f9 : b 9 = false := hd 9 (by decide)
     refine Chain.runK [] 1 fun K hK => ?_; simp [h0, t0, t1, t2, t3, t4, f6, f7, f8, hx12k, hx12a, hx12b]; refine hK _ _ ?_; clear hK K
     exact Chain.nil (Sub.table (by simp [t0, t1, t2, t3, t4, f6, f7]) (by simp [f7, f8]))
    ·intro b h0 ha hd
     have t0 : b 0 = true := ha 0 (by decide)
     have t1 : b 1 = true := ha 1 (by decide)
     have t2 : b 2 = true := ha 2 (by decide)
     have t3 : b 3 = true := ha 3 (by decide)
     have t4 : b 4 = true := ha 4 (by decide)
     have t5 : b 5 = true := ha 5 (by decide)
     have f7 : b 7 = false := hd 7 (by decide)
     have f8 : b 8 = false := hd 8 (by decide)
     have f9 : b 9 = false := hd 9 (by decide)
     refine Chain.runK [] 1 fun K hK => ?_; simp [h0, t0, t1, t2, t3, t4, t5, f7, f8, hx12]; refine hK _ _ ?_; clear hK K
     exact Chain.nil (Sub.table (by simp [t0, t1, t2, t3, t4, t5, f7]) (by simp [f7, f8]))
    ·intro b h0 ha hd
     have t0 : b 0 = true := ha 0 (by decide)
     have t1 : b 1 = true := ha 1 (by decide)
     have t2 : b 2 = true := ha 2 (by decide)
     have t3 : b 3 = true := ha 3 (by decide)
     have t4 : b 4 = true := ha 4 (by decide)
     have t5 : b 5 = true := ha 5 (by decide)
     have t6 : b 6 = true := ha 6 (by decide)
     have f8 : b 8 = false := hd 8 (by decide)
     have f9 : b 9 = false := hd 9 (by decide)
     simp only [h0, t0, t1, t2, t3, t4, t5, t6, f8, if_true, if_false, Bool.false_eq_true]
     refine Chain.callO (d := 40) (p16 N x12 r14 hr14) (by simp) rfl rfl (by simp <;> rfl) (by simp <;> rfl) ent16 (by simp) ⟨by simp, by simp⟩ ?_
     exact Chain.nil (by simp [t0, t1, t2, t3, t4, t5, t6, f8]; exact Sub.table (by simp) (by simp))
    ·intro b h0 ha hd
     have t0 : b 0 = true := ha 0 (by decide)
     have t1 : b 1 = true := ha 1 (by decide)
     have t2 : b 2 = true := ha 2 (by decide)
     have t3 : b 3 = true := ha 3 (by decide)
     have t4 : b 4 = true := ha 4 (by decide)
     have t5 : b 5 = true := ha 5 (by decide)
     have t6 : b 6 = true := ha 6 (by decide)
     have t7 : b 7 = true := ha 7 (by decide)
     have f9 : b 9 = false := hd 9 (by decide)
     refine Chain.runK [] 1 fun K hK => ?_; simp [h0, t0, t1, t2, t3, t4, t5, t6, t7]; refine hK _ _ ?_; clear hK K
     exact Chain.nil (Sub.table (by simp [t0, t1, t2, t3, t4, t5, t6, t7]) (by simp [t7]))
    ·intro b h0 ha hd
     have t0 : b 0 = true := ha 0 (by decide)
     have t1 : b 1 = true := ha 1 (by decide)
     have t2 : b 2 = true := ha 2 (by decide)
     have t3 : b 3 = true := ha 3 (by decide)
     have t4 : b 4 = true := ha 4 (by decide)
     have t5 : b 5 = true := ha 5 (by decide)
     have t6 : b 6 = true := ha 6 (by decide)
     have t7 : b 7 = true := ha 7 (by decide)
     have t8 : b 8 = true := ha 8 (by decide)
     refine Chain.runK [] 1 fun K hK => ?_; simp [t0, t1, t2, t3, t4, t5, t6, t7, t8]; refine hK _ _ ?_; clear hK K
     exact Chain.nil (Sub.table (by simp [t0, t1, t2, t3, t4, t5, t6, t7]) (by simp [t7, t8]))
    ·intro b hb
     have t0 := hb 0 (by decide)
     have t1 := hb 1 (by decide)
     have t2 := hb 2 (by decide)
     have t3 := hb 3 (by decide)
     have t4 := hb 4 (by decide)
     have t5 := hb 5 (by decide)
     have t6 := hb 6 (by decide)
     have t7 := hb 7 (by decide)
     have t8 := hb 8 (by decide)
     have t9 := hb 9 (by decide)
     exact Sub.table (by simp [t0, t1, t2, t3, t4, t5, t6, t7]) (by simp [t7, t8])
    ·skip
     refine AW.sub (Sub.freeze 40 rfl) ?_
     refine AW.sub (S' := mk 41 [1000] [(4, .ptr 4 0 0), (5, .ptr 5 0 0)] [(4, some (.box [.d (.sl (r14.map (cI .u8)))])), (5, some (.box [.d (.lit (.int .i64 0))])), (1000, some (.box [.ref 25000 0 a0.durable.length, .ref 25001 0 a0.pending.length])), (25000, some (.arr 30 1 (a0.durable.map (cL (cI .u8))))), (25001, some (.arr 66 2 (a0.pending.map cS66)))]) (by simp; exact Sub.table (by simp) (by simp)) ?_
     refine AW.ret ?_
     cases h
     exact FinF.ret (by simp) (by simp)

/-- bytes.Equal -/
def d15 (_N : Nat) (a0 : (List Int)) (a1 : (List Int)) : Option Bool :=
 some (decide ((bstr a0) = (bstr a1)))
set_option maxRecDepth 100000 in
set_option maxHeartbeats 4000000 in
theorem p15 (N : Nat) (a0 : (List Int)) (a1 : (List Int)) (r : Bool) (h : d15 N a0 a1 = some r) : FunC Try.prog 15 [.d (.sl (a0.map (cI .u8))), .d (.sl (a1.map (cI .u8)))] (.d (.lit (.bool r))) := by
 unfold d15 at h
 refine FunC.enter 10 [(0, .d (.sl (a0.map (cI .u8)))), (1, .d (.sl (a1.map (cI .u8))))] (by simp) Try.func15 rfl (of_decide_eq_true rfl) rfl rfl ?_
 refine AW.seqR ?_
 refine Chain.runK [] 1 fun K hK => ?_; simp; refine hK _ _ ?_; clear hK K
 refine Chain.sub (S' := mk 10 [] [(0, .d (.sl (a0.map (cI .u8)))), (1, .d (.sl (a1.map (cI .u8))))] []) Sub.tt ?_
 refine Chain.nil ?_
 refine AW.seqR ?_
 refine Chain.runK [] 1 fun K hK => ?_; simp; refine hK _ _ ?_; clear hK K
 refine Chain.sub (S' := mk 10 [] [(1, .d (.sl (a1.map (cI .u8)))), (5, .d (.sl (a0.map (cI .u8))))] []) Sub.tt ?_
 refine Chain.pureP (by simp) (pure_b2s a0 ty30 rfl ty9 rfl ty5 rfl rfl) ?_
 refine Chain.sub (S' := mk 10 [] [(1, .d (.sl (a1.map (cI .u8)))), (5, .d (.sl (a0.map (cI .u8)))), (6, .d (.lit (.string (bstr a0))))] []) (by simp; exact Sub.table (by simp) (by simp)) ?_
 refine Chain.runK [] 1 fun K hK => ?_; simp; refine hK _ _ ?_; clear hK K
 refine Chain.sub (S' := mk 10 [] [(6, .d (.lit (.string (bstr a0)))), (7, .d (.sl (a1.map (cI .u8))))] []) Sub.tt ?_
 refine Chain.pureP (by simp) (pure_b2s a1 ty30 rfl ty9 rfl ty5 rfl rfl) ?_
 refine Chain.sub (S' := mk 10 [] [(6, .d (.lit (.string (bstr a0)))), (7, .d (.sl (a1.map (cI .u8)))), (8, .d (.lit (.string (bstr a1))))] []) (by simp; exact Sub.table (by simp) (by simp)) ?_
 refine Chain.runK [] 2 fun K hK => ?_; simp; refine hK _ _ ?_; clear hK K
 refine Chain.sub (S' := mk 10 [] [(4, .d (.lit (.bool (decide ((bstr a0) = (bstr a1))))))] []) Sub.tt ?_
 refine Chain.nil ?_
 refine AW.ret ?_
 cases h
 exact FinC.ret (by simp) (by simp)

end Go.Proofs.Ytiikoldaocnilaa
