/- Functions of the program as functional programs; the code computes them. -/
import Derived.Test.YtifcmomjjkbboabRp5
namespace Go.Proofs.Ytifcmomjjkbboab
open Go.Ab Go.Rp
attribute [-simp] List.all_eq_true Array.all_toList Array.all_eq_true

/-- stemma/stemlaw5.replicationAppend -/
def d10 (N : Nat) (a0 : S44) (a1 : Int) (a2 : ByteArray) : Option (S44 × Int) :=
 (chkI ((a0.Servers.length : Int) - 1)).bind fun v1 =>
 (d12 N a1 0 v1).bind fun r2 =>
 if (!r2) = true then (
  some (a0, 1)
 ) else
 if (a2.size : Int) > 24 then (
  some (a0, 2)
 ) else
 (d13 N a0 a1).bind fun r5 =>
 if (!r5) = true then (
  some (a0, 15)
 ) else
 (idx a0.Servers a1).bind fun x7 =>
 if (x7.Log.length : Int) ≥ 60 then (
  some (a0, 18)
 ) else
 (idx a0.Servers a1).bind fun _x12 =>
 (idx a0.Servers a1).bind fun x15 =>
 (appL 24 x15.Log [(S64.mk x15.Term a2)]).bind fun _l18 =>
 letv (setI a0.Servers a1 (S68.mk x15.Term x15.Commit (x15.Log ++ [(S64.mk x15.Term a2)]) x15.Match)) fun l19 =>
 (d27 N (S44.mk l19 a0.Leaders a0.Network) a1).bind fun r20 =>
 some (r20, 0)
set_option maxRecDepth 100000 in
set_option maxHeartbeats 4000000 in
theorem p10 (N : Nat) (a0 : S44) (a1 : Int) (a2 : ByteArray) (r : (S44 × Int)) (h : d10 N a0 a1 a2 = some r) : FunM Try.prog 10 [.ptr 1000 0 0, .i a1, .d (.lit (.string a2))] [(1000, some (.box [.ref 25000 0 a0.Servers.length, .ref 25001 0 a0.Leaders.length, .ref 25002 0 a0.Network.length])), (25000, some (.nest 68 4 [none, none, some (71, 2), some (3, 1)] (a0.Servers.map cS68) [])), (25001, R3 a0.Leaders), (25002, R47 a0.Network)] [1000] (.i r.2) ([(1000, (.box [.ref 25000 0 r.1.Servers.length, .ref 25001 0 r.1.Leaders.length, .ref 25002 0 r.1.Network.length])), (25000, (.nest 68 4 [none, none, some (71, 2), some (3, 1)] (r.1.Servers.map cS68) [])), (25001, (.arr 3 1 (r.1.Leaders.map (cI .i64)))), (25002, (.arr 47 8 (r.1.Network.map cS73)))]) := by
 unfold d10 at h
 refine FunM.enter 62 [(0, .ptr 1000 0 0), (1, .i a1), (2, .d (.lit (.string a2)))] Try.func10 rfl (of_decide_eq_true rfl) rfl rfl ?_
 refine .seqR ?_
 refine .runK [] 1 fun K k => ?_; simp; refine k _ _ ?_; clear k K
 refine .tt (L3 a1 a2) (H4 a0) ?_
 refine .nil ?_
 refine .seq ?_
 refine .block ?_
 refine .seqR ?_
 replace h := bsome h; obtain ⟨v1, hv1, h⟩ := h
 have hv1 := chkI_some hv1
 refine .runK [] 7 fun K k => ?_; simp [hv1]; refine k _ _ ?_; clear k K
 refine .tt (L3 a1 a2 ++ [(9, .i a1), (15, .i v1)]) (H4 a0) ?_
 replace h := bsome h; obtain ⟨r2, hr2, h⟩ := h
 refine .callL (d := 16) (p12 N a1 0 v1 r2 hr2) (by simp) rfl rfl (by simp <;> rfl) (by simp <;> rfl) ent12 (by simp <;> rfl) ?_
 refine .st (mk 62 [1000] (L3 a1 a2 ++ [(9, .i a1), (15, .i v1), (16, .b r2)]) (H4 a0)) ?_
 refine .runK [] 2 fun K k => ?_; simp; refine k _ _ ?_; clear k K
 refine .tt (L3 a1 a2 ++ [(8, .b (!r2))]) (H4 a0) ?_
 refine .nil ?_
 replace h := isome h; rcases h with ⟨c3, h⟩ | ⟨c3, h⟩
 ·have c3_ : (!r2) = true := c3
  refine .condT (b := (!r2)) rfl c3_ ?_
  refine .sub (.bool 8 (b := (!r2)) rfl c3_) ?_
  refine .st (mk 62 [1000] (L3 a1 a2 ++ [(8, .b true)]) (H4 a0)) ?_
  refine .seqR ?_
  refine .runK [] 1 fun K k => ?_; simp; refine k _ _ ?_; clear k K
  refine .tt [(6, .i 1)] (H4 a0) ?_
  refine .nil ?_
  refine .ret ?_
  cases h
  refine blockQ.ret ?_
  refine thenQ_pass (by simp) ?_
  exact FinF.ret (by simp) (by simp)
 have c3_ : (!r2) = false := Bool.eq_false_iff.2 c3
 refine .condF (b := (!r2)) rfl c3_ ?_
 refine .sub (.bool 8 (b := (!r2)) rfl c3_) ?_
 refine .st (mk 62 [1000] (L3 a1 a2 ++ [(8, .b false)]) (H4 a0)) ?_
 refine .seqR ?_
 refine .runK [] 4 fun K k => ?_; simp; refine k _ _ ?_; clear k K
 refine .tt (L3 a1 a2 ++ [(18, .b (decide ((a2.size : Int) > 24)))]) (H4 a0) ?_
 refine .nil ?_
 replace h := isome h; rcases h with ⟨c4, h⟩ | ⟨c4, h⟩
 ·have c4_ : decide ((a2.size : Int) > 24) = true := decide_eq_true c4
  refine .condT (b := decide ((a2.size : Int) > 24)) rfl c4_ ?_
  refine .sub (.bool 18 (b := decide ((a2.size : Int) > 24)) rfl c4_) ?_
  refine .st (mk 62 [1000] (L3 a1 a2 ++ [(18, .b true)]) (H4 a0)) ?_
  refine .seqR ?_
  refine .runK [] 1 fun K k => ?_; simp; refine k _ _ ?_; clear k K
  refine .tt [(6, .i 2)] (H4 a0) ?_
  refine .nil ?_
  refine .ret ?_
  cases h
  refine blockQ.ret ?_
  refine thenQ_pass (by simp) ?_
  exact FinF.ret (by simp) (by simp)
 have c4_ : decide ((a2.size : Int) > 24) = false := decide_eq_false c4
 refine .condF (b := decide ((a2.size : Int) > 24)) rfl c4_ ?_
 refine .sub (.bool 18 (b := decide ((a2.size : Int) > 24)) rfl c4_) ?_
 refine .st (mk 62 [1000] (L3 a1 a2 ++ [(18, .b false)]) (H4 a0)) ?_
 refine .seqR ?_
 refine .runK [] 2 fun K k => ?_; simp; refine k _ _ ?_; clear k K
 refine .tt (L3 a1 a2 ++ [(23, .ptr 1000 0 0), (24, .i a1)]) (H4 a0) ?_
 replace h := bsome h; obtain ⟨r5, hr5, h⟩ := h
 refine .callL (d := 25) (p13 N a0 a1 r5 hr5) (by simp) rfl rfl (by simp <;> rfl) (by simp <;> rfl) ent13 (by simp <;> rfl) ?_
 refine .st (mk 62 [1000] (L3 a1 a2 ++ [(23, .ptr 1000 0 0), (24, .i a1), (25, .b r5)]) (H4 a0)) ?_
 refine .runK [] 2 fun K k => ?_; simp; refine k _ _ ?_; clear k K
 refine .tt (L3 a1 a2 ++ [(22, .b (!r5))]) (H4 a0) ?_
 refine .nil ?_
 replace h := isome h; rcases h with ⟨c6, h⟩ | ⟨c6, h⟩
 ·have c6_ : (!r5) = true := c6
  refine .condT (b := (!r5)) rfl c6_ ?_
  refine .sub (.bool 22 (b := (!r5)) rfl c6_) ?_
  refine .st (mk 62 [1000] (L3 a1 a2 ++ [(22, .b true)]) (H4 a0)) ?_
  refine .seqR ?_
  refine .runK [] 1 fun K k => ?_; simp; refine k _ _ ?_; clear k K
  refine .tt [(6, .i 15)] (H4 a0) ?_
  refine .nil ?_
  refine .ret ?_
  cases h
  refine blockQ.ret ?_
  refine thenQ_pass (by simp) ?_
  exact FinF.ret (by simp) (by simp)
 have c6_ : (!r5) = false := Bool.eq_false_iff.2 c6
 refine .condF (b := (!r5)) rfl c6_ ?_
 refine .sub (.bool 22 (b := (!r5)) rfl c6_) ?_
 refine .st (mk 62 [1000] (L3 a1 a2 ++ [(22, .b false)]) (H4 a0)) ?_
 refine .seqR ?_
 refine .runK [] 5 fun K k => ?_; simp; refine k _ _ ?_; clear k K
 refine .tt (L3 a1 a2 ++ [(31, .ref 25000 0 a0.Servers.length), (32, .i a1)]) (H4 a0) ?_
 replace h := bsome h; obtain ⟨x7, hx7, h⟩ := h
 obtain ⟨k8, hx7k, hx7, hx7a, hx7b⟩ := idx_some hx7
 refine .sub (.open 25000 k8 [9009, 9010] (e := cS68 x7) rfl rfl (by simp [hx7]) rfl (by simp) rfl) ?_
 refine .st (mk 62 [1000] (L3 a1 a2 ++ [(31, .ref 25000 0 a0.Servers.length), (32, .i a1)]) [(1000, some (.box [.ref 25000 0 a0.Servers.length, .ref 25001 0 a0.Leaders.length, .ref 25002 0 a0.Network.length])), (9009, R71 x7.Log), (9010, R3 x7.Match), (25000, some (.nest 68 4 [none, none, some (71, 2), some (3, 1)] (a0.Servers.map cS68) [(k8, [.i x7.Term, .i x7.Commit, .ref 9009 0 x7.Log.length, .ref 9010 0 x7.Match.length])])), (25001, R3 a0.Leaders), (25002, R47 a0.Network)]) ?_
 refine .runK [] 6 fun K k => ?_; simp [hx7k, hx7a, hx7b]; refine k _ _ ?_; clear k K
 refine .tt (L3 a1 a2 ++ [(27, .b (decide ((x7.Log.length : Int) ≥ 60)))]) [(1000, some (.box [.ref 25000 0 a0.Servers.length, .ref 25001 0 a0.Leaders.length, .ref 25002 0 a0.Network.length])), (9009, R71 x7.Log), (9010, R3 x7.Match), (25000, some (.nest 68 4 [none, none, some (71, 2), some (3, 1)] (a0.Servers.map cS68) [(k8, [.i x7.Term, .i x7.Commit, .ref 9009 0 x7.Log.length, .ref 9010 0 x7.Match.length])])), (25001, R3 a0.Leaders), (25002, R47 a0.Network)] ?_
 refine .sub (.closeSame 25000 k8 (e := cS68 x7) (cs := [.d (.lit (.int .i64 x7.Term)), .d (.lit (.int .i64 x7.Commit)), .ref 9009 0 x7.Log.length, .ref 9010 0 x7.Match.length]) (ks := [9009, 9010]) rfl rfl (by simp [hx7]) (by simp) (by decide) rfl) ?_
 refine .sub (S' := mk 62 [1000] (L3 a1 a2 ++ [(27, .b (decide ((x7.Log.length : Int) ≥ 60)))]) (H4 a0)) (by simp; exact Sub.table (by simp) (by simp)) ?_
 refine .nil ?_
 replace h := isome h; rcases h with ⟨c11, h⟩ | ⟨c11, h⟩
 ·have c11_ : decide ((x7.Log.length : Int) ≥ 60) = true := decide_eq_true c11
  refine .condT (b := decide ((x7.Log.length : Int) ≥ 60)) rfl c11_ ?_
  refine .sub (.bool 27 (b := decide ((x7.Log.length : Int) ≥ 60)) rfl c11_) ?_
  refine .st (mk 62 [1000] (L3 a1 a2 ++ [(27, .b true)]) (H4 a0)) ?_
  refine .seqR ?_
  refine .runK [] 1 fun K k => ?_; simp; refine k _ _ ?_; clear k K
  refine .tt [(6, .i 18)] (H4 a0) ?_
  refine .nil ?_
  refine .ret ?_
  cases h
  refine blockQ.ret ?_
  refine thenQ_pass (by simp) ?_
  exact FinF.ret (by simp) (by simp)
 have c11_ : decide ((x7.Log.length : Int) ≥ 60) = false := decide_eq_false c11
 refine .condF (b := decide ((x7.Log.length : Int) ≥ 60)) rfl c11_ ?_
 refine .sub (.bool 27 (b := decide ((x7.Log.length : Int) ≥ 60)) rfl c11_) ?_
 refine .st (mk 62 [1000] (L3 a1 a2 ++ [(27, .b false)]) (H4 a0)) ?_
 refine .skip ?_
 refine blockQ.normal ?_
 refine thenQ_normal ?_
 refine .seqR ?_
 refine .runK [] 5 fun K k => ?_; simp; refine k _ _ ?_; clear k K
 refine .tt (L3 a1 a2 ++ [(41, .ref 25000 0 a0.Servers.length), (42, .i a1)]) (H4 a0) ?_
 replace h := bsome h; obtain ⟨x12, hx12, h⟩ := h
 obtain ⟨hx12, hx12a, hx12b⟩ := idx_some2 hx12 hx7k
 refine .sub (.open 25000 k8 [9013, 9014] (e := cS68 x12) rfl rfl (by simp [hx12]) rfl (by simp) rfl) ?_
 refine .st (mk 62 [1000] (L3 a1 a2 ++ [(41, .ref 25000 0 a0.Servers.length), (42, .i a1)]) [(1000, some (.box [.ref 25000 0 a0.Servers.length, .ref 25001 0 a0.Leaders.length, .ref 25002 0 a0.Network.length])), (9013, R71 x12.Log), (9014, R3 x12.Match), (25000, some (.nest 68 4 [none, none, some (71, 2), some (3, 1)] (a0.Servers.map cS68) [(k8, [.i x12.Term, .i x12.Commit, .ref 9013 0 x12.Log.length, .ref 9014 0 x12.Match.length])])), (25001, R3 a0.Leaders), (25002, R47 a0.Network)]) ?_
 refine .runK [] 2 fun K k => ?_; simp [hx7k, hx12a, hx12b]; refine k _ _ ?_; clear k K
 refine .tt (L4 a1 a2 k8) [(1000, some (.box [.ref 25000 0 a0.Servers.length, .ref 25001 0 a0.Leaders.length, .ref 25002 0 a0.Network.length])), (9013, R71 x12.Log), (9014, R3 x12.Match), (25000, some (.nest 68 4 [none, none, some (71, 2), some (3, 1)] (a0.Servers.map cS68) [(k8, [.i x12.Term, .i x12.Commit, .ref 9013 0 x12.Log.length, .ref 9014 0 x12.Match.length])])), (25001, R3 a0.Leaders), (25002, R47 a0.Network)] ?_
 refine .sub (.closeSame 25000 k8 (e := cS68 x12) (cs := [.d (.lit (.int .i64 x12.Term)), .d (.lit (.int .i64 x12.Commit)), .ref 9013 0 x12.Log.length, .ref 9014 0 x12.Match.length]) (ks := [9013, 9014]) rfl rfl (by simp [hx12]) (by simp) (by decide) rfl) ?_
 refine .sub (S' := mk 62 [1000] (L4 a1 a2 k8) (H4 a0)) (by simp; exact Sub.table (by simp) (by simp)) ?_
 refine .nil ?_
 replace h := bsome h; obtain ⟨x15, hx15, h⟩ := h
 obtain ⟨hx15, hx15a, hx15b⟩ := idx_some2 hx15 hx7k
 refine .sub (.open 25000 k8 [9016, 9017] (e := cS68 x15) rfl rfl (by simp [hx15]) rfl (by simp) rfl) ?_
 refine .st (mk 62 [1000] (L4 a1 a2 k8) [(1000, some (.box [.ref 25000 0 a0.Servers.length, .ref 25001 0 a0.Leaders.length, .ref 25002 0 a0.Network.length])), (9016, R71 x15.Log), (9017, R3 x15.Match), (25000, some (.nest 68 4 [none, none, some (71, 2), some (3, 1)] (a0.Servers.map cS68) [(k8, [.i x15.Term, .i x15.Commit, .ref 9016 0 x15.Log.length, .ref 9017 0 x15.Match.length])])), (25001, R3 a0.Leaders), (25002, R47 a0.Network)]) ?_
 replace h := bsome h; obtain ⟨l18, hl18, h⟩ := h
 obtain ⟨hl18a, hl18⟩ := appL_some hl18
 subst hl18
 try simp only [List.length_cons, List.length_nil, Nat.zero_add] at hl18a
 refine .seqAnyS [[], [], [1], [1, 2], [1, 2, 3], [], [5], [5, 6], [5, 6, 7], [], [5, 6, 7, 8, 9], [5, 6, 7, 8, 9, 10], [1, 2, 3, 4, 5, 6, 7, 8, 9, 10, 11], [0, 1, 2, 3, 4, 5, 6, 7, 8, 9, 10, 11, 12], [0, 1, 2, 3, 4, 5, 6, 7, 8, 9, 10, 11, 12, 13], [0, 1, 2, 3, 4, 5, 6, 7, 8, 9, 10, 11, 12, 13, 14]] (fun (b : Nat → Bool) => mk 62 [1000] [(0, .ptr 1000 0 0), (1, .i a1), (2, .d (.lit (.string a2))), (7, .ptr 25000 k8 0), (44, (if b 0 then .ptr 25000 k8 0 else .junk)), (45, (if b 1 then .ptr 25000 k8 0 else .junk)), (46, (if b 2 then .ptr 25000 k8 0 else .junk)), (47, (if b 3 then .ptr 25000 k8 2 else .junk)), (48, (if b 12 then .junk else (if b 4 then .ref 9016 0 x15.Log.length else .junk))), (49, (if b 5 then .ptr 25000 k8 0 else .junk)), (50, (if b 6 then .ptr 25000 k8 0 else .junk)), (51, (if b 7 then .ptr 25000 k8 0 else .junk)), (52, (if b 8 then .i x15.Term else .junk)), (53, (if b 9 then .d (.lit (.string a2)) else .junk)), (54, (if b 10 then .agg [.i x15.Term, .d (.lit (.string a2))] else .junk)), (55, (if b 11 then .d (.sl ([(S64.mk x15.Term a2)].map cS64)) else .junk)), (56, (if b 12 then .ref 9016 0 ((x15.Log ++ [(S64.mk x15.Term a2)]).length) else .junk)), (57, (if b 13 then .ptr 25000 k8 0 else .junk)), (58, (if b 14 then .ptr 25000 k8 2 else .junk))] [(1000, some (.box [.ref 25000 0 a0.Servers.length, .ref 25001 0 a0.Leaders.length, .ref 25002 0 a0.Network.length])), (9016, (if b 12 then R71 (x15.Log ++ [(S64.mk x15.Term a2)]) else R71 x15.Log)), (9017, R3 x15.Match), (25000, (if b 15 then some (.nest 68 4 [none, none, some (71, 2), some (3, 1)] (a0.Servers.map cS68) [(k8, [.i x15.Term, .i x15.Commit, .ref 9016 0 ((x15.Log ++ [(S64.mk x15.Term a2)]).length), .ref 9017 0 x15.Match.length])]) else (if b 12 then some (.nest 68 4 [none, none, some (71, 2), some (3, 1)] (a0.Servers.map cS68) [(k8, [.i x15.Term, .i x15.Commit, .hole, .ref 9017 0 x15.Match.length])]) else some (.nest 68 4 [none, none, some (71, 2), some (3, 1)] (a0.Servers.map cS68) [(k8, [.i x15.Term, .i x15.Commit, .ref 9016 0 x15.Log.length, .ref 9017 0 x15.Match.length])])))), (25001, R3 a0.Leaders), (25002, R47 a0.Network)]) (mk 62 [1000] [(0, .ptr 1000 0 0), (1, .i a1)] [(1000, some (.box [.ref 25000 0 a0.Servers.length, .ref 25001 0 a0.Leaders.length, .ref 25002 0 a0.Network.length])), (9016, R71 (x15.Log ++ [(S64.mk x15.Term a2)])), (9017, R3 x15.Match), (25000, some (.nest 68 4 [none, none, some (71, 2), some (3, 1)] (a0.Servers.map cS68) [(k8, [.i x15.Term, .i x15.Commit, .ref 9016 0 ((x15.Log ++ [(S64.mk x15.Term a2)]).length), .ref 9017 0 x15.Match.length])])), (25001, R3 a0.Leaders), (25002, R47 a0.Network)]) (by kernel_rfl) (by kernel_rfl) Sub.tt (Steps.cons ?_ (Steps.cons ?_ (Steps.cons ?_ (Steps.cons ?_ (Steps.cons ?_ (Steps.cons ?_ (Steps.cons ?_ (Steps.cons ?_ (Steps.cons ?_ (Steps.cons ?_ (Steps.cons ?_ (Steps.cons ?_ (Steps.cons ?_ (Steps.cons ?_ (Steps.cons ?_ (Steps.cons ?_ (Steps.nil))))))))))))))))) ?_ ?_
 iterate 12
  ·intro b h0 ha hd
   have T := fct h0 ha hd; simp at T
   refine .runK [55] 1 fun K k => ?_; simp [T]; refine k _ _ ?_; clear k K
   exact .nil (.table (by simp [T]) (by simp [T]))
 ·intro b h0 ha hd
  have T := fct h0 ha hd; simp at T
  refine .runK [55] 1 fun K k => ?_; simp [T, hl18a]; refine k _ _ ?_; clear k K
  exact .nil (.table (by simp [T]) (by simp [T]))
 iterate 3
  ·intro b h0 ha hd
   have T := fct h0 ha hd; simp at T
   refine .runK [55] 1 fun K k => ?_; simp [T]; refine k _ _ ?_; clear k K
   exact .nil (.table (by simp [T]) (by simp [T]))
 ·intro b hb
  have t0 := hb 0 (by decide)
  have t1 := hb 1 (by decide)
  have t2 := hb 2 (by decide)
  have t3 := hb 3 (by decide)
  have t4 := hb 4 (by decide)
  have t5 := hb 5 (by decide)
  have t6 := hb 6 (by decide)
  have t7 := hb 7 (by decide)
  have t8 := hb 8 (by decide)
  have t9 := hb 9 (by decide)
  have t10 := hb 10 (by decide)
  have t11 := hb 11 (by decide)
  have t12 := hb 12 (by decide)
  have t13 := hb 13 (by decide)
  have t14 := hb 14 (by decide)
  have t15 := hb 15 (by decide)
  exact Sub.table (by simp [t0, t1, t2, t3, t5, t6, t7, t8, t9, t10, t11, t12, t13, t14]) (by simp [t12, t15])
 skip
 replace h := lsome h; obtain ⟨l19, gl19, h⟩ := h
 obtain ⟨hl19, hl19n⟩ := setI_some cS68 gl19 hx7k
 replace hl19 : (a0.Servers.map cS68).set k8 [.lit (.int .i64 x15.Term), .lit (.int .i64 x15.Commit), .sl ((x15.Log ++ [(S64.mk x15.Term a2)]).map cS64), .sl (x15.Match.map (cI .i64))] = l19.map cS68 := hl19
 clear gl19
 try simp only [List.map_append, List.map_cons, List.map_nil, cS64] at hl19
 refine .sub (show Go.Ab.Sub _ (mk 62 [1000] [(0, .ptr 1000 0 0), (1, .i a1)] (H9 l19 a0)) from (Sub.trans (Sub.close 25000 k8 (e := [.lit (.int .i64 x15.Term), .lit (.int .i64 x15.Commit), .sl ((x15.Log ++ [(S64.mk x15.Term a2)]).map cS64), .sl (x15.Match.map (cI .i64))]) (cs := [.i x15.Term, .i x15.Commit, .ref 9016 0 ((x15.Log ++ [(S64.mk x15.Term a2)]).length), .ref 9017 0 x15.Match.length]) (ks := [9016, 9017]) rfl rfl (by simp) (by decide) rfl) (by simp [hl19]; exact Sub.table (by simp) (by simp [hl19n])))) ?_
 refine .seqR ?_
 refine .runK [] 2 fun K k => ?_; simp; refine k _ _ ?_; clear k K
 refine .tt [(59, .ptr 1000 0 0), (60, .i a1)] (H9 l19 a0) ?_
 replace h := bsome h; obtain ⟨r20, hr20, h⟩ := h
 refine .callF (p27 N (S44.mk l19 a0.Leaders a0.Network) a1 r20 hr20) [(1000, 1000), (25000, 25000), (25001, 25001), (25002, 25002)] [1000] [(1000, 1000), (25000, 25000), (25001, 25001), (25002, 25002)] [(1000, (.box [.ref 25000 0 r20.Servers.length, .ref 25001 0 r20.Leaders.length, .ref 25002 0 r20.Network.length])), (25000, (.nest 68 4 [none, none, some (71, 2), some (3, 1)] (r20.Servers.map cS68) [])), (25001, (.arr 3 1 (r20.Leaders.map (cI .i64)))), (25002, (.arr 47 8 (r20.Network.map cS73)))] (.tup []) (by simp) rfl (by simp <;> rfl) (by simp) (by simp) (by simp) (by simp) (by simp) ent27 (by simp) (by simp) (by simp) (by simp) (by simp) (by simp) ?_
 refine .st (mk 62 [1000] [(59, .ptr 1000 0 0), (60, .i a1), (61, .tup [])] (H4 r20)) ?_
 refine .nil ?_
 refine .seqR ?_
 refine .runK [] 1 fun K k => ?_; simp; refine k _ _ ?_; clear k K
 refine .tt [(6, .i 0)] (H4 r20) ?_
 refine .nil ?_
 refine .ret ?_
 cases h
 exact FinF.ret (by simp) (by simp)
end Go.Proofs.Ytifcmomjjkbboab
