/- Functions of the program as functional programs; the code computes them. -/
import Derived.Test.YtifcmomjjkbboabRp1
namespace Go.Proofs.Ytifcmomjjkbboab
open Go.Ab Go.Rp
attribute [-simp] List.all_eq_true Array.all_toList Array.all_eq_true

/-- (*stemma/replication.Cluster).advanceCommit -/
def d25 (N : Nat) (a0 : S59) (a1 : Int) : Option S59 :=
 (idx a0.servers a1).bind fun _x1 =>
 (idx a0.servers a1).bind fun x5 =>
 (idx x5.match_ a1).bind fun _x8 =>
 letv (setI x5.match_ a1 (x5.log.length : Int)) fun l9 =>
 letv (setI a0.servers a1 (S61.mk x5.term x5.commit x5.log l9)) fun l10 =>
 (idx l10 a1).bind fun x11 =>
 (d40 N x11.match_).bind fun r14 =>
 (d41 N r14).bind fun r15 =>
 (chkI ((r15.length : Int) - 1)).bind fun v16 =>
 (quoI v16 2).bind fun v17 =>
 (idx r15 v17).bind fun x18 =>
 Option.bind (α := Bool) (
  (idx l10 a1).bind fun x28 =>
  if x18 > x28.commit then (
   (chkI (x18 - 1)).bind fun v32 =>
   (idx x28.log v32).bind fun x33 =>
   some (x33.Term == x28.term)
  ) else
  some false
 ) fun (v27 : Bool) =>
 if v27 = true then (
  (idx l10 a1).bind fun x36 =>
  letv (setI l10 a1 (S61.mk x36.term x18 x36.log x36.match_)) fun l39 =>
  some (S59.mk l39 a0.leaders a0.network)
 ) else
 some (S59.mk l10 a0.leaders a0.network)
set_option maxRecDepth 100000 in
set_option maxHeartbeats 4000000 in
theorem p25 (N : Nat) (a0 : S59) (a1 : Int) (r : S59) (h : d25 N a0 a1 = some r) : FunM Try.prog 25 [.ptr 1000 0 0, .i a1] [(1000, some (.box [.ref 25000 0 a0.servers.length, .ref 25001 0 a0.leaders.length, .ref 25002 0 a0.network.length])), (25000, some (.nest 61 4 [none, none, some (64, 2), some (3, 1)] (a0.servers.map cS61) [])), (25001, R3 a0.leaders), (25002, R73 a0.network)] [1000] (.tup []) ([(1000, (.box [.ref 25000 0 r.servers.length, .ref 25001 0 r.leaders.length, .ref 25002 0 r.network.length])), (25000, (.nest 61 4 [none, none, some (64, 2), some (3, 1)] (r.servers.map cS61) [])), (25001, (.arr 3 1 (r.leaders.map (cI .i64)))), (25002, (.arr 73 8 (r.network.map cS73)))]) := by
 unfold d25 at h
 refine FunM.enter 64 [(0, .ptr 1000 0 0), (1, .i a1)] Try.func25 rfl (of_decide_eq_true rfl) rfl rfl ?_
 refine .seqR ?_
 refine .runK [] 5 fun K k => ?_; simp; refine k _ _ ?_; clear k K
 refine .tt [(1, .i a1), (10, .ref 25000 0 a0.servers.length), (11, .i a1)] (H1 a0) ?_
 replace h := bsome h; obtain ⟨x1, hx1, h⟩ := h
 obtain ⟨k2, hx1k, hx1, hx1a, hx1b⟩ := idx_some hx1
 refine .sub (.open 25000 k2 [9003, 9004] (e := cS61 x1) rfl rfl (by simp [hx1]) rfl (by simp) rfl) ?_
 refine .st (mk 64 [1000] [(1, .i a1), (10, .ref 25000 0 a0.servers.length), (11, .i a1)] [(1000, some (.box [.ref 25000 0 a0.servers.length, .ref 25001 0 a0.leaders.length, .ref 25002 0 a0.network.length])), (9003, R64 x1.log), (9004, R3 x1.match_), (25000, some (.nest 61 4 [none, none, some (64, 2), some (3, 1)] (a0.servers.map cS61) [(k2, [.i x1.term, .i x1.commit, .ref 9003 0 x1.log.length, .ref 9004 0 x1.match_.length])])), (25001, R3 a0.leaders), (25002, R73 a0.network)]) ?_
 refine .runK [] 2 fun K k => ?_; simp [hx1k, hx1a, hx1b]; refine k _ _ ?_; clear k K
 refine .tt [(1, .i a1), (4, .ptr 25000 k2 0)] [(1000, some (.box [.ref 25000 0 a0.servers.length, .ref 25001 0 a0.leaders.length, .ref 25002 0 a0.network.length])), (9003, R64 x1.log), (9004, R3 x1.match_), (25000, some (.nest 61 4 [none, none, some (64, 2), some (3, 1)] (a0.servers.map cS61) [(k2, [.i x1.term, .i x1.commit, .ref 9003 0 x1.log.length, .ref 9004 0 x1.match_.length])])), (25001, R3 a0.leaders), (25002, R73 a0.network)] ?_
 refine .sub (.closeSame 25000 k2 (e := cS61 x1) (cs := [.d (.lit (.int .i64 x1.term)), .d (.lit (.int .i64 x1.commit)), .ref 9003 0 x1.log.length, .ref 9004 0 x1.match_.length]) (ks := [9003, 9004]) rfl rfl (by simp [hx1]) (by simp) (by decide) rfl) ?_
 refine .sub (S' := mk 64 [1000] [(1, .i a1), (4, .ptr 25000 k2 0)] (H1 a0)) (by simp; exact Sub.table (by simp) (by simp)) ?_
 refine .nil ?_
 replace h := bsome h; obtain ⟨x5, hx5, h⟩ := h
 obtain ⟨hx5, hx5a, hx5b⟩ := idx_some2 hx5 hx1k
 refine .sub (.open 25000 k2 [9006, 9007] (e := cS61 x5) rfl rfl (by simp [hx5]) rfl (by simp) rfl) ?_
 refine .st (mk 64 [1000] [(1, .i a1), (4, .ptr 25000 k2 0)] [(1000, some (.box [.ref 25000 0 a0.servers.length, .ref 25001 0 a0.leaders.length, .ref 25002 0 a0.network.length])), (9006, R64 x5.log), (9007, R3 x5.match_), (25000, some (.nest 61 4 [none, none, some (64, 2), some (3, 1)] (a0.servers.map cS61) [(k2, [.i x5.term, .i x5.commit, .ref 9006 0 x5.log.length, .ref 9007 0 x5.match_.length])])), (25001, R3 a0.leaders), (25002, R73 a0.network)]) ?_
 replace h := bsome h; obtain ⟨x8, hx8, h⟩ := h
 obtain ⟨hx8, hx8a, hx8b⟩ := idx_some2 hx8 hx1k
 replace h := lsome h; obtain ⟨l9, gl9, h⟩ := h
 obtain ⟨hl9, hl9n⟩ := setI_some (cI .i64) gl9 hx1k
 replace hl9 : (x5.match_.map (cI .i64)).set k2 [.lit (.int .i64 (x5.log.length : Int))] = l9.map (cI .i64) := hl9
 clear gl9
 refine .seqAnyS [[], [0], [0, 1], [0, 1, 2], [], [], [5], [5, 6], [5, 6, 7], [5, 6, 7, 8], [0, 1, 2, 3, 4, 5, 6, 7, 8, 9], [0, 1, 2, 3, 4, 5, 6, 7, 8, 9, 10]] (fun (b : Nat → Bool) => mk 64 [1000] [(1, .i a1), (4, .ptr 25000 k2 0), (13, (if b 0 then .ptr 25000 k2 0 else .junk)), (14, (if b 1 then .ptr 25000 k2 0 else .junk)), (15, (if b 2 then .ptr 25000 k2 3 else .junk)), (16, (if b 11 then .ref 9007 0 l9.length else (if b 3 then .ref 9007 0 x5.match_.length else .junk))), (17, (if b 4 then .i a1 else .junk)), (18, (if b 5 then .ptr 25000 k2 0 else .junk)), (19, (if b 6 then .ptr 25000 k2 0 else .junk)), (20, (if b 7 then .ptr 25000 k2 2 else .junk)), (21, (if b 8 then .ref 9006 0 x5.log.length else .junk)), (22, (if b 9 then .i (x5.log.length : Int) else .junk)), (23, (if b 10 then .ptr 9007 k2 0 else .junk))] [(1000, some (.box [.ref 25000 0 a0.servers.length, .ref 25001 0 a0.leaders.length, .ref 25002 0 a0.network.length])), (9006, R64 x5.log), (9007, (if b 11 then R3 l9 else R3 x5.match_)), (25000, (if b 11 then some (.nest 61 4 [none, none, some (64, 2), some (3, 1)] (a0.servers.map cS61) [(k2, [.i x5.term, .i x5.commit, .ref 9006 0 x5.log.length, .ref 9007 0 l9.length])]) else some (.nest 61 4 [none, none, some (64, 2), some (3, 1)] (a0.servers.map cS61) [(k2, [.i x5.term, .i x5.commit, .ref 9006 0 x5.log.length, .ref 9007 0 x5.match_.length])]))), (25001, R3 a0.leaders), (25002, R73 a0.network)]) (mk 64 [1000] [(4, .ptr 25000 k2 0)] [(1000, some (.box [.ref 25000 0 a0.servers.length, .ref 25001 0 a0.leaders.length, .ref 25002 0 a0.network.length])), (9006, R64 x5.log), (9007, R3 l9), (25000, some (.nest 61 4 [none, none, some (64, 2), some (3, 1)] (a0.servers.map cS61) [(k2, [.i x5.term, .i x5.commit, .ref 9006 0 x5.log.length, .ref 9007 0 l9.length])])), (25001, R3 a0.leaders), (25002, R73 a0.network)]) (by kernel_rfl) (by kernel_rfl) Sub.tt (Steps.cons ?_ (Steps.cons ?_ (Steps.cons ?_ (Steps.cons ?_ (Steps.cons ?_ (Steps.cons ?_ (Steps.cons ?_ (Steps.cons ?_ (Steps.cons ?_ (Steps.cons ?_ (Steps.cons ?_ (Steps.cons ?_ (Steps.nil))))))))))))) ?_ ?_
 iterate 10
  ·intro b h0 ha hd
   have T := fct h0 ha hd; simp at T
   refine .runK [] 1 fun K k => ?_; simp [T]; refine k _ _ ?_; clear k K
   exact .nil (.table (by simp [T]) (by simp [T]))
 ·intro b h0 ha hd
  have T := fct h0 ha hd; simp at T
  refine .runK [] 1 fun K k => ?_; simp [T, hx1k, hx8a, hx8b]; refine k _ _ ?_; clear k K
  exact .nil (.table (by simp [T]) (by simp [T]))
 ·intro b h0 ha hd
  have T := fct h0 ha hd; simp at T
  refine .runK [] 1 fun K k => ?_; simp [T, hx8, hl9]; refine k _ _ ?_; clear k K
  exact .nil (.table (by simp [T, hl9n]) (by simp [hl9n]))
 ·intro b hb
  have t0 := hb 0 (by decide)
  have t1 := hb 1 (by decide)
  have t2 := hb 2 (by decide)
  have t3 := hb 3 (by decide)
  have t4 := hb 4 (by decide)
  have t5 := hb 5 (by decide)
  have t6 := hb 6 (by decide)
  have t7 := hb 7 (by decide)
  have t8 := hb 8 (by decide)
  have t9 := hb 9 (by decide)
  have t10 := hb 10 (by decide)
  have t11 := hb 11 (by decide)
  exact Sub.table (by simp [t0, t1, t2, t4, t5, t6, t7, t8, t9, t10, t11]) (by simp [t11])
 skip
 replace h := lsome h; obtain ⟨l10, gl10, h⟩ := h
 obtain ⟨hl10, hl10n⟩ := setI_some cS61 gl10 hx1k
 replace hl10 : (a0.servers.map cS61).set k2 [.lit (.int .i64 x5.term), .lit (.int .i64 x5.commit), .sl (x5.log.map cS64), .sl (l9.map (cI .i64))] = l10.map cS61 := hl10
 clear gl10
 refine .sub (show Go.Ab.Sub _ (mk 64 [1000] [(4, .ptr 25000 k2 0)] (H16 l10 a0)) from (Sub.trans (Sub.close 25000 k2 (e := [.lit (.int .i64 x5.term), .lit (.int .i64 x5.commit), .sl (x5.log.map cS64), .sl (l9.map (cI .i64))]) (cs := [.i x5.term, .i x5.commit, .ref 9006 0 x5.log.length, .ref 9007 0 l9.length]) (ks := [9006, 9007]) rfl rfl (by simp) (by decide) rfl) (by simp [hl10]; exact Sub.table (by simp) (by simp [hl10n])))) ?_
 refine .seqR ?_
 refine .runK [] 3 fun K k => ?_; simp; refine k _ _ ?_; clear k K
 refine .tt [(4, .ptr 25000 k2 0), (26, .ptr 25000 k2 3)] (H16 l10 a0) ?_
 replace h := bsome h; obtain ⟨x11, hx11, h⟩ := h
 obtain ⟨hx11, hx11a, hx11b⟩ := idx_some2 hx11 hx1k
 refine .sub (.open 25000 k2 [9012, 9013] (e := cS61 x11) rfl rfl (by simp [hx11]) rfl (by simp) rfl) ?_
 refine .st (mk 64 [1000] [(4, .ptr 25000 k2 0), (26, .ptr 25000 k2 3)] [(1000, some (.box [.ref 25000 0 l10.length, .ref 25001 0 a0.leaders.length, .ref 25002 0 a0.network.length])), (9012, R64 x11.log), (9013, R3 x11.match_), (25000, some (.nest 61 4 [none, none, some (64, 2), some (3, 1)] (l10.map cS61) [(k2, [.i x11.term, .i x11.commit, .ref 9012 0 x11.log.length, .ref 9013 0 x11.match_.length])])), (25001, R3 a0.leaders), (25002, R73 a0.network)]) ?_
 refine .runK [] 1 fun K k => ?_; simp; refine k _ _ ?_; clear k K
 refine .tt [(4, .ptr 25000 k2 0), (27, .ref 9013 0 x11.match_.length)] [(1000, some (.box [.ref 25000 0 l10.length, .ref 25001 0 a0.leaders.length, .ref 25002 0 a0.network.length])), (9012, R64 x11.log), (9013, R3 x11.match_), (25000, some (.nest 61 4 [none, none, some (64, 2), some (3, 1)] (l10.map cS61) [(k2, [.i x11.term, .i x11.commit, .ref 9012 0 x11.log.length, .ref 9013 0 x11.match_.length])])), (25001, R3 a0.leaders), (25002, R73 a0.network)] ?_
 replace h := bsome h; obtain ⟨r14, hr14, h⟩ := h
 refine .callOF (d := 28) (p40 N x11.match_ r14 hr14) (by simp) rfl rfl (by simp <;> rfl) (by simp <;> rfl) ent40 (by simp) (fun r h => flat_of_ren r h) (flat_map (by simp [cI]) _) ?_
 refine .st (mk 64 [1000] [(4, .ptr 25000 k2 0), (27, .ref 9013 0 x11.match_.length), (28, .ref 28 0 r14.length)] [(28, R3 r14), (1000, some (.box [.ref 25000 0 l10.length, .ref 25001 0 a0.leaders.length, .ref 25002 0 a0.network.length])), (9012, R64 x11.log), (9013, R3 x11.match_), (25000, some (.nest 61 4 [none, none, some (64, 2), some (3, 1)] (l10.map cS61) [(k2, [.i x11.term, .i x11.commit, .ref 9012 0 x11.log.length, .ref 9013 0 x11.match_.length])])), (25001, R3 a0.leaders), (25002, R73 a0.network)]) ?_
 refine .runK [] 1 fun K k => ?_; simp; refine k _ _ ?_; clear k K
 refine .tt [(4, .ptr 25000 k2 0), (5, .ref 28 0 r14.length)] [(28, R3 r14), (1000, some (.box [.ref 25000 0 l10.length, .ref 25001 0 a0.leaders.length, .ref 25002 0 a0.network.length])), (9012, R64 x11.log), (9013, R3 x11.match_), (25000, some (.nest 61 4 [none, none, some (64, 2), some (3, 1)] (l10.map cS61) [(k2, [.i x11.term, .i x11.commit, .ref 9012 0 x11.log.length, .ref 9013 0 x11.match_.length])])), (25001, R3 a0.leaders), (25002, R73 a0.network)] ?_
 refine .sub (.closeSame 25000 k2 (e := cS61 x11) (cs := [.d (.lit (.int .i64 x11.term)), .d (.lit (.int .i64 x11.commit)), .ref 9012 0 x11.log.length, .ref 9013 0 x11.match_.length]) (ks := [9012, 9013]) rfl rfl (by simp [hx11]) (by simp) (by decide) rfl) ?_
 refine .sub (S' := mk 64 [1000] [(4, .ptr 25000 k2 0), (5, .ref 28 0 r14.length)] (H29 r14 l10 a0)) (by simp; exact Sub.table (by simp) (by simp)) ?_
 refine .nil ?_
 refine .seqR ?_
 refine .runK [] 1 fun K k => ?_; simp; refine k _ _ ?_; clear k K
 refine .tt [(4, .ptr 25000 k2 0), (5, .ref 28 0 r14.length), (29, .ref 28 0 r14.length)] (H29 r14 l10 a0) ?_
 replace h := bsome h; obtain ⟨r15, hr15, h⟩ := h
 refine .callF (p41 N r14 r15 hr15) [(28, 1000)] [28] [(1000, 28)] [(28, .arr 3 1 (r15.map (cI .i64)))] (.tup []) (by simp) rfl (by simp <;> rfl) (by simp) (by simp) (by simp) (by simp) (by simp) ent41 (by simp) (by simp) (by simp) (by simp) (by simp) (by simp) ?_
 have hlr15 := l41 N r14 r15 hr15
 refine .sub (S' := mk 64 [1000] [(4, .ptr 25000 k2 0), (5, .ref 28 0 r15.length), (29, .ref 28 0 r15.length), (30, .tup [])] (H29 r15 l10 a0)) (by simp [hlr15]; exact Sub.table (by simp) (by simp)) ?_
 refine .nil ?_
 refine .seqR ?_
 replace h := bsome h; obtain ⟨v16, hv16, h⟩ := h
 have hv16 := chkI_some hv16
 replace h := bsome h; obtain ⟨v17, hv17, h⟩ := h
 obtain ⟨hv17a, hv17⟩ := quoI_some hv17
 replace h := bsome h; obtain ⟨x18, hx18, h⟩ := h
 obtain ⟨k19, hx18k, hx18, hx18a, hx18b⟩ := idx_some hx18
 refine .runK [] 8 fun K k => ?_; simp [hv16, hv17, hv17a, hx18, hx18k, hx18a, hx18b]; refine k _ _ ?_; clear k K
 refine .tt [(4, .ptr 25000 k2 0), (6, .i x18)] (H16 l10 a0) ?_
 refine .nil ?_
 replace h := bsome h; obtain ⟨v27, hj, h⟩ := h
 refine .cutQ (by kernel_rfl) (by kernel_rfl) (mk 64 [1000] [(4, .ptr 25000 k2 0), (6, .i x18), (59, .b v27)] (H16 l10 a0)) ?_ ?_
 ·clear h; have h := hj; clear hj
  refine .runQ 4 fun K k => ?_; simp; refine k _ _ ?_; clear k K
  refine .tt [(4, .ptr 25000 k2 0), (6, .i x18), (38, .i x18), (41, .ptr 25000 k2 1)] (H16 l10 a0) ?_
  replace h := bsome h; obtain ⟨x28, hx28, h⟩ := h
  obtain ⟨hx28, hx28a, hx28b⟩ := idx_some2 hx28 hx1k
  refine .sub (.open 25000 k2 [9029, 9030] (e := cS61 x28) rfl rfl (by simp [hx28]) rfl (by simp) rfl) ?_
  refine .st (mk 64 [1000] [(4, .ptr 25000 k2 0), (6, .i x18), (38, .i x18), (41, .ptr 25000 k2 1)] [(1000, some (.box [.ref 25000 0 l10.length, .ref 25001 0 a0.leaders.length, .ref 25002 0 a0.network.length])), (9029, R64 x28.log), (9030, R3 x28.match_), (25000, some (.nest 61 4 [none, none, some (64, 2), some (3, 1)] (l10.map cS61) [(k2, [.i x28.term, .i x28.commit, .ref 9029 0 x28.log.length, .ref 9030 0 x28.match_.length])])), (25001, R3 a0.leaders), (25002, R73 a0.network)]) ?_
  refine .runQ 3 fun K k => ?_; simp; refine k _ _ ?_; clear k K
  refine .tt [(4, .ptr 25000 k2 0), (6, .i x18), (44, .b (decide (x18 > x28.commit)))] [(1000, some (.box [.ref 25000 0 l10.length, .ref 25001 0 a0.leaders.length, .ref 25002 0 a0.network.length])), (9029, R64 x28.log), (9030, R3 x28.match_), (25000, some (.nest 61 4 [none, none, some (64, 2), some (3, 1)] (l10.map cS61) [(k2, [.i x28.term, .i x28.commit, .ref 9029 0 x28.log.length, .ref 9030 0 x28.match_.length])])), (25001, R3 a0.leaders), (25002, R73 a0.network)] ?_
  replace h := isome h; rcases h with ⟨c31, h⟩ | ⟨c31, h⟩
  ·have c31_ : decide (x18 > x28.commit) = true := decide_eq_true c31
   refine .sub (.bool 44 (b := decide (x18 > x28.commit)) rfl c31_) ?_
   refine .st (mk 64 [1000] [(4, .ptr 25000 k2 0), (6, .i x18), (44, .b true)] [(1000, some (.box [.ref 25000 0 l10.length, .ref 25001 0 a0.leaders.length, .ref 25002 0 a0.network.length])), (9029, R64 x28.log), (9030, R3 x28.match_), (25000, some (.nest 61 4 [none, none, some (64, 2), some (3, 1)] (l10.map cS61) [(k2, [.i x28.term, .i x28.commit, .ref 9029 0 x28.log.length, .ref 9030 0 x28.match_.length])])), (25001, R3 a0.leaders), (25002, R73 a0.network)]) ?_
   replace h := bsome h; obtain ⟨v32, hv32, h⟩ := h
   have hv32 := chkI_some hv32
   replace h := bsome h; obtain ⟨x33, hx33, h⟩ := h
   obtain ⟨k34, hx33k, hx33, hx33a, hx33b⟩ := idx_some hx33
   refine .runQ 15 fun K k => ?_; simp [hv32, hx33, hx33k, hx33a, hx33b]; refine k _ _ ?_; clear k K
   refine .tt [(4, .ptr 25000 k2 0), (6, .i x18), (59, .b (x33.Term == x28.term))] [(1000, some (.box [.ref 25000 0 l10.length, .ref 25001 0 a0.leaders.length, .ref 25002 0 a0.network.length])), (9029, R64 x28.log), (9030, R3 x28.match_), (25000, some (.nest 61 4 [none, none, some (64, 2), some (3, 1)] (l10.map cS61) [(k2, [.i x28.term, .i x28.commit, .ref 9029 0 x28.log.length, .ref 9030 0 x28.match_.length])])), (25001, R3 a0.leaders), (25002, R73 a0.network)] ?_
   refine .sub (.closeSame 25000 k2 (e := cS61 x28) (cs := [.d (.lit (.int .i64 x28.term)), .d (.lit (.int .i64 x28.commit)), .ref 9029 0 x28.log.length, .ref 9030 0 x28.match_.length]) (ks := [9029, 9030]) rfl rfl (by simp [hx28]) (by simp) (by decide) rfl) ?_
   refine .sub (S' := mk 64 [1000] [(4, .ptr 25000 k2 0), (6, .i x18), (59, .b (x33.Term == x28.term))] (H16 l10 a0)) (by simp; exact Sub.table (by simp) (by simp)) ?_
   cases h
   exact .nil .tt
  have c31_ : decide (x18 > x28.commit) = false := decide_eq_false c31
  refine .sub (.bool 44 (b := decide (x18 > x28.commit)) rfl c31_) ?_
  refine .st (mk 64 [1000] [(4, .ptr 25000 k2 0), (6, .i x18), (44, .b false)] [(1000, some (.box [.ref 25000 0 l10.length, .ref 25001 0 a0.leaders.length, .ref 25002 0 a0.network.length])), (9029, R64 x28.log), (9030, R3 x28.match_), (25000, some (.nest 61 4 [none, none, some (64, 2), some (3, 1)] (l10.map cS61) [(k2, [.i x28.term, .i x28.commit, .ref 9029 0 x28.log.length, .ref 9030 0 x28.match_.length])])), (25001, R3 a0.leaders), (25002, R73 a0.network)]) ?_
  refine .runQ 15 fun K k => ?_; simp; refine k _ _ ?_; clear k K
  refine .tt [(4, .ptr 25000 k2 0), (6, .i x18), (59, .b false)] [(1000, some (.box [.ref 25000 0 l10.length, .ref 25001 0 a0.leaders.length, .ref 25002 0 a0.network.length])), (9029, R64 x28.log), (9030, R3 x28.match_), (25000, some (.nest 61 4 [none, none, some (64, 2), some (3, 1)] (l10.map cS61) [(k2, [.i x28.term, .i x28.commit, .ref 9029 0 x28.log.length, .ref 9030 0 x28.match_.length])])), (25001, R3 a0.leaders), (25002, R73 a0.network)] ?_
  refine .sub (.closeSame 25000 k2 (e := cS61 x28) (cs := [.d (.lit (.int .i64 x28.term)), .d (.lit (.int .i64 x28.commit)), .ref 9029 0 x28.log.length, .ref 9030 0 x28.match_.length]) (ks := [9029, 9030]) rfl rfl (by simp [hx28]) (by simp) (by decide) rfl) ?_
  refine .sub (S' := mk 64 [1000] [(4, .ptr 25000 k2 0), (6, .i x18), (59, .b false)] (H16 l10 a0)) (by simp; exact Sub.table (by simp) (by simp)) ?_
  cases h
  exact .nil .tt
 clear hj
 replace h := isome h; rcases h with ⟨c35, h⟩ | ⟨c35, h⟩
 ·have c35_ : v27 = true := c35
  refine .condT (b := v27) rfl c35_ ?_
  refine .sub (.bool 59 (b := v27) rfl c35_) ?_
  refine .st (mk 64 [1000] [(4, .ptr 25000 k2 0), (6, .i x18), (59, .b true)] (H16 l10 a0)) ?_
  refine .region ?_
  refine .runK [] 4 fun K k => ?_; simp; refine k _ _ ?_; clear k K
  refine .tt [(61, .i x18), (63, .ptr 25000 k2 1)] (H16 l10 a0) ?_
  replace h := bsome h; obtain ⟨x36, hx36, h⟩ := h
  obtain ⟨hx36, hx36a, hx36b⟩ := idx_some2 hx36 hx1k
  refine .sub (.open 25000 k2 [9037, 9038] (e := cS61 x36) rfl rfl (by simp [hx36]) rfl (by simp) rfl) ?_
  refine .st (mk 64 [1000] [(61, .i x18), (63, .ptr 25000 k2 1)] [(1000, some (.box [.ref 25000 0 l10.length, .ref 25001 0 a0.leaders.length, .ref 25002 0 a0.network.length])), (9037, R64 x36.log), (9038, R3 x36.match_), (25000, some (.nest 61 4 [none, none, some (64, 2), some (3, 1)] (l10.map cS61) [(k2, [.i x36.term, .i x36.commit, .ref 9037 0 x36.log.length, .ref 9038 0 x36.match_.length])])), (25001, R3 a0.leaders), (25002, R73 a0.network)]) ?_
  refine .runK [] 1 fun K k => ?_; simp; refine k _ _ ?_; clear k K
  refine .tt [] [(1000, some (.box [.ref 25000 0 l10.length, .ref 25001 0 a0.leaders.length, .ref 25002 0 a0.network.length])), (9037, R64 x36.log), (9038, R3 x36.match_), (25000, some (.nest 61 4 [none, none, some (64, 2), some (3, 1)] (l10.map cS61) [(k2, [.i x36.term, .i x18, .ref 9037 0 x36.log.length, .ref 9038 0 x36.match_.length])])), (25001, R3 a0.leaders), (25002, R73 a0.network)] ?_
  replace h := lsome h; obtain ⟨l39, gl39, h⟩ := h
  obtain ⟨hl39, hl39n⟩ := setI_some cS61 gl39 hx1k
  replace hl39 : (l10.map cS61).set k2 [.lit (.int .i64 x36.term), .lit (.int .i64 x18), .sl (x36.log.map cS64), .sl (x36.match_.map (cI .i64))] = l39.map cS61 := hl39
  clear gl39
  refine .sub (.close 25000 k2 (e := [.lit (.int .i64 x36.term), .lit (.int .i64 x18), .sl (x36.log.map cS64), .sl (x36.match_.map (cI .i64))]) (cs := [.d (.lit (.int .i64 x36.term)), .d (.lit (.int .i64 x18)), .ref 9037 0 x36.log.length, .ref 9038 0 x36.match_.length]) (ks := [9037, 9038]) rfl rfl (by simp) (by decide) rfl) ?_
  refine .sub (S' := mk 64 [1000] [] (H16 l39 a0)) (by simp [hl39]; exact Sub.table (by simp) (by simp [hl39n])) ?_
  refine .nil ?_
  cases h
  exact FinF.normal (by simp) (by simp)
 have c35_ : v27 = false := Bool.eq_false_iff.2 c35
 refine .condF (b := v27) rfl c35_ ?_
 refine .sub (.bool 59 (b := v27) rfl c35_) ?_
 refine .st (mk 64 [1000] [(4, .ptr 25000 k2 0), (6, .i x18), (59, .b false)] (H16 l10 a0)) ?_
 refine .skip ?_
 cases h
 exact FinF.normal (by simp) (by simp)
end Go.Proofs.Ytifcmomjjkbboab
