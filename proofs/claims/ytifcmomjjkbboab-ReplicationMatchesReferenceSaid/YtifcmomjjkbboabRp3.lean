/- Functions of the program as functional programs; the code computes them. -/
import Derived.Test.YtifcmomjjkbboabRp2
namespace Go.Proofs.Ytifcmomjjkbboab
open Go.Ab Go.Rp
attribute [-simp] List.all_eq_true Array.all_toList Array.all_eq_true

/-- (*stemma/replication.Cluster).Append -/
def d5 (N : Nat) (a0 : S59) (a1 : Int) (a2 : ByteArray) : Option (S59 × Int) :=
 (d23 N a0 a1).bind fun r1 =>
 if (!r1) = true then (
  some (a0, 1)
 ) else
 if (a2.size : Int) > 24 then (
  some (a0, 2)
 ) else
 (d24 N a0 a1).bind fun r4 =>
 if (!r4) = true then (
  some (a0, 15)
 ) else
 (idx a0.servers a1).bind fun _x6 =>
 (idx a0.servers a1).bind fun x10 =>
 if ((x10.log.length : Int) == 60) then (
  some (a0, 18)
 ) else
 (idx a0.servers a1).bind fun x14 =>
 (appL 24 x14.log [(S64.mk x14.term a2)]).bind fun _l17 =>
 letv (setI a0.servers a1 (S61.mk x14.term x14.commit (x14.log ++ [(S64.mk x14.term a2)]) x14.match_)) fun l18 =>
 (d25 N (S59.mk l18 a0.leaders a0.network) a1).bind fun r19 =>
 some (r19, 0)
set_option maxRecDepth 100000 in
set_option maxHeartbeats 4000000 in
theorem p5 (N : Nat) (a0 : S59) (a1 : Int) (a2 : ByteArray) (r : (S59 × Int)) (h : d5 N a0 a1 a2 = some r) : FunM Try.prog 5 [.ptr 1000 0 0, .i a1, .d (.lit (.string a2))] [(1000, some (.box [.ref 25000 0 a0.servers.length, .ref 25001 0 a0.leaders.length, .ref 25002 0 a0.network.length])), (25000, some (.nest 61 4 [none, none, some (64, 2), some (3, 1)] (a0.servers.map cS61) [])), (25001, R3 a0.leaders), (25002, R73 a0.network)] [1000] (.i r.2) ([(1000, (.box [.ref 25000 0 r.1.servers.length, .ref 25001 0 r.1.leaders.length, .ref 25002 0 r.1.network.length])), (25000, (.nest 61 4 [none, none, some (64, 2), some (3, 1)] (r.1.servers.map cS61) [])), (25001, (.arr 3 1 (r.1.leaders.map (cI .i64)))), (25002, (.arr 73 8 (r.1.network.map cS73)))]) := by
 unfold d5 at h
 refine FunM.enter 49 [(0, .ptr 1000 0 0), (1, .i a1), (2, .d (.lit (.string a2)))] Try.func5 rfl (of_decide_eq_true rfl) rfl rfl ?_
 refine .seqR ?_
 refine .runK [] 1 fun K k => ?_; simp; refine k _ _ ?_; clear k K
 refine .tt (L3 a1 a2) (H1 a0) ?_
 refine .nil ?_
 refine .seq ?_
 refine .seqR ?_
 refine .runK [] 2 fun K k => ?_; simp; refine k _ _ ?_; clear k K
 refine .tt (L3 a1 a2 ++ [(8, .ptr 1000 0 0), (9, .i a1)]) (H1 a0) ?_
 replace h := bsome h; obtain ⟨r1, hr1, h⟩ := h
 refine .callL (d := 10) (p23 N a0 a1 r1 hr1) (by simp) rfl rfl (by simp <;> rfl) (by simp <;> rfl) ent23 (by simp <;> rfl) ?_
 refine .st (mk 49 [1000] (L3 a1 a2 ++ [(8, .ptr 1000 0 0), (9, .i a1), (10, .b r1)]) (H1 a0)) ?_
 refine .runK [] 1 fun K k => ?_; simp; refine k _ _ ?_; clear k K
 refine .tt (L3 a1 a2 ++ [(11, .b (!r1))]) (H1 a0) ?_
 refine .nil ?_
 replace h := isome h; rcases h with ⟨c2, h⟩ | ⟨c2, h⟩
 ·have c2_ : (!r1) = true := c2
  refine .condT (b := (!r1)) rfl c2_ ?_
  refine .sub (.bool 11 (b := (!r1)) rfl c2_) ?_
  refine .st (mk 49 [1000] (L3 a1 a2 ++ [(11, .b true)]) (H1 a0)) ?_
  refine .seqR ?_
  refine .runK [] 1 fun K k => ?_; simp; refine k _ _ ?_; clear k K
  refine .tt [(6, .i 1)] (H1 a0) ?_
  refine .nil ?_
  refine .ret ?_
  cases h
  refine thenQ_pass (by simp) ?_
  exact FinF.ret (by simp) (by simp)
 have c2_ : (!r1) = false := Bool.eq_false_iff.2 c2
 refine .condF (b := (!r1)) rfl c2_ ?_
 refine .sub (.bool 11 (b := (!r1)) rfl c2_) ?_
 refine .st (mk 49 [1000] (L3 a1 a2 ++ [(11, .b false)]) (H1 a0)) ?_
 refine .skip ?_
 refine thenQ_normal ?_
 refine .seq ?_
 refine .seqR ?_
 refine .runK [] 3 fun K k => ?_; simp; refine k _ _ ?_; clear k K
 refine .tt (L3 a1 a2 ++ [(14, .b (decide ((a2.size : Int) > 24)))]) (H1 a0) ?_
 refine .nil ?_
 replace h := isome h; rcases h with ⟨c3, h⟩ | ⟨c3, h⟩
 ·have c3_ : decide ((a2.size : Int) > 24) = true := decide_eq_true c3
  refine .condT (b := decide ((a2.size : Int) > 24)) rfl c3_ ?_
  refine .sub (.bool 14 (b := decide ((a2.size : Int) > 24)) rfl c3_) ?_
  refine .st (mk 49 [1000] (L3 a1 a2 ++ [(14, .b true)]) (H1 a0)) ?_
  refine .seqR ?_
  refine .runK [] 1 fun K k => ?_; simp; refine k _ _ ?_; clear k K
  refine .tt [(6, .i 2)] (H1 a0) ?_
  refine .nil ?_
  refine .ret ?_
  cases h
  refine thenQ_pass (by simp) ?_
  exact FinF.ret (by simp) (by simp)
 have c3_ : decide ((a2.size : Int) > 24) = false := decide_eq_false c3
 refine .condF (b := decide ((a2.size : Int) > 24)) rfl c3_ ?_
 refine .sub (.bool 14 (b := decide ((a2.size : Int) > 24)) rfl c3_) ?_
 refine .st (mk 49 [1000] (L3 a1 a2 ++ [(14, .b false)]) (H1 a0)) ?_
 refine .skip ?_
 refine thenQ_normal ?_
 refine .seq ?_
 refine .seqR ?_
 refine .runK [] 2 fun K k => ?_; simp; refine k _ _ ?_; clear k K
 refine .tt (L3 a1 a2 ++ [(15, .ptr 1000 0 0), (16, .i a1)]) (H1 a0) ?_
 replace h := bsome h; obtain ⟨r4, hr4, h⟩ := h
 refine .callL (d := 17) (p24 N a0 a1 r4 hr4) (by simp) rfl rfl (by simp <;> rfl) (by simp <;> rfl) ent24 (by simp <;> rfl) ?_
 refine .st (mk 49 [1000] (L3 a1 a2 ++ [(15, .ptr 1000 0 0), (16, .i a1), (17, .b r4)]) (H1 a0)) ?_
 refine .runK [] 1 fun K k => ?_; simp; refine k _ _ ?_; clear k K
 refine .tt (L3 a1 a2 ++ [(18, .b (!r4))]) (H1 a0) ?_
 refine .nil ?_
 replace h := isome h; rcases h with ⟨c5, h⟩ | ⟨c5, h⟩
 ·have c5_ : (!r4) = true := c5
  refine .condT (b := (!r4)) rfl c5_ ?_
  refine .sub (.bool 18 (b := (!r4)) rfl c5_) ?_
  refine .st (mk 49 [1000] (L3 a1 a2 ++ [(18, .b true)]) (H1 a0)) ?_
  refine .seqR ?_
  refine .runK [] 1 fun K k => ?_; simp; refine k _ _ ?_; clear k K
  refine .tt [(6, .i 15)] (H1 a0) ?_
  refine .nil ?_
  refine .ret ?_
  cases h
  refine thenQ_pass (by simp) ?_
  exact FinF.ret (by simp) (by simp)
 have c5_ : (!r4) = false := Bool.eq_false_iff.2 c5
 refine .condF (b := (!r4)) rfl c5_ ?_
 refine .sub (.bool 18 (b := (!r4)) rfl c5_) ?_
 refine .st (mk 49 [1000] (L3 a1 a2 ++ [(18, .b false)]) (H1 a0)) ?_
 refine .skip ?_
 refine thenQ_normal ?_
 refine .seqR ?_
 refine .runK [] 5 fun K k => ?_; simp; refine k _ _ ?_; clear k K
 refine .tt (L3 a1 a2 ++ [(22, .ref 25000 0 a0.servers.length), (23, .i a1)]) (H1 a0) ?_
 replace h := bsome h; obtain ⟨x6, hx6, h⟩ := h
 obtain ⟨k7, hx6k, hx6, hx6a, hx6b⟩ := idx_some hx6
 refine .sub (.open 25000 k7 [9008, 9009] (e := cS61 x6) rfl rfl (by simp [hx6]) rfl (by simp) rfl) ?_
 refine .st (mk 49 [1000] (L3 a1 a2 ++ [(22, .ref 25000 0 a0.servers.length), (23, .i a1)]) [(1000, some (.box [.ref 25000 0 a0.servers.length, .ref 25001 0 a0.leaders.length, .ref 25002 0 a0.network.length])), (9008, R64 x6.log), (9009, R3 x6.match_), (25000, some (.nest 61 4 [none, none, some (64, 2), some (3, 1)] (a0.servers.map cS61) [(k7, [.i x6.term, .i x6.commit, .ref 9008 0 x6.log.length, .ref 9009 0 x6.match_.length])])), (25001, R3 a0.leaders), (25002, R73 a0.network)]) ?_
 refine .runK [] 2 fun K k => ?_; simp [hx6k, hx6a, hx6b]; refine k _ _ ?_; clear k K
 refine .tt (L4 a1 a2 k7) [(1000, some (.box [.ref 25000 0 a0.servers.length, .ref 25001 0 a0.leaders.length, .ref 25002 0 a0.network.length])), (9008, R64 x6.log), (9009, R3 x6.match_), (25000, some (.nest 61 4 [none, none, some (64, 2), some (3, 1)] (a0.servers.map cS61) [(k7, [.i x6.term, .i x6.commit, .ref 9008 0 x6.log.length, .ref 9009 0 x6.match_.length])])), (25001, R3 a0.leaders), (25002, R73 a0.network)] ?_
 refine .sub (.closeSame 25000 k7 (e := cS61 x6) (cs := [.d (.lit (.int .i64 x6.term)), .d (.lit (.int .i64 x6.commit)), .ref 9008 0 x6.log.length, .ref 9009 0 x6.match_.length]) (ks := [9008, 9009]) rfl rfl (by simp [hx6]) (by simp) (by decide) rfl) ?_
 refine .sub (S' := mk 49 [1000] (L4 a1 a2 k7) (H1 a0)) (by simp; exact Sub.table (by simp) (by simp)) ?_
 refine .nil ?_
 refine .seq ?_
 refine .seqR ?_
 refine .runK [] 3 fun K k => ?_; simp; refine k _ _ ?_; clear k K
 refine .tt (L4 a1 a2 k7 ++ [(27, .ptr 25000 k7 2)]) (H1 a0) ?_
 replace h := bsome h; obtain ⟨x10, hx10, h⟩ := h
 obtain ⟨hx10, hx10a, hx10b⟩ := idx_some2 hx10 hx6k
 refine .sub (.open 25000 k7 [9011, 9012] (e := cS61 x10) rfl rfl (by simp [hx10]) rfl (by simp) rfl) ?_
 refine .st (mk 49 [1000] (L4 a1 a2 k7 ++ [(27, .ptr 25000 k7 2)]) [(1000, some (.box [.ref 25000 0 a0.servers.length, .ref 25001 0 a0.leaders.length, .ref 25002 0 a0.network.length])), (9011, R64 x10.log), (9012, R3 x10.match_), (25000, some (.nest 61 4 [none, none, some (64, 2), some (3, 1)] (a0.servers.map cS61) [(k7, [.i x10.term, .i x10.commit, .ref 9011 0 x10.log.length, .ref 9012 0 x10.match_.length])])), (25001, R3 a0.leaders), (25002, R73 a0.network)]) ?_
 refine .runK [] 3 fun K k => ?_; simp; refine k _ _ ?_; clear k K
 refine .tt (L4 a1 a2 k7 ++ [(30, .b ((x10.log.length : Int) == 60))]) [(1000, some (.box [.ref 25000 0 a0.servers.length, .ref 25001 0 a0.leaders.length, .ref 25002 0 a0.network.length])), (9011, R64 x10.log), (9012, R3 x10.match_), (25000, some (.nest 61 4 [none, none, some (64, 2), some (3, 1)] (a0.servers.map cS61) [(k7, [.i x10.term, .i x10.commit, .ref 9011 0 x10.log.length, .ref 9012 0 x10.match_.length])])), (25001, R3 a0.leaders), (25002, R73 a0.network)] ?_
 refine .sub (.closeSame 25000 k7 (e := cS61 x10) (cs := [.d (.lit (.int .i64 x10.term)), .d (.lit (.int .i64 x10.commit)), .ref 9011 0 x10.log.length, .ref 9012 0 x10.match_.length]) (ks := [9011, 9012]) rfl rfl (by simp [hx10]) (by simp) (by decide) rfl) ?_
 refine .sub (S' := mk 49 [1000] (L4 a1 a2 k7 ++ [(30, .b ((x10.log.length : Int) == 60))]) (H1 a0)) (by simp; exact Sub.table (by simp) (by simp)) ?_
 refine .nil ?_
 replace h := isome h; rcases h with ⟨c13, h⟩ | ⟨c13, h⟩
 ·have c13_ : ((x10.log.length : Int) == 60) = true := c13
  refine .condT (b := ((x10.log.length : Int) == 60)) rfl c13_ ?_
  refine .sub (.bool 30 (b := ((x10.log.length : Int) == 60)) rfl c13_) ?_
  refine .st (mk 49 [1000] (L4 a1 a2 k7 ++ [(30, .b true)]) (H1 a0)) ?_
  refine .seqR ?_
  refine .runK [] 1 fun K k => ?_; simp; refine k _ _ ?_; clear k K
  refine .tt [(6, .i 18)] (H1 a0) ?_
  refine .nil ?_
  refine .ret ?_
  cases h
  refine thenQ_pass (by simp) ?_
  exact FinF.ret (by simp) (by simp)
 have c13_ : ((x10.log.length : Int) == 60) = false := Bool.eq_false_iff.2 c13
 refine .condF (b := ((x10.log.length : Int) == 60)) rfl c13_ ?_
 refine .sub (.bool 30 (b := ((x10.log.length : Int) == 60)) rfl c13_) ?_
 refine .st (mk 49 [1000] (L4 a1 a2 k7 ++ [(30, .b false)]) (H1 a0)) ?_
 refine .skip ?_
 refine thenQ_normal ?_
 replace h := bsome h; obtain ⟨x14, hx14, h⟩ := h
 obtain ⟨hx14, hx14a, hx14b⟩ := idx_some2 hx14 hx6k
 refine .sub (.open 25000 k7 [9015, 9016] (e := cS61 x14) rfl rfl (by simp [hx14]) rfl (by simp) rfl) ?_
 refine .st (mk 49 [1000] (L4 a1 a2 k7 ++ [(30, .b false)]) [(1000, some (.box [.ref 25000 0 a0.servers.length, .ref 25001 0 a0.leaders.length, .ref 25002 0 a0.network.length])), (9015, R64 x14.log), (9016, R3 x14.match_), (25000, some (.nest 61 4 [none, none, some (64, 2), some (3, 1)] (a0.servers.map cS61) [(k7, [.i x14.term, .i x14.commit, .ref 9015 0 x14.log.length, .ref 9016 0 x14.match_.length])])), (25001, R3 a0.leaders), (25002, R73 a0.network)]) ?_
 replace h := bsome h; obtain ⟨l17, hl17, h⟩ := h
 obtain ⟨hl17a, hl17⟩ := appL_some hl17
 subst hl17
 try simp only [List.length_cons, List.length_nil, Nat.zero_add] at hl17a
 refine .seqAnyS [[], [], [1], [1, 2], [1, 2, 3], [], [5], [5, 6], [5, 6, 7], [], [5, 6, 7, 8, 9], [5, 6, 7, 8, 9, 10], [1, 2, 3, 4, 5, 6, 7, 8, 9, 10, 11], [0, 1, 2, 3, 4, 5, 6, 7, 8, 9, 10, 11, 12], [0, 1, 2, 3, 4, 5, 6, 7, 8, 9, 10, 11, 12, 13], [0, 1, 2, 3, 4, 5, 6, 7, 8, 9, 10, 11, 12, 13, 14]] (fun (b : Nat → Bool) => mk 49 [1000] [(0, .ptr 1000 0 0), (1, .i a1), (2, .d (.lit (.string a2))), (7, .ptr 25000 k7 0), (31, (if b 0 then .ptr 25000 k7 0 else .junk)), (32, (if b 1 then .ptr 25000 k7 0 else .junk)), (33, (if b 2 then .ptr 25000 k7 0 else .junk)), (34, (if b 3 then .ptr 25000 k7 2 else .junk)), (35, (if b 12 then .junk else (if b 4 then .ref 9015 0 x14.log.length else .junk))), (36, (if b 5 then .ptr 25000 k7 0 else .junk)), (37, (if b 6 then .ptr 25000 k7 0 else .junk)), (38, (if b 7 then .ptr 25000 k7 0 else .junk)), (39, (if b 8 then .i x14.term else .junk)), (40, (if b 9 then .d (.lit (.string a2)) else .junk)), (41, (if b 10 then .agg [.i x14.term, .d (.lit (.string a2))] else .junk)), (42, (if b 11 then .d (.sl ([(S64.mk x14.term a2)].map cS64)) else .junk)), (43, (if b 12 then .ref 9015 0 ((x14.log ++ [(S64.mk x14.term a2)]).length) else .junk)), (44, (if b 13 then .ptr 25000 k7 0 else .junk)), (45, (if b 14 then .ptr 25000 k7 2 else .junk))] [(1000, some (.box [.ref 25000 0 a0.servers.length, .ref 25001 0 a0.leaders.length, .ref 25002 0 a0.network.length])), (9015, (if b 12 then R64 (x14.log ++ [(S64.mk x14.term a2)]) else R64 x14.log)), (9016, R3 x14.match_), (25000, (if b 15 then some (.nest 61 4 [none, none, some (64, 2), some (3, 1)] (a0.servers.map cS61) [(k7, [.i x14.term, .i x14.commit, .ref 9015 0 ((x14.log ++ [(S64.mk x14.term a2)]).length), .ref 9016 0 x14.match_.length])]) else (if b 12 then some (.nest 61 4 [none, none, some (64, 2), some (3, 1)] (a0.servers.map cS61) [(k7, [.i x14.term, .i x14.commit, .hole, .ref 9016 0 x14.match_.length])]) else some (.nest 61 4 [none, none, some (64, 2), some (3, 1)] (a0.servers.map cS61) [(k7, [.i x14.term, .i x14.commit, .ref 9015 0 x14.log.length, .ref 9016 0 x14.match_.length])])))), (25001, R3 a0.leaders), (25002, R73 a0.network)]) (mk 49 [1000] [(0, .ptr 1000 0 0), (1, .i a1)] [(1000, some (.box [.ref 25000 0 a0.servers.length, .ref 25001 0 a0.leaders.length, .ref 25002 0 a0.network.length])), (9015, R64 (x14.log ++ [(S64.mk x14.term a2)])), (9016, R3 x14.match_), (25000, some (.nest 61 4 [none, none, some (64, 2), some (3, 1)] (a0.servers.map cS61) [(k7, [.i x14.term, .i x14.commit, .ref 9015 0 ((x14.log ++ [(S64.mk x14.term a2)]).length), .ref 9016 0 x14.match_.length])])), (25001, R3 a0.leaders), (25002, R73 a0.network)]) (by kernel_rfl) (by kernel_rfl) Sub.tt (Steps.cons ?_ (Steps.cons ?_ (Steps.cons ?_ (Steps.cons ?_ (Steps.cons ?_ (Steps.cons ?_ (Steps.cons ?_ (Steps.cons ?_ (Steps.cons ?_ (Steps.cons ?_ (Steps.cons ?_ (Steps.cons ?_ (Steps.cons ?_ (Steps.cons ?_ (Steps.cons ?_ (Steps.cons ?_ (Steps.nil))))))))))))))))) ?_ ?_
 iterate 12
  ·intro b h0 ha hd
   have T := fct h0 ha hd; simp at T
   refine .runK [42] 1 fun K k => ?_; simp [T]; refine k _ _ ?_; clear k K
   exact .nil (.table (by simp [T]) (by simp [T]))
 ·intro b h0 ha hd
  have T := fct h0 ha hd; simp at T
  refine .runK [42] 1 fun K k => ?_; simp [T, hl17a]; refine k _ _ ?_; clear k K
  exact .nil (.table (by simp [T]) (by simp [T]))
 iterate 3
  ·intro b h0 ha hd
   have T := fct h0 ha hd; simp at T
   refine .runK [42] 1 fun K k => ?_; simp [T]; refine k _ _ ?_; clear k K
   exact .nil (.table (by simp [T]) (by simp [T]))
 ·intro b hb
  have t0 := hb 0 (by decide)
  have t1 := hb 1 (by decide)
  have t2 := hb 2 (by decide)
  have t3 := hb 3 (by decide)
  have t4 := hb 4 (by decide)
  have t5 := hb 5 (by decide)
  have t6 := hb 6 (by decide)
  have t7 := hb 7 (by decide)
  have t8 := hb 8 (by decide)
  have t9 := hb 9 (by decide)
  have t10 := hb 10 (by decide)
  have t11 := hb 11 (by decide)
  have t12 := hb 12 (by decide)
  have t13 := hb 13 (by decide)
  have t14 := hb 14 (by decide)
  have t15 := hb 15 (by decide)
  exact Sub.table (by simp [t0, t1, t2, t3, t5, t6, t7, t8, t9, t10, t11, t12, t13, t14]) (by simp [t12, t15])
 skip
 replace h := lsome h; obtain ⟨l18, gl18, h⟩ := h
 obtain ⟨hl18, hl18n⟩ := setI_some cS61 gl18 hx6k
 replace hl18 : (a0.servers.map cS61).set k7 [.lit (.int .i64 x14.term), .lit (.int .i64 x14.commit), .sl ((x14.log ++ [(S64.mk x14.term a2)]).map cS64), .sl (x14.match_.map (cI .i64))] = l18.map cS61 := hl18
 clear gl18
 try simp only [List.map_append, List.map_cons, List.map_nil, cS64] at hl18
 refine .sub (show Go.Ab.Sub _ (mk 49 [1000] [(0, .ptr 1000 0 0), (1, .i a1)] (H16 l18 a0)) from (Sub.trans (Sub.close 25000 k7 (e := [.lit (.int .i64 x14.term), .lit (.int .i64 x14.commit), .sl ((x14.log ++ [(S64.mk x14.term a2)]).map cS64), .sl (x14.match_.map (cI .i64))]) (cs := [.i x14.term, .i x14.commit, .ref 9015 0 ((x14.log ++ [(S64.mk x14.term a2)]).length), .ref 9016 0 x14.match_.length]) (ks := [9015, 9016]) rfl rfl (by simp) (by decide) rfl) (by simp [hl18]; exact Sub.table (by simp) (by simp [hl18n])))) ?_
 refine .seqR ?_
 refine .runK [] 2 fun K k => ?_; simp; refine k _ _ ?_; clear k K
 refine .tt [(46, .ptr 1000 0 0), (47, .i a1)] (H16 l18 a0) ?_
 replace h := bsome h; obtain ⟨r19, hr19, h⟩ := h
 refine .callF (p25 N (S59.mk l18 a0.leaders a0.network) a1 r19 hr19) [(1000, 1000), (25000, 25000), (25001, 25001), (25002, 25002)] [1000] [(1000, 1000), (25000, 25000), (25001, 25001), (25002, 25002)] [(1000, (.box [.ref 25000 0 r19.servers.length, .ref 25001 0 r19.leaders.length, .ref 25002 0 r19.network.length])), (25000, (.nest 61 4 [none, none, some (64, 2), some (3, 1)] (r19.servers.map cS61) [])), (25001, (.arr 3 1 (r19.leaders.map (cI .i64)))), (25002, (.arr 73 8 (r19.network.map cS73)))] (.tup []) (by simp) rfl (by simp <;> rfl) (by simp) (by simp) (by simp) (by simp) (by simp) ent25 (by simp) (by simp) (by simp) (by simp) (by simp) (by simp) ?_
 refine .st (mk 49 [1000] [(46, .ptr 1000 0 0), (47, .i a1), (48, .tup [])] (H1 r19)) ?_
 refine .nil ?_
 refine .seqR ?_
 refine .runK [] 1 fun K k => ?_; simp; refine k _ _ ?_; clear k K
 refine .tt [(6, .i 0)] (H1 r19) ?_
 refine .nil ?_
 refine .ret ?_
 cases h
 exact FinF.ret (by simp) (by simp)
/-- slices.Clone[[]stemma/replication.Entry,stemma/replication.Entry] -/
def d26 (_ : Nat) (a0 : (List S64)) : Option (List S64) := if a0.length * 24 ≤ Rp.reach then some a0 else none
theorem p26 (N : Nat) (a0 : (List S64)) (r : (List S64)) (h : d26 N a0 = some r) : FunO Try.prog 26 [.d (.sl (a0.map cS64))] (.ref 0 0 r.length) (.arr 64 2 (r.map cS64)) := by
 obtain ⟨hz, h⟩ := gsome h
 cases h
 refine FunO.enter 8 [(0, .d (.sl (a0.map cS64)))] Try.func26 rfl (of_decide_eq_true rfl) rfl rfl ?_
 refine .goR [] 1 fun K k => ?_; simp; refine k _ ?_; clear k K
 refine .seq ?_
 refine .seqR ?_
 refine .runK [] 1 fun K k => ?_; simp; refine k _ _ ?_; clear k K
 refine .eqNilE (es := a0.map cS64) (by simp) rfl ty29 rfl (by simp) (by simp) fun b hb => ?_
 refine .nil ?_
 cases b with
 | true =>
  have he : a0 = [] := by
   cases a0 with
   | nil => rfl
   | cons x xs => exact absurd (hb (by simp)) (by simp)
  subst he
  refine .condK fun K1 K2 k1 k2 => ?_; simp; refine k1 ?_; clear k1 k2 K1 K2
  refine .goR [] 1 fun K k => ?_; simp; refine k _ ?_; clear k K
  refine .sub (.nilOwn (t := 2) (id := 902) (T := 64) (n := 2) rfl rfl (by decide)) ?_
  refine .st (mk 8 [] [(2, .ref 902 0 0)] [(902, some (.arr 64 2 []))]) ?_
  refine .ret ?_
  exact thenQ_pass (by simp) (FinO.ret (.ref 902 0 0) 902 (by simp) (by simp) (by simp) (by simp) rfl)
 | false =>
  refine .condK fun K1 K2 k1 k2 => ?_; simp; refine k2 ?_; clear k1 k2 K1 K2
  refine .skip ?_
  refine thenQ_normal ?_
  refine .goR [] 4 fun K k => ?_; simp [hz]; refine k _ ?_; clear k K
  refine .tt [(2, .ref 5 0 a0.length)] [(5, R64 a0)] ?_
  refine .ret ?_
  exact FinO.ret (.ref 5 0 a0.length) 5 (by simp) (by simp) (by simp) (by simp) rfl

end Go.Proofs.Ytifcmomjjkbboab
