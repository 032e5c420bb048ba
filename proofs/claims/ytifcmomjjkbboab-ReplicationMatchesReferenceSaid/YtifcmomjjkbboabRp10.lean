/- Functions of the program as functional programs; the code computes them. -/
import Derived.Test.YtifcmomjjkbboabRp9
namespace Go.Proofs.Ytifcmomjjkbboab
open Go.Ab Go.Rp
attribute [-simp] List.all_eq_true Array.all_toList Array.all_eq_true

/-- (*stemma/replication.Cluster).Deliver -/
def d15 (N : Nat) (a0 : S59) (a1 : Int) : Option (S59 × Int) :=
 Option.bind (α := Bool) (
  if a1 < 0 then (
   some true
  ) else
  some (decide (a1 ≥ (a0.network.length : Int)))
 ) fun (v2 : Bool) =>
 if v2 = true then (
  some (a0, 4)
 ) else
 (idx a0.network a1).bind fun x5 =>
 (d29 N a0.network).bind fun r7 =>
 (chkI (a1 + 1)).bind fun v8 =>
 (d28 N r7 a1 v8).bind fun l9 =>
 (idx a0.servers x5.To).bind fun _x10 =>
 (idx a0.servers x5.To).bind fun x14 =>
 if x5.Term < x14.term then (
  some ((S59.mk a0.servers a0.leaders l9), 0)
 ) else
 if (x5.Kind == 1) then (
  (d30 N (S59.mk a0.servers a0.leaders l9) x5).bind fun r19 =>
  some (r19, 0)
 ) else
 Option.bind (α := Bool) (
  (idx a0.servers x5.To).bind fun x26 =>
  if (x5.Term == x26.term) then (
   (d24 N (S59.mk a0.servers a0.leaders l9) x5.To).bind fun r30 =>
   some r30
  ) else
  some false
 ) fun (v25 : Bool) =>
 if v25 = true then (
  (idx a0.servers x5.To).bind fun x32 =>
  (idx x32.match_ x5.From).bind fun x35 =>
  letv (maxI x35 x5.Index) fun v37 =>
  letv (setI x32.match_ x5.From v37) fun l38 =>
  letv (setI a0.servers x5.To (S61.mk x32.term x32.commit x32.log l38)) fun l39 =>
  (d25 N (S59.mk l39 a0.leaders l9) x5.To).bind fun r40 =>
  some (r40, 0)
 ) else
 some ((S59.mk a0.servers a0.leaders l9), 0)
set_option maxRecDepth 100000 in
set_option maxHeartbeats 4000000 in
theorem p15 (N : Nat) (a0 : S59) (a1 : Int) (r : (S59 × Int)) (h : d15 N a0 a1 = some r) : FunM Try.prog 15 [.ptr 1000 0 0, .i a1] [(1000, some (.box [.ref 25000 0 a0.servers.length, .ref 25001 0 a0.leaders.length, .ref 25002 0 a0.network.length])), (25000, some (.nest 61 4 [none, none, some (64, 2), some (3, 1)] (a0.servers.map cS61) [])), (25001, R3 a0.leaders), (25002, R73 a0.network)] [1000] (.i r.2) ([(1000, (.box [.ref 25000 0 r.1.servers.length, .ref 25001 0 r.1.leaders.length, .ref 25002 0 r.1.network.length])), (25000, (.nest 61 4 [none, none, some (64, 2), some (3, 1)] (r.1.servers.map cS61) [])), (25001, (.arr 3 1 (r.1.leaders.map (cI .i64)))), (25002, (.arr 73 8 (r.1.network.map cS73)))]) := by
 unfold d15 at h
 refine FunM.enter 95 [(0, .ptr 1000 0 0), (1, .i a1)] Try.func15 rfl (of_decide_eq_true rfl) rfl rfl ?_
 refine .seqR ?_
 refine .runK [] 1 fun K k => ?_; simp; refine k _ _ ?_; clear k K
 refine .tt [(0, .ptr 1000 0 0), (1, .i a1)] (H1 a0) ?_
 refine .nil ?_
 refine .seq ?_
 replace h := bsome h; obtain ⟨v2, hj, h⟩ := h
 refine .cutR (mk 95 [1000] [(0, .ptr 1000 0 0), (1, .i a1), (17, .b v2)] (H1 a0)) ?_ ?_
 ·clear h; have h := hj; clear hj
  refine .runK [] 3 fun K k => ?_; simp; refine k _ _ ?_; clear k K
  refine .tt [(0, .ptr 1000 0 0), (1, .i a1), (9, .b (decide (a1 < 0)))] (H1 a0) ?_
  replace h := isome h; rcases h with ⟨c3, h⟩ | ⟨c3, h⟩
  ·have c3_ : decide (a1 < 0) = true := decide_eq_true c3
   refine .sub (.bool 9 (b := decide (a1 < 0)) rfl c3_) ?_
   refine .st (mk 95 [1000] [(0, .ptr 1000 0 0), (1, .i a1), (9, .b true)] (H1 a0)) ?_
   refine .runK [] 8 fun K k => ?_; simp; refine k _ _ ?_; clear k K
   refine .tt [(0, .ptr 1000 0 0), (1, .i a1), (17, .b true)] (H1 a0) ?_
   cases h
   exact .nil .tt
  have c3_ : decide (a1 < 0) = false := decide_eq_false c3
  refine .sub (.bool 9 (b := decide (a1 < 0)) rfl c3_) ?_
  refine .st (mk 95 [1000] [(0, .ptr 1000 0 0), (1, .i a1), (9, .b false)] (H1 a0)) ?_
  refine .runK [] 8 fun K k => ?_; simp; refine k _ _ ?_; clear k K
  refine .tt [(0, .ptr 1000 0 0), (1, .i a1), (17, .b (decide (a1 ≥ (a0.network.length : Int))))] (H1 a0) ?_
  cases h
  exact .nil .tt
 clear hj
 replace h := isome h; rcases h with ⟨c4, h⟩ | ⟨c4, h⟩
 ·have c4_ : v2 = true := c4
  refine .condT (b := v2) rfl c4_ ?_
  refine .sub (.bool 17 (b := v2) rfl c4_) ?_
  refine .st (mk 95 [1000] [(0, .ptr 1000 0 0), (1, .i a1), (17, .b true)] (H1 a0)) ?_
  refine .seqR ?_
  refine .runK [] 1 fun K k => ?_; simp; refine k _ _ ?_; clear k K
  refine .tt [(4, .i 4)] (H1 a0) ?_
  refine .nil ?_
  refine .ret ?_
  cases h
  refine thenQ_pass (by simp) ?_
  exact FinF.ret (by simp) (by simp)
 have c4_ : v2 = false := Bool.eq_false_iff.2 c4
 refine .condF (b := v2) rfl c4_ ?_
 refine .sub (.bool 17 (b := v2) rfl c4_) ?_
 refine .st (mk 95 [1000] [(0, .ptr 1000 0 0), (1, .i a1), (17, .b false)] (H1 a0)) ?_
 refine .skip ?_
 refine thenQ_normal ?_
 refine .seqR ?_
 replace h := bsome h; obtain ⟨x5, hx5, h⟩ := h
 obtain ⟨k6, hx5k, hx5, hx5a, hx5b⟩ := idx_some hx5
 refine .runK [] 9 fun K k => ?_; simp [hx5, hx5k, hx5a, hx5b]; refine k _ _ ?_; clear k K
 refine .tt [(0, .ptr 1000 0 0), (1, .i a1), (5, .ptr 5 0 0)] (H38 x5 a0) ?_
 refine .nil ?_
 refine .seqR ?_
 refine .runK [] 5 fun K k => ?_; simp; refine k _ _ ?_; clear k K
 refine .tt [(0, .ptr 1000 0 0), (1, .i a1), (5, .ptr 5 0 0), (25, .ptr 1000 0 0), (29, .ref 25002 0 a0.network.length)] (H38 x5 a0) ?_
 replace h := bsome h; obtain ⟨r7, hr7, h⟩ := h
 refine .callF (pl29 N a0.network r7 hr7) [(25002, 1000)] [25002] [(1000, 25002), (5, 30)] [(30, .arr 73 8 (r7.map cS73)), (25002, .arr 73 8 (a0.network.map cS73))] (.ref 30 0 r7.length) (by simp) rfl (by simp <;> rfl) (by simp) (by simp) (by simp) (by simp) (by simp) ent29 (by simp) (by simp) (by simp) (by simp) (by simp) (by simp) ?_
 refine .st (mk 95 [1000] [(0, .ptr 1000 0 0), (1, .i a1), (5, .ptr 5 0 0), (25, .ptr 1000 0 0), (29, .ref 25002 0 a0.network.length), (30, .ref 30 0 r7.length)] (H31 x5 r7 a0)) ?_
 replace h := bsome h; obtain ⟨v8, hv8, h⟩ := h
 have hv8 := chkI_some hv8
 refine .runK [] 3 fun K k => ?_; simp [hv8]; refine k _ _ ?_; clear k K
 refine .tt [(0, .ptr 1000 0 0), (5, .ptr 5 0 0), (25, .ptr 1000 0 0), (30, .ref 30 0 r7.length), (31, .i a1), (33, .i v8)] (H31 x5 r7 a0) ?_
 replace h := bsome h; obtain ⟨l9, hl9, h⟩ := h
 refine .callF (p28 N r7 a1 v8 l9 hl9) [(30, 1000)] [] [(1000, 30)] [(30, .arr 73 8 (l9.map cS73))] (.ref 30 0 l9.length) (by simp) rfl (by simp <;> rfl) (by simp) (by simp) (by simp) (by simp) (by simp) ent28 (by simp) (by simp) (by simp) (by simp) (by simp) (by simp) ?_
 refine .st (mk 95 [1000] [(0, .ptr 1000 0 0), (5, .ptr 5 0 0), (25, .ptr 1000 0 0), (31, .i a1), (33, .i v8), (34, .ref 30 0 l9.length)] (H31 x5 l9 a0)) ?_
 refine .runK [] 3 fun K k => ?_; simp; refine k _ _ ?_; clear k K
 refine .tt [(0, .ptr 1000 0 0), (5, .ptr 5 0 0)] [(5, some (.box [.i x5.Kind, .i x5.From, .i x5.To, .i x5.Term, .i x5.Index, .i x5.PrevTerm, .i x5.Commit, .d (.sl (x5.Entries.map cS64))])), (30, R73 l9), (1000, some (.box [.ref 25000 0 a0.servers.length, .ref 25001 0 a0.leaders.length, .ref 30 0 l9.length])), (25000, some (.nest 61 4 [none, none, some (64, 2), some (3, 1)] (a0.servers.map cS61) [])), (25001, R3 a0.leaders)] ?_
 refine .sub (S' := mk 95 [1000] [(0, .ptr 1000 0 0), (5, .ptr 5 0 0)] (H13 x5 a0 l9)) (Sub.names [(5, 5), (30, 25002), (1000, 1000), (25000, 25000), (25001, 25001)] (by simp) (by simp) (by simp [back]) (by simp [V.rnm, lk2]) (by simp [back, Blk.rnm, V.rnm, rnmL, lk2])) ?_
 refine .nil ?_
 refine .seqQ (by kernel_rfl) (by kernel_rfl) ?_
 refine .runQ 6 fun K k => ?_; simp; refine k _ _ ?_; clear k K
 refine .tt [(0, .ptr 1000 0 0), (5, .ptr 5 0 0), (40, .ref 25000 0 a0.servers.length), (42, .i x5.To)] (H13 x5 a0 l9) ?_
 replace h := bsome h; obtain ⟨x10, hx10, h⟩ := h
 obtain ⟨k11, hx10k, hx10, hx10a, hx10b⟩ := idx_some hx10
 refine .sub (.open 25000 k11 [9012, 9013] (e := cS61 x10) rfl rfl (by simp [hx10]) rfl (by simp) rfl) ?_
 refine .st (mk 95 [1000] [(0, .ptr 1000 0 0), (5, .ptr 5 0 0), (40, .ref 25000 0 a0.servers.length), (42, .i x5.To)] [(5, some (.box [.i x5.Kind, .i x5.From, .i x5.To, .i x5.Term, .i x5.Index, .i x5.PrevTerm, .i x5.Commit, .d (.sl (x5.Entries.map cS64))])), (1000, some (.box [.ref 25000 0 a0.servers.length, .ref 25001 0 a0.leaders.length, .ref 25002 0 l9.length])), (9012, R64 x10.log), (9013, R3 x10.match_), (25000, some (.nest 61 4 [none, none, some (64, 2), some (3, 1)] (a0.servers.map cS61) [(k11, [.i x10.term, .i x10.commit, .ref 9012 0 x10.log.length, .ref 9013 0 x10.match_.length])])), (25001, R3 a0.leaders), (25002, R73 l9)]) ?_
 refine .runQ 2 fun K k => ?_; simp [hx10k, hx10a, hx10b]; refine k _ _ ?_; clear k K
 refine .tt (L19 k11) [(5, some (.box [.i x5.Kind, .i x5.From, .i x5.To, .i x5.Term, .i x5.Index, .i x5.PrevTerm, .i x5.Commit, .d (.sl (x5.Entries.map cS64))])), (1000, some (.box [.ref 25000 0 a0.servers.length, .ref 25001 0 a0.leaders.length, .ref 25002 0 l9.length])), (9012, R64 x10.log), (9013, R3 x10.match_), (25000, some (.nest 61 4 [none, none, some (64, 2), some (3, 1)] (a0.servers.map cS61) [(k11, [.i x10.term, .i x10.commit, .ref 9012 0 x10.log.length, .ref 9013 0 x10.match_.length])])), (25001, R3 a0.leaders), (25002, R73 l9)] ?_
 refine .sub (.closeSame 25000 k11 (e := cS61 x10) (cs := [.d (.lit (.int .i64 x10.term)), .d (.lit (.int .i64 x10.commit)), .ref 9012 0 x10.log.length, .ref 9013 0 x10.match_.length]) (ks := [9012, 9013]) rfl rfl (by simp [hx10]) (by simp) (by decide) rfl) ?_
 refine .sub (S' := mk 95 [1000] (L19 k11) (H13 x5 a0 l9)) (by simp; exact Sub.table (by simp) (by simp)) ?_
 refine .nil ?_
 refine .seq ?_
 refine .block ?_
 refine .seqQ (by kernel_rfl) (by kernel_rfl) ?_
 refine .runQ 5 fun K k => ?_; simp; refine k _ _ ?_; clear k K
 refine .tt (L19 k11 ++ [(46, .i x5.Term), (49, .ptr 25000 k11 0)]) (H13 x5 a0 l9) ?_
 replace h := bsome h; obtain ⟨x14, hx14, h⟩ := h
 obtain ⟨hx14, hx14a, hx14b⟩ := idx_some2 hx14 hx10k
 refine .sub (.open 25000 k11 [9015, 9016] (e := cS61 x14) rfl rfl (by simp [hx14]) rfl (by simp) rfl) ?_
 refine .st (mk 95 [1000] (L19 k11 ++ [(46, .i x5.Term), (49, .ptr 25000 k11 0)]) [(5, some (.box [.i x5.Kind, .i x5.From, .i x5.To, .i x5.Term, .i x5.Index, .i x5.PrevTerm, .i x5.Commit, .d (.sl (x5.Entries.map cS64))])), (1000, some (.box [.ref 25000 0 a0.servers.length, .ref 25001 0 a0.leaders.length, .ref 25002 0 l9.length])), (9015, R64 x14.log), (9016, R3 x14.match_), (25000, some (.nest 61 4 [none, none, some (64, 2), some (3, 1)] (a0.servers.map cS61) [(k11, [.i x14.term, .i x14.commit, .ref 9015 0 x14.log.length, .ref 9016 0 x14.match_.length])])), (25001, R3 a0.leaders), (25002, R73 l9)]) ?_
 refine .runQ 3 fun K k => ?_; simp; refine k _ _ ?_; clear k K
 refine .tt (L19 k11 ++ [(44, .b (decide (x5.Term < x14.term)))]) [(5, some (.box [.i x5.Kind, .i x5.From, .i x5.To, .i x5.Term, .i x5.Index, .i x5.PrevTerm, .i x5.Commit, .d (.sl (x5.Entries.map cS64))])), (1000, some (.box [.ref 25000 0 a0.servers.length, .ref 25001 0 a0.leaders.length, .ref 25002 0 l9.length])), (9015, R64 x14.log), (9016, R3 x14.match_), (25000, some (.nest 61 4 [none, none, some (64, 2), some (3, 1)] (a0.servers.map cS61) [(k11, [.i x14.term, .i x14.commit, .ref 9015 0 x14.log.length, .ref 9016 0 x14.match_.length])])), (25001, R3 a0.leaders), (25002, R73 l9)] ?_
 refine .sub (.closeSame 25000 k11 (e := cS61 x14) (cs := [.d (.lit (.int .i64 x14.term)), .d (.lit (.int .i64 x14.commit)), .ref 9015 0 x14.log.length, .ref 9016 0 x14.match_.length]) (ks := [9015, 9016]) rfl rfl (by simp [hx14]) (by simp) (by decide) rfl) ?_
 refine .sub (S' := mk 95 [1000] (L19 k11 ++ [(44, .b (decide (x5.Term < x14.term)))]) (H13 x5 a0 l9)) (by simp; exact Sub.table (by simp) (by simp)) ?_
 refine .nil ?_
 replace h := isome h; rcases h with ⟨c17, h⟩ | ⟨c17, h⟩
 ·have c17_ : decide (x5.Term < x14.term) = true := decide_eq_true c17
  refine .condT (b := decide (x5.Term < x14.term)) rfl c17_ ?_
  refine .sub (.bool 44 (b := decide (x5.Term < x14.term)) rfl c17_) ?_
  refine .st (mk 95 [1000] (L19 k11 ++ [(44, .b true)]) (H13 x5 a0 l9)) ?_
  refine .skip ?_
  refine blockQ.normal ?_
  refine thenQ_normal ?_
  refine .seqR ?_
  refine .runK [] 1 fun K k => ?_; simp; refine k _ _ ?_; clear k K
  refine .tt [(4, .i 0)] (H24 a0 l9) ?_
  refine .nil ?_
  refine .ret ?_
  cases h
  exact FinF.ret (by simp) (by simp)
 have c17_ : decide (x5.Term < x14.term) = false := decide_eq_false c17
 refine .condF (b := decide (x5.Term < x14.term)) rfl c17_ ?_
 refine .sub (.bool 44 (b := decide (x5.Term < x14.term)) rfl c17_) ?_
 refine .st (mk 95 [1000] (L19 k11 ++ [(44, .b false)]) (H13 x5 a0 l9)) ?_
 refine .seqR ?_
 refine .runK [] 4 fun K k => ?_; simp; refine k _ _ ?_; clear k K
 refine .tt (L19 k11 ++ [(52, .b (x5.Kind == 1))]) (H13 x5 a0 l9) ?_
 refine .nil ?_
 replace h := isome h; rcases h with ⟨c18, h⟩ | ⟨c18, h⟩
 ·have c18_ : (x5.Kind == 1) = true := c18
  refine .condT (b := (x5.Kind == 1)) rfl c18_ ?_
  refine .sub (.bool 52 (b := (x5.Kind == 1)) rfl c18_) ?_
  refine .st (mk 95 [1000] (L19 k11 ++ [(52, .b true)]) (H13 x5 a0 l9)) ?_
  refine .region ?_
  refine .runK [] 2 fun K k => ?_; simp; refine k _ _ ?_; clear k K
  refine .tt [(56, .ptr 1000 0 0), (57, .agg [.i x5.Kind, .i x5.From, .i x5.To, .i x5.Term, .i x5.Index, .i x5.PrevTerm, .i x5.Commit, .d (.sl (x5.Entries.map cS64))])] (H24 a0 l9) ?_
  replace h := bsome h; obtain ⟨r19, hr19, h⟩ := h
  refine .callF (p30 N (S59.mk a0.servers a0.leaders l9) x5 r19 hr19) [(1000, 1000), (25000, 25000), (25001, 25001), (25002, 25002)] [1000] [(1000, 1000), (25000, 25000), (25001, 25001), (25002, 25002)] [(1000, (.box [.ref 25000 0 r19.servers.length, .ref 25001 0 r19.leaders.length, .ref 25002 0 r19.network.length])), (25000, (.nest 61 4 [none, none, some (64, 2), some (3, 1)] (r19.servers.map cS61) [])), (25001, (.arr 3 1 (r19.leaders.map (cI .i64)))), (25002, (.arr 73 8 (r19.network.map cS73)))] (.tup []) (by simp) rfl (by simp <;> rfl) (by simp) (by simp) (by simp) (by simp) (by simp) ent30 (by simp) (by simp) (by simp) (by simp) (by simp) (by simp) ?_
  refine .st (mk 95 [1000] [(56, .ptr 1000 0 0), (57, .agg [.i x5.Kind, .i x5.From, .i x5.To, .i x5.Term, .i x5.Index, .i x5.PrevTerm, .i x5.Commit, .d (.sl (x5.Entries.map cS64))]), (58, .tup [])] (H1 r19)) ?_
  refine .nil ?_
  refine blockQ.normal ?_
  refine thenQ_normal ?_
  refine .seqR ?_
  refine .runK [] 1 fun K k => ?_; simp; refine k _ _ ?_; clear k K
  refine .tt [(4, .i 0)] (H1 r19) ?_
  refine .nil ?_
  refine .ret ?_
  cases h
  exact FinF.ret (by simp) (by simp)
 have c18_ : (x5.Kind == 1) = false := Bool.eq_false_iff.2 c18
 refine .condF (b := (x5.Kind == 1)) rfl c18_ ?_
 refine .sub (.bool 52 (b := (x5.Kind == 1)) rfl c18_) ?_
 refine .st (mk 95 [1000] (L19 k11 ++ [(52, .b false)]) (H13 x5 a0 l9)) ?_
 replace h := bsome h; obtain ⟨v25, hj, h⟩ := h
 refine .cutQ (by kernel_rfl) (by kernel_rfl) (mk 95 [1000] (L19 k11 ++ [(59, .b v25)]) (H13 x5 a0 l9)) ?_ ?_
 ·clear h; have h := hj; clear hj
  refine .runQ 5 fun K k => ?_; simp; refine k _ _ ?_; clear k K
  refine .tt (L19 k11 ++ [(61, .i x5.Term), (64, .ptr 25000 k11 0)]) (H13 x5 a0 l9) ?_
  replace h := bsome h; obtain ⟨x26, hx26, h⟩ := h
  obtain ⟨hx26, hx26a, hx26b⟩ := idx_some2 hx26 hx10k
  refine .sub (.open 25000 k11 [9027, 9028] (e := cS61 x26) rfl rfl (by simp [hx26]) rfl (by simp) rfl) ?_
  refine .st (mk 95 [1000] (L19 k11 ++ [(61, .i x5.Term), (64, .ptr 25000 k11 0)]) [(5, some (.box [.i x5.Kind, .i x5.From, .i x5.To, .i x5.Term, .i x5.Index, .i x5.PrevTerm, .i x5.Commit, .d (.sl (x5.Entries.map cS64))])), (1000, some (.box [.ref 25000 0 a0.servers.length, .ref 25001 0 a0.leaders.length, .ref 25002 0 l9.length])), (9027, R64 x26.log), (9028, R3 x26.match_), (25000, some (.nest 61 4 [none, none, some (64, 2), some (3, 1)] (a0.servers.map cS61) [(k11, [.i x26.term, .i x26.commit, .ref 9027 0 x26.log.length, .ref 9028 0 x26.match_.length])])), (25001, R3 a0.leaders), (25002, R73 l9)]) ?_
  refine .runQ 3 fun K k => ?_; simp; refine k _ _ ?_; clear k K
  refine .tt (L19 k11 ++ [(67, .b (x5.Term == x26.term))]) [(5, some (.box [.i x5.Kind, .i x5.From, .i x5.To, .i x5.Term, .i x5.Index, .i x5.PrevTerm, .i x5.Commit, .d (.sl (x5.Entries.map cS64))])), (1000, some (.box [.ref 25000 0 a0.servers.length, .ref 25001 0 a0.leaders.length, .ref 25002 0 l9.length])), (9027, R64 x26.log), (9028, R3 x26.match_), (25000, some (.nest 61 4 [none, none, some (64, 2), some (3, 1)] (a0.servers.map cS61) [(k11, [.i x26.term, .i x26.commit, .ref 9027 0 x26.log.length, .ref 9028 0 x26.match_.length])])), (25001, R3 a0.leaders), (25002, R73 l9)] ?_
  replace h := isome h; rcases h with ⟨c29, h⟩ | ⟨c29, h⟩
  ·have c29_ : (x5.Term == x26.term) = true := c29
   refine .sub (.bool 67 (b := (x5.Term == x26.term)) rfl c29_) ?_
   refine .st (mk 95 [1000] (L19 k11 ++ [(67, .b true)]) [(5, some (.box [.i x5.Kind, .i x5.From, .i x5.To, .i x5.Term, .i x5.Index, .i x5.PrevTerm, .i x5.Commit, .d (.sl (x5.Entries.map cS64))])), (1000, some (.box [.ref 25000 0 a0.servers.length, .ref 25001 0 a0.leaders.length, .ref 25002 0 l9.length])), (9027, R64 x26.log), (9028, R3 x26.match_), (25000, some (.nest 61 4 [none, none, some (64, 2), some (3, 1)] (a0.servers.map cS61) [(k11, [.i x26.term, .i x26.commit, .ref 9027 0 x26.log.length, .ref 9028 0 x26.match_.length])])), (25001, R3 a0.leaders), (25002, R73 l9)]) ?_
   refine .runQ 3 fun K k => ?_; simp; refine k _ _ ?_; clear k K
   refine .tt (L20 k11 x5.To) [(5, some (.box [.i x5.Kind, .i x5.From, .i x5.To, .i x5.Term, .i x5.Index, .i x5.PrevTerm, .i x5.Commit, .d (.sl (x5.Entries.map cS64))])), (1000, some (.box [.ref 25000 0 a0.servers.length, .ref 25001 0 a0.leaders.length, .ref 25002 0 l9.length])), (9027, R64 x26.log), (9028, R3 x26.match_), (25000, some (.nest 61 4 [none, none, some (64, 2), some (3, 1)] (a0.servers.map cS61) [(k11, [.i x26.term, .i x26.commit, .ref 9027 0 x26.log.length, .ref 9028 0 x26.match_.length])])), (25001, R3 a0.leaders), (25002, R73 l9)] ?_
   refine .sub (.closeSame 25000 k11 (e := cS61 x26) (cs := [.d (.lit (.int .i64 x26.term)), .d (.lit (.int .i64 x26.commit)), .ref 9027 0 x26.log.length, .ref 9028 0 x26.match_.length]) (ks := [9027, 9028]) rfl rfl (by simp [hx26]) (by simp) (by decide) rfl) ?_
   refine .sub (S' := mk 95 [1000] (L20 k11 x5.To) (H13 x5 a0 l9)) (by simp; exact Sub.table (by simp) (by simp)) ?_
   replace h := bsome h; obtain ⟨r30, hr30, h⟩ := h
   refine .callL (d := 71) (p24 N (S59.mk a0.servers a0.leaders l9) x5.To r30 hr30) (by simp) rfl rfl (by simp <;> rfl) (by simp <;> rfl) ent24 (by simp <;> rfl) ?_
   refine .st (mk 95 [1000] (L20 k11 x5.To ++ [(71, .b r30)]) (H13 x5 a0 l9)) ?_
   refine .runQ 2 fun K k => ?_; simp; refine k _ _ ?_; clear k K
   refine .tt (L19 k11 ++ [(59, .b r30)]) (H13 x5 a0 l9) ?_
   cases h
   exact .nil .tt
  have c29_ : (x5.Term == x26.term) = false := Bool.eq_false_iff.2 c29
  refine .sub (.bool 67 (b := (x5.Term == x26.term)) rfl c29_) ?_
  refine .st (mk 95 [1000] (L19 k11 ++ [(67, .b false)]) [(5, some (.box [.i x5.Kind, .i x5.From, .i x5.To, .i x5.Term, .i x5.Index, .i x5.PrevTerm, .i x5.Commit, .d (.sl (x5.Entries.map cS64))])), (1000, some (.box [.ref 25000 0 a0.servers.length, .ref 25001 0 a0.leaders.length, .ref 25002 0 l9.length])), (9027, R64 x26.log), (9028, R3 x26.match_), (25000, some (.nest 61 4 [none, none, some (64, 2), some (3, 1)] (a0.servers.map cS61) [(k11, [.i x26.term, .i x26.commit, .ref 9027 0 x26.log.length, .ref 9028 0 x26.match_.length])])), (25001, R3 a0.leaders), (25002, R73 l9)]) ?_
  refine .runQ 6 fun K k => ?_; simp; refine k _ _ ?_; clear k K
  refine .tt (L21 k11) [(5, some (.box [.i x5.Kind, .i x5.From, .i x5.To, .i x5.Term, .i x5.Index, .i x5.PrevTerm, .i x5.Commit, .d (.sl (x5.Entries.map cS64))])), (1000, some (.box [.ref 25000 0 a0.servers.length, .ref 25001 0 a0.leaders.length, .ref 25002 0 l9.length])), (9027, R64 x26.log), (9028, R3 x26.match_), (25000, some (.nest 61 4 [none, none, some (64, 2), some (3, 1)] (a0.servers.map cS61) [(k11, [.i x26.term, .i x26.commit, .ref 9027 0 x26.log.length, .ref 9028 0 x26.match_.length])])), (25001, R3 a0.leaders), (25002, R73 l9)] ?_
  refine .sub (.closeSame 25000 k11 (e := cS61 x26) (cs := [.d (.lit (.int .i64 x26.term)), .d (.lit (.int .i64 x26.commit)), .ref 9027 0 x26.log.length, .ref 9028 0 x26.match_.length]) (ks := [9027, 9028]) rfl rfl (by simp [hx26]) (by simp) (by decide) rfl) ?_
  refine .sub (S' := mk 95 [1000] (L21 k11) (H13 x5 a0 l9)) (by simp; exact Sub.table (by simp) (by simp)) ?_
  cases h
  exact .nil .tt
 clear hj
 replace h := isome h; rcases h with ⟨c31, h⟩ | ⟨c31, h⟩
 ·have c31_ : v25 = true := c31
  refine .condT (b := v25) rfl c31_ ?_
  refine .sub (.bool 59 (b := v25) rfl c31_) ?_
  refine .st (mk 95 [1000] (L19 k11 ++ [(59, .b true)]) (H13 x5 a0 l9)) ?_
  replace h := bsome h; obtain ⟨x32, hx32, h⟩ := h
  obtain ⟨hx32, hx32a, hx32b⟩ := idx_some2 hx32 hx10k
  refine .sub (.open 25000 k11 [9033, 9034] (e := cS61 x32) rfl rfl (by simp [hx32]) rfl (by simp) rfl) ?_
  refine .st (mk 95 [1000] (L19 k11 ++ [(59, .b true)]) [(5, some (.box [.i x5.Kind, .i x5.From, .i x5.To, .i x5.Term, .i x5.Index, .i x5.PrevTerm, .i x5.Commit, .d (.sl (x5.Entries.map cS64))])), (1000, some (.box [.ref 25000 0 a0.servers.length, .ref 25001 0 a0.leaders.length, .ref 25002 0 l9.length])), (9033, R64 x32.log), (9034, R3 x32.match_), (25000, some (.nest 61 4 [none, none, some (64, 2), some (3, 1)] (a0.servers.map cS61) [(k11, [.i x32.term, .i x32.commit, .ref 9033 0 x32.log.length, .ref 9034 0 x32.match_.length])])), (25001, R3 a0.leaders), (25002, R73 l9)]) ?_
  replace h := bsome h; obtain ⟨x35, hx35, h⟩ := h
  obtain ⟨k36, hx35k, hx35, hx35a, hx35b⟩ := idx_some hx35
  replace h := lsome h; obtain ⟨v37, hv37, h⟩ := h
  unfold maxI at hv37
  replace h := lsome h; obtain ⟨l38, gl38, h⟩ := h
  obtain ⟨hl38, hl38n⟩ := setI_some (cI .i64) gl38 hx35k
  replace hl38 : (x32.match_.map (cI .i64)).set k36 [.lit (.int .i64 v37)] = l38.map (cI .i64) := hl38
  clear gl38
  refine .seqAnyS [[], [0], [0, 1], [0, 1, 2], [], [4], [], [6], [6, 7], [6, 7, 8], [], [10], [6, 7, 8, 9, 10, 11], [6, 7, 8, 9, 10, 11, 12], [], [14], [6, 7, 8, 9, 10, 11, 12, 13, 14, 15], [0, 1, 2, 3, 4, 5, 6, 7, 8, 9, 10, 11, 12, 13, 14, 15, 16], [0, 1, 2, 3, 4, 5, 6, 7, 8, 9, 10, 11, 12, 13, 14, 15, 16, 17]] (fun (b : Nat → Bool) => mk 95 [1000] [(0, .ptr 1000 0 0), (5, .ptr 5 0 0), (6, .ptr 25000 k11 0), (73, (if b 0 then .ptr 25000 k11 0 else .junk)), (74, (if b 1 then .ptr 25000 k11 0 else .junk)), (75, (if b 2 then .ptr 25000 k11 3 else .junk)), (76, (if b 18 then .ref 9034 0 l38.length else (if b 3 then .ref 9034 0 x32.match_.length else .junk))), (77, (if b 4 then .ptr 5 0 1 else .junk)), (78, (if b 5 then .i x5.From else .junk)), (79, (if b 6 then .ptr 25000 k11 0 else .junk)), (80, (if b 7 then .ptr 25000 k11 0 else .junk)), (81, (if b 8 then .ptr 25000 k11 3 else .junk)), (82, (if b 18 then .ref 9034 0 l38.length else (if b 9 then .ref 9034 0 x32.match_.length else .junk))), (83, (if b 10 then .ptr 5 0 1 else .junk)), (84, (if b 11 then .i x5.From else .junk)), (85, (if b 12 then .ptr 9034 k36 0 else .junk)), (86, (if b 13 then .i x35 else .junk)), (87, (if b 14 then .ptr 5 0 4 else .junk)), (88, (if b 15 then .i x5.Index else .junk)), (89, (if b 16 then .i v37 else .junk)), (90, (if b 17 then .ptr 9034 k36 0 else .junk))] [(5, some (.box [.i x5.Kind, .i x5.From, .i x5.To, .i x5.Term, .i x5.Index, .i x5.PrevTerm, .i x5.Commit, .d (.sl (x5.Entries.map cS64))])), (1000, some (.box [.ref 25000 0 a0.servers.length, .ref 25001 0 a0.leaders.length, .ref 25002 0 l9.length])), (9033, R64 x32.log), (9034, (if b 18 then R3 l38 else R3 x32.match_)), (25000, (if b 18 then some (.nest 61 4 [none, none, some (64, 2), some (3, 1)] (a0.servers.map cS61) [(k11, [.i x32.term, .i x32.commit, .ref 9033 0 x32.log.length, .ref 9034 0 l38.length])]) else some (.nest 61 4 [none, none, some (64, 2), some (3, 1)] (a0.servers.map cS61) [(k11, [.i x32.term, .i x32.commit, .ref 9033 0 x32.log.length, .ref 9034 0 x32.match_.length])]))), (25001, R3 a0.leaders), (25002, R73 l9)]) (mk 95 [1000] [(0, .ptr 1000 0 0), (5, .ptr 5 0 0)] [(5, some (.box [.i x5.Kind, .i x5.From, .i x5.To, .i x5.Term, .i x5.Index, .i x5.PrevTerm, .i x5.Commit, .d (.sl (x5.Entries.map cS64))])), (1000, some (.box [.ref 25000 0 a0.servers.length, .ref 25001 0 a0.leaders.length, .ref 25002 0 l9.length])), (9033, R64 x32.log), (9034, R3 l38), (25000, some (.nest 61 4 [none, none, some (64, 2), some (3, 1)] (a0.servers.map cS61) [(k11, [.i x32.term, .i x32.commit, .ref 9033 0 x32.log.length, .ref 9034 0 l38.length])])), (25001, R3 a0.leaders), (25002, R73 l9)]) (by kernel_rfl) (by kernel_rfl) Sub.tt (Steps.cons ?_ (Steps.cons ?_ (Steps.cons ?_ (Steps.cons ?_ (Steps.cons ?_ (Steps.cons ?_ (Steps.cons ?_ (Steps.cons ?_ (Steps.cons ?_ (Steps.cons ?_ (Steps.cons ?_ (Steps.cons ?_ (Steps.cons ?_ (Steps.cons ?_ (Steps.cons ?_ (Steps.cons ?_ (Steps.cons ?_ (Steps.cons ?_ (Steps.cons ?_ (Steps.nil)))))))))))))))))))) ?_ ?_
  iterate 12
   ·intro b h0 ha hd
    have T := fct h0 ha hd; simp at T
    refine .runK [] 1 fun K k => ?_; simp [T]; refine k _ _ ?_; clear k K
    exact .nil (.table (by simp [T]) (by simp [T]))
  ·intro b h0 ha hd
   have T := fct h0 ha hd; simp at T
   refine .runK [] 1 fun K k => ?_; simp [T, hx35k, hx35a, hx35b]; refine k _ _ ?_; clear k K
   exact .nil (.table (by simp [T]) (by simp [T]))
  ·intro b h0 ha hd
   have T := fct h0 ha hd; simp at T
   refine .runK [] 1 fun K k => ?_; simp [T, hx35]; refine k _ _ ?_; clear k K
   exact .nil (.table (by simp [T]) (by simp [T]))
  iterate 2
   ·intro b h0 ha hd
    have T := fct h0 ha hd; simp at T
    refine .runK [] 1 fun K k => ?_; simp [T]; refine k _ _ ?_; clear k K
    exact .nil (.table (by simp [T]) (by simp [T]))
  ·intro b h0 ha hd
   have T := fct h0 ha hd; simp at T
   refine .runK [] 1 fun K k => ?_; simp [T, hv37]; refine k _ _ ?_; clear k K
   exact .nil (.table (by simp [T]) (by simp [T]))
  ·intro b h0 ha hd
   have T := fct h0 ha hd; simp at T
   refine .runK [] 1 fun K k => ?_; simp [T, hx35k, hx35a, hx35b]; refine k _ _ ?_; clear k K
   exact .nil (.table (by simp [T]) (by simp [T]))
  ·intro b h0 ha hd
   have T := fct h0 ha hd; simp at T
   refine .runK [] 1 fun K k => ?_; simp [T, hx35, hl38]; refine k _ _ ?_; clear k K
   exact .nil (.table (by simp [T, hl38n]) (by simp [hl38n]))
  ·intro b hb
   have t0 := hb 0 (by decide)
   have t1 := hb 1 (by decide)
   have t2 := hb 2 (by decide)
   have t3 := hb 3 (by decide)
   have t4 := hb 4 (by decide)
   have t5 := hb 5 (by decide)
   have t6 := hb 6 (by decide)
   have t7 := hb 7 (by decide)
   have t8 := hb 8 (by decide)
   have t9 := hb 9 (by decide)
   have t10 := hb 10 (by decide)
   have t11 := hb 11 (by decide)
   have t12 := hb 12 (by decide)
   have t13 := hb 13 (by decide)
   have t14 := hb 14 (by decide)
   have t15 := hb 15 (by decide)
   have t16 := hb 16 (by decide)
   have t17 := hb 17 (by decide)
   have t18 := hb 18 (by decide)
   exact Sub.table (by simp [t0, t1, t2, t4, t5, t6, t7, t8, t10, t11, t12, t13, t14, t15, t16, t17, t18]) (by simp [t18])
  skip
  replace h := lsome h; obtain ⟨l39, gl39, h⟩ := h
  obtain ⟨hl39, hl39n⟩ := setI_some cS61 gl39 hx10k
  replace hl39 : (a0.servers.map cS61).set k11 [.lit (.int .i64 x32.term), .lit (.int .i64 x32.commit), .sl (x32.log.map cS64), .sl (l38.map (cI .i64))] = l39.map cS61 := hl39
  clear gl39
  refine .sub (show Go.Ab.Sub _ (mk 95 [1000] [(0, .ptr 1000 0 0), (5, .ptr 5 0 0)] [(5, some (.box [.i x5.Kind, .i x5.From, .i x5.To, .i x5.Term, .i x5.Index, .i x5.PrevTerm, .i x5.Commit, .d (.sl (x5.Entries.map cS64))])), (1000, some (.box [.ref 25000 0 l39.length, .ref 25001 0 a0.leaders.length, .ref 25002 0 l9.length])), (25000, some (.nest 61 4 [none, none, some (64, 2), some (3, 1)] (l39.map cS61) [])), (25001, R3 a0.leaders), (25002, R73 l9)]) from (Sub.trans (Sub.close 25000 k11 (e := [.lit (.int .i64 x32.term), .lit (.int .i64 x32.commit), .sl (x32.log.map cS64), .sl (l38.map (cI .i64))]) (cs := [.i x32.term, .i x32.commit, .ref 9033 0 x32.log.length, .ref 9034 0 l38.length]) (ks := [9033, 9034]) rfl rfl (by simp) (by decide) rfl) (by simp [hl39]; exact Sub.table (by simp) (by simp [hl39n])))) ?_
  refine .region ?_
  refine .runK [] 3 fun K k => ?_; simp; refine k _ _ ?_; clear k K
  refine .tt [(91, .ptr 1000 0 0), (93, .i x5.To)] [(1000, some (.box [.ref 25000 0 l39.length, .ref 25001 0 a0.leaders.length, .ref 25002 0 l9.length])), (25000, some (.nest 61 4 [none, none, some (64, 2), some (3, 1)] (l39.map cS61) [])), (25001, R3 a0.leaders), (25002, R73 l9)] ?_
  replace h := bsome h; obtain ⟨r40, hr40, h⟩ := h
  refine .callF (p25 N (S59.mk l39 a0.leaders l9) x5.To r40 hr40) [(1000, 1000), (25000, 25000), (25001, 25001), (25002, 25002)] [1000] [(1000, 1000), (25000, 25000), (25001, 25001), (25002, 25002)] [(1000, (.box [.ref 25000 0 r40.servers.length, .ref 25001 0 r40.leaders.length, .ref 25002 0 r40.network.length])), (25000, (.nest 61 4 [none, none, some (64, 2), some (3, 1)] (r40.servers.map cS61) [])), (25001, (.arr 3 1 (r40.leaders.map (cI .i64)))), (25002, (.arr 73 8 (r40.network.map cS73)))] (.tup []) (by simp) rfl (by simp <;> rfl) (by simp) (by simp) (by simp) (by simp) (by simp) ent25 (by simp) (by simp) (by simp) (by simp) (by simp) (by simp) ?_
  refine .st (mk 95 [1000] [(91, .ptr 1000 0 0), (93, .i x5.To), (94, .tup [])] (H1 r40)) ?_
  refine .nil ?_
  refine blockQ.normal ?_
  refine thenQ_normal ?_
  refine .seqR ?_
  refine .runK [] 1 fun K k => ?_; simp; refine k _ _ ?_; clear k K
  refine .tt [(4, .i 0)] (H1 r40) ?_
  refine .nil ?_
  refine .ret ?_
  cases h
  exact FinF.ret (by simp) (by simp)
 have c31_ : v25 = false := Bool.eq_false_iff.2 c31
 refine .condF (b := v25) rfl c31_ ?_
 refine .sub (.bool 59 (b := v25) rfl c31_) ?_
 refine .st (mk 95 [1000] (L21 k11) (H13 x5 a0 l9)) ?_
 refine .skip ?_
 refine blockQ.normal ?_
 refine thenQ_normal ?_
 refine .seqR ?_
 refine .runK [] 1 fun K k => ?_; simp; refine k _ _ ?_; clear k K
 refine .tt [(4, .i 0)] (H24 a0 l9) ?_
 refine .nil ?_
 refine .ret ?_
 cases h
 exact FinF.ret (by simp) (by simp)
end Go.Proofs.Ytifcmomjjkbboab
