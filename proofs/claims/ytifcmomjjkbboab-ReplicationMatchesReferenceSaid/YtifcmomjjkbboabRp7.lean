/- Functions of the program as functional programs; the code computes them. -/
import Derived.Test.YtifcmomjjkbboabRp6
namespace Go.Proofs.Ytifcmomjjkbboab
open Go.Ab Go.Rp
attribute [-simp] List.all_eq_true Array.all_toList Array.all_eq_true

/-- (*stemma/replication.Cluster).Send -/
def d11 (N : Nat) (a0 : S59) (a1 : Int) (a2 : Int) : Option (S59 × Int) :=
 Option.bind (α := Bool) (
  (d23 N a0 a1).bind fun r6 =>
  if (!r6) = true then (
   some true
  ) else
  (d23 N a0 a2).bind fun r8 =>
  if (!r8) = true then (
   some true
  ) else
  some (a1 == a2)
 ) fun (v5 : Bool) =>
 if v5 = true then (
  some (a0, 1)
 ) else
 (d24 N a0 a1).bind fun r11 =>
 if (!r11) = true then (
  some (a0, 15)
 ) else
 if ((a0.network.length : Int) == 100) then (
  some (a0, 18)
 ) else
 (idx a0.servers a1).bind fun x14 =>
 (idx x14.match_ a2).bind fun x18 =>
 (chkI (x18 + 3)).bind fun v20 =>
 letv (minI (x14.log.length : Int) v20) fun v21 =>
 (natI v21 x14.log.length).bind fun n22 =>
 (natI x18 n22).bind fun n23 =>
 letv ((x14.log.take n22).drop n23) fun l24 =>
 (d26 N l24).bind fun r25 =>
 Option.bind (α := Int) (
  if (n23 : Int) > 0 then (
   (chkI ((n23 : Int) - 1)).bind fun v32 =>
   (idx x14.log v32).bind fun x33 =>
   some x33.Term
  ) else
  some 0
 ) fun (v30 : Int) =>
 (appL 80 a0.network [(S73.mk 1 a1 a2 x14.term (n23 : Int) v30 x14.commit r25)]).bind fun _l35 =>
 some ((S59.mk a0.servers a0.leaders (a0.network ++ [(S73.mk 1 a1 a2 x14.term (n23 : Int) v30 x14.commit r25)])), 0)
set_option maxRecDepth 100000 in
set_option maxHeartbeats 4000000 in
theorem p11 (N : Nat) (a0 : S59) (a1 : Int) (a2 : Int) (r : (S59 × Int)) (h : d11 N a0 a1 a2 = some r) : FunM Try.prog 11 [.ptr 1000 0 0, .i a1, .i a2] [(1000, some (.box [.ref 25000 0 a0.servers.length, .ref 25001 0 a0.leaders.length, .ref 25002 0 a0.network.length])), (25000, some (.nest 61 4 [none, none, some (64, 2), some (3, 1)] (a0.servers.map cS61) [])), (25001, R3 a0.leaders), (25002, R73 a0.network)] [1000] (.i r.2) ([(1000, (.box [.ref 25000 0 r.1.servers.length, .ref 25001 0 r.1.leaders.length, .ref 25002 0 r.1.network.length])), (25000, (.nest 61 4 [none, none, some (64, 2), some (3, 1)] (r.1.servers.map cS61) [])), (25001, (.arr 3 1 (r.1.leaders.map (cI .i64)))), (25002, (.arr 73 8 (r.1.network.map cS73)))]) := by
 unfold d11 at h
 refine FunM.enter 87 [(0, .ptr 1000 0 0), (1, .i a1), (2, .i a2)] Try.func11 rfl (of_decide_eq_true rfl) rfl rfl ?_
 refine .seqR ?_
 refine .runK [] 1 fun K k => ?_; simp; refine k _ _ ?_; clear k K
 refine .tt [(0, .ptr 1000 0 0), (1, .i a1), (2, .i a2)] (H1 a0) ?_
 refine .nil ?_
 refine .seq ?_
 replace h := bsome h; obtain ⟨v5, hj, h⟩ := h
 refine .cutR (mk 87 [1000] [(0, .ptr 1000 0 0), (1, .i a1), (2, .i a2), (24, .b v5)] (H1 a0)) ?_ ?_
 ·clear h; have h := hj; clear hj
  refine .runK [] 2 fun K k => ?_; simp; refine k _ _ ?_; clear k K
  refine .tt [(0, .ptr 1000 0 0), (1, .i a1), (2, .i a2), (10, .ptr 1000 0 0), (11, .i a1)] (H1 a0) ?_
  replace h := bsome h; obtain ⟨r6, hr6, h⟩ := h
  refine .callL (d := 12) (p23 N a0 a1 r6 hr6) (by simp) rfl rfl (by simp <;> rfl) (by simp <;> rfl) ent23 (by simp <;> rfl) ?_
  refine .st (mk 87 [1000] [(0, .ptr 1000 0 0), (1, .i a1), (2, .i a2), (10, .ptr 1000 0 0), (11, .i a1), (12, .b r6)] (H1 a0)) ?_
  refine .runK [] 2 fun K k => ?_; simp; refine k _ _ ?_; clear k K
  refine .tt [(0, .ptr 1000 0 0), (1, .i a1), (2, .i a2), (14, .b (!r6))] (H1 a0) ?_
  replace h := isome h; rcases h with ⟨c7, h⟩ | ⟨c7, h⟩
  ·have c7_ : (!r6) = true := c7
   refine .sub (.bool 14 (b := (!r6)) rfl c7_) ?_
   refine .st (mk 87 [1000] [(0, .ptr 1000 0 0), (1, .i a1), (2, .i a2), (14, .b true)] (H1 a0)) ?_
   refine .runK [] 10 fun K k => ?_; simp; refine k _ _ ?_; clear k K
   refine .tt [(0, .ptr 1000 0 0), (1, .i a1), (2, .i a2), (24, .b true)] (H1 a0) ?_
   cases h
   exact .nil .tt
  have c7_ : (!r6) = false := Bool.eq_false_iff.2 c7
  refine .sub (.bool 14 (b := (!r6)) rfl c7_) ?_
  refine .st (mk 87 [1000] [(0, .ptr 1000 0 0), (1, .i a1), (2, .i a2), (14, .b false)] (H1 a0)) ?_
  refine .runK [] 2 fun K k => ?_; simp; refine k _ _ ?_; clear k K
  refine .tt [(0, .ptr 1000 0 0), (1, .i a1), (2, .i a2), (14, .b false), (15, .ptr 1000 0 0), (16, .i a2)] (H1 a0) ?_
  replace h := bsome h; obtain ⟨r8, hr8, h⟩ := h
  refine .callL (d := 17) (p23 N a0 a2 r8 hr8) (by simp) rfl rfl (by simp <;> rfl) (by simp <;> rfl) ent23 (by simp <;> rfl) ?_
  refine .st (mk 87 [1000] [(0, .ptr 1000 0 0), (1, .i a1), (2, .i a2), (14, .b false), (15, .ptr 1000 0 0), (16, .i a2), (17, .b r8)] (H1 a0)) ?_
  refine .runK [] 3 fun K k => ?_; simp; refine k _ _ ?_; clear k K
  refine .tt [(0, .ptr 1000 0 0), (1, .i a1), (2, .i a2), (20, .b (!r8))] (H1 a0) ?_
  replace h := isome h; rcases h with ⟨c9, h⟩ | ⟨c9, h⟩
  ·have c9_ : (!r8) = true := c9
   refine .sub (.bool 20 (b := (!r8)) rfl c9_) ?_
   refine .st (mk 87 [1000] [(0, .ptr 1000 0 0), (1, .i a1), (2, .i a2), (20, .b true)] (H1 a0)) ?_
   refine .runK [] 4 fun K k => ?_; simp; refine k _ _ ?_; clear k K
   refine .tt [(0, .ptr 1000 0 0), (1, .i a1), (2, .i a2), (24, .b true)] (H1 a0) ?_
   cases h
   exact .nil .tt
  have c9_ : (!r8) = false := Bool.eq_false_iff.2 c9
  refine .sub (.bool 20 (b := (!r8)) rfl c9_) ?_
  refine .st (mk 87 [1000] [(0, .ptr 1000 0 0), (1, .i a1), (2, .i a2), (20, .b false)] (H1 a0)) ?_
  refine .runK [] 4 fun K k => ?_; simp; refine k _ _ ?_; clear k K
  refine .tt [(0, .ptr 1000 0 0), (1, .i a1), (2, .i a2), (24, .b (a1 == a2))] (H1 a0) ?_
  cases h
  exact .nil .tt
 clear hj
 replace h := isome h; rcases h with ⟨c10, h⟩ | ⟨c10, h⟩
 ·have c10_ : v5 = true := c10
  refine .condT (b := v5) rfl c10_ ?_
  refine .sub (.bool 24 (b := v5) rfl c10_) ?_
  refine .st (mk 87 [1000] [(0, .ptr 1000 0 0), (1, .i a1), (2, .i a2), (24, .b true)] (H1 a0)) ?_
  refine .seqR ?_
  refine .runK [] 1 fun K k => ?_; simp; refine k _ _ ?_; clear k K
  refine .tt [(6, .i 1)] (H1 a0) ?_
  refine .nil ?_
  refine .ret ?_
  cases h
  refine thenQ_pass (by simp) ?_
  exact FinF.ret (by simp) (by simp)
 have c10_ : v5 = false := Bool.eq_false_iff.2 c10
 refine .condF (b := v5) rfl c10_ ?_
 refine .sub (.bool 24 (b := v5) rfl c10_) ?_
 refine .st (mk 87 [1000] [(0, .ptr 1000 0 0), (1, .i a1), (2, .i a2), (24, .b false)] (H1 a0)) ?_
 refine .skip ?_
 refine thenQ_normal ?_
 refine .seq ?_
 refine .seqR ?_
 refine .runK [] 2 fun K k => ?_; simp; refine k _ _ ?_; clear k K
 refine .tt [(0, .ptr 1000 0 0), (1, .i a1), (2, .i a2), (25, .ptr 1000 0 0), (26, .i a1)] (H1 a0) ?_
 replace h := bsome h; obtain ⟨r11, hr11, h⟩ := h
 refine .callL (d := 27) (p24 N a0 a1 r11 hr11) (by simp) rfl rfl (by simp <;> rfl) (by simp <;> rfl) ent24 (by simp <;> rfl) ?_
 refine .st (mk 87 [1000] [(0, .ptr 1000 0 0), (1, .i a1), (2, .i a2), (25, .ptr 1000 0 0), (26, .i a1), (27, .b r11)] (H1 a0)) ?_
 refine .runK [] 1 fun K k => ?_; simp; refine k _ _ ?_; clear k K
 refine .tt [(0, .ptr 1000 0 0), (1, .i a1), (2, .i a2), (28, .b (!r11))] (H1 a0) ?_
 refine .nil ?_
 replace h := isome h; rcases h with ⟨c12, h⟩ | ⟨c12, h⟩
 ·have c12_ : (!r11) = true := c12
  refine .condT (b := (!r11)) rfl c12_ ?_
  refine .sub (.bool 28 (b := (!r11)) rfl c12_) ?_
  refine .st (mk 87 [1000] [(0, .ptr 1000 0 0), (1, .i a1), (2, .i a2), (28, .b true)] (H1 a0)) ?_
  refine .seqR ?_
  refine .runK [] 1 fun K k => ?_; simp; refine k _ _ ?_; clear k K
  refine .tt [(6, .i 15)] (H1 a0) ?_
  refine .nil ?_
  refine .ret ?_
  cases h
  refine thenQ_pass (by simp) ?_
  exact FinF.ret (by simp) (by simp)
 have c12_ : (!r11) = false := Bool.eq_false_iff.2 c12
 refine .condF (b := (!r11)) rfl c12_ ?_
 refine .sub (.bool 28 (b := (!r11)) rfl c12_) ?_
 refine .st (mk 87 [1000] [(0, .ptr 1000 0 0), (1, .i a1), (2, .i a2), (28, .b false)] (H1 a0)) ?_
 refine .skip ?_
 refine thenQ_normal ?_
 refine .seq ?_
 refine .seqR ?_
 refine .runK [] 6 fun K k => ?_; simp; refine k _ _ ?_; clear k K
 refine .tt [(0, .ptr 1000 0 0), (1, .i a1), (2, .i a2), (34, .b ((a0.network.length : Int) == 100))] (H1 a0) ?_
 refine .nil ?_
 replace h := isome h; rcases h with ⟨c13, h⟩ | ⟨c13, h⟩
 ·have c13_ : ((a0.network.length : Int) == 100) = true := c13
  refine .condT (b := ((a0.network.length : Int) == 100)) rfl c13_ ?_
  refine .sub (.bool 34 (b := ((a0.network.length : Int) == 100)) rfl c13_) ?_
  refine .st (mk 87 [1000] [(0, .ptr 1000 0 0), (1, .i a1), (2, .i a2), (34, .b true)] (H1 a0)) ?_
  refine .seqR ?_
  refine .runK [] 1 fun K k => ?_; simp; refine k _ _ ?_; clear k K
  refine .tt [(6, .i 18)] (H1 a0) ?_
  refine .nil ?_
  refine .ret ?_
  cases h
  refine thenQ_pass (by simp) ?_
  exact FinF.ret (by simp) (by simp)
 have c13_ : ((a0.network.length : Int) == 100) = false := Bool.eq_false_iff.2 c13
 refine .condF (b := ((a0.network.length : Int) == 100)) rfl c13_ ?_
 refine .sub (.bool 34 (b := ((a0.network.length : Int) == 100)) rfl c13_) ?_
 refine .st (mk 87 [1000] [(0, .ptr 1000 0 0), (1, .i a1), (2, .i a2), (34, .b false)] (H1 a0)) ?_
 refine .skip ?_
 refine thenQ_normal ?_
 refine .seqR ?_
 refine .runK [] 5 fun K k => ?_; simp; refine k _ _ ?_; clear k K
 refine .tt [(0, .ptr 1000 0 0), (1, .i a1), (2, .i a2), (38, .ref 25000 0 a0.servers.length), (39, .i a1)] (H1 a0) ?_
 replace h := bsome h; obtain ⟨x14, hx14, h⟩ := h
 obtain ⟨k15, hx14k, hx14, hx14a, hx14b⟩ := idx_some hx14
 refine .sub (.open 25000 k15 [9016, 9017] (e := cS61 x14) rfl rfl (by simp [hx14]) rfl (by simp) rfl) ?_
 refine .st (mk 87 [1000] [(0, .ptr 1000 0 0), (1, .i a1), (2, .i a2), (38, .ref 25000 0 a0.servers.length), (39, .i a1)] [(1000, some (.box [.ref 25000 0 a0.servers.length, .ref 25001 0 a0.leaders.length, .ref 25002 0 a0.network.length])), (9016, R64 x14.log), (9017, R3 x14.match_), (25000, some (.nest 61 4 [none, none, some (64, 2), some (3, 1)] (a0.servers.map cS61) [(k15, [.i x14.term, .i x14.commit, .ref 9016 0 x14.log.length, .ref 9017 0 x14.match_.length])])), (25001, R3 a0.leaders), (25002, R73 a0.network)]) ?_
 refine .runK [] 4 fun K k => ?_; simp [hx14k, hx14a, hx14b]; refine k _ _ ?_; clear k K
 refine .tt [(0, .ptr 1000 0 0), (1, .i a1), (2, .i a2), (7, .ptr 7 0 0)] [(7, some (.box [.i x14.term, .i x14.commit, .ref 9016 0 x14.log.length, .ref 9017 0 x14.match_.length])), (1000, some (.box [.ref 25000 0 a0.servers.length, .ref 25001 0 a0.leaders.length, .ref 25002 0 a0.network.length])), (9016, R64 x14.log), (9017, R3 x14.match_), (25000, some (.nest 61 4 [none, none, some (64, 2), some (3, 1)] (a0.servers.map cS61) [(k15, [.i x14.term, .i x14.commit, .ref 9016 0 x14.log.length, .ref 9017 0 x14.match_.length])])), (25001, R3 a0.leaders), (25002, R73 a0.network)] ?_
 refine .nil ?_
 refine .seqR ?_
 replace h := bsome h; obtain ⟨x18, hx18, h⟩ := h
 obtain ⟨k19, hx18k, hx18, hx18a, hx18b⟩ := idx_some hx18
 refine .runK [] 6 fun K k => ?_; simp [hx18, hx18k, hx18a, hx18b]; refine k _ _ ?_; clear k K
 refine .tt [(0, .ptr 1000 0 0), (1, .i a1), (2, .i a2), (7, .ptr 7 0 0), (8, .i x18)] [(7, some (.box [.i x14.term, .i x14.commit, .ref 9016 0 x14.log.length, .ref 9017 0 x14.match_.length])), (1000, some (.box [.ref 25000 0 a0.servers.length, .ref 25001 0 a0.leaders.length, .ref 25002 0 a0.network.length])), (9016, R64 x14.log), (9017, R3 x14.match_), (25000, some (.nest 61 4 [none, none, some (64, 2), some (3, 1)] (a0.servers.map cS61) [(k15, [.i x14.term, .i x14.commit, .ref 9016 0 x14.log.length, .ref 9017 0 x14.match_.length])])), (25001, R3 a0.leaders), (25002, R73 a0.network)] ?_
 refine .nil ?_
 refine .seqR ?_
 refine .runK [] 10 fun K k => ?_; simp; refine k _ _ ?_; clear k K
 refine .tt [(0, .ptr 1000 0 0), (7, .ptr 7 0 0), (8, .i x18), (9, .ptr 9 0 0)] [(7, some (.box [.i x14.term, .i x14.commit, .ref 9016 0 x14.log.length, .ref 9017 0 x14.match_.length])), (9, some (.box [.i 1, .i a1, .i a2, .i x14.term, .i x18, .i 0, .i x14.commit, .d (.lit (.slice none 0 0))])), (1000, some (.box [.ref 25000 0 a0.servers.length, .ref 25001 0 a0.leaders.length, .ref 25002 0 a0.network.length])), (9016, R64 x14.log), (9017, R3 x14.match_), (25000, some (.nest 61 4 [none, none, some (64, 2), some (3, 1)] (a0.servers.map cS61) [(k15, [.i x14.term, .i x14.commit, .ref 9016 0 x14.log.length, .ref 9017 0 x14.match_.length])])), (25001, R3 a0.leaders), (25002, R73 a0.network)] ?_
 refine .nil ?_
 refine .seqR ?_
 replace h := bsome h; obtain ⟨v20, hv20, h⟩ := h
 have hv20 := chkI_some hv20
 replace h := lsome h; obtain ⟨v21, hv21, h⟩ := h
 unfold minI at hv21
 replace h := bsome h; obtain ⟨n22, gn22, h⟩ := h
 obtain ⟨hn22a, hn22⟩ := natI_some gn22
 clear gn22
 subst hn22a
 replace h := bsome h; obtain ⟨n23, gn23, h⟩ := h
 obtain ⟨hn23a, hn23⟩ := natI_some gn23
 clear gn23
 subst hn23a
 refine .runK [] 10 fun K k => ?_; simp [hv20, hv21, hn22, hn23]; refine k _ _ ?_; clear k K
 refine .tt [(0, .ptr 1000 0 0), (7, .ptr 7 0 0), (8, .i (n23 : Int)), (9, .ptr 9 0 0), (64, .ref 9016 n23 (n22 - n23))] [(7, some (.box [.i x14.term, .i x14.commit, .ref 9016 0 x14.log.length, .ref 9017 0 x14.match_.length])), (9, some (.box [.i 1, .i a1, .i a2, .i x14.term, .i (n23 : Int), .i 0, .i x14.commit, .d (.lit (.slice none 0 0))])), (1000, some (.box [.ref 25000 0 a0.servers.length, .ref 25001 0 a0.leaders.length, .ref 25002 0 a0.network.length])), (9016, R64 x14.log), (9017, R3 x14.match_), (25000, some (.nest 61 4 [none, none, some (64, 2), some (3, 1)] (a0.servers.map cS61) [(k15, [.i x14.term, .i x14.commit, .ref 9016 0 x14.log.length, .ref 9017 0 x14.match_.length])])), (25001, R3 a0.leaders), (25002, R73 a0.network)] ?_
 replace h := lsome h; obtain ⟨l24, gl24, h⟩ := h
 have hl24 : ((x14.log.map cS64).drop n23).take (n22 - n23) = l24.map cS64 := by rw [← gl24, List.drop_take]; simp
 have hl24c : n23 + (n22 - n23) ≤ x14.log.length := by omega
 clear gl24
 replace h := bsome h; obtain ⟨r25, hr25, h⟩ := h
 refine .callOF (d := 65) (p26 N l24 r25 hr25) (by simp) rfl rfl (by simp <;> rfl) (by simp [hl24, hl24c] <;> rfl) ent26 (by simp) (fun r h => flat_of_ren r h) (flat_map (by simp) _) ?_
 refine .st (mk 87 [1000] [(0, .ptr 1000 0 0), (7, .ptr 7 0 0), (8, .i (n23 : Int)), (9, .ptr 9 0 0), (64, .ref 9016 n23 (n22 - n23)), (65, .ref 65 0 r25.length)] [(7, some (.box [.i x14.term, .i x14.commit, .ref 9016 0 x14.log.length, .ref 9017 0 x14.match_.length])), (9, some (.box [.i 1, .i a1, .i a2, .i x14.term, .i (n23 : Int), .i 0, .i x14.commit, .d (.lit (.slice none 0 0))])), (65, R64 r25), (1000, some (.box [.ref 25000 0 a0.servers.length, .ref 25001 0 a0.leaders.length, .ref 25002 0 a0.network.length])), (9016, R64 x14.log), (9017, R3 x14.match_), (25000, some (.nest 61 4 [none, none, some (64, 2), some (3, 1)] (a0.servers.map cS61) [(k15, [.i x14.term, .i x14.commit, .ref 9016 0 x14.log.length, .ref 9017 0 x14.match_.length])])), (25001, R3 a0.leaders), (25002, R73 a0.network)]) ?_
 refine .runK [] 2 fun K k => ?_; simp; refine k _ _ ?_; clear k K
 refine .tt [(0, .ptr 1000 0 0), (7, .ptr 7 0 0), (8, .i (n23 : Int)), (9, .ptr 9 0 0)] [(7, some (.box [.i x14.term, .i x14.commit, .ref 9016 0 x14.log.length, .ref 9017 0 x14.match_.length])), (9, some (.box [.i 1, .i a1, .i a2, .i x14.term, .i (n23 : Int), .i 0, .i x14.commit, .ref 65 0 r25.length])), (65, R64 r25), (1000, some (.box [.ref 25000 0 a0.servers.length, .ref 25001 0 a0.leaders.length, .ref 25002 0 a0.network.length])), (9016, R64 x14.log), (9017, R3 x14.match_), (25000, some (.nest 61 4 [none, none, some (64, 2), some (3, 1)] (a0.servers.map cS61) [(k15, [.i x14.term, .i x14.commit, .ref 9016 0 x14.log.length, .ref 9017 0 x14.match_.length])])), (25001, R3 a0.leaders), (25002, R73 a0.network)] ?_
 refine .nil ?_
 refine .seq ?_
 refine .seqR ?_
 refine .runK [] 2 fun K k => ?_; simp; refine k _ _ ?_; clear k K
 refine .tt [(0, .ptr 1000 0 0), (7, .ptr 7 0 0), (8, .i (n23 : Int)), (9, .ptr 9 0 0), (68, .b (decide ((n23 : Int) > 0)))] [(7, some (.box [.i x14.term, .i x14.commit, .ref 9016 0 x14.log.length, .ref 9017 0 x14.match_.length])), (9, some (.box [.i 1, .i a1, .i a2, .i x14.term, .i (n23 : Int), .i 0, .i x14.commit, .ref 65 0 r25.length])), (65, R64 r25), (1000, some (.box [.ref 25000 0 a0.servers.length, .ref 25001 0 a0.leaders.length, .ref 25002 0 a0.network.length])), (9016, R64 x14.log), (9017, R3 x14.match_), (25000, some (.nest 61 4 [none, none, some (64, 2), some (3, 1)] (a0.servers.map cS61) [(k15, [.i x14.term, .i x14.commit, .ref 9016 0 x14.log.length, .ref 9017 0 x14.match_.length])])), (25001, R3 a0.leaders), (25002, R73 a0.network)] ?_
 refine .nil ?_
 refine .lastN (fun (v30 : Int) => mk 87 [1000] [(0, .ptr 1000 0 0), (9, .ptr 9 0 0)] [(9, some (.box [.i 1, .i a1, .i a2, .i x14.term, .i (n23 : Int), .i v30, .i x14.commit, .ref 65 0 r25.length])), (65, R64 r25), (1000, some (.box [.ref 25000 0 a0.servers.length, .ref 25001 0 a0.leaders.length, .ref 25002 0 a0.network.length])), (25000, some (.nest 61 4 [none, none, some (64, 2), some (3, 1)] (a0.servers.map cS61) [])), (25001, R3 a0.leaders), (25002, R73 a0.network)]) h ?_ ?_ <;> clear h
 ·intro o h
  replace h := isome h; rcases h with ⟨c31, h⟩ | ⟨c31, h⟩
  ·have c31_ : decide ((n23 : Int) > 0) = true := decide_eq_true c31
   refine .condT (b := decide ((n23 : Int) > 0)) rfl c31_ ?_
   refine .sub (.bool 68 (b := decide ((n23 : Int) > 0)) rfl c31_) ?_
   refine .st (mk 87 [1000] [(0, .ptr 1000 0 0), (7, .ptr 7 0 0), (8, .i (n23 : Int)), (9, .ptr 9 0 0), (68, .b true)] [(7, some (.box [.i x14.term, .i x14.commit, .ref 9016 0 x14.log.length, .ref 9017 0 x14.match_.length])), (9, some (.box [.i 1, .i a1, .i a2, .i x14.term, .i (n23 : Int), .i 0, .i x14.commit, .ref 65 0 r25.length])), (65, R64 r25), (1000, some (.box [.ref 25000 0 a0.servers.length, .ref 25001 0 a0.leaders.length, .ref 25002 0 a0.network.length])), (9016, R64 x14.log), (9017, R3 x14.match_), (25000, some (.nest 61 4 [none, none, some (64, 2), some (3, 1)] (a0.servers.map cS61) [(k15, [.i x14.term, .i x14.commit, .ref 9016 0 x14.log.length, .ref 9017 0 x14.match_.length])])), (25001, R3 a0.leaders), (25002, R73 a0.network)]) ?_
   refine .region ?_
   replace h := bsome h; obtain ⟨v32, hv32, h⟩ := h
   have hv32 := chkI_some hv32
   replace h := bsome h; obtain ⟨x33, hx33, h⟩ := h
   obtain ⟨k34, hx33k, hx33, hx33a, hx33b⟩ := idx_some hx33
   refine .runK [] 9 fun K k => ?_; simp [hv32, hx33, hx33k, hx33a, hx33b]; refine k _ _ ?_; clear k K
   refine .tt [(0, .ptr 1000 0 0), (9, .ptr 9 0 0)] [(9, some (.box [.i 1, .i a1, .i a2, .i x14.term, .i (n23 : Int), .i x33.Term, .i x14.commit, .ref 65 0 r25.length])), (65, R64 r25), (1000, some (.box [.ref 25000 0 a0.servers.length, .ref 25001 0 a0.leaders.length, .ref 25002 0 a0.network.length])), (9016, R64 x14.log), (9017, R3 x14.match_), (25000, some (.nest 61 4 [none, none, some (64, 2), some (3, 1)] (a0.servers.map cS61) [(k15, [.i x14.term, .i x14.commit, .ref 9016 0 x14.log.length, .ref 9017 0 x14.match_.length])])), (25001, R3 a0.leaders), (25002, R73 a0.network)] ?_
   refine .sub (.closeSame 25000 k15 (e := cS61 x14) (cs := [.d (.lit (.int .i64 x14.term)), .d (.lit (.int .i64 x14.commit)), .ref 9016 0 x14.log.length, .ref 9017 0 x14.match_.length]) (ks := [9016, 9017]) rfl rfl (by simp [hx14]) (by simp) (by decide) rfl) ?_
   refine .sub (S' := mk 87 [1000] [(0, .ptr 1000 0 0), (9, .ptr 9 0 0)] [(9, some (.box [.i 1, .i a1, .i a2, .i x14.term, .i (n23 : Int), .i x33.Term, .i x14.commit, .ref 65 0 r25.length])), (65, R64 r25), (1000, some (.box [.ref 25000 0 a0.servers.length, .ref 25001 0 a0.leaders.length, .ref 25002 0 a0.network.length])), (25000, some (.nest 61 4 [none, none, some (64, 2), some (3, 1)] (a0.servers.map cS61) [])), (25001, R3 a0.leaders), (25002, R73 a0.network)]) (by simp; exact Sub.table (by simp) (by simp)) ?_
   refine .nil ?_
   cases h
   refine PostN.next ?_
   exact Sub.tt
  have c31_ : decide ((n23 : Int) > 0) = false := decide_eq_false c31
  refine .condF (b := decide ((n23 : Int) > 0)) rfl c31_ ?_
  refine .sub (.bool 68 (b := decide ((n23 : Int) > 0)) rfl c31_) ?_
  refine .st (mk 87 [1000] [(0, .ptr 1000 0 0), (7, .ptr 7 0 0), (8, .i (n23 : Int)), (9, .ptr 9 0 0), (68, .b false)] [(7, some (.box [.i x14.term, .i x14.commit, .ref 9016 0 x14.log.length, .ref 9017 0 x14.match_.length])), (9, some (.box [.i 1, .i a1, .i a2, .i x14.term, .i (n23 : Int), .i 0, .i x14.commit, .ref 65 0 r25.length])), (65, R64 r25), (1000, some (.box [.ref 25000 0 a0.servers.length, .ref 25001 0 a0.leaders.length, .ref 25002 0 a0.network.length])), (9016, R64 x14.log), (9017, R3 x14.match_), (25000, some (.nest 61 4 [none, none, some (64, 2), some (3, 1)] (a0.servers.map cS61) [(k15, [.i x14.term, .i x14.commit, .ref 9016 0 x14.log.length, .ref 9017 0 x14.match_.length])])), (25001, R3 a0.leaders), (25002, R73 a0.network)]) ?_
  refine .skip ?_
  obtain rfl := Option.some.inj h
  refine PostN.next ?_
  exact (Sub.trans (show Go.Ab.Sub _ (mk 87 [1000] [(0, .ptr 1000 0 0), (9, .ptr 9 0 0)] [(9, some (.box [.i 1, .i a1, .i a2, .i x14.term, .i (n23 : Int), .i 0, .i x14.commit, .ref 65 0 r25.length])), (65, R64 r25), (1000, some (.box [.ref 25000 0 a0.servers.length, .ref 25001 0 a0.leaders.length, .ref 25002 0 a0.network.length])), (25000, some (.nest 61 4 [none, none, some (64, 2), some (3, 1)] (a0.servers.map cS61) [])), (25001, R3 a0.leaders), (25002, R73 a0.network)]) from (Sub.trans (Sub.closeSame 25000 k15 (e := cS61 x14) (cs := [.i x14.term, .i x14.commit, .ref 9016 0 x14.log.length, .ref 9017 0 x14.match_.length]) (ks := [9016, 9017]) rfl rfl (by simp [hx14]) (by simp) (by decide) rfl) (by simp; exact Sub.table (by simp) (by simp)))) Sub.tt)
 rintro v30 h
 refine thenQ_normal ?_
 refine .sub (.freeze 65 rfl) ?_
 refine .st (mk 87 [1000] [(0, .ptr 1000 0 0), (9, .ptr 9 0 0)] [(9, some (.box [.i 1, .i a1, .i a2, .i x14.term, .i (n23 : Int), .i v30, .i x14.commit, .d (.sl (r25.map cS64))])), (1000, some (.box [.ref 25000 0 a0.servers.length, .ref 25001 0 a0.leaders.length, .ref 25002 0 a0.network.length])), (25000, some (.nest 61 4 [none, none, some (64, 2), some (3, 1)] (a0.servers.map cS61) [])), (25001, R3 a0.leaders), (25002, R73 a0.network)]) ?_
 replace h := bsome h; obtain ⟨l35, hl35, h⟩ := h
 obtain ⟨hl35a, hl35⟩ := appL_some hl35
 subst hl35
 try simp only [List.length_cons, List.length_nil, Nat.zero_add] at hl35a
 refine .seqAnyS [[], [], [1], [1, 2], [1, 2, 3], [], [5], [1, 2, 3, 4, 5, 6], [0, 1, 2, 3, 4, 5, 6, 7], [0, 1, 2, 3, 4, 5, 6, 7, 8], [0, 1, 2, 3, 4, 5, 6, 7, 8, 9]] (fun (b : Nat → Bool) => mk 87 [1000] [(0, .ptr 1000 0 0), (9, .ptr 9 0 0), (77, (if b 0 then .ptr 1000 0 0 else .junk)), (78, (if b 1 then .ptr 1000 0 0 else .junk)), (79, (if b 2 then .ptr 1000 0 0 else .junk)), (80, (if b 3 then .ptr 1000 0 2 else .junk)), (81, (if b 7 then .junk else (if b 4 then .ref 25002 0 a0.network.length else .junk))), (82, (if b 5 then .agg [.i 1, .i a1, .i a2, .i x14.term, .i (n23 : Int), .i v30, .i x14.commit, .d (.sl (r25.map cS64))] else .junk)), (83, (if b 6 then .d (.sl ([(S73.mk 1 a1 a2 x14.term (n23 : Int) v30 x14.commit r25)].map cS73)) else .junk)), (84, (if b 7 then .ref 25002 0 ((a0.network ++ [(S73.mk 1 a1 a2 x14.term (n23 : Int) v30 x14.commit r25)]).length) else .junk)), (85, (if b 8 then .ptr 1000 0 0 else .junk)), (86, (if b 9 then .ptr 1000 0 2 else .junk))] [(9, some (.box [.i 1, .i a1, .i a2, .i x14.term, .i (n23 : Int), .i v30, .i x14.commit, .d (.sl (r25.map cS64))])), (1000, (if b 10 then some (.box [.ref 25000 0 a0.servers.length, .ref 25001 0 a0.leaders.length, .ref 25002 0 ((a0.network ++ [(S73.mk 1 a1 a2 x14.term (n23 : Int) v30 x14.commit r25)]).length)]) else (if b 7 then some (.box [.ref 25000 0 a0.servers.length, .ref 25001 0 a0.leaders.length, .hole]) else some (.box [.ref 25000 0 a0.servers.length, .ref 25001 0 a0.leaders.length, .ref 25002 0 a0.network.length])))), (25000, some (.nest 61 4 [none, none, some (64, 2), some (3, 1)] (a0.servers.map cS61) [])), (25001, R3 a0.leaders), (25002, (if b 7 then R73 (a0.network ++ [(S73.mk 1 a1 a2 x14.term (n23 : Int) v30 x14.commit r25)]) else R73 a0.network))]) (mk 87 [1000] [] [(1000, some (.box [.ref 25000 0 a0.servers.length, .ref 25001 0 a0.leaders.length, .ref 25002 0 ((a0.network ++ [(S73.mk 1 a1 a2 x14.term (n23 : Int) v30 x14.commit r25)]).length)])), (25000, some (.nest 61 4 [none, none, some (64, 2), some (3, 1)] (a0.servers.map cS61) [])), (25001, R3 a0.leaders), (25002, R73 (a0.network ++ [(S73.mk 1 a1 a2 x14.term (n23 : Int) v30 x14.commit r25)]))]) (by kernel_rfl) (by kernel_rfl) Sub.tt (Steps.cons ?_ (Steps.cons ?_ (Steps.cons ?_ (Steps.cons ?_ (Steps.cons ?_ (Steps.cons ?_ (Steps.cons ?_ (Steps.cons ?_ (Steps.cons ?_ (Steps.cons ?_ (Steps.cons ?_ (Steps.nil)))))))))))) ?_ ?_
 iterate 7
  ·intro b h0 ha hd
   have T := fct h0 ha hd; simp at T
   refine .runK [83] 1 fun K k => ?_; simp [T]; refine k _ _ ?_; clear k K
   exact .nil (.table (by simp [T]) (by simp [T]))
 ·intro b h0 ha hd
  have T := fct h0 ha hd; simp at T
  refine .runK [83] 1 fun K k => ?_; simp [T, hl35a]; refine k _ _ ?_; clear k K
  exact .nil (.table (by simp [T]) (by simp [T]))
 iterate 3
  ·intro b h0 ha hd
   have T := fct h0 ha hd; simp at T
   refine .runK [83] 1 fun K k => ?_; simp [T]; refine k _ _ ?_; clear k K
   exact .nil (.table (by simp [T]) (by simp [T]))
 ·intro b hb
  have t0 := hb 0 (by decide)
  have t1 := hb 1 (by decide)
  have t2 := hb 2 (by decide)
  have t3 := hb 3 (by decide)
  have t4 := hb 4 (by decide)
  have t5 := hb 5 (by decide)
  have t6 := hb 6 (by decide)
  have t7 := hb 7 (by decide)
  have t8 := hb 8 (by decide)
  have t9 := hb 9 (by decide)
  have t10 := hb 10 (by decide)
  exact Sub.table (by simp [t0, t1, t2, t3, t5, t6, t7, t8, t9]) (by simp [t7, t10])
 skip
 refine .seqR ?_
 refine .runK [] 1 fun K k => ?_; simp; refine k _ _ ?_; clear k K
 refine .tt [(6, .i 0)] [(1000, some (.box [.ref 25000 0 a0.servers.length, .ref 25001 0 a0.leaders.length, .ref 25002 0 ((a0.network ++ [(S73.mk 1 a1 a2 x14.term (n23 : Int) v30 x14.commit r25)]).length)])), (25000, some (.nest 61 4 [none, none, some (64, 2), some (3, 1)] (a0.servers.map cS61) [])), (25001, R3 a0.leaders), (25002, R73 (a0.network ++ [(S73.mk 1 a1 a2 x14.term (n23 : Int) v30 x14.commit r25)]))] ?_
 refine .nil ?_
 refine .ret ?_
 cases h
 exact FinF.ret (by simp) (by simp)
end Go.Proofs.Ytifcmomjjkbboab
