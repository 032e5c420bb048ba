/- Functions of the program as functional programs; the code computes them. -/
import Derived.Test.YtifcmomjjkbboabRp3
namespace Go.Proofs.Ytifcmomjjkbboab
open Go.Ab Go.Rp
attribute [-simp] List.all_eq_true Array.all_toList Array.all_eq_true

/-- (*stemma/replication.Cluster).Log -/
def d6 (N : Nat) (a0 : S59) (a1 : Int) : Option ((List S64) × Int × Int) :=
 (d23 N a0 a1).bind fun r1 =>
 if (!r1) = true then (
  some (([] : List S64), 0, 1)
 ) else
 (idx a0.servers a1).bind fun x3 =>
 (d26 N x3.log).bind fun r5 =>
 some (r5, x3.commit, 0)
set_option maxRecDepth 100000 in
set_option maxHeartbeats 4000000 in
theorem p6 (N : Nat) (a0 : S59) (a1 : Int) (r : ((List S64) × Int × Int)) (h : d6 N a0 a1 = some r) : FunF Try.prog 6 [.d (.pim [.sl (a0.servers.map cS61), .sl (a0.leaders.map (cI .i64)), .sl (a0.network.map cS73)]), .d (.lit (.int .i64 a1))] (.tup [.d (.sl (r.1.map cS64)), .d (.lit (.int .i64 r.2.1)), .d (.lit (.int .i64 r.2.2))]) := by
 unfold d6 at h
 refine FunF.enter 28 [(0, .d (.pim [.sl (a0.servers.map cS61), .sl (a0.leaders.map (cI .i64)), .sl (a0.network.map cS73)])), (1, .i a1)] (by simp) Try.func6 rfl (of_decide_eq_true rfl) rfl rfl ?_
 refine .seqR ?_
 refine .runK [] 3 fun K hK => ?_; simp; refine hK _ _ ?_; clear hK K
 refine .tt (L2 a0.servers a0.leaders a0.network a1) [] ?_
 refine .nil ?_
 refine .seq ?_
 refine .seqR ?_
 refine .runK [] 2 fun K hK => ?_; simp; refine hK _ _ ?_; clear hK K
 refine .tt (L2 a0.servers a0.leaders a0.network a1 ++ [(7, .d (.pim [.sl (a0.servers.map cS61), .sl (a0.leaders.map (cI .i64)), .sl (a0.network.map cS73)])), (8, .i a1)]) [] ?_
 replace h := bsome h; obtain ⟨r1, hr1, h⟩ := h
 refine .callL (d := 9) (p23 N a0 a1 r1 hr1) (by simp) rfl rfl (by simp <;> rfl) (by simp <;> rfl) ent23 (by simp <;> rfl) ?_
 refine .st (mk 28 [] (L2 a0.servers a0.leaders a0.network a1 ++ [(7, .d (.pim [.sl (a0.servers.map cS61), .sl (a0.leaders.map (cI .i64)), .sl (a0.network.map cS73)])), (8, .i a1), (9, .b r1)]) []) ?_
 refine .runK [] 1 fun K hK => ?_; simp; refine hK _ _ ?_; clear hK K
 refine .tt (L2 a0.servers a0.leaders a0.network a1 ++ [(10, .b (!r1))]) [] ?_
 refine .nil ?_
 replace h := isome h; rcases h with ⟨c2, h⟩ | ⟨c2, h⟩
 ·have c2_ : (!r1) = true := c2
  refine .condT (b := (!r1)) rfl c2_ ?_
  refine .sub (.bool 10 (b := (!r1)) rfl c2_) ?_
  refine .st (mk 28 [] (L2 a0.servers a0.leaders a0.network a1 ++ [(10, .b true)]) []) ?_
  refine .seqR ?_
  refine .runK [] 3 fun K hK => ?_; simp; refine hK _ _ ?_; clear hK K
  refine .tt [(4, .d (.lit (.slice none 0 0))), (5, .i 0), (6, .i 1)] [] ?_
  refine .nil ?_
  refine .sub (.nilOwn (t := 4) (id := 904) (T := 64) (n := 2) rfl rfl (by decide)) ?_
  refine .st (mk 28 [] [(4, .ref 904 0 (([] : List S64).length)), (5, .i 0), (6, .i 1)] [(904, R64 ([] : List S64))]) ?_
  refine .ret ?_
  obtain rfl := Option.some.inj h
  refine thenQ_pass (by simp) ?_
  exact FinV.ret (.tup [.ref 904 0 (([] : List S64).length), .d (.lit (.int .i64 0)), .d (.lit (.int .i64 1))]) 904 (k := (.arr 64 2 (([] : List S64).map cS64))) (by simp) (by simp) (by simp) (by simp) (flatN_arr (fun a => by simp [D.flat, cS64]) _) (by simp [viewR, only1]) (by simp)
 have c2_ : (!r1) = false := Bool.eq_false_iff.2 c2
 refine .condF (b := (!r1)) rfl c2_ ?_
 refine .sub (.bool 10 (b := (!r1)) rfl c2_) ?_
 refine .st (mk 28 [] (L2 a0.servers a0.leaders a0.network a1 ++ [(10, .b false)]) []) ?_
 refine .skip ?_
 refine thenQ_normal ?_
 replace h := bsome h; obtain ⟨x3, hx3, h⟩ := h
 obtain ⟨k4, hx3k, hx3, hx3a, hx3b⟩ := idx_some hx3
 replace h := bsome h; obtain ⟨r5, hr5, h⟩ := h
 refine .seqAnyS [[], [0], [0, 1], [0, 1, 2], [], [0, 1, 2, 3, 4], [0, 1, 2, 3, 4, 5], [0, 1, 2, 3, 4, 5, 6], [0, 1, 2, 3, 4, 5, 6, 7], [], [9], [9, 10], [9, 10, 11], [], [9, 10, 11, 12, 13], [9, 10, 11, 12, 13, 14], [9, 10, 11, 12, 13, 14, 15], [0, 1, 2, 3, 4, 5, 6, 7, 8], [0, 1, 2, 3, 4, 5, 6, 7, 8, 9, 10, 11, 12, 13, 14, 15, 16, 17], [0, 1, 2, 3, 4, 5, 6, 7, 8, 9, 10, 11, 12, 13, 14, 15, 16, 17, 18]] (fun (b : Nat → Bool) => mk 28 [] [(0, .d (.pim [.sl (a0.servers.map cS61), .sl (a0.leaders.map (cI .i64)), .sl (a0.network.map cS73)])), (1, .i a1), (4, (if b 17 then .ref 19 0 r5.length else .junk)), (5, (if b 18 then .i x3.commit else .junk)), (6, (if b 19 then .i 0 else .junk)), (11, (if b 0 then .d (.pim [.sl (a0.servers.map cS61), .sl (a0.leaders.map (cI .i64)), .sl (a0.network.map cS73)]) else .junk)), (12, (if b 1 then .d (.pim [.sl (a0.servers.map cS61), .sl (a0.leaders.map (cI .i64)), .sl (a0.network.map cS73)]) else .junk)), (13, (if b 2 then .d (.pim [.sl (a0.servers.map cS61), .sl (a0.leaders.map (cI .i64)), .sl (a0.network.map cS73)]) else .junk)), (14, (if b 3 then .d (.sl (a0.servers.map cS61)) else .junk)), (15, (if b 4 then .i a1 else .junk)), (16, (if b 5 then .d (.pim [.lit (.int .i64 x3.term), .lit (.int .i64 x3.commit), .sl (x3.log.map cS64), .sl (x3.match_.map (cI .i64))]) else .junk)), (17, (if b 6 then .d (.pim [.sl (x3.log.map cS64), .sl (x3.match_.map (cI .i64))]) else .junk)), (18, (if b 7 then .d (.sl (x3.log.map cS64)) else .junk)), (19, (if b 8 then .ref 19 0 r5.length else .junk)), (20, (if b 9 then .d (.pim [.sl (a0.servers.map cS61), .sl (a0.leaders.map (cI .i64)), .sl (a0.network.map cS73)]) else .junk)), (21, (if b 10 then .d (.pim [.sl (a0.servers.map cS61), .sl (a0.leaders.map (cI .i64)), .sl (a0.network.map cS73)]) else .junk)), (22, (if b 11 then .d (.pim [.sl (a0.servers.map cS61), .sl (a0.leaders.map (cI .i64)), .sl (a0.network.map cS73)]) else .junk)), (23, (if b 12 then .d (.sl (a0.servers.map cS61)) else .junk)), (24, (if b 13 then .i a1 else .junk)), (25, (if b 14 then .d (.pim [.lit (.int .i64 x3.term), .lit (.int .i64 x3.commit), .sl (x3.log.map cS64), .sl (x3.match_.map (cI .i64))]) else .junk)), (26, (if b 15 then .d (.pim [.lit (.int .i64 x3.commit), .sl (x3.log.map cS64), .sl (x3.match_.map (cI .i64))]) else .junk)), (27, (if b 16 then .i x3.commit else .junk))] [(19, (if b 8 then R64 r5 else none))]) (mk 28 [] [(4, .ref 19 0 r5.length), (5, .i x3.commit), (6, .i 0)] [(19, R64 r5)]) (by kernel_rfl) (by kernel_rfl) Sub.tt (Steps.cons ?_ (Steps.cons ?_ (Steps.cons ?_ (Steps.cons ?_ (Steps.cons ?_ (Steps.cons ?_ (Steps.cons ?_ (Steps.cons ?_ (Steps.cons ?_ (Steps.cons ?_ (Steps.cons ?_ (Steps.cons ?_ (Steps.cons ?_ (Steps.cons ?_ (Steps.cons ?_ (Steps.cons ?_ (Steps.cons ?_ (Steps.cons ?_ (Steps.cons ?_ (Steps.cons ?_ (Steps.nil))))))))))))))))))))) ?_ ?_
 iterate 5
  ·intro b h0 ha hd
   have T := fct h0 ha hd; simp at T
   refine .runK [] 1 fun K hK => ?_; simp [T]; refine hK _ _ ?_; clear hK K
   exact .nil (.table (by simp [T]) (by simp [T]))
 ·intro b h0 ha hd
  have T := fct h0 ha hd; simp at T
  refine .runK [] 1 fun K hK => ?_; simp [T, hx3, hx3k, hx3a]; refine hK _ _ ?_; clear hK K
  exact .nil (.table (by simp [T]) (by simp [T]))
 iterate 2
  ·intro b h0 ha hd
   have T := fct h0 ha hd; simp at T
   refine .runK [] 1 fun K hK => ?_; simp [T]; refine hK _ _ ?_; clear hK K
   exact .nil (.table (by simp [T]) (by simp [T]))
 ·intro b h0 ha hd
  have T := fct h0 ha hd; simp at T
  simp only [T, if_true, if_false, Bool.false_eq_true]
  refine .callO (d := 19) (p26 N x3.log r5 hr5) (by simp) rfl rfl (by simp <;> rfl) (by simp <;> rfl) ent26 (by simp) ⟨by simp, by simp⟩ ?_
  exact .nil (by simp [T]; exact Sub.table (by simp) (by simp))
 iterate 5
  ·intro b h0 ha hd
   have T := fct h0 ha hd; simp at T
   refine .runK [] 1 fun K hK => ?_; simp [T]; refine hK _ _ ?_; clear hK K
   exact .nil (.table (by simp [T]) (by simp))
 ·intro b h0 ha hd
  have T := fct h0 ha hd; simp at T
  refine .runK [] 1 fun K hK => ?_; simp [T, hx3, hx3k, hx3a]; refine hK _ _ ?_; clear hK K
  exact .nil (.table (by simp [T]) (by simp))
 iterate 5
  ·intro b h0 ha hd
   have T := fct h0 ha hd; simp at T
   refine .runK [] 1 fun K hK => ?_; simp [T]; refine hK _ _ ?_; clear hK K
   exact .nil (.table (by simp [T]) (by simp [T]))
 ·intro b hb
  have t0 := hb 0 (by decide)
  have t1 := hb 1 (by decide)
  have t2 := hb 2 (by decide)
  have t3 := hb 3 (by decide)
  have t4 := hb 4 (by decide)
  have t5 := hb 5 (by decide)
  have t6 := hb 6 (by decide)
  have t7 := hb 7 (by decide)
  have t8 := hb 8 (by decide)
  have t9 := hb 9 (by decide)
  have t10 := hb 10 (by decide)
  have t11 := hb 11 (by decide)
  have t12 := hb 12 (by decide)
  have t13 := hb 13 (by decide)
  have t14 := hb 14 (by decide)
  have t15 := hb 15 (by decide)
  have t16 := hb 16 (by decide)
  have t17 := hb 17 (by decide)
  have t18 := hb 18 (by decide)
  have t19 := hb 19 (by decide)
  exact Sub.table (by simp [t0, t1, t2, t3, t4, t5, t6, t7, t8, t9, t10, t11, t12, t13, t14, t15, t16, t17, t18, t19]) (by simp [t8])
 skip
 refine .ret ?_
 obtain rfl := Option.some.inj h
 exact FinV.ret (.tup [.ref 19 0 r5.length, .d (.lit (.int .i64 x3.commit)), .d (.lit (.int .i64 0))]) 19 (k := (.arr 64 2 (r5.map cS64))) (by simp) (by simp) (by simp) (by simp) (flatN_arr (fun a => by simp [D.flat, cS64]) _) (by simp [viewR, only1]) (by simp)
/-- stemma/stemref5.NewCluster -/
def d7 (N : Nat) (a0 : Int) : Option (Option S44) :=
 letv ([(-1), 0] : List Int) fun l1 =>
 Option.bind (α := List S68) (
  iterN (σ := ((List S68) × Int)) (ρ := List S68) (fun ((l7, v8) : ((List S68) × Int)) =>
   if v8 < a0 then (
    (mkL 8 a0 (0 : Int)).bind fun l23 =>
    letv ([(S68.mk 1 0 [] l23)] : List S68) fun l24 =>
    (appL 64 l7 l24).bind fun _l25 =>
    (chkI (v8 + 1)).bind fun v26 =>
    some (.inl ((l7 ++ l24), v26))
   ) else
   some (.inr l7)
  ) N (([] : List S68), 0)
 ) fun (l21 : List S68) =>
 some (some (S44.mk l21 l1 ([] : List S73)))
set_option maxRecDepth 100000 in
set_option maxHeartbeats 4000000 in
theorem p7 (N : Nat) (a0 : Int) (r : (Option S44)) (h : d7 N a0 = some r) : FunM Try.prog 7 [.i a0] [] [] ((match (generalizing := false) r with | none => V.d (.lit (.pointer none)) | some _ => V.ptr 1000 0 0)) ([] ++ (match (generalizing := false) r with | none => [] | some o => [(1000, (.box [.ref 25000 0 o.Servers.length, .ref 25001 0 o.Leaders.length, .ref 25002 0 o.Network.length])), (25000, (.nest 68 4 [none, none, some (71, 2), some (3, 1)] (o.Servers.map cS68) [])), (25001, (.arr 3 1 (o.Leaders.map (cI .i64)))), (25002, (.arr 47 8 (o.Network.map cS73)))])) := by
 unfold d7 at h
 refine FunM.enter 24 [(0, .i a0)] Try.func7 rfl (of_decide_eq_true rfl) rfl rfl ?_
 refine .seqR ?_
 refine .runK [] 1 fun K hK => ?_; simp; refine hK _ _ ?_; clear hK K
 refine .tt [(0, .i a0)] [] ?_
 refine .nil ?_
 refine .seqR ?_
 refine .runK [] 1 fun K hK => ?_; simp; refine hK _ _ ?_; clear hK K
 refine .sub (.wkRow 4 rfl) ?_
 replace h := lsome h; obtain ⟨l1, hl1, h⟩ := h
 refine .sub (S' := mk 24 [] [(0, .i a0), (4, .ref 4 0 l1.length)] [(4, R3 l1)]) (by simp; subst hl1; exact Sub.table (by simp) (by simp)) ?_
 refine .runK [] 2 fun K hK => ?_; simp; refine hK _ _ ?_; clear hK K
 refine .tt [(0, .i a0), (6, .ptr 6 0 0)] [(4, R3 l1), (6, some (.box [.d (.lit (.slice none 0 0)), .ref 4 0 l1.length, .d (.lit (.slice none 0 0))]))] ?_
 refine .sub (.nilOwnBoxN (bid := 6) (j := 0) (id := 5120) (T := 68) (n := 4) [none, none, some (71, 2), some (3, 1)] rfl rfl (by decide) rfl (by decide) rfl) ?_
 refine .st (mk 24 [] [(0, .i a0), (6, .ptr 6 0 0)] [(4, R3 l1), (6, some (.box [.ref 5120 0 (([] : List S68).length), .ref 4 0 l1.length, .d (.lit (.slice none 0 0))])), (5120, some (.nest 68 4 [none, none, some (71, 2), some (3, 1)] (([] : List S68).map cS68) []))]) ?_
 refine .sub (S' := mk 24 [] [(0, .i a0), (6, .ptr 6 0 0)] [(6, some (.box [.ref 5120 0 (([] : List S68).length), .ref 5121 0 l1.length, .d (.lit (.slice none 0 0))])), (5120, some (.nest 68 4 [none, none, some (71, 2), some (3, 1)] (([] : List S68).map cS68) [])), (5121, R3 l1)]) (Sub.names [(4, 5121), (6, 6), (5120, 5120)] (by simp) (by simp) (by simp [back]) (by simp [V.rnm, lk2]) (by simp [back, Blk.rnm, V.rnm, rnmL, lk2])) ?_
 refine .sub (.nilOwnBox (bid := 6) (j := 2) (id := 5122) (T := 47) (n := 8) rfl rfl (by decide) rfl (by decide)) ?_
 refine .st (mk 24 [] [(0, .i a0), (6, .ptr 6 0 0)] (H30 l1)) ?_
 refine .runK [] 1 fun K hK => ?_; simp; refine hK _ _ ?_; clear hK K
 refine .tt [(0, .i a0), (3, .ptr 6 0 0)] (H30 l1) ?_
 refine .nil ?_
 refine .seq ?_
 refine .seqR ?_
 refine .runK [] 2 fun K hK => ?_; simp; refine hK _ _ ?_; clear hK K
 refine .tt [(0, .i a0), (3, .ptr 6 0 0), (7, .i a0), (8, .i 0)] (H30 l1) ?_
 refine .nil ?_
 refine .lastN (fun (l21 : List S68) => mk 24 [] [(3, .ptr 6 0 0)] (H23 l21 l1)) h ?_ ?_ <;> clear h
 ·intro o h
  refine .block ?_
  refine .iter (fun ((l7, v8) : ((List S68) × Int)) => mk 24 [] [(0, .i a0), (3, .ptr 6 0 0), (7, .i a0), (8, .i v8)] (H23 l7 l1)) h Sub.tt ?_
  clear h
  rintro ⟨l7, v8⟩ x h
  dsimp only at h ⊢
  refine .seqR ?_
  refine .runK [] 1 fun K hK => ?_; simp; refine hK _ _ ?_; clear hK K
  refine .tt [(0, .i a0), (3, .ptr 6 0 0), (7, .i a0), (8, .i v8), (9, .b (decide (v8 < a0)))] (H23 l7 l1) ?_
  refine .nil ?_
  refine .seq ?_
  replace h := isome h; rcases h with ⟨c22, h⟩ | ⟨c22, h⟩
  ·have c22_ : decide (v8 < a0) = true := decide_eq_true c22
   refine .condT (b := decide (v8 < a0)) rfl c22_ ?_
   refine .sub (.bool 9 (b := decide (v8 < a0)) rfl c22_) ?_
   refine .st (mk 24 [] [(0, .i a0), (3, .ptr 6 0 0), (7, .i a0), (8, .i v8), (9, .b true)] (H23 l7 l1)) ?_
   refine .skip ?_
   refine thenQ_normal ?_
   refine .seq ?_
   refine .block ?_
   replace h := bsome h; obtain ⟨l23, gl23, h⟩ := h
   obtain ⟨hl23a, hl23b, hl23c, hl23d⟩ := mkL_some (cI .i64) gl23
   clear gl23
   replace hl23c : List.replicate l23.length [.lit (.int .i64 0)] = l23.map (cI .i64) := hl23c
   replace h := lsome h; obtain ⟨l24, gl24, h⟩ := h
   have hl24 : [[.lit (.int .i64 1), .lit (.int .i64 0), .sl [], .sl (l23.map (cI .i64))]] = l24.map cS68 := by rw [← gl24]; rfl
   have hl24n : l24.length = 1 := by rw [← gl24]; rfl
   clear gl24
   replace h := bsome h; obtain ⟨l25, hl25, h⟩ := h
   obtain ⟨hl25a, hl25⟩ := appL_some hl25
   subst hl25
   refine .lastAnyS [[], [], [1], [1, 2], [1, 2, 3], [], [5], [5, 6], [5, 6, 7], [1, 2, 3, 4, 5, 6, 7, 8], [0, 1, 2, 3, 4, 5, 6, 7, 8, 9], [0, 1, 2, 3, 4, 5, 6, 7, 8, 9, 10], [0, 1, 2, 3, 4, 5, 6, 7, 8, 9, 10, 11]] (fun (b : Nat → Bool) => mk 24 [] [(0, .i a0), (3, .ptr 6 0 0), (7, .i a0), (8, .i v8), (10, (if b 0 then .ptr 6 0 0 else .junk)), (11, (if b 1 then .ptr 6 0 0 else .junk)), (12, (if b 2 then .ptr 6 0 0 else .junk)), (13, (if b 3 then .ptr 6 0 0 else .junk)), (14, (if b 9 then .junk else (if b 4 then .ref 5120 0 l7.length else .junk))), (15, (if b 5 then .i a0 else .junk)), (16, (if b 8 then .junk else (if b 6 then .ref 16 0 l23.length else .junk))), (17, (if b 8 then .junk else (if b 7 then .agg [.i 1, .i 0, .d (.lit (.slice none 0 0)), .ref 16 0 l23.length] else .junk))), (18, (if b 9 then .junk else (if b 8 then .ref 18 0 l24.length else .junk))), (19, (if b 9 then .ref 5120 0 ((l7 ++ l24).length) else .junk)), (20, (if b 10 then .ptr 6 0 0 else .junk)), (21, (if b 11 then .ptr 6 0 0 else .junk))] [(6, (if b 12 then some (.box [.ref 5120 0 ((l7 ++ l24).length), .ref 5121 0 l1.length, .ref 5122 0 (([] : List S73).length)]) else (if b 9 then some (.box [.hole, .ref 5121 0 l1.length, .ref 5122 0 (([] : List S73).length)]) else some (.box [.ref 5120 0 l7.length, .ref 5121 0 l1.length, .ref 5122 0 (([] : List S73).length)])))), (16, (if b 8 then none else (if b 6 then R3 l23 else none))), (18, (if b 9 then none else (if b 8 then some (.nest 68 4 [none, none, some (71, 2), some (3, 1)] (l24.map cS68) []) else none))), (5120, (if b 9 then some (.nest 68 4 [none, none, some (71, 2), some (3, 1)] ((l7 ++ l24).map cS68) []) else some (.nest 68 4 [none, none, some (71, 2), some (3, 1)] (l7.map cS68) []))), (5121, R3 l1), (5122, R47 ([] : List S73))]) (mk 24 [] [(0, .i a0), (3, .ptr 6 0 0), (7, .i a0), (8, .i v8)] [(6, some (.box [.ref 5120 0 ((l7 ++ l24).length), .ref 5121 0 l1.length, .ref 5122 0 (([] : List S73).length)])), (5120, some (.nest 68 4 [none, none, some (71, 2), some (3, 1)] ((l7 ++ l24).map cS68) [])), (5121, R3 l1), (5122, R47 ([] : List S73))]) (by kernel_rfl) (by kernel_rfl) Sub.tt (Steps.cons ?_ (Steps.cons ?_ (Steps.cons ?_ (Steps.cons ?_ (Steps.cons ?_ (Steps.cons ?_ (Steps.cons ?_ (Steps.cons ?_ (Steps.cons ?_ (Steps.cons ?_ (Steps.cons ?_ (Steps.cons ?_ (Steps.cons ?_ (Steps.nil)))))))))))))) ?_ ?_
   iterate 6
    ·intro b h0 ha hd
     have T := fct h0 ha hd; simp at T
     refine .runK [18] 1 fun K hK => ?_; simp [T]; refine hK _ _ ?_; clear hK K
     exact .nil (.table (by simp [T]) (by simp [T]))
   ·intro b h0 ha hd
    have T := fct h0 ha hd; simp at T
    refine .runK [18] 1 fun K hK => ?_; simp [T, hl23a, hl23b, hl23c, hl23d]; refine hK _ _ ?_; clear hK K
    exact .nil (.table (by simp [T]) (by simp [T]))
   ·intro b h0 ha hd
    have T := fct h0 ha hd; simp at T
    refine .runK [18] 1 fun K hK => ?_; simp [T]; refine hK _ _ ?_; clear hK K
    exact .nil (.table (by simp [T]) (by simp [T]))
   ·intro b h0 ha hd
    have T := fct h0 ha hd; simp at T
    simp only [T, if_true, if_false, Bool.false_eq_true]
    refine .buildN (d := 18) (cs := [.d (.lit (.int .i64 1)), .d (.lit (.int .i64 0)), .d (.lit (.slice none 0 0)), .ref 16 0 l23.length]) (te := ⟨_, 4, 64, _⟩) [none, none, some (71, 2), some (3, 1)] (by simp) rfl rfl ty41 rfl ty68 (by simp) rfl rfl rfl rfl (by decide) (by decide) rfl rfl rfl ?_
    refine .sub (.close 18 0 (e := [.lit (.int .i64 1), .lit (.int .i64 0), .sl [], .sl (l23.map (cI .i64))]) (cs := [.d (.lit (.int .i64 1)), .d (.lit (.int .i64 0)), .d (.lit (.slice none 0 0)), .ref 16 0 l23.length]) (ks := [16]) rfl rfl (by simp) (by decide) rfl) ?_
    cases q0 : b 0 <;> cases q1 : b 1 <;> cases q2 : b 2 <;> cases q3 : b 3 <;> cases q4 : b 4 <;> exact Chain.nil (by simp [T, hl24, q0, q1, q2, q3, q4]; exact Sub.table (by simp [hl24n]) (by simp))
   ·intro b h0 ha hd
    have T := fct h0 ha hd; simp at T
    simp only [T, if_true, if_false, Bool.false_eq_true]
    refine .appN (id := 5120) (k := 18) (sh := [none, none, some (71, 2), some (3, 1)]) (es := l7.map cS68) (ys := l24.map cS68) (te := ⟨_, 4, 64, _⟩) (by simp) rfl rfl rfl rfl ty41 rfl ty68 (by simp) (by simp) rfl (by simp) (by simp) rfl (by decide) (by simp [hl24n]) (by decide) rfl (by rw [List.length_map, List.length_map]; exact hl25a) ?_
    cases q0 : b 0 <;> exact Chain.nil (by simp [T, q0]; exact Sub.table (by simp) (by simp))
   iterate 3
    ·intro b h0 ha hd
     have T := fct h0 ha hd; simp at T
     refine .runK [18] 1 fun K hK => ?_; simp [T]; refine hK _ _ ?_; clear hK K
     exact .nil (.table (by simp [T]) (by simp [T]))
   ·intro b hb
    have t0 := hb 0 (by decide)
    have t1 := hb 1 (by decide)
    have t2 := hb 2 (by decide)
    have t3 := hb 3 (by decide)
    have t4 := hb 4 (by decide)
    have t5 := hb 5 (by decide)
    have t6 := hb 6 (by decide)
    have t7 := hb 7 (by decide)
    have t8 := hb 8 (by decide)
    have t9 := hb 9 (by decide)
    have t10 := hb 10 (by decide)
    have t11 := hb 11 (by decide)
    have t12 := hb 12 (by decide)
    exact Sub.table (by simp [t0, t1, t2, t3, t5, t8, t9, t10, t11]) (by simp [t8, t9, t12])
   skip
   refine blockQ.normal ?_
   refine thenQ_normal ?_
   refine .region ?_
   replace h := bsome h; obtain ⟨v26, hv26, h⟩ := h
   have hv26 := chkI_some hv26
   refine .runK [] 2 fun K hK => ?_; simp [hv26]; refine hK _ _ ?_; clear hK K
   refine .tt [(0, .i a0), (3, .ptr 6 0 0), (7, .i a0), (8, .i v26)] [(6, some (.box [.ref 5120 0 ((l7 ++ l24).length), .ref 5121 0 l1.length, .ref 5122 0 (([] : List S73).length)])), (5120, some (.nest 68 4 [none, none, some (71, 2), some (3, 1)] ((l7 ++ l24).map cS68) [])), (5121, R3 l1), (5122, R47 ([] : List S73))] ?_
   refine .nil ?_
   cases h
   refine PostI.next ?_
   exact Sub.tt
  have c22_ : decide (v8 < a0) = false := decide_eq_false c22
  refine .condF (b := decide (v8 < a0)) rfl c22_ ?_
  refine .sub (.bool 9 (b := decide (v8 < a0)) rfl c22_) ?_
  refine .st (mk 24 [] [(0, .i a0), (3, .ptr 6 0 0), (7, .i a0), (8, .i v8), (9, .b false)] (H23 l7 l1)) ?_
  refine .exit ?_
  cases h
  refine thenQ_pass (by simp) ?_
  refine PostI.out (by simp) ?_
  rintro rfl
  refine blockQ.hit ?_
  refine PostN.next ?_
  exact Sub.tt
 rintro l21 h
 refine thenQ_normal ?_
 refine .seqR ?_
 refine .runK [] 2 fun K hK => ?_; simp; refine hK _ _ ?_; clear hK K
 refine .tt [(2, .ptr 6 0 0)] (H23 l21 l1) ?_
 refine .nil ?_
 refine .sub (S' := mk 24 [] [(2, .ptr 1000 0 0)] [(1000, some (.box [.ref 25000 0 l21.length, .ref 25001 0 l1.length, .ref 25002 0 (([] : List S73).length)])), (25000, some (.nest 68 4 [none, none, some (71, 2), some (3, 1)] (l21.map cS68) [])), (25001, R3 l1), (25002, R47 ([] : List S73))]) (Sub.names [(6, 1000), (5120, 25000), (5121, 25001), (5122, 25002)] (by simp) (by simp) (by simp [back]) (by simp [V.rnm, lk2]) (by simp [back, Blk.rnm, V.rnm, rnmL, lk2])) ?_
 refine .ret ?_
 cases h
 exact FinF.ret (by simp) (by simp)
/-- stemma/stemlaw5.arg -/
def d8 (_N : Nat) (a0 : (List Int)) (a1 : Int) : Option Int :=
 if a1 < (a0.length : Int) then (
  (idx a0 a1).bind fun x2 =>
  some x2
 ) else
 some 0
set_option maxRecDepth 100000 in
set_option maxHeartbeats 4000000 in
theorem p8 (N : Nat) (a0 : (List Int)) (a1 : Int) (r : Int) (h : d8 N a0 a1 = some r) : FunC Try.prog 8 [.d (.sl (a0.map (cI .i64))), .i a1] (.i r) := by
 unfold d8 at h
 refine FunC.enter 13 [(0, .d (.sl (a0.map (cI .i64)))), (1, .i a1)] (by simp) Try.func8 rfl (of_decide_eq_true rfl) rfl rfl ?_
 refine .seqR ?_
 refine .runK [] 1 fun K k => ?_; simp; refine k _ _ ?_; clear k K
 refine .tt [(0, .d (.sl (a0.map (cI .i64)))), (1, .i a1)] [] ?_
 refine .nil ?_
 refine .seq ?_
 refine .seqR ?_
 refine .runK [] 4 fun K k => ?_; simp; refine k _ _ ?_; clear k K
 refine .tt [(0, .d (.sl (a0.map (cI .i64)))), (1, .i a1), (8, .b (decide (a1 < (a0.length : Int))))] [] ?_
 refine .nil ?_
 replace h := isome h; rcases h with ⟨c1, h⟩ | ⟨c1, h⟩
 ·have c1_ : decide (a1 < (a0.length : Int)) = true := decide_eq_true c1
  refine .condT (b := decide (a1 < (a0.length : Int))) rfl c1_ ?_
  refine .sub (.bool 8 (b := decide (a1 < (a0.length : Int))) rfl c1_) ?_
  refine .st (mk 13 [] [(0, .d (.sl (a0.map (cI .i64)))), (1, .i a1), (8, .b true)] []) ?_
  refine .seqR ?_
  replace h := bsome h; obtain ⟨x2, hx2, h⟩ := h
  obtain ⟨k3, hx2k, hx2, hx2a, hx2b⟩ := idx_some hx2
  refine .runK [] 5 fun K k => ?_; simp [hx2, hx2k, hx2a]; refine k _ _ ?_; clear k K
  refine .tt [(4, .i x2)] [] ?_
  refine .nil ?_
  refine .ret ?_
  cases h
  refine thenQ_pass (by simp) ?_
  exact FinC.ret (by simp) (by simp)
 have c1_ : decide (a1 < (a0.length : Int)) = false := decide_eq_false c1
 refine .condF (b := decide (a1 < (a0.length : Int))) rfl c1_ ?_
 refine .sub (.bool 8 (b := decide (a1 < (a0.length : Int))) rfl c1_) ?_
 refine .st (mk 13 [] [(0, .d (.sl (a0.map (cI .i64)))), (1, .i a1), (8, .b false)] []) ?_
 refine .skip ?_
 refine thenQ_normal ?_
 refine .seqR ?_
 refine .runK [] 1 fun K k => ?_; simp; refine k _ _ ?_; clear k K
 refine .tt [(4, .i 0)] [] ?_
 refine .nil ?_
 refine .ret ?_
 cases h
 exact FinC.ret (by simp) (by simp)
/-- stemma/stemlaw5.choose[string] -/
def d9 (_N : Nat) (a0 : (List ByteArray)) (a1 : Int) : Option ByteArray :=
 if ((a0.length : Int) == 0) then (
  some (ByteArray.mk #[])
 ) else
 letv (IntKind.u64.wrap (a1)) fun v2 =>
 letv (IntKind.u64.wrap ((a0.length : Int))) fun v3 =>
 (remI v2 v3).bind fun v4 =>
 (chkI (v4)).bind fun v5 =>
 (idx a0 v5).bind fun x6 =>
 some x6
set_option maxRecDepth 100000 in
set_option maxHeartbeats 4000000 in
theorem p9 (N : Nat) (a0 : (List ByteArray)) (a1 : Int) (r : ByteArray) (h : d9 N a0 a1 = some r) : FunC Try.prog 9 [.d (.sl (a0.map cS)), .i a1] (.d (.lit (.string r))) := by
 unfold d9 at h
 refine FunC.enter 20 [(0, .d (.sl (a0.map cS))), (1, .i a1)] (by simp) Try.func9 rfl (of_decide_eq_true rfl) rfl rfl ?_
 refine .seqR ?_
 refine .runK [] 1 fun K k => ?_; simp; refine k _ _ ?_; clear k K
 refine .tt [(0, .d (.sl (a0.map cS))), (1, .i a1)] [] ?_
 refine .nil ?_
 refine .seqR ?_
 refine .runK [] 1 fun K k => ?_; simp; refine k _ _ ?_; clear k K
 refine .tt (L5 a0 a1) [] ?_
 refine .nil ?_
 refine .seq ?_
 refine .seqR ?_
 refine .runK [] 3 fun K k => ?_; simp; refine k _ _ ?_; clear k K
 refine .tt (L5 a0 a1 ++ [(8, .b ((a0.length : Int) == 0))]) [] ?_
 refine .nil ?_
 replace h := isome h; rcases h with ⟨c1, h⟩ | ⟨c1, h⟩
 ·have c1_ : ((a0.length : Int) == 0) = true := c1
  refine .condT (b := ((a0.length : Int) == 0)) rfl c1_ ?_
  refine .sub (.bool 8 (b := ((a0.length : Int) == 0)) rfl c1_) ?_
  refine .st (mk 20 [] (L5 a0 a1 ++ [(8, .b true)]) []) ?_
  refine .seqR ?_
  refine .runK [] 2 fun K k => ?_; simp; refine k _ _ ?_; clear k K
  refine .tt [(4, .d (.lit (.string (ByteArray.mk #[]))))] [] ?_
  refine .nil ?_
  refine .ret ?_
  cases h
  refine thenQ_pass (by simp) ?_
  exact FinC.ret (by simp) (by simp)
 have c1_ : ((a0.length : Int) == 0) = false := Bool.eq_false_iff.2 c1
 refine .condF (b := ((a0.length : Int) == 0)) rfl c1_ ?_
 refine .sub (.bool 8 (b := ((a0.length : Int) == 0)) rfl c1_) ?_
 refine .st (mk 20 [] (L5 a0 a1 ++ [(8, .b false)]) []) ?_
 refine .skip ?_
 refine thenQ_normal ?_
 refine .seqR ?_
 replace h := lsome h; obtain ⟨v2, hv2, h⟩ := h
 replace h := lsome h; obtain ⟨v3, hv3, h⟩ := h
 replace h := bsome h; obtain ⟨v4, hv4, h⟩ := h
 obtain ⟨hv4a, hv4⟩ := remI_some hv4
 replace h := bsome h; obtain ⟨v5, hv5, h⟩ := h
 have hv5 := chkI_some hv5
 replace h := bsome h; obtain ⟨x6, hx6, h⟩ := h
 obtain ⟨k7, hx6k, hx6, hx6a, hx6b⟩ := idx_some hx6
 refine .runK [] 11 fun K k => ?_; simp [hv2, hv3, hv4, hv4a, hv5, hx6, hx6k, hx6a]; refine k _ _ ?_; clear k K
 refine .tt [(4, .d (.lit (.string x6)))] [] ?_
 refine .nil ?_
 refine .ret ?_
 cases h
 exact FinC.ret (by simp) (by simp)
/-- stemma/stemref5.Between -/
def d12 (_N : Nat) (a0 : Int) (a1 : Int) (a2 : Int) : Option Bool :=
 Option.bind (α := Bool) (
  if a0 ≥ a1 then (
   some (decide (a0 ≤ a2))
  ) else
  some false
 ) fun (v2 : Bool) =>
 some v2
set_option maxRecDepth 100000 in
set_option maxHeartbeats 4000000 in
theorem p12 (N : Nat) (a0 : Int) (a1 : Int) (a2 : Int) (r : Bool) (h : d12 N a0 a1 a2 = some r) : FunC Try.prog 12 [.i a0, .i a1, .i a2] (.b r) := by
 unfold d12 at h
 refine FunC.enter 15 [(0, .i a0), (1, .i a1), (2, .i a2)] (by simp) Try.func12 rfl (of_decide_eq_true rfl) rfl rfl ?_
 refine .seqR ?_
 refine .runK [] 1 fun K k => ?_; simp; refine k _ _ ?_; clear k K
 refine .tt [(0, .i a0), (1, .i a1), (2, .i a2)] [] ?_
 refine .nil ?_
 replace h := bsome h; obtain ⟨v2, hj, h⟩ := h
 refine .cutR (mk 15 [] [(6, .b v2)] []) ?_ ?_
 ·clear h; have h := hj; clear hj
  refine .runK [] 4 fun K k => ?_; simp; refine k _ _ ?_; clear k K
  refine .tt [(0, .i a0), (2, .i a2), (10, .b (decide (a0 ≥ a1)))] [] ?_
  replace h := isome h; rcases h with ⟨c3, h⟩ | ⟨c3, h⟩
  ·have c3_ : decide (a0 ≥ a1) = true := decide_eq_true c3
   refine .sub (.bool 10 (b := decide (a0 ≥ a1)) rfl c3_) ?_
   refine .st (mk 15 [] [(0, .i a0), (2, .i a2), (10, .b true)] []) ?_
   refine .runK [] 5 fun K k => ?_; simp; refine k _ _ ?_; clear k K
   refine .tt [(6, .b (decide (a0 ≤ a2)))] [] ?_
   cases h
   exact .nil .tt
  have c3_ : decide (a0 ≥ a1) = false := decide_eq_false c3
  refine .sub (.bool 10 (b := decide (a0 ≥ a1)) rfl c3_) ?_
  refine .st (mk 15 [] [(0, .i a0), (2, .i a2), (10, .b false)] []) ?_
  refine .runK [] 5 fun K k => ?_; simp; refine k _ _ ?_; clear k K
  refine .tt [(6, .b false)] [] ?_
  cases h
  exact .nil .tt
 clear hj
 refine .ret ?_
 cases h
 exact FinC.ret (by simp) (by simp)
/-- (*stemma/stemref5.Cluster).IsLeader -/
def d13 (_N : Nat) (a0 : S44) (a1 : Int) : Option Bool :=
 (idx a0.Servers a1).bind fun x1 =>
 (idx a0.Leaders x1.Term).bind fun x3 =>
 some (x3 == a1)
set_option maxRecDepth 100000 in
set_option maxHeartbeats 4000000 in
theorem p13 (N : Nat) (a0 : S44) (a1 : Int) (r : Bool) (h : d13 N a0 a1 = some r) : FunC Try.prog 13 [.d (.pim [.sl (a0.Servers.map cS68), .sl (a0.Leaders.map (cI .i64)), .sl (a0.Network.map cS73)]), .i a1] (.b r) := by
 unfold d13 at h
 refine FunC.enter 21 [(0, .d (.pim [.sl (a0.Servers.map cS68), .sl (a0.Leaders.map (cI .i64)), .sl (a0.Network.map cS73)])), (1, .i a1)] (by simp) Try.func13 rfl (of_decide_eq_true rfl) rfl rfl ?_
 refine .seqR ?_
 refine .runK [] 1 fun K k => ?_; simp; refine k _ _ ?_; clear k K
 refine .tt [(0, .d (.pim [.sl (a0.Servers.map cS68), .sl (a0.Leaders.map (cI .i64)), .sl (a0.Network.map cS73)])), (1, .i a1)] [] ?_
 refine .nil ?_
 refine .seqQ (by kernel_rfl) (by kernel_rfl) ?_
 replace h := bsome h; obtain ⟨x1, hx1, h⟩ := h
 obtain ⟨k2, hx1k, hx1, hx1a, hx1b⟩ := idx_some hx1
 replace h := bsome h; obtain ⟨x3, hx3, h⟩ := h
 obtain ⟨k4, hx3k, hx3, hx3a, hx3b⟩ := idx_some hx3
 refine .runQ 17 fun K k => ?_; simp [hx1, hx1k, hx1a, hx3, hx3k, hx3a]; refine k _ _ ?_; clear k K
 refine .tt [(4, .b (x3 == a1))] [] ?_
 refine .nil ?_
 refine .ret ?_
 cases h
 exact FinC.ret (by simp) (by simp)
end Go.Proofs.Ytifcmomjjkbboab
