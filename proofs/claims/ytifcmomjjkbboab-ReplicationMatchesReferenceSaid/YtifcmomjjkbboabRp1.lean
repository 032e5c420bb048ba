/- Functions of the program as functional programs; the code computes them. -/
import Derived.Test.YtifcmomjjkbboabRp0
namespace Go.Proofs.Ytifcmomjjkbboab
open Go.Ab Go.Rp
attribute [-simp] List.all_eq_true Array.all_toList Array.all_eq_true

/-- stemma/replication.New -/
def d4 (N : Nat) (a0 : Int) : Option ((Option S59) × Int) :=
 Option.bind (α := Bool) (
  if a0 < 1 then (
   some true
  ) else
  some (decide (a0 > 5))
 ) fun (v2 : Bool) =>
 if v2 = true then (
  some (none, 1)
 ) else
 (mkL 64 a0 ((S61.mk 0 0 [] []) : S61)).bind fun l5 =>
 letv ([0, 0] : List Int) fun l6 =>
 Option.bind (α := List S61) (
  iterN (σ := ((List S61) × Int)) (ρ := List S61) (fun ((l13, v14) : ((List S61) × Int)) =>
   if v14 < (l5.length : Int) then (
    (idx l13 v14).bind fun x33 =>
    letv (setI l13 v14 (S61.mk 1 x33.commit x33.log x33.match_)) fun l37 =>
    (chkI (v14 + 1)).bind fun v38 =>
    some (.inl (l37, v38))
   ) else
   some (.inr l13)
  ) N (l5, 0)
 ) fun (l31 : List S61) =>
 (idx l31 0).bind fun x40 =>
 (mkL 8 a0 (0 : Int)).bind fun l43 =>
 letv (setI l31 0 (S61.mk x40.term x40.commit x40.log l43)) fun l44 =>
 some ((some (S59.mk l44 l6 ([] : List S73))), 0)
set_option maxRecDepth 100000 in
set_option maxHeartbeats 4000000 in
theorem p4 (N : Nat) (a0 : Int) (r : ((Option S59) × Int)) (h : d4 N a0 = some r) : FunM Try.prog 4 [.i a0] [] [] (.tup [(match (generalizing := false) r.1 with | none => V.d (.lit (.pointer none)) | some _ => V.ptr 1000 0 0), .i r.2]) ([] ++ (match (generalizing := false) r.1 with | none => [] | some o => [(1000, (.box [.ref 25000 0 o.servers.length, .ref 25001 0 o.leaders.length, .ref 25002 0 o.network.length])), (25000, (.nest 61 4 [none, none, some (64, 2), some (3, 1)] (o.servers.map cS61) [])), (25001, (.arr 3 1 (o.leaders.map (cI .i64)))), (25002, (.arr 73 8 (o.network.map cS73)))])) := by
 unfold d4 at h
 refine FunM.enter 42 [(0, .i a0)] Try.func4 rfl (of_decide_eq_true rfl) rfl rfl ?_
 refine .seqR ?_
 refine .runK [] 2 fun K k => ?_; simp; refine k _ _ ?_; clear k K
 refine .tt [(0, .i a0)] [] ?_
 refine .nil ?_
 refine .seq ?_
 replace h := bsome h; obtain ⟨v2, hj, h⟩ := h
 refine .cutR (mk 42 [] [(0, .i a0), (11, .b v2)] []) ?_ ?_
 ·clear h; have h := hj; clear hj
  refine .runK [] 3 fun K k => ?_; simp; refine k _ _ ?_; clear k K
  refine .tt [(0, .i a0), (8, .b (decide (a0 < 1)))] [] ?_
  replace h := isome h; rcases h with ⟨c3, h⟩ | ⟨c3, h⟩
  ·have c3_ : decide (a0 < 1) = true := decide_eq_true c3
   refine .sub (.bool 8 (b := decide (a0 < 1)) rfl c3_) ?_
   refine .st (mk 42 [] [(0, .i a0), (8, .b true)] []) ?_
   refine .runK [] 3 fun K k => ?_; simp; refine k _ _ ?_; clear k K
   refine .tt [(0, .i a0), (11, .b true)] [] ?_
   cases h
   exact .nil .tt
  have c3_ : decide (a0 < 1) = false := decide_eq_false c3
  refine .sub (.bool 8 (b := decide (a0 < 1)) rfl c3_) ?_
  refine .st (mk 42 [] [(0, .i a0), (8, .b false)] []) ?_
  refine .runK [] 3 fun K k => ?_; simp; refine k _ _ ?_; clear k K
  refine .tt [(0, .i a0), (11, .b (decide (a0 > 5)))] [] ?_
  cases h
  exact .nil .tt
 clear hj
 replace h := isome h; rcases h with ⟨c4, h⟩ | ⟨c4, h⟩
 ·have c4_ : v2 = true := c4
  refine .condT (b := v2) rfl c4_ ?_
  refine .sub (.bool 11 (b := v2) rfl c4_) ?_
  refine .st (mk 42 [] [(0, .i a0), (11, .b true)] []) ?_
  refine .seqR ?_
  refine .runK [] 2 fun K k => ?_; simp; refine k _ _ ?_; clear k K
  refine .tt [(2, .d (.lit (.pointer none))), (3, .i 1)] [] ?_
  refine .nil ?_
  refine .ret ?_
  cases h
  refine thenQ_pass (by simp) ?_
  exact FinF.ret (by simp) (by simp)
 have c4_ : v2 = false := Bool.eq_false_iff.2 c4
 refine .condF (b := v2) rfl c4_ ?_
 refine .sub (.bool 11 (b := v2) rfl c4_) ?_
 refine .st (mk 42 [] [(0, .i a0), (11, .b false)] []) ?_
 refine .skip ?_
 refine thenQ_normal ?_
 refine .seqR ?_
 replace h := bsome h; obtain ⟨l5, gl5, h⟩ := h
 obtain ⟨hl5a, hl5b, hl5c, hl5d⟩ := mkL_some cS61 gl5
 clear gl5
 replace hl5c : List.replicate l5.length [.lit (.int .i64 0), .lit (.int .i64 0), .sl [], .sl []] = l5.map cS61 := hl5c
 refine .runK [] 2 fun K k => ?_; simp [hl5a, hl5b, hl5d]; refine k _ _ ?_; clear k K
 refine .sub (.toNest 13 (es' := l5.map cS61) [none, none, some (64, 2), some (3, 1)] rfl rfl (by rw [← hl5c]; exact mapO_rep (g := nz [none, none, some (64, 2), some (3, 1)]) (by rfl) _) rfl) ?_
 refine .st (mk 42 [] [(0, .i a0), (13, .ref 13 0 l5.length)] [(13, some (.nest 61 4 [none, none, some (64, 2), some (3, 1)] (l5.map cS61) []))]) ?_
 refine .runK [] 1 fun K k => ?_; simp; refine k _ _ ?_; clear k K
 refine .sub (.wkRow 14 rfl) ?_
 replace h := lsome h; obtain ⟨l6, hl6, h⟩ := h
 refine .sub (S' := mk 42 [] [(0, .i a0), (13, .ref 13 0 l5.length), (14, .ref 14 0 l6.length)] [(13, some (.nest 61 4 [none, none, some (64, 2), some (3, 1)] (l5.map cS61) [])), (14, R3 l6)]) (by simp; subst hl6; exact Sub.table (by simp) (by simp)) ?_
 refine .runK [] 2 fun K k => ?_; simp; refine k _ _ ?_; clear k K
 refine .tt [(0, .i a0), (16, .ptr 16 0 0)] [(13, some (.nest 61 4 [none, none, some (64, 2), some (3, 1)] (l5.map cS61) [])), (14, R3 l6), (16, some (.box [.ref 13 0 l5.length, .ref 14 0 l6.length, .d (.lit (.slice none 0 0))]))] ?_
 refine .sub (S' := mk 42 [] [(0, .i a0), (16, .ptr 16 0 0)] [(14, R3 l6), (16, some (.box [.ref 5320 0 l5.length, .ref 14 0 l6.length, .d (.lit (.slice none 0 0))])), (5320, some (.nest 61 4 [none, none, some (64, 2), some (3, 1)] (l5.map cS61) []))]) (Sub.names [(13, 5320), (14, 14), (16, 16)] (by simp) (by simp) (by simp [back]) (by simp [V.rnm, lk2]) (by simp [back, Blk.rnm, V.rnm, rnmL, lk2])) ?_
 refine .sub (S' := mk 42 [] [(0, .i a0), (16, .ptr 16 0 0)] [(16, some (.box [.ref 5320 0 l5.length, .ref 5321 0 l6.length, .d (.lit (.slice none 0 0))])), (5320, some (.nest 61 4 [none, none, some (64, 2), some (3, 1)] (l5.map cS61) [])), (5321, R3 l6)]) (Sub.names [(14, 5321), (16, 16), (5320, 5320)] (by simp) (by simp) (by simp [back]) (by simp [V.rnm, lk2]) (by simp [back, Blk.rnm, V.rnm, rnmL, lk2])) ?_
 refine .sub (.nilOwnBox (bid := 16) (j := 2) (id := 5322) (T := 73) (n := 8) rfl rfl (by decide) rfl (by decide)) ?_
 refine .st (mk 42 [] [(0, .i a0), (16, .ptr 16 0 0)] (H14 l5 l6)) ?_
 refine .runK [] 1 fun K k => ?_; simp; refine k _ _ ?_; clear k K
 refine .tt [(0, .i a0), (4, .ptr 16 0 0)] (H14 l5 l6) ?_
 refine .nil ?_
 refine .seq ?_
 refine .seqR ?_
 refine .runK [] 6 fun K k => ?_; simp; refine k _ _ ?_; clear k K
 refine .tt [(0, .i a0), (4, .ptr 16 0 0), (21, .i (l5.length : Int)), (22, .i 0)] (H14 l5 l6) ?_
 refine .nil ?_
 refine .lastN (fun (l31 : List S61) => mk 42 [] [(0, .i a0), (4, .ptr 16 0 0)] (H14 l31 l6)) h ?_ ?_ <;> clear h
 ·intro o h
  refine .block ?_
  refine .iter (fun ((l13, v14) : ((List S61) × Int)) => mk 42 [] (L1 a0 l5.length v14) (H14 l13 l6)) h Sub.tt ?_
  clear h
  rintro ⟨l13, v14⟩ x h
  dsimp only at h ⊢
  refine .seqR ?_
  refine .runK [] 1 fun K k => ?_; simp; refine k _ _ ?_; clear k K
  refine .tt (L1 a0 l5.length v14 ++ [(23, .b (decide (v14 < (l5.length : Int))))]) (H14 l13 l6) ?_
  refine .nil ?_
  refine .seq ?_
  replace h := isome h; rcases h with ⟨c32, h⟩ | ⟨c32, h⟩
  ·have c32_ : decide (v14 < (l5.length : Int)) = true := decide_eq_true c32
   refine .condT (b := decide (v14 < (l5.length : Int))) rfl c32_ ?_
   refine .sub (.bool 23 (b := decide (v14 < (l5.length : Int))) rfl c32_) ?_
   refine .st (mk 42 [] (L1 a0 l5.length v14 ++ [(23, .b true)]) (H14 l13 l6)) ?_
   refine .skip ?_
   refine thenQ_normal ?_
   refine .seq ?_
   refine .block ?_
   refine .seqR ?_
   refine .runK [] 2 fun K k => ?_; simp; refine k _ _ ?_; clear k K
   refine .tt [(0, .i a0), (4, .ptr 16 0 0), (5, .i v14), (21, .i (l5.length : Int)), (22, .i v14)] (H14 l13 l6) ?_
   refine .nil ?_
   refine .region ?_
   refine .runK [] 5 fun K k => ?_; simp; refine k _ _ ?_; clear k K
   refine .tt (L1 a0 l5.length v14 ++ [(28, .ref 5320 0 l13.length), (29, .i v14)]) (H14 l13 l6) ?_
   replace h := bsome h; obtain ⟨x33, hx33, h⟩ := h
   obtain ⟨k34, hx33k, hx33, hx33a, hx33b⟩ := idx_some hx33
   refine .sub (.open 5320 k34 [9035, 9036] (e := cS61 x33) rfl rfl (by simp [hx33]) rfl (by simp) rfl) ?_
   refine .st (mk 42 [] (L1 a0 l5.length v14 ++ [(28, .ref 5320 0 l13.length), (29, .i v14)]) [(16, some (.box [.ref 5320 0 l13.length, .ref 5321 0 l6.length, .ref 5322 0 (([] : List S73).length)])), (5320, some (.nest 61 4 [none, none, some (64, 2), some (3, 1)] (l13.map cS61) [(k34, [.i x33.term, .i x33.commit, .ref 9035 0 x33.log.length, .ref 9036 0 x33.match_.length])])), (5321, R3 l6), (5322, R73 ([] : List S73)), (9035, R64 x33.log), (9036, R3 x33.match_)]) ?_
   refine .runK [] 3 fun K k => ?_; simp [hx33k, hx33a, hx33b]; refine k _ _ ?_; clear k K
   refine .tt (L1 a0 l5.length v14) [(16, some (.box [.ref 5320 0 l13.length, .ref 5321 0 l6.length, .ref 5322 0 (([] : List S73).length)])), (5320, some (.nest 61 4 [none, none, some (64, 2), some (3, 1)] (l13.map cS61) [(k34, [.i 1, .i x33.commit, .ref 9035 0 x33.log.length, .ref 9036 0 x33.match_.length])])), (5321, R3 l6), (5322, R73 ([] : List S73)), (9035, R64 x33.log), (9036, R3 x33.match_)] ?_
   replace h := lsome h; obtain ⟨l37, gl37, h⟩ := h
   obtain ⟨hl37, hl37n⟩ := setI_some cS61 gl37 hx33k
   replace hl37 : (l13.map cS61).set k34 [.lit (.int .i64 1), .lit (.int .i64 x33.commit), .sl (x33.log.map cS64), .sl (x33.match_.map (cI .i64))] = l37.map cS61 := hl37
   clear gl37
   refine .sub (.close 5320 k34 (e := [.lit (.int .i64 1), .lit (.int .i64 x33.commit), .sl (x33.log.map cS64), .sl (x33.match_.map (cI .i64))]) (cs := [.d (.lit (.int .i64 1)), .d (.lit (.int .i64 x33.commit)), .ref 9035 0 x33.log.length, .ref 9036 0 x33.match_.length]) (ks := [9035, 9036]) rfl rfl (by simp) (by decide) rfl) ?_
   refine .sub (S' := mk 42 [] (L1 a0 l5.length v14) (H14 l37 l6)) (by simp [hl37]; exact Sub.table (by simp) (by simp [hl37n])) ?_
   refine .nil ?_
   refine blockQ.normal ?_
   refine thenQ_normal ?_
   refine .region ?_
   replace h := bsome h; obtain ⟨v38, hv38, h⟩ := h
   have hv38 := chkI_some hv38
   refine .runK [] 2 fun K k => ?_; simp [hv38]; refine k _ _ ?_; clear k K
   refine .tt (L1 a0 l5.length v38) (H14 l37 l6) ?_
   refine .nil ?_
   cases h
   refine PostI.next ?_
   exact Sub.tt
  have c32_ : decide (v14 < (l5.length : Int)) = false := decide_eq_false c32
  refine .condF (b := decide (v14 < (l5.length : Int))) rfl c32_ ?_
  refine .sub (.bool 23 (b := decide (v14 < (l5.length : Int))) rfl c32_) ?_
  refine .st (mk 42 [] (L1 a0 l5.length v14 ++ [(23, .b false)]) (H14 l13 l6)) ?_
  refine .exit ?_
  cases h
  refine thenQ_pass (by simp) ?_
  refine PostI.out (by simp) ?_
  rintro rfl
  refine blockQ.hit ?_
  refine PostN.next ?_
  exact Sub.tt
 rintro l31 h
 refine thenQ_normal ?_
 replace h := bsome h; obtain ⟨x40, hx40, h⟩ := h
 obtain ⟨hx40, hx40b, hx40c⟩ := idx_someN (n := 0) hx40
 have hx40d : (0 : Int) < (l31.length : Int) := by omega
 refine .sub (.open 5320 0 [9041, 9042] (e := cS61 x40) rfl rfl (by simp [hx40]) rfl (by simp) rfl) ?_
 refine .st (mk 42 [] [(0, .i a0), (4, .ptr 16 0 0)] [(16, some (.box [.ref 5320 0 l31.length, .ref 5321 0 l6.length, .ref 5322 0 (([] : List S73).length)])), (5320, some (.nest 61 4 [none, none, some (64, 2), some (3, 1)] (l31.map cS61) [(0, [.i x40.term, .i x40.commit, .ref 9041 0 x40.log.length, .ref 9042 0 x40.match_.length])])), (5321, R3 l6), (5322, R73 ([] : List S73)), (9041, R64 x40.log), (9042, R3 x40.match_)]) ?_
 replace h := bsome h; obtain ⟨l43, gl43, h⟩ := h
 obtain ⟨hl43a, hl43b, hl43c, hl43d⟩ := mkL_some (cI .i64) gl43
 clear gl43
 replace hl43c : List.replicate l43.length [.lit (.int .i64 0)] = l43.map (cI .i64) := hl43c
 refine .seqAnyS [[], [0], [0, 1], [0, 1, 2], [], [4], [0, 1, 2, 3, 4, 5], [0, 1, 2, 3, 4, 5, 6], [0, 1, 2, 3, 4, 5, 6, 7]] (fun (b : Nat → Bool) => mk 42 [] [(0, .i a0), (4, .ptr 16 0 0), (33, (if b 0 then .ptr 16 0 0 else .junk)), (34, (if b 1 then .ptr 16 0 0 else .junk)), (35, (if b 2 then .ptr 16 0 0 else .junk)), (36, (if b 3 then .ref 5320 0 l31.length else .junk)), (37, (if b 4 then .i a0 else .junk)), (38, (if b 5 then .ref 38 0 l43.length else .junk)), (39, (if b 6 then .ptr 5320 0 0 else .junk)), (40, (if b 7 then .ptr 5320 0 3 else .junk))] [(16, some (.box [.ref 5320 0 l31.length, .ref 5321 0 l6.length, .ref 5322 0 (([] : List S73).length)])), (38, (if b 5 then R3 l43 else none)), (5320, (if b 8 then some (.nest 61 4 [none, none, some (64, 2), some (3, 1)] (l31.map cS61) [(0, [.i x40.term, .i x40.commit, .ref 9041 0 x40.log.length, .ref 38 0 l43.length])]) else some (.nest 61 4 [none, none, some (64, 2), some (3, 1)] (l31.map cS61) [(0, [.i x40.term, .i x40.commit, .ref 9041 0 x40.log.length, .ref 9042 0 x40.match_.length])]))), (5321, R3 l6), (5322, R73 ([] : List S73)), (9041, R64 x40.log), (9042, R3 x40.match_)]) (mk 42 [] [(4, .ptr 16 0 0)] [(16, some (.box [.ref 5320 0 l31.length, .ref 5321 0 l6.length, .ref 5322 0 (([] : List S73).length)])), (38, R3 l43), (5320, some (.nest 61 4 [none, none, some (64, 2), some (3, 1)] (l31.map cS61) [(0, [.i x40.term, .i x40.commit, .ref 9041 0 x40.log.length, .ref 38 0 l43.length])])), (5321, R3 l6), (5322, R73 ([] : List S73)), (9041, R64 x40.log)]) (by kernel_rfl) (by kernel_rfl) Sub.tt (Steps.cons ?_ (Steps.cons ?_ (Steps.cons ?_ (Steps.cons ?_ (Steps.cons ?_ (Steps.cons ?_ (Steps.cons ?_ (Steps.cons ?_ (Steps.cons ?_ (Steps.nil)))))))))) ?_ ?_
 iterate 5
  ·intro b h0 ha hd
   have T := fct h0 ha hd; simp at T
   refine .runK [] 1 fun K k => ?_; simp [T]; refine k _ _ ?_; clear k K
   exact .nil (.table (by simp [T]) (by simp [T]))
 ·intro b h0 ha hd
  have T := fct h0 ha hd; simp at T
  refine .runK [] 1 fun K k => ?_; simp [T, hl43a, hl43b, hl43c, hl43d]; refine k _ _ ?_; clear k K
  exact .nil (.table (by simp [T]) (by simp [T]))
 ·intro b h0 ha hd
  have T := fct h0 ha hd; simp at T
  refine .runK [] 1 fun K k => ?_; simp [T, hx40b]; refine k _ _ ?_; clear k K
  exact .nil (.table (by simp [T]) (by simp [T]))
 iterate 2
  ·intro b h0 ha hd
   have T := fct h0 ha hd; simp at T
   refine .runK [] 1 fun K k => ?_; simp [T]; refine k _ _ ?_; clear k K
   exact .nil (.table (by simp [T]) (by simp [T]))
 ·intro b hb
  have t0 := hb 0 (by decide)
  have t1 := hb 1 (by decide)
  have t2 := hb 2 (by decide)
  have t3 := hb 3 (by decide)
  have t4 := hb 4 (by decide)
  have t5 := hb 5 (by decide)
  have t6 := hb 6 (by decide)
  have t7 := hb 7 (by decide)
  have t8 := hb 8 (by decide)
  exact Sub.table (by simp [t0, t1, t2, t3, t4, t5, t6, t7]) (by simp [t5, t8])
 skip
 replace h := lsome h; obtain ⟨l44, gl44, h⟩ := h
 obtain ⟨hl44, hl44n⟩ := setI_some cS61 gl44 (rfl : (0 : Int).toNat = 0)
 replace hl44 : (l31.map cS61).set 0 [.lit (.int .i64 x40.term), .lit (.int .i64 x40.commit), .sl (x40.log.map cS64), .sl (l43.map (cI .i64))] = l44.map cS61 := hl44
 clear gl44
 refine .sub (show Go.Ab.Sub _ (mk 42 [] [(4, .ptr 16 0 0)] (H14 l44 l6)) from (Sub.trans (Sub.close 5320 0 (e := [.lit (.int .i64 x40.term), .lit (.int .i64 x40.commit), .sl (x40.log.map cS64), .sl (l43.map (cI .i64))]) (cs := [.i x40.term, .i x40.commit, .ref 9041 0 x40.log.length, .ref 38 0 l43.length]) (ks := [9041, 38]) rfl rfl (by simp) (by decide) rfl) (by simp [hl44]; exact Sub.table (by simp) (by simp [hl44n])))) ?_
 refine .seqR ?_
 refine .runK [] 3 fun K k => ?_; simp; refine k _ _ ?_; clear k K
 refine .tt [(2, .ptr 16 0 0), (3, .i 0)] (H14 l44 l6) ?_
 refine .nil ?_
 refine .sub (S' := mk 42 [] [(2, .ptr 1000 0 0), (3, .i 0)] [(1000, some (.box [.ref 25000 0 l44.length, .ref 25001 0 l6.length, .ref 25002 0 (([] : List S73).length)])), (25000, some (.nest 61 4 [none, none, some (64, 2), some (3, 1)] (l44.map cS61) [])), (25001, R3 l6), (25002, R73 ([] : List S73))]) (Sub.names [(16, 1000), (5320, 25000), (5321, 25001), (5322, 25002)] (by simp) (by simp) (by simp [back]) (by simp [V.rnm, lk2]) (by simp [back, Blk.rnm, V.rnm, rnmL, lk2])) ?_
 refine .ret ?_
 cases h
 exact FinF.ret (by simp) (by simp)
/-- (*stemma/replication.Cluster).valid -/
def d23 (_N : Nat) (a0 : S59) (a1 : Int) : Option Bool :=
 Option.bind (α := Bool) (
  if a1 ≥ 0 then (
   some (decide (a1 < (a0.servers.length : Int)))
  ) else
  some false
 ) fun (v2 : Bool) =>
 some v2
set_option maxRecDepth 100000 in
set_option maxHeartbeats 4000000 in
theorem p23 (N : Nat) (a0 : S59) (a1 : Int) (r : Bool) (h : d23 N a0 a1 = some r) : FunC Try.prog 23 [.d (.pim [.sl (a0.servers.map cS61), .sl (a0.leaders.map (cI .i64)), .sl (a0.network.map cS73)]), .i a1] (.b r) := by
 unfold d23 at h
 refine FunC.enter 16 [(0, .d (.pim [.sl (a0.servers.map cS61), .sl (a0.leaders.map (cI .i64)), .sl (a0.network.map cS73)])), (1, .i a1)] (by simp) Try.func23 rfl (of_decide_eq_true rfl) rfl rfl ?_
 refine .seqR ?_
 refine .runK [] 1 fun K k => ?_; simp; refine k _ _ ?_; clear k K
 refine .tt (L2 a0.servers a0.leaders a0.network a1) [] ?_
 refine .nil ?_
 replace h := bsome h; obtain ⟨v2, hj, h⟩ := h
 refine .cutR (mk 16 [] [(4, .b v2)] []) ?_ ?_
 ·clear h; have h := hj; clear hj
  refine .runK [] 3 fun K k => ?_; simp; refine k _ _ ?_; clear k K
  refine .tt (L2 a0.servers a0.leaders a0.network a1 ++ [(7, .b (decide (a1 ≥ 0)))]) [] ?_
  replace h := isome h; rcases h with ⟨c3, h⟩ | ⟨c3, h⟩
  ·have c3_ : decide (a1 ≥ 0) = true := decide_eq_true c3
   refine .sub (.bool 7 (b := decide (a1 ≥ 0)) rfl c3_) ?_
   refine .st (mk 16 [] (L2 a0.servers a0.leaders a0.network a1 ++ [(7, .b true)]) []) ?_
   refine .runK [] 9 fun K k => ?_; simp; refine k _ _ ?_; clear k K
   refine .tt [(4, .b (decide (a1 < (a0.servers.length : Int))))] [] ?_
   cases h
   exact .nil .tt
  have c3_ : decide (a1 ≥ 0) = false := decide_eq_false c3
  refine .sub (.bool 7 (b := decide (a1 ≥ 0)) rfl c3_) ?_
  refine .st (mk 16 [] (L2 a0.servers a0.leaders a0.network a1 ++ [(7, .b false)]) []) ?_
  refine .runK [] 9 fun K k => ?_; simp; refine k _ _ ?_; clear k K
  refine .tt [(4, .b false)] [] ?_
  cases h
  exact .nil .tt
 clear hj
 refine .ret ?_
 cases h
 exact FinC.ret (by simp) (by simp)
/-- (*stemma/replication.Cluster).isLeader -/
def d24 (_N : Nat) (a0 : S59) (a1 : Int) : Option Bool :=
 (idx a0.servers a1).bind fun x1 =>
 (idx a0.leaders x1.term).bind fun x3 =>
 some (x3 == a1)
set_option maxRecDepth 100000 in
set_option maxHeartbeats 4000000 in
theorem p24 (N : Nat) (a0 : S59) (a1 : Int) (r : Bool) (h : d24 N a0 a1 = some r) : FunC Try.prog 24 [.d (.pim [.sl (a0.servers.map cS61), .sl (a0.leaders.map (cI .i64)), .sl (a0.network.map cS73)]), .i a1] (.b r) := by
 unfold d24 at h
 refine FunC.enter 21 [(0, .d (.pim [.sl (a0.servers.map cS61), .sl (a0.leaders.map (cI .i64)), .sl (a0.network.map cS73)])), (1, .i a1)] (by simp) Try.func24 rfl (of_decide_eq_true rfl) rfl rfl ?_
 refine .seqR ?_
 refine .runK [] 1 fun K k => ?_; simp; refine k _ _ ?_; clear k K
 refine .tt (L2 a0.servers a0.leaders a0.network a1) [] ?_
 refine .nil ?_
 refine .seqQ (by kernel_rfl) (by kernel_rfl) ?_
 replace h := bsome h; obtain ⟨x1, hx1, h⟩ := h
 obtain ⟨k2, hx1k, hx1, hx1a, hx1b⟩ := idx_some hx1
 replace h := bsome h; obtain ⟨x3, hx3, h⟩ := h
 obtain ⟨k4, hx3k, hx3, hx3a, hx3b⟩ := idx_some hx3
 refine .runQ 17 fun K k => ?_; simp [hx1, hx1k, hx1a, hx3, hx3k, hx3a]; refine k _ _ ?_; clear k K
 refine .tt [(4, .b (x3 == a1))] [] ?_
 refine .nil ?_
 refine .ret ?_
 cases h
 exact FinC.ret (by simp) (by simp)
/-- slices.Clone[[]int,int] -/
def d40 (_ : Nat) (a0 : (List Int)) : Option (List Int) := if a0.length * 8 ≤ Rp.reach then some a0 else none
theorem p40 (N : Nat) (a0 : (List Int)) (r : (List Int)) (h : d40 N a0 = some r) : FunO Try.prog 40 [.d (.sl (a0.map (cI .i64)))] (.ref 0 0 r.length) (.arr 3 1 (r.map (cI .i64))) := by
 obtain ⟨hz, h⟩ := gsome h
 cases h
 refine FunO.enter 8 [(0, .d (.sl (a0.map (cI .i64))))] Try.func40 rfl (of_decide_eq_true rfl) rfl rfl ?_
 refine .goR [] 1 fun K k => ?_; simp; refine k _ ?_; clear k K
 refine .seq ?_
 refine .seqR ?_
 refine .runK [] 1 fun K k => ?_; simp; refine k _ _ ?_; clear k K
 refine .eqNilE (es := a0.map (cI .i64)) (by simp) rfl ty34 rfl (by simp) (by simp) fun b hb => ?_
 refine .nil ?_
 cases b with
 | true =>
  have he : a0 = [] := by
   cases a0 with
   | nil => rfl
   | cons x xs => exact absurd (hb (by simp)) (by simp)
  subst he
  refine .condK fun K1 K2 k1 k2 => ?_; simp; refine k1 ?_; clear k1 k2 K1 K2
  refine .goR [] 1 fun K k => ?_; simp; refine k _ ?_; clear k K
  refine .sub (.nilOwn (t := 2) (id := 902) (T := 3) (n := 1) rfl rfl (by decide)) ?_
  refine .st (mk 8 [] [(2, .ref 902 0 0)] [(902, some (.arr 3 1 []))]) ?_
  refine .ret ?_
  exact thenQ_pass (by simp) (FinO.ret (.ref 902 0 0) 902 (by simp) (by simp) (by simp) (by simp) rfl)
 | false =>
  refine .condK fun K1 K2 k1 k2 => ?_; simp; refine k2 ?_; clear k1 k2 K1 K2
  refine .skip ?_
  refine thenQ_normal ?_
  refine .goR [] 4 fun K k => ?_; simp [hz]; refine k _ ?_; clear k K
  refine .tt [(2, .ref 5 0 a0.length)] [(5, R3 a0)] ?_
  refine .ret ?_
  exact FinO.ret (.ref 5 0 a0.length) 5 (by simp) (by simp) (by simp) (by simp) rfl

def d41 (_N : Nat) (a0 : List Int) : Option (List Int) :=
 if a0.length < 4611686018427387904 then some (a0.mergeSort fun x y => decide (x ≤ y)) else none
theorem l41 (N : Nat) (a0 r : List Int) (h : d41 N a0 = some r) : r.length = a0.length := by
 unfold d41 at h
 split at h
 ·injection h with h; subst h; simp
 cases h
theorem p41 (N : Nat) (a0 : List Int) (r : List Int) (h : d41 N a0 = some r) : FunM Try.prog 41 [.ref 1000 0 a0.length] [(1000, R3 a0)] [1000] (.tup []) [(1000, .arr 3 1 (r.map (cI .i64)))] :=
 sortInt_funM Try.lays189 a0 r h

end Go.Proofs.Ytifcmomjjkbboab
