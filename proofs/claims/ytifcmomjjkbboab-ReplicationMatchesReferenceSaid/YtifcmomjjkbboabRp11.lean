/- Functions of the program as functional programs; the code computes them. -/
import Derived.Test.YtifcmomjjkbboabRp10
namespace Go.Proofs.Ytifcmomjjkbboab
open Go.Ab Go.Rp
attribute [-simp] List.all_eq_true Array.all_toList Array.all_eq_true

/-- (*stemma/replication.Cluster).Drop -/
def d16 (N : Nat) (a0 : S59) (a1 : Int) : Option (S59 × Int) :=
 Option.bind (α := Bool) (
  if a1 < 0 then (
   some true
  ) else
  some (decide (a1 ≥ (a0.network.length : Int)))
 ) fun (v2 : Bool) =>
 if v2 = true then (
  some (a0, 4)
 ) else
 (d29 N a0.network).bind fun r5 =>
 (chkI (a1 + 1)).bind fun v6 =>
 (d28 N r5 a1 v6).bind fun l7 =>
 some ((S59.mk a0.servers a0.leaders l7), 0)
set_option maxRecDepth 100000 in
set_option maxHeartbeats 4000000 in
theorem p16 (N : Nat) (a0 : S59) (a1 : Int) (r : (S59 × Int)) (h : d16 N a0 a1 = some r) : FunM Try.prog 16 [.ptr 1000 0 0, .i a1] [(1000, some (.box [.ref 25000 0 a0.servers.length, .ref 25001 0 a0.leaders.length, .ref 25002 0 a0.network.length])), (25000, some (.nest 61 4 [none, none, some (64, 2), some (3, 1)] (a0.servers.map cS61) [])), (25001, R3 a0.leaders), (25002, R73 a0.network)] [1000] (.i r.2) ([(1000, (.box [.ref 25000 0 r.1.servers.length, .ref 25001 0 r.1.leaders.length, .ref 25002 0 r.1.network.length])), (25000, (.nest 61 4 [none, none, some (64, 2), some (3, 1)] (r.1.servers.map cS61) [])), (25001, (.arr 3 1 (r.1.leaders.map (cI .i64)))), (25002, (.arr 73 8 (r.1.network.map cS73)))]) := by
 unfold d16 at h
 refine FunM.enter 28 [(0, .ptr 1000 0 0), (1, .i a1)] Try.func16 rfl (of_decide_eq_true rfl) rfl rfl ?_
 refine .seqR ?_
 refine .runK [] 1 fun K k => ?_; simp; refine k _ _ ?_; clear k K
 refine .tt [(0, .ptr 1000 0 0), (1, .i a1)] (H1 a0) ?_
 refine .nil ?_
 refine .seq ?_
 replace h := bsome h; obtain ⟨v2, hj, h⟩ := h
 refine .cutR (mk 28 [1000] [(0, .ptr 1000 0 0), (1, .i a1), (15, .b v2)] (H1 a0)) ?_ ?_
 ·clear h; have h := hj; clear hj
  refine .runK [] 3 fun K k => ?_; simp; refine k _ _ ?_; clear k K
  refine .tt [(0, .ptr 1000 0 0), (1, .i a1), (7, .b (decide (a1 < 0)))] (H1 a0) ?_
  replace h := isome h; rcases h with ⟨c3, h⟩ | ⟨c3, h⟩
  ·have c3_ : decide (a1 < 0) = true := decide_eq_true c3
   refine .sub (.bool 7 (b := decide (a1 < 0)) rfl c3_) ?_
   refine .st (mk 28 [1000] [(0, .ptr 1000 0 0), (1, .i a1), (7, .b true)] (H1 a0)) ?_
   refine .runK [] 8 fun K k => ?_; simp; refine k _ _ ?_; clear k K
   refine .tt [(0, .ptr 1000 0 0), (1, .i a1), (15, .b true)] (H1 a0) ?_
   cases h
   exact .nil .tt
  have c3_ : decide (a1 < 0) = false := decide_eq_false c3
  refine .sub (.bool 7 (b := decide (a1 < 0)) rfl c3_) ?_
  refine .st (mk 28 [1000] [(0, .ptr 1000 0 0), (1, .i a1), (7, .b false)] (H1 a0)) ?_
  refine .runK [] 8 fun K k => ?_; simp; refine k _ _ ?_; clear k K
  refine .tt [(0, .ptr 1000 0 0), (1, .i a1), (15, .b (decide (a1 ≥ (a0.network.length : Int))))] (H1 a0) ?_
  cases h
  exact .nil .tt
 clear hj
 replace h := isome h; rcases h with ⟨c4, h⟩ | ⟨c4, h⟩
 ·have c4_ : v2 = true := c4
  refine .condT (b := v2) rfl c4_ ?_
  refine .sub (.bool 15 (b := v2) rfl c4_) ?_
  refine .st (mk 28 [1000] [(0, .ptr 1000 0 0), (1, .i a1), (15, .b true)] (H1 a0)) ?_
  refine .seqR ?_
  refine .runK [] 1 fun K k => ?_; simp; refine k _ _ ?_; clear k K
  refine .tt [(4, .i 4)] (H1 a0) ?_
  refine .nil ?_
  refine .ret ?_
  cases h
  refine thenQ_pass (by simp) ?_
  exact FinF.ret (by simp) (by simp)
 have c4_ : v2 = false := Bool.eq_false_iff.2 c4
 refine .condF (b := v2) rfl c4_ ?_
 refine .sub (.bool 15 (b := v2) rfl c4_) ?_
 refine .st (mk 28 [1000] [(0, .ptr 1000 0 0), (1, .i a1), (15, .b false)] (H1 a0)) ?_
 refine .skip ?_
 refine thenQ_normal ?_
 refine .seqR ?_
 refine .runK [] 5 fun K k => ?_; simp; refine k _ _ ?_; clear k K
 refine .tt [(1, .i a1), (16, .ptr 1000 0 0), (20, .ref 25002 0 a0.network.length)] (H1 a0) ?_
 replace h := bsome h; obtain ⟨r5, hr5, h⟩ := h
 refine .callF (pl29 N a0.network r5 hr5) [(25002, 1000)] [25002] [(1000, 25002), (5, 21)] [(21, .arr 73 8 (r5.map cS73)), (25002, .arr 73 8 (a0.network.map cS73))] (.ref 21 0 r5.length) (by simp) rfl (by simp <;> rfl) (by simp) (by simp) (by simp) (by simp) (by simp) ent29 (by simp) (by simp) (by simp) (by simp) (by simp) (by simp) ?_
 refine .st (mk 28 [1000] [(1, .i a1), (16, .ptr 1000 0 0), (20, .ref 25002 0 a0.network.length), (21, .ref 21 0 r5.length)] (H32 r5 a0)) ?_
 replace h := bsome h; obtain ⟨v6, hv6, h⟩ := h
 have hv6 := chkI_some hv6
 refine .runK [] 3 fun K k => ?_; simp [hv6]; refine k _ _ ?_; clear k K
 refine .tt [(16, .ptr 1000 0 0), (21, .ref 21 0 r5.length), (22, .i a1), (24, .i v6)] (H32 r5 a0) ?_
 replace h := bsome h; obtain ⟨l7, hl7, h⟩ := h
 refine .callF (p28 N r5 a1 v6 l7 hl7) [(21, 1000)] [] [(1000, 21)] [(21, .arr 73 8 (l7.map cS73))] (.ref 21 0 l7.length) (by simp) rfl (by simp <;> rfl) (by simp) (by simp) (by simp) (by simp) (by simp) ent28 (by simp) (by simp) (by simp) (by simp) (by simp) (by simp) ?_
 refine .st (mk 28 [1000] [(16, .ptr 1000 0 0), (22, .i a1), (24, .i v6), (25, .ref 21 0 l7.length)] (H32 l7 a0)) ?_
 refine .runK [] 3 fun K k => ?_; simp; refine k _ _ ?_; clear k K
 refine .tt [] [(21, R73 l7), (1000, some (.box [.ref 25000 0 a0.servers.length, .ref 25001 0 a0.leaders.length, .ref 21 0 l7.length])), (25000, some (.nest 61 4 [none, none, some (64, 2), some (3, 1)] (a0.servers.map cS61) [])), (25001, R3 a0.leaders)] ?_
 refine .sub (S' := mk 28 [1000] [] (H24 a0 l7)) (Sub.names [(21, 25002), (1000, 1000), (25000, 25000), (25001, 25001)] (by simp) (by simp) (by simp [back]) (by simp [V.rnm]) (by simp [back, Blk.rnm, V.rnm, rnmL, lk2])) ?_
 refine .nil ?_
 refine .seqR ?_
 refine .runK [] 1 fun K k => ?_; simp; refine k _ _ ?_; clear k K
 refine .tt [(4, .i 0)] (H24 a0 l7) ?_
 refine .nil ?_
 refine .ret ?_
 cases h
 exact FinF.ret (by simp) (by simp)
/-- slices.Grow[[]stemma/stemref5.Message,stemma/stemref5.Message], of nil -/
theorem p31 (_ : Nat) (a1 : Int) {u : Unit} (h : growL 80 a1 = some u) : FunO Try.prog 31 [.d (.lit (.slice none 0 0)), .d (.lit (.int .i64 a1))] (.ref 0 0 ([] : (List S73)).length) (.arr 47 8 (([] : (List S73)).map cS73)) := by
 obtain ⟨k, rfl, hb⟩ := growL_some h
 refine FunO.enter 27 [(0, .d (.lit (.slice none 0 0))), (1, .i k)] Try.func31 rfl (of_decide_eq_true rfl) rfl rfl ?_
 refine .goR [] 1 fun K hK => ?_; simp; refine hK _ ?_; clear hK K
 refine .seq ?_
 refine .goR [] 2 fun K hK => ?_; simp; refine hK _ ?_; clear hK K
 have hkn : ¬ ((k : Int) < 0) := by omega
 refine .condK fun K1 K2 k1 k2 => ?_; simp [hkn]; refine k2 ?_; clear k1 k2 K1 K2
 refine .skip ?_
 refine thenQ_normal ?_
 refine .seq ?_
 refine .seqR ?_
 refine .runK [] 2 fun K hK => ?_; simp; refine hK _ _ ?_; clear hK K
 refine .pureP (by simp) (pure_capNil rfl rfl rfl ty42 rfl rfl) ?_
 have hw0 : IntKind.i64.wrap 0 = 0 := rfl
 have hw : IntKind.i64.wrap (k : Int) = k := wrap_ok ⟨by omega, by unfold Rp.reach at hb; omega⟩
 refine .runK [] 5 fun K hK => ?_; simp [hw, hw0]; refine hK _ _ ?_; clear hK K
 refine .nil ?_
 refine .goR [] 2 fun K hK => ?_; simp; refine hK _ ?_; clear hK K
 rcases Nat.eq_zero_or_pos k with hk | hk
 ·subst hk
  refine .condK fun K1 K2 k1 k2 => ?_; simp; refine k2 ?_; clear k1 k2 K1 K2
  refine .skip ?_
  refine thenQ_normal ?_
  refine .goR [] 2 fun K hK => ?_; simp; refine hK _ ?_; clear hK K
  refine .sub (.nilOwn (t := 4) (id := 900) (T := 47) (n := 8) rfl rfl (by decide)) ?_
  refine .st (mk 27 [] [(4, .ref 900 0 0)] [(900, some (.arr 47 8 []))]) ?_
  refine .ret ?_
  exact FinO.ret (.ref 900 0 0) 900 (by simp) (by simp) (by simp) (by simp) rfl
 have hk0 : ¬ k = 0 := by omega
 refine .condK fun K1 K2 k1 k2 => ?_; simp [hk]; refine k1 ?_; clear k1 k2 K1 K2
 refine .region ?_
 refine .runK [] 2 fun K hK => ?_; simp; refine hK _ _ ?_; clear hK K
 refine .pureP (by simp) (pure_capNil rfl rfl rfl ty42 rfl rfl) ?_
 refine .pureP (by simp) (pure_sliceNil ty42 rfl ty47 rfl rfl) ?_
 refine .runK [] 1 fun K hK => ?_; simp; refine hK _ _ ?_; clear hK K
 refine Chain.appMk (d := 22) (n := k) (te := ⟨_, 8, 80, _⟩) (by simp) rfl rfl rfl rfl ty42 rfl ty3 rfl ty47 rfl (by simp) rfl rfl hk (by decide) (by decide) rfl rfl hb ?_
 simp
 refine .tt [(0, .d (.lit (.slice none 0 0))), (22, .ref 22 0 k)] [(22, some (.arr 47 8 (List.replicate k [.lit (.int .i64 0), .lit (.int .i64 0), .lit (.int .i64 0), .lit (.int .i64 0), .lit (.int .i64 0), .lit (.int .i64 0), .lit (.int .i64 0), .lit (.slice none 0 0)])))] ?_
 refine .runK [] 4 fun K hK => ?_; simp; refine hK _ _ ?_; clear hK K
 refine .nil ?_
 refine thenQ_normal ?_
 refine .goR [] 2 fun K hK => ?_; simp; refine hK _ ?_; clear hK K
 refine .sub (.cut 22 0 rfl) ?_
 refine .st (mk 27 [] [(4, .ref 22 0 0)] [(22, some (.arr 47 8 []))]) ?_
 refine .ret ?_
 exact FinO.ret (.ref 22 0 0) 22 (by simp) (by simp) (by simp) (by simp) rfl
/-- slices.Concat[[]stemma/stemref5.Message,stemma/stemref5.Message] -/
def d17 (N : Nat) (a0 : (List (List S73))) : Option (List S73) :=
 Option.bind (α := Int) (
  iterN (σ := (Int × Int)) (ρ := Int) (fun ((v6, v7) : (Int × Int)) =>
   if v7 < (a0.length : Int) then (
    (idx a0 v7).bind fun x24 =>
    (chkI (v6 + (x24.length : Int))).bind fun v26 =>
    if v26 < 0 then (
     none
    ) else
    (chkI (v7 + 1)).bind fun v28 =>
    some (.inl (v26, v28))
   ) else
   some (.inr v6)
  ) N (0, 0)
 ) fun (v22 : Int) =>
 (growL 80 v22).bind fun _ =>
 Option.bind (α := List S73) (
  iterN (σ := ((List S73) × Int)) (ρ := List S73) (fun ((l34, v35) : ((List S73) × Int)) =>
   if v35 < (a0.length : Int) then (
    (idx a0 v35).bind fun x50 =>
    (appL 80 l34 x50).bind fun _l52 =>
    (chkI (v35 + 1)).bind fun v53 =>
    some (.inl ((l34 ++ x50), v53))
   ) else
   some (.inr l34)
  ) N (([] : List S73), 0)
 ) fun (l48 : List S73) =>
 some l48
set_option maxRecDepth 100000 in
set_option maxHeartbeats 4000000 in
theorem p17 (N : Nat) (a0 : (List (List S73))) (r : (List S73)) (h : d17 N a0 = some r) : FunO Try.prog 17 [.d (.sl (a0.map (cL cS73)))] (.ref 0 0 r.length) (.arr 47 8 (r.map cS73)) := by
 unfold d17 at h
 refine FunO.enter 36 [(0, .d (.sl (a0.map (cL cS73))))] Try.func17 rfl (of_decide_eq_true rfl) rfl rfl ?_
 refine .seqR ?_
 refine .runK [] 1 fun K k => ?_; simp; refine k _ _ ?_; clear k K
 refine .tt [(0, .d (.sl (a0.map (cL cS73))))] [] ?_
 refine .nil ?_
 refine .seqR ?_
 refine .runK [] 1 fun K k => ?_; simp; refine k _ _ ?_; clear k K
 refine .tt [(0, .d (.sl (a0.map (cL cS73)))), (3, .i 0)] [] ?_
 refine .nil ?_
 refine .seq ?_
 refine .seqR ?_
 refine .runK [] 3 fun K k => ?_; simp; refine k _ _ ?_; clear k K
 refine .tt [(0, .d (.sl (a0.map (cL cS73)))), (3, .i 0), (9, .d (.sl (a0.map (cL cS73)))), (10, .i (a0.length : Int)), (11, .i 0)] [] ?_
 refine .nil ?_
 refine .lastN (fun (v22 : Int) => mk 36 [] [(0, .d (.sl (a0.map (cL cS73)))), (3, .i v22)] []) h ?_ ?_ <;> clear h
 ·intro o h
  refine .block ?_
  refine .iter (fun ((v6, v7) : (Int × Int)) => mk 36 [] (L22 a0 v6 a0.length v7) []) h Sub.tt ?_
  clear h
  rintro ⟨v6, v7⟩ x h
  dsimp only at h ⊢
  refine .seqR ?_
  refine .runK [] 1 fun K k => ?_; simp; refine k _ _ ?_; clear k K
  refine .tt (L22 a0 v6 a0.length v7 ++ [(12, .b (decide (v7 < (a0.length : Int))))]) [] ?_
  refine .nil ?_
  refine .seq ?_
  replace h := isome h; rcases h with ⟨c23, h⟩ | ⟨c23, h⟩
  ·have c23_ : decide (v7 < (a0.length : Int)) = true := decide_eq_true c23
   refine .condT (b := decide (v7 < (a0.length : Int))) rfl c23_ ?_
   refine .sub (.bool 12 (b := decide (v7 < (a0.length : Int))) rfl c23_) ?_
   refine .st (mk 36 [] (L22 a0 v6 a0.length v7 ++ [(12, .b true)]) []) ?_
   refine .skip ?_
   refine thenQ_normal ?_
   refine .seq ?_
   refine .block ?_
   refine .seqR ?_
   replace h := bsome h; obtain ⟨x24, hx24, h⟩ := h
   obtain ⟨k25, hx24k, hx24, hx24a, hx24b⟩ := idx_some hx24
   refine .runK [] 3 fun K k => ?_; simp [hx24, hx24k, hx24a]; refine k _ _ ?_; clear k K
   refine .tt [(0, .d (.sl (a0.map (cL cS73)))), (3, .i v6), (5, .d (.sl (x24.map cS73))), (9, .d (.sl (a0.map (cL cS73)))), (10, .i (a0.length : Int)), (11, .i v7)] [] ?_
   refine .nil ?_
   refine .seqR ?_
   replace h := bsome h; obtain ⟨v26, hv26, h⟩ := h
   have hv26 := chkI_some hv26
   refine .runK [] 5 fun K k => ?_; simp [hv26]; refine k _ _ ?_; clear k K
   refine .tt (L22 a0 v26 a0.length v7) [] ?_
   refine .nil ?_
   refine .seqR ?_
   refine .runK [] 2 fun K k => ?_; simp; refine k _ _ ?_; clear k K
   refine .tt (L22 a0 v26 a0.length v7 ++ [(20, .b (decide (v26 < 0)))]) [] ?_
   refine .nil ?_
   replace h := isome h; rcases h with ⟨c27, h⟩ | ⟨c27, h⟩
   ·have c27_ : decide (v26 < 0) = true := decide_eq_true c27
    refine .condT (b := decide (v26 < 0)) rfl c27_ ?_
    refine .sub (.bool 20 (b := decide (v26 < 0)) rfl c27_) ?_
    refine .st (mk 36 [] (L22 a0 v26 a0.length v7 ++ [(20, .b true)]) []) ?_
    cases h
   have c27_ : decide (v26 < 0) = false := decide_eq_false c27
   refine .condF (b := decide (v26 < 0)) rfl c27_ ?_
   refine .sub (.bool 20 (b := decide (v26 < 0)) rfl c27_) ?_
   refine .st (mk 36 [] (L22 a0 v26 a0.length v7 ++ [(20, .b false)]) []) ?_
   refine .skip ?_
   refine blockQ.normal ?_
   refine thenQ_normal ?_
   refine .region ?_
   replace h := bsome h; obtain ⟨v28, hv28, h⟩ := h
   have hv28 := chkI_some hv28
   refine .runK [] 2 fun K k => ?_; simp [hv28]; refine k _ _ ?_; clear k K
   refine .tt (L22 a0 v26 a0.length v28) [] ?_
   refine .nil ?_
   cases h
   refine PostI.next ?_
   exact Sub.tt
  have c23_ : decide (v7 < (a0.length : Int)) = false := decide_eq_false c23
  refine .condF (b := decide (v7 < (a0.length : Int))) rfl c23_ ?_
  refine .sub (.bool 12 (b := decide (v7 < (a0.length : Int))) rfl c23_) ?_
  refine .st (mk 36 [] (L22 a0 v6 a0.length v7 ++ [(12, .b false)]) []) ?_
  refine .exit ?_
  cases h
  refine thenQ_pass (by simp) ?_
  refine PostI.out (by simp) ?_
  rintro rfl
  refine blockQ.hit ?_
  refine PostN.next ?_
  exact Sub.tt
 rintro v22 h
 refine thenQ_normal ?_
 refine .seqR ?_
 refine .runK [] 1 fun K k => ?_; simp; refine k _ _ ?_; clear k K
 refine .tt [(0, .d (.sl (a0.map (cL cS73)))), (23, .i v22)] [] ?_
 replace h := bsome h; obtain ⟨g29, hg29, h⟩ := h
 refine .callO (d := 24) (p31 N v22 hg29) (by simp) rfl rfl (by simp <;> rfl) (by simp <;> rfl) ent31 (by simp) ⟨by simp, by simp⟩ ?_
 refine .st (mk 36 [] [(0, .d (.sl (a0.map (cL cS73)))), (23, .i v22), (24, .ref 24 0 (([] : List S73).length))] [(24, R47 ([] : List S73))]) ?_
 refine .runK [] 1 fun K k => ?_; simp; refine k _ _ ?_; clear k K
 refine .tt [(0, .d (.sl (a0.map (cL cS73)))), (6, .ref 24 0 (([] : List S73).length))] [(24, R47 ([] : List S73))] ?_
 refine .nil ?_
 refine .seq ?_
 refine .seqR ?_
 refine .runK [] 3 fun K k => ?_; simp; refine k _ _ ?_; clear k K
 refine .tt [(6, .ref 24 0 (([] : List S73).length)), (25, .d (.sl (a0.map (cL cS73)))), (26, .i (a0.length : Int)), (27, .i 0)] [(24, R47 ([] : List S73))] ?_
 refine .nil ?_
 refine .lastN (fun (l48 : List S73) => mk 36 [] [(6, .ref 24 0 l48.length)] [(24, R47 l48)]) h ?_ ?_ <;> clear h
 ·intro o h
  refine .block ?_
  refine .iter (fun ((l34, v35) : ((List S73) × Int)) => mk 36 [] (L23 l34.length a0 a0.length v35) [(24, R47 l34)]) h Sub.tt ?_
  clear h
  rintro ⟨l34, v35⟩ x h
  dsimp only at h ⊢
  refine .seqR ?_
  refine .runK [] 1 fun K k => ?_; simp; refine k _ _ ?_; clear k K
  refine .tt (L23 l34.length a0 a0.length v35 ++ [(28, .b (decide (v35 < (a0.length : Int))))]) [(24, R47 l34)] ?_
  refine .nil ?_
  refine .seq ?_
  replace h := isome h; rcases h with ⟨c49, h⟩ | ⟨c49, h⟩
  ·have c49_ : decide (v35 < (a0.length : Int)) = true := decide_eq_true c49
   refine .condT (b := decide (v35 < (a0.length : Int))) rfl c49_ ?_
   refine .sub (.bool 28 (b := decide (v35 < (a0.length : Int))) rfl c49_) ?_
   refine .st (mk 36 [] (L23 l34.length a0 a0.length v35 ++ [(28, .b true)]) [(24, R47 l34)]) ?_
   refine .skip ?_
   refine thenQ_normal ?_
   refine .seq ?_
   refine .block ?_
   refine .seqR ?_
   replace h := bsome h; obtain ⟨x50, hx50, h⟩ := h
   obtain ⟨k51, hx50k, hx50, hx50a, hx50b⟩ := idx_some hx50
   refine .runK [] 3 fun K k => ?_; simp [hx50, hx50k, hx50a]; refine k _ _ ?_; clear k K
   refine .tt [(6, .ref 24 0 l34.length), (8, .d (.sl (x50.map cS73))), (25, .d (.sl (a0.map (cL cS73)))), (26, .i (a0.length : Int)), (27, .i v35)] [(24, R47 l34)] ?_
   refine .nil ?_
   refine .region ?_
   replace h := bsome h; obtain ⟨l52, hl52, h⟩ := h
   obtain ⟨hl52a, hl52⟩ := appL_some hl52
   subst hl52
   try simp only [List.length_append, List.length_cons, List.length_nil, Nat.zero_add, Nat.mul_one] at hl52a
   refine .runK [] 4 fun K k => ?_; simp [hl52a]; refine k _ _ ?_; clear k K
   refine .tt [(6, .ref 24 0 ((l34 ++ x50).length)), (25, .d (.sl (a0.map (cL cS73)))), (26, .i (a0.length : Int)), (27, .i v35)] [(24, R47 (l34 ++ x50))] ?_
   refine .nil ?_
   refine blockQ.normal ?_
   refine thenQ_normal ?_
   refine .region ?_
   replace h := bsome h; obtain ⟨v53, hv53, h⟩ := h
   have hv53 := chkI_some hv53
   refine .runK [] 2 fun K k => ?_; simp [hv53]; refine k _ _ ?_; clear k K
   refine .tt [(6, .ref 24 0 ((l34 ++ x50).length)), (25, .d (.sl (a0.map (cL cS73)))), (26, .i (a0.length : Int)), (27, .i v53)] [(24, R47 (l34 ++ x50))] ?_
   refine .nil ?_
   cases h
   refine PostI.next ?_
   exact Sub.tt
  have c49_ : decide (v35 < (a0.length : Int)) = false := decide_eq_false c49
  refine .condF (b := decide (v35 < (a0.length : Int))) rfl c49_ ?_
  refine .sub (.bool 28 (b := decide (v35 < (a0.length : Int))) rfl c49_) ?_
  refine .st (mk 36 [] (L23 l34.length a0 a0.length v35 ++ [(28, .b false)]) [(24, R47 l34)]) ?_
  refine .exit ?_
  cases h
  refine thenQ_pass (by simp) ?_
  refine PostI.out (by simp) ?_
  rintro rfl
  refine blockQ.hit ?_
  refine PostN.next ?_
  exact Sub.tt
 rintro l48 h
 refine thenQ_normal ?_
 refine .seqR ?_
 refine .runK [] 2 fun K k => ?_; simp; refine k _ _ ?_; clear k K
 refine .tt [(2, .ref 24 0 l48.length)] [(24, R47 l48)] ?_
 refine .nil ?_
 refine .ret ?_
 obtain rfl := Option.some.inj h
 exact FinO.ret (.ref 24 0 l48.length) 24 (by simp) (by simp) (by simp) (by simp) rfl
end Go.Proofs.Ytifcmomjjkbboab
