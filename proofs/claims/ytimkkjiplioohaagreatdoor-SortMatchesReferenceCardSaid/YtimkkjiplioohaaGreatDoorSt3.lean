/- Functions of the program as functional programs; the code computes them. -/
import Derived.Test.YtimkkjiplioohaaGreatDoorSt2
namespace Go.Proofs.YtimkkjiplioohaaGreatDoor
open Go.Ab Go.Rp
attribute [-simp] List.all_eq_true Array.all_toList Array.all_eq_true

/-- stemma/extsort.Validate -/
def d31 (N : Nat) (a0 : (List (List S61))) (a1 : S65) (a2 : Int) : Option Int :=
 if (a0.length : Int) > 600 then (
  some 2
 ) else
 Option.bind (α := Bool) (
  if a2 < 2 then (
   some true
  ) else
  some (decide (a2 > 64))
 ) fun (v3 : Bool) =>
 if v3 = true then (
  some 1
 ) else
 if (a1.Descending.length : Int) > (a1.Columns.length : Int) then (
  some 3
 ) else
 bindO (β := Unit) (ρ := Int) (
  iterN (σ := Int) (ρ := (Out Unit Int)) (fun (v16 : Int) =>
   if v16 < (a1.Columns.length : Int) then (
    (idx a1.Columns v16).bind fun x39 =>
    Option.bind (α := Bool) (
     if x39 < 0 then (
      some true
     ) else
     (d56 N a0 (fun b0 => d73 N b0 x39)).bind fun r45 =>
     some r45
    ) fun (v43 : Bool) =>
    if v43 = true then (
     some (.inr (.ret 3))
    ) else
    (chkI (v16 + 1)).bind fun v47 =>
    some (.inl v47)
   ) else
   some (.inr (.go ()))
  ) N 0
 ) fun (_ : Unit) =>
 some 0
set_option maxRecDepth 100000 in
set_option maxHeartbeats 4000000 in
theorem p31 (N : Nat) (a0 : (List (List S61))) (a1 : S65) (a2 : Int) (r : Int) (h : d31 N a0 a1 a2 = some r) : FunC Tryz.prog 31 [.d (.sl (a0.map (cL cS61))), .agg [.d (.sl (a1.Columns.map (cI .i64))), .d (.sl (a1.Descending.map cB))], .i a2] (.i r) := by
 unfold d31 at h
 refine FunC.enter 40 [(0, .d (.sl (a0.map (cL cS61)))), (1, .agg [.d (.sl (a1.Columns.map (cI .i64))), .d (.sl (a1.Descending.map cB))]), (2, .i a2)] (by simp) Tryz.func31 rfl (of_decide_eq_true rfl) rfl rfl ?_
 refine .seqR ?_
 refine .runK [] 2 fun K k => ?_; simp; refine k _ _ ?_; clear k K
 refine .tt (L11 a0 a2) (H2 a1) ?_
 refine .nil ?_
 refine .seq ?_
 refine .seqR ?_
 refine .runK [] 3 fun K k => ?_; simp; refine k _ _ ?_; clear k K
 refine .tt (L11 a0 a2 ++ [(11, .b (decide ((a0.length : Int) > 600)))]) (H2 a1) ?_
 refine .nil ?_
 replace h := isome h; rcases h with ⟨c1, h⟩ | ⟨c1, h⟩
 ·have c1_ : decide ((a0.length : Int) > 600) = true := decide_eq_true c1
  refine .condT (b := decide ((a0.length : Int) > 600)) rfl c1_ ?_
  refine .sub (.bool 11 (b := decide ((a0.length : Int) > 600)) rfl c1_) ?_
  refine .st (mk 40 [] (L11 a0 a2 ++ [(11, .b true)]) (H2 a1)) ?_
  refine .seqR ?_
  refine .runK [] 1 fun K k => ?_; simp; refine k _ _ ?_; clear k K
  refine .tt [(6, .i 2)] [] ?_
  refine .nil ?_
  refine .ret ?_
  cases h
  refine thenQ_pass (by simp) ?_
  exact FinC.ret (by simp) (by simp)
 have c1_ : decide ((a0.length : Int) > 600) = false := decide_eq_false c1
 refine .condF (b := decide ((a0.length : Int) > 600)) rfl c1_ ?_
 refine .sub (.bool 11 (b := decide ((a0.length : Int) > 600)) rfl c1_) ?_
 refine .st (mk 40 [] (L11 a0 a2 ++ [(11, .b false)]) (H2 a1)) ?_
 refine .skip ?_
 refine thenQ_normal ?_
 refine .seq ?_
 replace h := bsome h; obtain ⟨v3, hj, h⟩ := h
 refine .cutR (mk 40 [] (L12 a0 ++ [(17, .b v3)]) (H2 a1)) ?_ ?_
 ·clear h; have h := hj; clear hj
  refine .runK [] 3 fun K k => ?_; simp; refine k _ _ ?_; clear k K
  refine .tt (L11 a0 a2 ++ [(14, .b (decide (a2 < 2)))]) (H2 a1) ?_
  replace h := isome h; rcases h with ⟨c4, h⟩ | ⟨c4, h⟩
  ·have c4_ : decide (a2 < 2) = true := decide_eq_true c4
   refine .sub (.bool 14 (b := decide (a2 < 2)) rfl c4_) ?_
   refine .st (mk 40 [] (L11 a0 a2 ++ [(14, .b true)]) (H2 a1)) ?_
   refine .runK [] 3 fun K k => ?_; simp; refine k _ _ ?_; clear k K
   refine .tt (L12 a0 ++ [(17, .b true)]) (H2 a1) ?_
   cases h
   exact .nil .tt
  have c4_ : decide (a2 < 2) = false := decide_eq_false c4
  refine .sub (.bool 14 (b := decide (a2 < 2)) rfl c4_) ?_
  refine .st (mk 40 [] (L11 a0 a2 ++ [(14, .b false)]) (H2 a1)) ?_
  refine .runK [] 3 fun K k => ?_; simp; refine k _ _ ?_; clear k K
  refine .tt (L12 a0 ++ [(17, .b (decide (a2 > 64)))]) (H2 a1) ?_
  cases h
  exact .nil .tt
 clear hj
 replace h := isome h; rcases h with ⟨c5, h⟩ | ⟨c5, h⟩
 ·have c5_ : v3 = true := c5
  refine .condT (b := v3) rfl c5_ ?_
  refine .sub (.bool 17 (b := v3) rfl c5_) ?_
  refine .st (mk 40 [] (L12 a0 ++ [(17, .b true)]) (H2 a1)) ?_
  refine .seqR ?_
  refine .runK [] 1 fun K k => ?_; simp; refine k _ _ ?_; clear k K
  refine .tt [(6, .i 1)] [] ?_
  refine .nil ?_
  refine .ret ?_
  cases h
  refine thenQ_pass (by simp) ?_
  exact FinC.ret (by simp) (by simp)
 have c5_ : v3 = false := Bool.eq_false_iff.2 c5
 refine .condF (b := v3) rfl c5_ ?_
 refine .sub (.bool 17 (b := v3) rfl c5_) ?_
 refine .st (mk 40 [] (L12 a0 ++ [(17, .b false)]) (H2 a1)) ?_
 refine .skip ?_
 refine thenQ_normal ?_
 refine .seq ?_
 refine .seqR ?_
 refine .runK [] 7 fun K k => ?_; simp; refine k _ _ ?_; clear k K
 refine .tt (L12 a0 ++ [(24, .b (decide ((a1.Descending.length : Int) > (a1.Columns.length : Int))))]) (H2 a1) ?_
 refine .nil ?_
 replace h := isome h; rcases h with ⟨c6, h⟩ | ⟨c6, h⟩
 ·have c6_ : decide ((a1.Descending.length : Int) > (a1.Columns.length : Int)) = true := decide_eq_true c6
  refine .condT (b := decide ((a1.Descending.length : Int) > (a1.Columns.length : Int))) rfl c6_ ?_
  refine .sub (.bool 24 (b := decide ((a1.Descending.length : Int) > (a1.Columns.length : Int))) rfl c6_) ?_
  refine .st (mk 40 [] (L12 a0 ++ [(24, .b true)]) (H2 a1)) ?_
  refine .seqR ?_
  refine .runK [] 1 fun K k => ?_; simp; refine k _ _ ?_; clear k K
  refine .tt [(6, .i 3)] [] ?_
  refine .nil ?_
  refine .ret ?_
  cases h
  refine thenQ_pass (by simp) ?_
  exact FinC.ret (by simp) (by simp)
 have c6_ : decide ((a1.Descending.length : Int) > (a1.Columns.length : Int)) = false := decide_eq_false c6
 refine .condF (b := decide ((a1.Descending.length : Int) > (a1.Columns.length : Int))) rfl c6_ ?_
 refine .sub (.bool 24 (b := decide ((a1.Descending.length : Int) > (a1.Columns.length : Int))) rfl c6_) ?_
 refine .st (mk 40 [] (L12 a0 ++ [(24, .b false)]) (H2 a1)) ?_
 refine .skip ?_
 refine thenQ_normal ?_
 refine .seq ?_
 refine .seqR ?_
 refine .runK [] 4 fun K k => ?_; simp; refine k _ _ ?_; clear k K
 refine .tt [(0, .d (.sl (a0.map (cL cS61)))), (26, .d (.sl (a1.Columns.map (cI .i64)))), (27, .i (a1.Columns.length : Int)), (28, .i 0)] [] ?_
 refine .nil ?_
 refine .lastJ (fun (_ : Unit) => mk 40 [] [] []) h ?_ ?_ <;> clear h
 ·intro o h
  refine .block ?_
  refine .iter (fun (v16 : Int) => mk 40 [] (L13 a0 a1.Columns a1.Columns.length v16) []) h Sub.tt ?_
  clear h
  rintro v16 x h
  refine .seqR ?_
  refine .runK [] 1 fun K k => ?_; simp; refine k _ _ ?_; clear k K
  refine .tt (L13 a0 a1.Columns a1.Columns.length v16 ++ [(29, .b (decide (v16 < (a1.Columns.length : Int))))]) [] ?_
  refine .nil ?_
  refine .seq ?_
  replace h := isome h; rcases h with ⟨c38, h⟩ | ⟨c38, h⟩
  ·have c38_ : decide (v16 < (a1.Columns.length : Int)) = true := decide_eq_true c38
   refine .condT (b := decide (v16 < (a1.Columns.length : Int))) rfl c38_ ?_
   refine .sub (.bool 29 (b := decide (v16 < (a1.Columns.length : Int))) rfl c38_) ?_
   refine .st (mk 40 [] (L13 a0 a1.Columns a1.Columns.length v16 ++ [(29, .b true)]) []) ?_
   refine .skip ?_
   refine thenQ_normal ?_
   refine .seq ?_
   refine .block ?_
   refine .seqR ?_
   replace h := bsome h; obtain ⟨x39, hx39, h⟩ := h
   obtain ⟨k40, hx39k, hx39, hx39a, hx39b⟩ := idx_some hx39
   refine .runK [] 4 fun K k => ?_; simp [hx39, hx39k, hx39a]; refine k _ _ ?_; clear k K
   refine .tt (L14 a0 a1.Columns a1.Columns.length v16) [(8, some (.box [.i x39]))] ?_
   refine .nil ?_
   replace h := bsome h; obtain ⟨v43, hj, h⟩ := h
   refine .cutR (mk 40 [] (L13 a0 a1.Columns a1.Columns.length v16 ++ [(38, .b v43)]) []) ?_ ?_
   ·clear h; have h := hj; clear hj
    refine .runK [] 3 fun K k => ?_; simp; refine k _ _ ?_; clear k K
    refine .tt (L14 a0 a1.Columns a1.Columns.length v16 ++ [(34, .b (decide (x39 < 0)))]) [(8, some (.box [.i x39]))] ?_
    replace h := isome h; rcases h with ⟨c44, h⟩ | ⟨c44, h⟩
    ·have c44_ : decide (x39 < 0) = true := decide_eq_true c44
     refine .sub (.bool 34 (b := decide (x39 < 0)) rfl c44_) ?_
     refine .st (mk 40 [] (L14 a0 a1.Columns a1.Columns.length v16 ++ [(34, .b true)]) [(8, some (.box [.i x39]))]) ?_
     refine .runK [] 4 fun K k => ?_; simp; refine k _ _ ?_; clear k K
     refine .tt (L13 a0 a1.Columns a1.Columns.length v16 ++ [(35, .tup []), (36, .tup []), (37, .tup []), (38, .b true)]) [] ?_
     cases h
     exact .nil .tt
    have c44_ : decide (x39 < 0) = false := decide_eq_false c44
    refine .sub (.bool 34 (b := decide (x39 < 0)) rfl c44_) ?_
    refine .st (mk 40 [] (L14 a0 a1.Columns a1.Columns.length v16 ++ [(34, .b false)]) [(8, some (.box [.i x39]))]) ?_
    refine .runK [] 2 fun K k => ?_; simp; refine k _ _ ?_; clear k K
    refine .tt (L13 a0 a1.Columns a1.Columns.length v16 ++ [(34, .b false), (35, .d (.sl (a0.map (cL cS61)))), (36, .fn (.func 73) [.ptr 8 0 0])]) [(8, some (.box [.i x39]))] ?_
    replace h := bsome h; obtain ⟨r45, hr45, h⟩ := h
    refine .callL (d := 37) (p56 N a0 73 [.pim [.lit (.int .i64 x39)]] (fun b0 => d73 N b0 x39) ent73 (fun b0 r h => p73 N b0 x39 r h) r45 hr45) (by simp) rfl rfl (by simp <;> rfl) (by simp <;> rfl) ent56 (by simp <;> rfl) ?_
    refine .st (mk 40 [] (L13 a0 a1.Columns a1.Columns.length v16 ++ [(34, .b false), (35, .d (.sl (a0.map (cL cS61)))), (36, .fn (.func 73) [.ptr 8 0 0]), (37, .b r45)]) [(8, some (.box [.i x39]))]) ?_
    refine .runK [] 1 fun K k => ?_; simp; refine k _ _ ?_; clear k K
    refine .tt (L13 a0 a1.Columns a1.Columns.length v16 ++ [(35, .d (.sl (a0.map (cL cS61)))), (36, .fn (.func 73) [.ptr 8 0 0]), (37, .b r45), (38, .b r45)]) [(8, some (.box [.i x39]))] ?_
    cases h
    exact .nil .tt
   clear hj
   replace h := isome h; rcases h with ⟨c46, h⟩ | ⟨c46, h⟩
   ·have c46_ : v43 = true := c46
    refine .condT (b := v43) rfl c46_ ?_
    refine .sub (.bool 38 (b := v43) rfl c46_) ?_
    refine .st (mk 40 [] (L13 a0 a1.Columns a1.Columns.length v16 ++ [(38, .b true)]) []) ?_
    refine .seqR ?_
    refine .runK [] 1 fun K k => ?_; simp; refine k _ _ ?_; clear k K
    refine .tt [(6, .i 3)] [] ?_
    refine .nil ?_
    refine .ret ?_
    cases h
    refine blockQ.ret ?_
    refine thenQ_pass (by simp) ?_
    refine PostI.out (by simp) ?_
    rintro rfl
    refine blockQ.ret ?_
    refine PostJ.out (by simp) ?_
    rintro rfl
    refine thenQ_pass (by simp) ?_
    exact FinC.ret (by simp) (by simp)
   have c46_ : v43 = false := Bool.eq_false_iff.2 c46
   refine .condF (b := v43) rfl c46_ ?_
   refine .sub (.bool 38 (b := v43) rfl c46_) ?_
   refine .st (mk 40 [] (L13 a0 a1.Columns a1.Columns.length v16 ++ [(38, .b false)]) []) ?_
   refine .skip ?_
   refine blockQ.normal ?_
   refine thenQ_normal ?_
   refine .region ?_
   replace h := bsome h; obtain ⟨v47, hv47, h⟩ := h
   have hv47 := chkI_some hv47
   refine .runK [] 2 fun K k => ?_; simp [hv47]; refine k _ _ ?_; clear k K
   refine .tt (L13 a0 a1.Columns a1.Columns.length v47) [] ?_
   refine .nil ?_
   cases h
   refine PostI.next ?_
   exact Sub.tt
  have c38_ : decide (v16 < (a1.Columns.length : Int)) = false := decide_eq_false c38
  refine .condF (b := decide (v16 < (a1.Columns.length : Int))) rfl c38_ ?_
  refine .sub (.bool 29 (b := decide (v16 < (a1.Columns.length : Int))) rfl c38_) ?_
  refine .st (mk 40 [] (L13 a0 a1.Columns a1.Columns.length v16 ++ [(29, .b false)]) []) ?_
  refine .exit ?_
  cases h
  refine thenQ_pass (by simp) ?_
  refine PostI.out (by simp) ?_
  rintro rfl
  refine blockQ.hit ?_
  refine PostJ.next ?_
  exact Sub.tt
 rintro ⟨⟩ h
 refine thenQ_normal ?_
 refine .seqR ?_
 refine .runK [] 1 fun K k => ?_; simp; refine k _ _ ?_; clear k K
 refine .tt [(6, .i 0)] [] ?_
 refine .nil ?_
 refine .ret ?_
 cases h
 exact FinC.ret (by simp) (by simp)
set_option maxRecDepth 100000 in
set_option maxHeartbeats 2000000 in
attribute [local go_sem] Oper.semAt_some in
open Go.RowKit Go.Shelf in
theorem cc132 : ChunkC Tryz.prog 132 1 := by
 intro pb po qb qo l N n J Jx W hN hn hn2 hdr hbase hY h0
 refine callsIn_of_wp Tryz.func132 rfl trivial ?_ rfl
 simp only [show Tryz.f132.ntmps = 31 from rfl, List.size_toArray, List.length_cons, List.length_nil, Nat.reduceAdd, Nat.reduceSub, Array.replicate_succ, Array.replicate_zero, List.push_toArray, List.append_toArray, List.nil_append, List.cons_append]
 gi_wp2
 gi_loopw [4] (fun i wr => ∃ k j : Nat, k * n = j ∧ i = .int .i64 (j : Int) ∧ j < N + n ∧ J k wr) (fun i _ => (N + n - intOf i).toNat)
 case atStart => exact ⟨0, 0, by simp, rfl, by omega, h0⟩
 case round =>
  obtain ⟨k, j, hj, rfl, hk, hJs⟩ := hrel
  obtain ⟨⟨A, cap, hb0⟩, hq0⟩ := hbase k wr hJs
  by_cases hlt : j < N
  ·gi_wp2
   have hjc : (j : Int) ≤ N := by omega
   have hj0 : ¬ (j : Int) < 0 := by omega
   obtain ⟨b, off, hA, hcj⟩ : ∃ b off, A = some ⟨b, off, none⟩ ∧ ¬ cap = j := by
    obtain ⟨_, ⟨b, off, cap', hc, hcap, _⟩, _⟩ := hY k wr (by omega) hJs
    rw [hb0] at hc
    injection hc with hc
    injection hc with hc _ hc2
    exact ⟨b, off, hc, by omega⟩
   subst hA
   gi_quiet (fail)
   replace hJs := hdr k wr nq hJs
   obtain ⟨⟨A, cap2, hb1⟩, hq1⟩ := hbase k _ hJs
   obtain ⟨args, ⟨b2, off2, cap', hc, hcap, rfl⟩, fn, tmps, assign, body, hy, hR⟩ := hY k _ (by omega) hJs
   clear hb0 hq0
   generalize wr.drewN nq = w2 at *
   have hmin : (if N - j < n then ((N - j : Nat) : Int) else (n : Int)) = ((min n (N - j) : Nat) : Int) := by omega
   rw [hmin]
   obtain ⟨m, hm⟩ : ∃ m, min n (N - j) = m := ⟨_, rfl⟩
   rw [hj, hm] at hy
   rw [hm]
   have hmn : m ≤ n := by omega
   have hmj : j + m ≤ N := by omega
   rw [hb1] at hc
   injection hc with hc
   injection hc with hc1 hc2 hc3
   subst hc1 hc3
   rw [Nat.mul_one] at hy
   have e1 : (j : Int) + m ≤ cap2 := by omega
   have e2 : (j : Int) ≤ j + m := by omega
   have e3 : ((j : Int) + m).toNat - j = m := by omega
   gi_wp2
   refine hR.mono ?_
   rintro e W3 (⟨rfl, hJ3⟩ | ⟨rfl, hJx3⟩)
   ·obtain ⟨_, hq3⟩ := hbase (k + 1) W3 hJ3
    gi_wp2
    go_roundw
    case rel => exact ⟨k + 1, j + n, by rw [Nat.add_mul, hj, Nat.one_mul], by simp, by omega, hJ3⟩
    case measure => simp [intOf]; omega
   ·gi_wp2
    refine bodyPost_ret (results_none rfl _ _ _) rfl ?_
    exact ⟨⟨_, rfl⟩, .inr hJx3⟩
  ·gi_wp2
   go_end0
   exact ⟨⟨_, rfl⟩, .inl ⟨k, by omega, hJs⟩⟩

theorem pch109 (es : List (List D)) (v : Int) (hv : 1 ≤ v) : FunM Tryz.prog 109 [.d (.sl es), .i v] [] [] (.fn (.func 132) [.ptr 2 0 0, .ptr 3 0 0]) [(2, .box [.d (.sl es)]), (3, .box [.i v])] := by
 refine FunM.enter 9 [(0, .d (.sl es)), (1, .i v)] Tryz.func109 rfl (of_decide_eq_true rfl) rfl rfl ?_
 have hv1 : ¬ v < 1 := by omega
 refine .goR [] 3 fun K k => ?_; simp; refine k _ ?_; clear k K
 refine .seq ?_
 refine .goR [] 2 fun K k => ?_; simp; refine k _ ?_; clear k K
 refine .condK fun K1 K2 k1 k2 => ?_; simp [hv1]; refine k2 ?_; clear k1 k2 K1 K2
 refine .skip ?_
 refine thenQ_normal ?_
 refine .goR [] 2 fun K k => ?_; simp; refine k _ ?_; clear k K
 refine .ret ?_
 exact FinF.ret (by simp) (by simp)
/-- slices.Clone[[]stemma/api.Row,stemma/api.Row] -/
def d78 (_ : Nat) (a0 : (List (List S61))) : Option (List (List S61)) := if a0.length * 24 ≤ Rp.reach then some a0 else none
theorem p78 (N : Nat) (a0 : (List (List S61))) (r : (List (List S61))) (h : d78 N a0 = some r) : FunO Tryz.prog 78 [.d (.sl (a0.map (cL cS61)))] (.ref 0 0 r.length) (.arr 57 1 (r.map (cL cS61))) := by
 obtain ⟨hz, h⟩ := gsome h
 cases h
 refine FunO.enter 8 [(0, .d (.sl (a0.map (cL cS61))))] Tryz.func78 rfl (of_decide_eq_true rfl) rfl rfl ?_
 refine .goR [] 1 fun K k => ?_; simp; refine k _ ?_; clear k K
 refine .seq ?_
 refine .seqR ?_
 refine .runK [] 1 fun K k => ?_; simp; refine k _ _ ?_; clear k K
 refine .eqNilE (es := a0.map (cL cS61)) (by simp) rfl ty48 rfl (by simp) (by simp) fun b hb => ?_
 refine .nil ?_
 cases b with
 | true =>
  have he : a0 = [] := by
   cases a0 with
   | nil => rfl
   | cons x xs => exact absurd (hb (by simp)) (by simp)
  subst he
  refine .condK fun K1 K2 k1 k2 => ?_; simp; refine k1 ?_; clear k1 k2 K1 K2
  refine .goR [] 1 fun K k => ?_; simp; refine k _ ?_; clear k K
  refine .sub (.nilOwn (t := 2) (id := 902) (T := 57) (n := 1) rfl rfl (by decide)) ?_
  refine .st (mk 8 [] [(2, .ref 902 0 0)] [(902, some (.arr 57 1 []))]) ?_
  refine .ret ?_
  exact thenQ_pass (by simp) (FinO.ret (.ref 902 0 0) 902 (by simp) (by simp) (by simp) (by simp) rfl)
 | false =>
  refine .condK fun K1 K2 k1 k2 => ?_; simp; refine k2 ?_; clear k1 k2 K1 K2
  refine .skip ?_
  refine thenQ_normal ?_
  refine .goR [] 4 fun K k => ?_; simp [hz]; refine k _ ?_; clear k K
  refine .tt [(2, .ref 5 0 a0.length)] [(5, R57 a0)] ?_
  refine .ret ?_
  exact FinO.ret (.ref 5 0 a0.length) 5 (by simp) (by simp) (by simp) (by simp) rfl
/-- stemma/extsort.InitialRuns$1 -/
def d111 (N : Nat) (a0 : (List S61)) (a1 : (List S61)) (a2 : S65) : Option Int :=
 (d70 N a0 a1 a2).bind fun r1 =>
 some r1
set_option maxRecDepth 100000 in
set_option maxHeartbeats 4000000 in
theorem p111 (N : Nat) (a0 : (List S61)) (a1 : (List S61)) (a2 : S65) (r : Int) (h : d111 N a0 a1 a2 = some r) : FunC Tryz.prog 111 [.d (.sl (a0.map cS61)), .d (.sl (a1.map cS61)), .d (.pim [.sl (a2.Columns.map (cI .i64)), .sl (a2.Descending.map cB)])] (.i r) := by
 unfold d111 at h
 refine FunC.enter 10 [(0, .d (.sl (a0.map cS61))), (1, .d (.sl (a1.map cS61))), (2, .d (.pim [.sl (a2.Columns.map (cI .i64)), .sl (a2.Descending.map cB)]))] (by simp) Tryz.func111 rfl (of_decide_eq_true rfl) rfl rfl ?_
 refine .seqR ?_
 refine .runK [] 1 fun K k => ?_; simp; refine k _ _ ?_; clear k K
 refine .tt (L2 a0 a1 ++ [(2, .d (.pim [.sl (a2.Columns.map (cI .i64)), .sl (a2.Descending.map cB)]))]) [] ?_
 refine .nil ?_
 refine .seqR ?_
 refine .runK [] 3 fun K k => ?_; simp; refine k _ _ ?_; clear k K
 refine .tt [(6, .d (.sl (a0.map cS61))), (7, .d (.sl (a1.map cS61))), (8, .agg [.d (.sl (a2.Columns.map (cI .i64))), .d (.sl (a2.Descending.map cB))])] [] ?_
 replace h := bsome h; obtain ⟨r1, hr1, h⟩ := h
 refine .callL (d := 9) (p70 N a0 a1 a2 r1 hr1) (by simp) rfl rfl (by simp <;> rfl) (by simp <;> rfl) ent70 (by simp <;> rfl) ?_
 refine .st (mk 10 [] [(6, .d (.sl (a0.map cS61))), (7, .d (.sl (a1.map cS61))), (8, .agg [.d (.sl (a2.Columns.map (cI .i64))), .d (.sl (a2.Descending.map cB))]), (9, .i r1)] []) ?_
 refine .runK [] 1 fun K k => ?_; simp; refine k _ _ ?_; clear k K
 refine .tt [(5, .i r1)] [] ?_
 refine .nil ?_
 refine .ret ?_
 cases h
 exact FinC.ret (by simp) (by simp)
/-- slices.insertionSortCmpFunc[stemma/api.Row] -/
def d168 (N : Nat) (a0 : (List (List S61))) (a1 : Int) (a2 : Int) (p3 : (List S61) → (List S61) → Option Int) : Option (List (List S61)) :=
 (chkI (a1 + 1)).bind fun v1 =>
 Option.bind (α := List (List S61)) (
  iterN (σ := ((List (List S61)) × Int)) (ρ := List (List S61)) (fun ((l117, v118) : ((List (List S61)) × Int)) =>
   if v118 < a2 then (
    Option.bind (α := List (List S61)) (
     iterN (σ := ((List (List S61)) × Int)) (ρ := List (List S61)) (fun ((l380, v381) : ((List (List S61)) × Int)) =>
      Option.bind (α := Bool) (
       if v381 > a1 then (
        (idx l380 v381).bind fun x448 =>
        (chkI (v381 - 1)).bind fun v450 =>
        (idx l380 v450).bind fun x451 =>
        (p3 x448 x451).bind fun r453 =>
        some (decide (r453 < 0))
       ) else
       some false
      ) fun (v446 : Bool) =>
      if v446 = true then (
       (chkI (v381 - 1)).bind fun v455 =>
       (chkI (v381 - 1)).bind fun v456 =>
       (idx l380 v456).bind fun x457 =>
       (idx l380 v381).bind fun x459 =>
       letv (setI l380 v381 x457) fun l461 =>
       (idx l461 v455).bind fun _x462 =>
       letv (setI l461 v455 x459) fun l464 =>
       (chkI (v381 - 1)).bind fun v465 =>
       some (.inl (l464, v465))
      ) else
      some (.inr l380)
     ) N (l117, v118)
    ) fun (l438 : List (List S61)) =>
    (chkI (v118 + 1)).bind fun v466 =>
    some (.inl (l438, v466))
   ) else
   some (.inr l117)
  ) N (a0, v1)
 ) fun (l351 : List (List S61)) =>
 some l351
set_option maxRecDepth 100000 in
set_option maxHeartbeats 4000000 in
theorem p168 (N : Nat) (a0 : (List (List S61))) (a1 : Int) (a2 : Int) (g3 : Nat) (cs3 : List D) (p3 : (List S61) → (List S61) → Option Int) (ent_3 : Rp.Enters Tryz.prog g3) (hp3 : ∀ a0 a1 r, p3 a0 a1 = some r → FunC Tryz.prog g3 ([.d (.sl (a0.map cS61)), .d (.sl (a1.map cS61))] ++ cs3.map .d) (.i r)) (r : (List (List S61))) (h : d168 N a0 a1 a2 p3 = some r) : FunM Tryz.prog 168 [.ref 1000 0 a0.length, .i a1, .i a2, .fn (.func g3) (cs3.map .d)] [(1000, R57 a0)] [1000] (.tup []) ([(1000, .arr 57 1 (r.map (cL cS61)))]) := by
 unfold d168 at h
 refine FunM.enter 53 [(0, .ref 1000 0 a0.length), (1, .i a1), (2, .i a2), (3, .fn (.func g3) (cs3.map .d))] Tryz.func168 rfl (of_decide_eq_true rfl) rfl rfl ?_
 refine .seqR ?_
 replace h := bsome h; obtain ⟨v1, hv1, h⟩ := h
 have hv1 := chkI_some hv1
 refine .runK [] 3 fun K k => ?_; simp [hv1]; refine k _ _ ?_; clear k K
 refine .tt (L15 a0.length a1 a2 ++ [(3, .fn (.func g3) (cs3.map .d)), (8, .i v1)]) [(1000, R57 a0)] ?_
 refine .nil ?_
 refine .lastN (fun (l351 : List (List S61)) => mk 53 [1000] [] [(1000, R57 l351)]) h ?_ ?_ <;> clear h
 ·intro o h
  refine .block ?_
  refine .iter (fun ((l117, v118) : ((List (List S61)) × Int)) => mk 53 [1000] (L15 l117.length a1 a2 ++ [(3, .fn (.func g3) (cs3.map .d)), (8, .i v118)]) [(1000, R57 l117)]) h Sub.tt ?_
  clear h
  rintro ⟨l117, v118⟩ x h
  dsimp only at h ⊢
  refine .seq ?_
  refine .seqR ?_
  refine .runK [] 3 fun K k => ?_; simp; refine k _ _ ?_; clear k K
  refine .tt (L15 l117.length a1 a2 ++ [(3, .fn (.func g3) (cs3.map .d)), (8, .i v118), (14, .b (decide (v118 < a2)))]) [(1000, R57 l117)] ?_
  refine .nil ?_
  replace h := isome h; rcases h with ⟨c352, h⟩ | ⟨c352, h⟩
  ·have c352_ : decide (v118 < a2) = true := decide_eq_true c352
   refine .condT (b := decide (v118 < a2)) rfl c352_ ?_
   refine .sub (.bool 14 (b := decide (v118 < a2)) rfl c352_) ?_
   refine .st (mk 53 [1000] (L15 l117.length a1 a2 ++ [(3, .fn (.func g3) (cs3.map .d)), (8, .i v118), (14, .b true)]) [(1000, R57 l117)]) ?_
   refine .skip ?_
   refine thenQ_normal ?_
   refine .seq ?_
   refine .block ?_
   refine .seqR ?_
   refine .runK [] 2 fun K k => ?_; simp; refine k _ _ ?_; clear k K
   refine .tt (L15 l117.length a1 a2 ++ [(3, .fn (.func g3) (cs3.map .d)), (8, .i v118), (9, .i v118)]) [(1000, R57 l117)] ?_
   refine .nil ?_
   refine .lastN (fun (l438 : List (List S61)) => mk 53 [1000] (L15 l438.length a1 a2 ++ [(3, .fn (.func g3) (cs3.map .d)), (8, .i v118)]) [(1000, R57 l438)]) h ?_ ?_ <;> clear h
   ·intro o h
    refine .block ?_
    refine .iter (fun ((l380, v381) : ((List (List S61)) × Int)) => mk 53 [1000] (L15 l380.length a1 a2 ++ [(3, .fn (.func g3) (cs3.map .d)), (8, .i v118), (9, .i v381)]) [(1000, R57 l380)]) h Sub.tt ?_
    clear h
    rintro ⟨l380, v381⟩ x h
    dsimp only at h ⊢
    refine .seq ?_
    replace h := bsome h; obtain ⟨v446, hj, h⟩ := h
    refine .cutQ (by kernel_rfl) (by kernel_rfl) (mk 53 [1000] (L15 l380.length a1 a2 ++ [(3, .fn (.func g3) (cs3.map .d)), (8, .i v118), (9, .i v381), (34, .b v446)]) [(1000, R57 l380)]) ?_ ?_
    ·clear h; have h := hj; clear hj
     refine .runQ 4 fun K k => ?_; simp; refine k _ _ ?_; clear k K
     refine .tt (L15 l380.length a1 a2 ++ [(3, .fn (.func g3) (cs3.map .d)), (8, .i v118), (9, .i v381), (21, .b (decide (v381 > a1)))]) [(1000, R57 l380)] ?_
     replace h := isome h; rcases h with ⟨c447, h⟩ | ⟨c447, h⟩
     ·have c447_ : decide (v381 > a1) = true := decide_eq_true c447
      refine .sub (.bool 21 (b := decide (v381 > a1)) rfl c447_) ?_
      refine .st (mk 53 [1000] (L15 l380.length a1 a2 ++ [(3, .fn (.func g3) (cs3.map .d)), (8, .i v118), (9, .i v381), (21, .b true)]) [(1000, R57 l380)]) ?_
      replace h := bsome h; obtain ⟨x448, hx448, h⟩ := h
      obtain ⟨k449, hx448k, hx448, hx448a, hx448b⟩ := idx_some hx448
      replace h := bsome h; obtain ⟨v450, hv450, h⟩ := h
      have hv450 := chkI_some hv450
      replace h := bsome h; obtain ⟨x451, hx451, h⟩ := h
      obtain ⟨k452, hx451k, hx451, hx451a, hx451b⟩ := idx_some hx451
      refine .runQ 10 fun K k => ?_; simp [hx448, hx448k, hx448a, hx448b, hv450, hx451, hx451k, hx451a, hx451b]; refine k _ _ ?_; clear k K
      refine .tt (L15 l380.length a1 a2 ++ [(3, .fn (.func g3) (cs3.map .d)), (8, .i v118), (9, .i v381), (21, .b true), (22, .fn (.func g3) (cs3.map .d)), (23, .ref 1000 0 l380.length), (24, .i v381), (25, .ptr 1000 k449 0), (26, .d (.sl (x448.map cS61))), (27, .ref 1000 0 l380.length), (28, .i v381), (29, .i v450), (30, .ptr 1000 k452 0), (31, .d (.sl (x451.map cS61)))]) [(1000, R57 l380)] ?_
      replace h := bsome h; obtain ⟨r453, hr453, h⟩ := h
      refine .callL (d := 32) (hp3 x448 x451 r453 hr453) (by simp) rfl rfl (by simp <;> rfl) (by simp <;> rfl) ent_3 (by simp <;> rfl) ?_
      refine .st (mk 53 [1000] (L15 l380.length a1 a2 ++ [(3, .fn (.func g3) (cs3.map .d)), (8, .i v118), (9, .i v381), (21, .b true), (22, .fn (.func g3) (cs3.map .d)), (23, .ref 1000 0 l380.length), (24, .i v381), (25, .ptr 1000 k449 0), (26, .d (.sl (x448.map cS61))), (27, .ref 1000 0 l380.length), (28, .i v381), (29, .i v450), (30, .ptr 1000 k452 0), (31, .d (.sl (x451.map cS61))), (32, .i r453)]) [(1000, R57 l380)]) ?_
      refine .runQ 2 fun K k => ?_; simp; refine k _ _ ?_; clear k K
      refine .tt (L15 l380.length a1 a2 ++ [(3, .fn (.func g3) (cs3.map .d)), (8, .i v118), (9, .i v381), (22, .fn (.func g3) (cs3.map .d)), (23, .ref 1000 0 l380.length), (24, .i v381), (25, .ptr 1000 k449 0), (26, .d (.sl (x448.map cS61))), (27, .ref 1000 0 l380.length), (28, .i v381), (29, .i v450), (30, .ptr 1000 k452 0), (31, .d (.sl (x451.map cS61))), (32, .i r453), (33, .b (decide (r453 < 0))), (34, .b (decide (r453 < 0)))]) [(1000, R57 l380)] ?_
      cases h
      exact .nil .tt
     have c447_ : decide (v381 > a1) = false := decide_eq_false c447
     refine .sub (.bool 21 (b := decide (v381 > a1)) rfl c447_) ?_
     refine .st (mk 53 [1000] (L15 l380.length a1 a2 ++ [(3, .fn (.func g3) (cs3.map .d)), (8, .i v118), (9, .i v381), (21, .b false)]) [(1000, R57 l380)]) ?_
     refine .runQ 13 fun K k => ?_; simp; refine k _ _ ?_; clear k K
     refine .tt (L15 l380.length a1 a2 ++ [(3, .fn (.func g3) (cs3.map .d)), (8, .i v118), (9, .i v381), (22, .tup []), (23, .tup []), (24, .tup []), (25, .tup []), (26, .tup []), (27, .tup []), (28, .tup []), (29, .tup []), (30, .tup []), (31, .tup []), (32, .tup []), (33, .tup []), (34, .b false)]) [(1000, R57 l380)] ?_
     cases h
     exact .nil .tt
    clear hj
    replace h := isome h; rcases h with ⟨c454, h⟩ | ⟨c454, h⟩
    ·have c454_ : v446 = true := c454
     refine .condT (b := v446) rfl c454_ ?_
     refine .sub (.bool 34 (b := v446) rfl c454_) ?_
     refine .st (mk 53 [1000] (L15 l380.length a1 a2 ++ [(3, .fn (.func g3) (cs3.map .d)), (8, .i v118), (9, .i v381), (34, .b true)]) [(1000, R57 l380)]) ?_
     refine .skip ?_
     refine thenQ_normal ?_
     refine .seq ?_
     refine .block ?_
     replace h := bsome h; obtain ⟨v455, hv455, h⟩ := h
     have hv455 := chkI_some hv455
     replace h := bsome h; obtain ⟨v456, hv456, h⟩ := h
     have hv456 := chkI_some hv456
     replace h := bsome h; obtain ⟨x457, hx457, h⟩ := h
     obtain ⟨k458, hx457k, hx457, hx457a, hx457b⟩ := idx_some hx457
     replace h := bsome h; obtain ⟨x459, hx459, h⟩ := h
     obtain ⟨k460, hx459k, hx459, hx459a, hx459b⟩ := idx_some hx459
     replace h := lsome h; obtain ⟨l461, gl461, h⟩ := h
     obtain ⟨hl461, hl461n⟩ := setI_some (cL cS61) gl461 hx459k
     replace hl461 : (l380.map (cL cS61)).set k460 [.sl (x457.map cS61)] = l461.map (cL cS61) := hl461
     clear gl461
     replace h := bsome h; obtain ⟨x462, hx462, h⟩ := h
     obtain ⟨k463, hx462k, hx462, hx462a, hx462b⟩ := idx_some hx462
     replace h := lsome h; obtain ⟨l464, gl464, h⟩ := h
     obtain ⟨hl464, hl464n⟩ := setI_some (cL cS61) gl464 hx462k
     replace hl464 : (l461.map (cL cS61)).set k463 [.sl (x459.map cS61)] = l464.map (cL cS61) := hl464
     clear gl464
     refine .lastAnyS [[], [], [], [], [3], [], [], [6], [5, 6, 7], [5, 6, 7, 8], [], [], [10, 11], [10, 11, 12], [0, 1, 5, 6, 7, 8, 9, 10, 11, 12, 13], [0, 1, 5, 6, 7, 8, 9, 10, 11, 12, 13, 14], [0, 1, 2, 3, 4, 5, 6, 7, 8, 9, 10, 11, 12, 13, 14, 15], [0, 1, 2, 3, 4, 5, 6, 7, 8, 9, 10, 11, 12, 13, 14, 15, 16]] (fun (b : Nat → Bool) => mk 53 [1000] [(0, (if b 17 then .ref 1000 0 l464.length else (if b 15 then .ref 1000 0 l461.length else .ref 1000 0 l380.length))), (1, .i a1), (2, .i a2), (3, .fn (.func g3) (cs3.map .d)), (8, .i v118), (9, .i v381), (37, (if b 17 then .ref 1000 0 l464.length else (if b 15 then .ref 1000 0 l461.length else (if b 0 then .ref 1000 0 l380.length else .junk)))), (38, (if b 1 then .i v381 else .junk)), (39, (if b 17 then .ref 1000 0 l464.length else (if b 2 then (if b 15 then .ref 1000 0 l461.length else .ref 1000 0 l380.length) else .junk))), (40, (if b 3 then .i v381 else .junk)), (41, (if b 4 then .i v455 else .junk)), (42, (if b 17 then .ref 1000 0 l464.length else (if b 15 then .ref 1000 0 l461.length else (if b 5 then .ref 1000 0 l380.length else .junk)))), (43, (if b 6 then .i v381 else .junk)), (44, (if b 7 then .i v456 else .junk)), (45, (if b 8 then .ptr 1000 k458 0 else .junk)), (46, (if b 9 then .d (.sl (x457.map cS61)) else .junk)), (47, (if b 17 then .ref 1000 0 l464.length else (if b 15 then .ref 1000 0 l461.length else (if b 10 then .ref 1000 0 l380.length else .junk)))), (48, (if b 11 then .i v381 else .junk)), (49, (if b 12 then .ptr 1000 k460 0 else .junk)), (50, (if b 13 then .d (.sl (x459.map cS61)) else .junk)), (51, (if b 14 then .ptr 1000 k460 0 else .junk)), (52, (if b 16 then .ptr 1000 k463 0 else .junk))] [(1000, (if b 17 then R57 l464 else (if b 15 then R57 l461 else R57 l380)))]) (mk 53 [1000] (L15 l464.length a1 a2 ++ [(3, .fn (.func g3) (cs3.map .d)), (8, .i v118), (9, .i v381)]) [(1000, R57 l464)]) (by kernel_rfl) (by kernel_rfl) Sub.tt (Steps.cons ?_ (Steps.cons ?_ (Steps.cons ?_ (Steps.cons ?_ (Steps.cons ?_ (Steps.cons ?_ (Steps.cons ?_ (Steps.cons ?_ (Steps.cons ?_ (Steps.cons ?_ (Steps.cons ?_ (Steps.cons ?_ (Steps.cons ?_ (Steps.cons ?_ (Steps.cons ?_ (Steps.cons ?_ (Steps.cons ?_ (Steps.cons ?_ (Steps.nil))))))))))))))))))) ?_ ?_
     iterate 4
      ·intro b h0 ha hd
       have T := fct h0 ha hd; simp at T
       refine .runK [] 1 fun K k => ?_; simp [T]; refine k _ _ ?_; clear k K
       exact .nil (.table (by simp [T]) (by simp [T]))
     ·intro b h0 ha hd
      have T := fct h0 ha hd; simp at T
      refine .runK [] 1 fun K k => ?_; simp [T, hv455]; refine k _ _ ?_; clear k K
      exact .nil (.table (by simp [T]) (by simp [T]))
     iterate 2
      ·intro b h0 ha hd
       have T := fct h0 ha hd; simp at T
       refine .runK [] 1 fun K k => ?_; simp [T]; refine k _ _ ?_; clear k K
       exact .nil (.table (by simp [T]) (by simp [T]))
     ·intro b h0 ha hd
      have T := fct h0 ha hd; simp at T
      refine .runK [] 1 fun K k => ?_; simp [T, hv456]; refine k _ _ ?_; clear k K
      exact .nil (.table (by simp [T]) (by simp [T]))
     ·intro b h0 ha hd
      have T := fct h0 ha hd; simp at T
      refine .runK [] 1 fun K k => ?_; simp [T, hx457k, hx457a, hx457b]; refine k _ _ ?_; clear k K
      exact .nil (.table (by simp [T]) (by simp [T]))
     ·intro b h0 ha hd
      have T := fct h0 ha hd; simp at T
      refine .runK [] 1 fun K k => ?_; simp [T, hx457]; refine k _ _ ?_; clear k K
      exact .nil (.table (by simp [T]) (by simp [T]))
     iterate 2
      ·intro b h0 ha hd
       have T := fct h0 ha hd; simp at T
       refine .runK [] 1 fun K k => ?_; simp [T]; refine k _ _ ?_; clear k K
       exact .nil (.table (by simp [T]) (by simp [T]))
     ·intro b h0 ha hd
      have T := fct h0 ha hd; simp at T
      refine .runK [] 1 fun K k => ?_; simp [T, hx459k, hx459a, hx459b]; refine k _ _ ?_; clear k K
      exact .nil (.table (by simp [T]) (by simp [T]))
     ·intro b h0 ha hd
      have T := fct h0 ha hd; simp at T
      refine .runK [] 1 fun K k => ?_; simp [T, hx459]; refine k _ _ ?_; clear k K
      exact .nil (.table (by simp [T]) (by simp [T]))
     ·intro b h0 ha hd
      have T := fct h0 ha hd; simp at T
      refine .runK [] 1 fun K k => ?_; simp [T, hx459k, hx459a, hx459b]; refine k _ _ ?_; clear k K
      exact .nil (.table (by simp [T]) (by simp [T]))
     ·intro b h0 ha hd
      have T := fct h0 ha hd; simp at T
      refine .runK [] 1 fun K k => ?_; simp [T, hx459, hl461]; refine k _ _ ?_; clear k K
      exact .nil (.table (by simp [T, hl461n]) (by simp [T]))
     ·intro b h0 ha hd
      have T := fct h0 ha hd; simp at T
      refine .runK [] 1 fun K k => ?_; simp [T, hx462k, hx462a, hx462b]; refine k _ _ ?_; clear k K
      exact .nil (.table (by simp [T]) (by simp [T]))
     ·intro b h0 ha hd
      have T := fct h0 ha hd; simp at T
      refine .runK [] 1 fun K k => ?_; simp [T, hx462, hl464]; refine k _ _ ?_; clear k K
      exact .nil (.table (by simp [T, hl464n]) (by simp))
     ·intro b hb
      have t0 := hb 0 (by decide)
      have t1 := hb 1 (by decide)
      have t2 := hb 2 (by decide)
      have t3 := hb 3 (by decide)
      have t4 := hb 4 (by decide)
      have t5 := hb 5 (by decide)
      have t6 := hb 6 (by decide)
      have t7 := hb 7 (by decide)
      have t8 := hb 8 (by decide)
      have t9 := hb 9 (by decide)
      have t10 := hb 10 (by decide)
      have t11 := hb 11 (by decide)
      have t12 := hb 12 (by decide)
      have t13 := hb 13 (by decide)
      have t14 := hb 14 (by decide)
      have t15 := hb 15 (by decide)
      have t16 := hb 16 (by decide)
      have t17 := hb 17 (by decide)
      exact Sub.table (by simp [t1, t3, t4, t6, t7, t8, t9, t11, t12, t13, t14, t16, t17]) (by simp [t17])
     skip
     refine blockQ.normal ?_
     refine thenQ_normal ?_
     refine .region ?_
     replace h := bsome h; obtain ⟨v465, hv465, h⟩ := h
     have hv465 := chkI_some hv465
     refine .runK [] 3 fun K k => ?_; simp [hv465]; refine k _ _ ?_; clear k K
     refine .tt (L15 l464.length a1 a2 ++ [(3, .fn (.func g3) (cs3.map .d)), (8, .i v118), (9, .i v465)]) [(1000, R57 l464)] ?_
     refine .nil ?_
     cases h
     refine PostI.next ?_
     exact Sub.tt
    have c454_ : v446 = false := Bool.eq_false_iff.2 c454
    refine .condF (b := v446) rfl c454_ ?_
    refine .sub (.bool 34 (b := v446) rfl c454_) ?_
    refine .st (mk 53 [1000] (L15 l380.length a1 a2 ++ [(3, .fn (.func g3) (cs3.map .d)), (8, .i v118), (9, .i v381), (34, .b false)]) [(1000, R57 l380)]) ?_
    refine .exit ?_
    cases h
    refine thenQ_pass (by simp) ?_
    refine PostI.out (by simp) ?_
    rintro rfl
    refine blockQ.hit ?_
    refine PostN.next ?_
    exact Sub.tt
   rintro l438 h
   refine blockQ.normal ?_
   refine thenQ_normal ?_
   refine .region ?_
   replace h := bsome h; obtain ⟨v466, hv466, h⟩ := h
   have hv466 := chkI_some hv466
   refine .runK [] 3 fun K k => ?_; simp [hv466]; refine k _ _ ?_; clear k K
   refine .tt (L15 l438.length a1 a2 ++ [(3, .fn (.func g3) (cs3.map .d)), (8, .i v466)]) [(1000, R57 l438)] ?_
   refine .nil ?_
   cases h
   refine PostI.next ?_
   exact Sub.tt
  have c352_ : decide (v118 < a2) = false := decide_eq_false c352
  refine .condF (b := decide (v118 < a2)) rfl c352_ ?_
  refine .sub (.bool 14 (b := decide (v118 < a2)) rfl c352_) ?_
  refine .st (mk 53 [1000] (L15 l117.length a1 a2 ++ [(3, .fn (.func g3) (cs3.map .d)), (8, .i v118), (14, .b false)]) [(1000, R57 l117)]) ?_
  refine .exit ?_
  cases h
  refine thenQ_pass (by simp) ?_
  refine PostI.out (by simp) ?_
  rintro rfl
  refine blockQ.hit ?_
  refine PostN.next ?_
  exact Sub.tt
 rintro l351 h
 cases h
 exact FinF.normal (by simp) (by simp)
end Go.Proofs.YtimkkjiplioohaaGreatDoor
