/- Functions of the program as functional programs; the code computes them. -/
import Derived.Test.YtabjbkdlacibjaaSg6
namespace Go.Proofs.Ytabjbkdlacibjaa
open Go.Ab Go.Rp
attribute [-simp] List.all_eq_true Array.all_toList Array.all_eq_true

/-- slices.Equal[[][2]int,[2]int] -/
def d24 (N : Nat) (a0 : (List S43)) (a1 : (List S43)) : Option Bool :=
  if ((a0.length : Int) != (a1.length : Int)) then (
    some false
  ) else
  bindO (β := Unit) (ρ := Bool) (
    iterN (σ := Int) (ρ := (Out Unit Bool)) (fun (v8 : Int) =>
      if v8 < (a0.length : Int) then (
        (idx a0 v8).bind fun x23 =>
        (idx a1 v8).bind fun x25 =>
        if (!beqS43 x23 x25) = true then (
          some (.inr (.ret false))
        ) else
        (chkI (v8 + 1)).bind fun v27 =>
        some (.inl v27)
      ) else
      some (.inr (.go ()))
    ) N 0
  ) fun (_ : Unit) =>
  some true
set_option maxRecDepth 100000 in
set_option maxHeartbeats 4000000 in
theorem p24 (N : Nat) (a0 : (List S43)) (a1 : (List S43)) (r : Bool) (h : d24 N a0 a1 = some r) : FunC Try.prog 24 [.d (.sl (a0.map cS43)), .d (.sl (a1.map cS43))] (.d (.lit (.bool r))) := by
  unfold d24 at h
  refine FunC.enter 26 [(0, .d (.sl (a0.map cS43))), (1, .d (.sl (a1.map cS43)))] (by simp) Try.func24 rfl (of_decide_eq_true rfl) rfl rfl ?_
  refine AW.seqR ?_
  refine Chain.runK [] 1 fun K hK => ?_; simp; refine hK _ _ ?_; clear hK K
  refine Chain.sub (S' := mk 26 [] [(0, .d (.sl (a0.map cS43))), (1, .d (.sl (a1.map cS43)))] []) (Sub.table (by simp) (by simp)) ?_
  refine Chain.nil ?_
  refine AW.seq ?_
  refine AW.seqR ?_
  refine Chain.runK [] 5 fun K hK => ?_; simp; refine hK _ _ ?_; clear hK K
  refine Chain.sub (S' := mk 26 [] [(0, .d (.sl (a0.map cS43))), (1, .d (.sl (a1.map cS43))), (10, .d (.lit (.bool ((a0.length : Int) != (a1.length : Int)))))] []) (Sub.table (by simp) (by simp)) ?_
  refine Chain.nil ?_
  replace h := isome h; rcases h with ⟨c1, h⟩ | ⟨c1, h⟩
  · have c1_ : ((a0.length : Int) != (a1.length : Int)) = true := c1
    refine AW.condT (b := ((a0.length : Int) != (a1.length : Int))) rfl c1_ ?_
    refine AW.sub (Sub.bool 10 (b := ((a0.length : Int) != (a1.length : Int))) rfl c1_) ?_
    refine AW.sub (S' := mk 26 [] [(0, .d (.sl (a0.map cS43))), (1, .d (.sl (a1.map cS43))), (10, .d (.lit (.bool true)))] []) (by simp; exact Sub.table (by simp) (by simp)) ?_
    refine AW.seqR ?_
    refine Chain.runK [] 1 fun K hK => ?_; simp; refine hK _ _ ?_; clear hK K
    refine Chain.sub (S' := mk 26 [] [(4, .d (.lit (.bool false)))] []) (Sub.table (by simp) (by simp)) ?_
    refine Chain.nil ?_
    refine AW.ret ?_
    cases h
    refine thenQ_pass (by simp) ?_
    exact FinC.ret (by simp) (by simp)
  · have c1_ : ((a0.length : Int) != (a1.length : Int)) = false := Bool.eq_false_iff.2 c1
    refine AW.condF (b := ((a0.length : Int) != (a1.length : Int))) rfl c1_ ?_
    refine AW.sub (Sub.bool 10 (b := ((a0.length : Int) != (a1.length : Int))) rfl c1_) ?_
    refine AW.sub (S' := mk 26 [] [(0, .d (.sl (a0.map cS43))), (1, .d (.sl (a1.map cS43))), (10, .d (.lit (.bool false)))] []) (by simp; exact Sub.table (by simp) (by simp)) ?_
    refine AW.skip ?_
    refine thenQ_normal ?_
    refine AW.seq ?_
    refine AW.seqR ?_
    refine Chain.runK [] 3 fun K hK => ?_; simp; refine hK _ _ ?_; clear hK K
    refine Chain.sub (S' := mk 26 [] [(0, .d (.sl (a0.map cS43))), (1, .d (.sl (a1.map cS43))), (12, .d (.lit (.int .i64 (a0.length : Int)))), (13, .d (.lit (.int .i64 0)))] []) (Sub.table (by simp) (by simp)) ?_
    refine Chain.nil ?_
    refine AW.lastJ (fun (_ : Unit) => mk 26 [] [] []) h ?_ ?_ <;> clear h
    · intro o h
      refine AW.block ?_
      refine AW.iter (fun (v8 : Int) => mk 26 [] [(0, .d (.sl (a0.map cS43))), (1, .d (.sl (a1.map cS43))), (12, .d (.lit (.int .i64 (a0.length : Int)))), (13, .d (.lit (.int .i64 v8)))] []) h (Sub.table (by simp) (by simp)) ?_
      clear h
      rintro v8 x h
      refine AW.seqR ?_
      refine Chain.runK [] 1 fun K hK => ?_; simp; refine hK _ _ ?_; clear hK K
      refine Chain.sub (S' := mk 26 [] [(0, .d (.sl (a0.map cS43))), (1, .d (.sl (a1.map cS43))), (12, .d (.lit (.int .i64 (a0.length : Int)))), (13, .d (.lit (.int .i64 v8))), (14, .d (.lit (.bool (decide (v8 < (a0.length : Int))))))] []) (Sub.table (by simp) (by simp)) ?_
      refine Chain.nil ?_
      refine AW.seq ?_
      replace h := isome h; rcases h with ⟨c22, h⟩ | ⟨c22, h⟩
      · have c22_ : decide (v8 < (a0.length : Int)) = true := decide_eq_true c22
        refine AW.condT (b := decide (v8 < (a0.length : Int))) rfl c22_ ?_
        refine AW.sub (Sub.bool 14 (b := decide (v8 < (a0.length : Int))) rfl c22_) ?_
        refine AW.sub (S' := mk 26 [] [(0, .d (.sl (a0.map cS43))), (1, .d (.sl (a1.map cS43))), (12, .d (.lit (.int .i64 (a0.length : Int)))), (13, .d (.lit (.int .i64 v8))), (14, .d (.lit (.bool true)))] []) (by simp; exact Sub.table (by simp) (by simp)) ?_
        refine AW.skip ?_
        refine thenQ_normal ?_
        refine AW.seq ?_
        refine AW.block ?_
        refine AW.seqR ?_
        refine Chain.runK [] 2 fun K hK => ?_; simp; refine hK _ _ ?_; clear hK K
        refine Chain.sub (S' := mk 26 [] [(0, .d (.sl (a0.map cS43))), (1, .d (.sl (a1.map cS43))), (5, .d (.lit (.int .i64 v8))), (12, .d (.lit (.int .i64 (a0.length : Int)))), (13, .d (.lit (.int .i64 v8)))] []) (Sub.table (by simp) (by simp)) ?_
        refine Chain.nil ?_
        refine AW.seqQ (by kernel_rfl) (by kernel_rfl) ?_
        replace h := bsome h; obtain ⟨x23, hx23, h⟩ := h
        obtain ⟨k24, hx23k, hx23, hx23a, hx23b⟩ := idx_some hx23
        replace h := bsome h; obtain ⟨x25, hx25, h⟩ := h
        obtain ⟨hx25, hx25a, hx25b⟩ := idx_some2 hx25 hx23k
        refine Chain.runQ 8 fun K hK => ?_; simp [hx23, hx23k, hx23a, hx25, hx23k, hx25a]; refine hK _ _ ?_; clear hK K
        refine Chain.sub (S' := mk 26 [] [(0, .d (.sl (a0.map cS43))), (1, .d (.sl (a1.map cS43))), (12, .d (.lit (.int .i64 (a0.length : Int)))), (13, .d (.lit (.int .i64 v8))), (19, .agg [.d (.lit (.int .i64 x23.a0)), .d (.lit (.int .i64 x23.a1))]), (23, .agg [.d (.lit (.int .i64 x25.a0)), .d (.lit (.int .i64 x25.a1))])] []) (Sub.table (by simp) (by simp)) ?_
        refine Chain.pureP (by simp) (pure_eqA true rfl rfl rfl rfl (by kernel_rfl) (eqv43 x23 x25)) ?_
        refine Chain.sub (S' := mk 26 [] [(0, .d (.sl (a0.map cS43))), (1, .d (.sl (a1.map cS43))), (12, .d (.lit (.int .i64 (a0.length : Int)))), (13, .d (.lit (.int .i64 v8))), (19, .agg [.d (.lit (.int .i64 x23.a0)), .d (.lit (.int .i64 x23.a1))]), (23, .agg [.d (.lit (.int .i64 x25.a0)), .d (.lit (.int .i64 x25.a1))]), (24, .d (.lit (.bool (!beqS43 x23 x25))))] []) (by simp; exact Sub.table (by simp) (by simp)) ?_
        refine Chain.nil ?_
        replace h := isome h; rcases h with ⟨c26, h⟩ | ⟨c26, h⟩
        · have c26_ : (!beqS43 x23 x25) = true := c26
          refine AW.condT (b := (!beqS43 x23 x25)) rfl c26_ ?_
          refine AW.sub (Sub.bool 24 (b := (!beqS43 x23 x25)) rfl c26_) ?_
          refine AW.sub (S' := mk 26 [] [(0, .d (.sl (a0.map cS43))), (1, .d (.sl (a1.map cS43))), (12, .d (.lit (.int .i64 (a0.length : Int)))), (13, .d (.lit (.int .i64 v8))), (19, .agg [.d (.lit (.int .i64 x23.a0)), .d (.lit (.int .i64 x23.a1))]), (23, .agg [.d (.lit (.int .i64 x25.a0)), .d (.lit (.int .i64 x25.a1))]), (24, .d (.lit (.bool true)))] []) (by simp; exact Sub.table (by simp) (by simp)) ?_
          refine AW.seqR ?_
          refine Chain.runK [] 1 fun K hK => ?_; simp; refine hK _ _ ?_; clear hK K
          refine Chain.sub (S' := mk 26 [] [(4, .d (.lit (.bool false)))] []) (Sub.table (by simp) (by simp)) ?_
          refine Chain.nil ?_
          refine AW.ret ?_
          cases h
          refine blockQ.ret ?_
          refine thenQ_pass (by simp) ?_
          refine PostI.out (by simp) ?_
          rintro rfl
          refine blockQ.ret ?_
          refine PostJ.out (by simp) ?_
          rintro rfl
          refine thenQ_pass (by simp) ?_
          exact FinC.ret (by simp) (by simp)
        · have c26_ : (!beqS43 x23 x25) = false := Bool.eq_false_iff.2 c26
          refine AW.condF (b := (!beqS43 x23 x25)) rfl c26_ ?_
          refine AW.sub (Sub.bool 24 (b := (!beqS43 x23 x25)) rfl c26_) ?_
          refine AW.sub (S' := mk 26 [] [(0, .d (.sl (a0.map cS43))), (1, .d (.sl (a1.map cS43))), (12, .d (.lit (.int .i64 (a0.length : Int)))), (13, .d (.lit (.int .i64 v8))), (19, .agg [.d (.lit (.int .i64 x23.a0)), .d (.lit (.int .i64 x23.a1))]), (23, .agg [.d (.lit (.int .i64 x25.a0)), .d (.lit (.int .i64 x25.a1))]), (24, .d (.lit (.bool false)))] []) (by simp; exact Sub.table (by simp) (by simp)) ?_
          refine AW.skip ?_
          refine blockQ.normal ?_
          refine thenQ_normal ?_
          refine AW.region ?_
          replace h := bsome h; obtain ⟨v27, hv27, h⟩ := h
          have hv27 := chkI_some hv27
          refine Chain.runK [] 2 fun K hK => ?_; simp [hv27]; refine hK _ _ ?_; clear hK K
          refine Chain.sub (S' := mk 26 [] [(0, .d (.sl (a0.map cS43))), (1, .d (.sl (a1.map cS43))), (12, .d (.lit (.int .i64 (a0.length : Int)))), (13, .d (.lit (.int .i64 v27)))] []) (Sub.table (by simp) (by simp)) ?_
          refine Chain.nil ?_
          cases h
          refine PostI.next ?_
          exact (Sub.table (by simp) (by simp))
      · have c22_ : decide (v8 < (a0.length : Int)) = false := decide_eq_false c22
        refine AW.condF (b := decide (v8 < (a0.length : Int))) rfl c22_ ?_
        refine AW.sub (Sub.bool 14 (b := decide (v8 < (a0.length : Int))) rfl c22_) ?_
        refine AW.sub (S' := mk 26 [] [(0, .d (.sl (a0.map cS43))), (1, .d (.sl (a1.map cS43))), (12, .d (.lit (.int .i64 (a0.length : Int)))), (13, .d (.lit (.int .i64 v8))), (14, .d (.lit (.bool false)))] []) (by simp; exact Sub.table (by simp) (by simp)) ?_
        refine AW.exit ?_
        cases h
        refine thenQ_pass (by simp) ?_
        refine PostI.out (by simp) ?_
        rintro rfl
        refine blockQ.hit ?_
        refine PostJ.next ?_
        exact (Sub.table (by simp) (by simp))
    · rintro ⟨⟩ h
      refine thenQ_normal ?_
      refine AW.seqR ?_
      refine Chain.runK [] 1 fun K hK => ?_; simp; refine hK _ _ ?_; clear hK K
      refine Chain.sub (S' := mk 26 [] [(4, .d (.lit (.bool true)))] []) (Sub.table (by simp) (by simp)) ?_
      refine Chain.nil ?_
      refine AW.ret ?_
      cases h
      exact FinC.ret (by simp) (by simp)

/-- stemma/stemlaw5.SSIGraphMatchesReference$1 -/
def d46 (N : Nat) (a0 : Int) (a1 : Int) (a2 : (List S105)) : Option Bool :=
  Option.bind (α := Bool) (
    if (a0 != a1) then (
      (idx a2 a0).bind fun x9 =>
      (idx a2 a1).bind fun x11 =>
      (d45 N x9 x11).bind fun r13 =>
      some r13
    ) else
    some false
  ) fun (v7 : Bool) =>
  some v7
set_option maxRecDepth 100000 in
set_option maxHeartbeats 4000000 in
theorem p46 (N : Nat) (a0 : Int) (a1 : Int) (a2 : (List S105)) (r : Bool) (h : d46 N a0 a1 a2 = some r) : FunC Try.prog 46 [.d (.lit (.int .i64 a0)), .d (.lit (.int .i64 a1)), .d (.pim [.sl (a2.map cS105)])] (.d (.lit (.bool r))) := by
  unfold d46 at h
  refine FunC.enter 20 [(0, .d (.lit (.int .i64 a0))), (1, .d (.lit (.int .i64 a1))), (2, .d (.pim [.sl (a2.map cS105)]))] (by simp) Try.func46 rfl (of_decide_eq_true rfl) rfl rfl ?_
  refine AW.seqR ?_
  refine Chain.runK [] 1 fun K hK => ?_; simp; refine hK _ _ ?_; clear hK K
  refine Chain.sub (S' := mk 20 [] [(0, .d (.lit (.int .i64 a0))), (1, .d (.lit (.int .i64 a1))), (2, .d (.pim [.sl (a2.map cS105)]))] []) (Sub.table (by simp) (by simp)) ?_
  refine Chain.nil ?_
  replace h := bsome h; obtain ⟨v7, hj, h⟩ := h
  refine AW.cutQ (by kernel_rfl) (by kernel_rfl) (mk 20 [] [(5, .d (.lit (.bool v7)))] []) ?_ ?_
  · clear h; have h := hj; clear hj
    refine Chain.runQ 4 fun K hK => ?_; simp; refine hK _ _ ?_; clear hK K
    refine Chain.sub (S' := mk 20 [] [(0, .d (.lit (.int .i64 a0))), (1, .d (.lit (.int .i64 a1))), (2, .d (.pim [.sl (a2.map cS105)])), (9, .d (.lit (.bool (a0 != a1))))] []) (Sub.table (by simp) (by simp)) ?_
    replace h := isome h; rcases h with ⟨c8, h⟩ | ⟨c8, h⟩
    · have c8_ : (a0 != a1) = true := c8
      refine Chain.sub (Sub.bool 9 (b := (a0 != a1)) rfl c8_) ?_
      refine Chain.sub (S' := mk 20 [] [(0, .d (.lit (.int .i64 a0))), (1, .d (.lit (.int .i64 a1))), (2, .d (.pim [.sl (a2.map cS105)])), (9, .d (.lit (.bool true)))] []) (by simp; exact Sub.table (by simp) (by simp)) ?_
      replace h := bsome h; obtain ⟨x9, hx9, h⟩ := h
      obtain ⟨k10, hx9k, hx9, hx9a, hx9b⟩ := idx_some hx9
      replace h := bsome h; obtain ⟨x11, hx11, h⟩ := h
      obtain ⟨k12, hx11k, hx11, hx11a, hx11b⟩ := idx_some hx11
      refine Chain.runQ 8 fun K hK => ?_; simp [hx9, hx9k, hx9a, hx11, hx11k, hx11a]; refine hK _ _ ?_; clear hK K
      refine Chain.sub (S' := mk 20 [] [(9, .d (.lit (.bool true))), (13, .agg [.d (.lit (.int .i64 x9.Start)), .d (.lit (.int .i64 x9.Commit)), .d (.sl (x9.Reads.map cS)), .d (.sl (x9.Writes.map cS))]), (17, .agg [.d (.lit (.int .i64 x11.Start)), .d (.lit (.int .i64 x11.Commit)), .d (.sl (x11.Reads.map cS)), .d (.sl (x11.Writes.map cS))])] []) (Sub.table (by simp) (by simp)) ?_
      replace h := bsome h; obtain ⟨r13, hr13, h⟩ := h
      refine Chain.callL (d := 18) (p45 N x9 x11 r13 hr13) (by simp) rfl rfl (by simp <;> rfl) (by simp <;> rfl) ent45 (by simp <;> rfl) ?_
      refine Chain.sub (S' := mk 20 [] [(9, .d (.lit (.bool true))), (13, .agg [.d (.lit (.int .i64 x9.Start)), .d (.lit (.int .i64 x9.Commit)), .d (.sl (x9.Reads.map cS)), .d (.sl (x9.Writes.map cS))]), (17, .agg [.d (.lit (.int .i64 x11.Start)), .d (.lit (.int .i64 x11.Commit)), .d (.sl (x11.Reads.map cS)), .d (.sl (x11.Writes.map cS))]), (18, .d (.lit (.bool r13)))] []) (by simp; exact Sub.table (by simp) (by simp)) ?_
      refine Chain.runQ 2 fun K hK => ?_; simp; refine hK _ _ ?_; clear hK K
      refine Chain.sub (S' := mk 20 [] [(5, .d (.lit (.bool r13)))] []) (Sub.table (by simp) (by simp)) ?_
      cases h
      exact Chain.nil (Sub.table (by simp) (by simp))
    · have c8_ : (a0 != a1) = false := Bool.eq_false_iff.2 c8
      refine Chain.sub (Sub.bool 9 (b := (a0 != a1)) rfl c8_) ?_
      refine Chain.sub (S' := mk 20 [] [(0, .d (.lit (.int .i64 a0))), (1, .d (.lit (.int .i64 a1))), (2, .d (.pim [.sl (a2.map cS105)])), (9, .d (.lit (.bool false)))] []) (by simp; exact Sub.table (by simp) (by simp)) ?_
      refine Chain.runQ 11 fun K hK => ?_; simp; refine hK _ _ ?_; clear hK K
      refine Chain.sub (S' := mk 20 [] [(5, .d (.lit (.bool false)))] []) (Sub.table (by simp) (by simp)) ?_
      cases h
      exact Chain.nil (Sub.table (by simp) (by simp))
  · clear hj
    refine AW.ret ?_
    cases h
    exact FinC.ret (by simp) (by simp)

/-- slices.Clone[[]int,int] -/
def d64 (_ : Nat) (a0 : (List Int)) : Option (List Int) := if a0.length * 8 ≤ Rp.reach then some a0 else none
theorem p64 (N : Nat) (a0 : (List Int)) (r : (List Int)) (h : d64 N a0 = some r) : FunC Try.prog 64 [.d (.sl (a0.map (cI .i64)))] (.d (.sl (r.map (cI .i64)))) := by
  obtain ⟨hz, h⟩ := gsome h
  cases h
  refine FunC.enter 8 [(0, .d (.sl (a0.map (cI .i64))))] (by simp) Try.func64 rfl (of_decide_eq_true rfl) rfl rfl ?_
  refine AW.goR [] 1 fun K hK => ?_; simp; refine hK _ ?_; clear hK K
  refine AW.seq ?_
  refine AW.seqR ?_
  refine Chain.runK [] 1 fun K hK => ?_; simp; refine hK _ _ ?_; clear hK K
  refine Chain.eqNilE (es := a0.map (cI .i64)) (by simp) rfl ty35 rfl (by simp) (by simp) fun b hb => ?_
  refine Chain.nil ?_
  cases b with
  | true =>
    have he : a0 = [] := by
      cases a0 with
      | nil => rfl
      | cons x xs => exact absurd (hb (by simp)) (by simp)
    subst he
    refine AW.condK fun K1 K2 k1 k2 => ?_; simp; refine k1 ?_; clear k1 k2 K1 K2
    refine AW.goR [] 1 fun K hK => ?_; simp; refine hK _ ?_; clear hK K
    refine AW.sub (Sub.wk 2 rfl) ?_
    refine AW.sub (S' := mk 8 [] [(2, .d (.sl []))] []) (by simp; exact Sub.table (by simp) (by simp)) ?_
    refine AW.ret ?_
    exact thenQ_pass (by simp) (FinC.ret (by simp) (by simp))
  | false =>
    refine AW.condK fun K1 K2 k1 k2 => ?_; simp; refine k2 ?_; clear k1 k2 K1 K2
    refine AW.skip ?_
    refine thenQ_normal ?_
    refine AW.goR [] 4 fun K hK => ?_; simp [hz]; refine hK _ ?_; clear hK K
    refine AW.sub (S' := mk 8 [] [(2, .ref 5 0 a0.length)] [(5, some (.arr 3 1 (a0.map (cI .i64))))]) (Sub.table (by simp) (by simp)) ?_
    refine AW.sub (Sub.freeze 5 rfl) ?_
    refine AW.sub (S' := mk 8 [] [(2, .d (.sl (a0.map (cI .i64))))] []) (by simp; exact Sub.table (by simp) (by simp)) ?_
    refine AW.ret ?_
    exact FinC.ret (by simp) (by simp)

/-- stemma/stemref5.TopologicalOrder -/
def d31 (N : Nat) (a0 : (List Int)) (p1 : Int → Int → Option Bool) : Option ((List Int) × Bool) :=
  (d64 N a0).bind fun r1 =>
  bindO (β := List Int) (ρ := ((List Int) × Bool)) (
    iterN (σ := ((List Int) × (List Int))) (ρ := (Out (List Int) ((List Int) × Bool))) (fun ((l188, l189) : ((List Int) × (List Int))) =>
      if (l188.length : Int) > 0 then (
        Option.bind (α := Int) (
          iterN (σ := Int) (ρ := Int) (fun (v608 : Int) =>
            if v608 < (l188.length : Int) then (
              (idx l188 v608).bind fun x698 =>
              Option.bind (α := Bool) (
                iterN (σ := (Bool × Int)) (ρ := Bool) (fun ((v706, v707) : (Bool × Int)) =>
                  if v707 < (l188.length : Int) then (
                    (idx l188 v707).bind fun x730 =>
                    Option.bind (α := Bool) (
                      if v706 = true then (
                        (p1 x730 x698).bind fun r736 =>
                        some (!r736)
                      ) else
                      some false
                    ) fun (v734 : Bool) =>
                    (chkI (v707 + 1)).bind fun v737 =>
                    some (.inl (v734, v737))
                  ) else
                  some (.inr v706)
                ) N (true, 0)
              ) fun (v728 : Bool) =>
              if v728 = true then (
                some (.inr v608)
              ) else
              (chkI (v608 + 1)).bind fun v739 =>
              some (.inl v739)
            ) else
            some (.inr (-1))
          ) N 0
        ) fun (v696 : Int) =>
        if v696 < 0 then (
          some (.inr (.ret (([] : List Int), false)))
        ) else
        (idx l188 v696).bind fun x741 =>
        (appL 8 l189 [x741]).bind fun l743 =>
        (natI v696 l188.length).bind fun n744 =>
        letv (l188.take n744) fun l745 =>
        (appL 8 ([] : List Int) l745).bind fun l746 =>
        (chkI ((n744 : Int) + 1)).bind fun v747 =>
        (natI v747 l188.length).bind fun n748 =>
        letv (l188.drop n748) fun l749 =>
        (appL 8 (([] : List Int) ++ l745) l749).bind fun l750 =>
        some (.inl (((([] : List Int) ++ l745) ++ l749), (l189 ++ [x741])))
      ) else
      some (.inr (.go l189))
    ) N (r1, ([] : List Int))
  ) fun (l564 : List Int) =>
  some (l564, true)
set_option maxRecDepth 100000 in
set_option maxHeartbeats 4000000 in
theorem p31 (N : Nat) (a0 : (List Int)) (g1 : Nat) (cs1 : List D) (p1 : Int → Int → Option Bool) (ent_1 : Rp.Enters Try.prog g1) (hp1 : ∀ a0 a1 r, p1 a0 a1 = some r → FunC Try.prog g1 ([.d (.lit (.int .i64 a0)), .d (.lit (.int .i64 a1))] ++ cs1.map .d) (.d (.lit (.bool r)))) (r : ((List Int) × Bool)) (h : d31 N a0 p1 = some r) : FunC Try.prog 31 [.d (.sl (a0.map (cI .i64))), .fn (.func g1) (cs1.map .d)] (.tup [.d (.sl (r.1.map (cI .i64))), .d (.lit (.bool r.2))]) := by
  unfold d31 at h
  refine FunC.enter 64 [(0, .d (.sl (a0.map (cI .i64)))), (1, .fn (.func g1) (cs1.map .d))] (by simp) Try.func31 rfl (of_decide_eq_true rfl) rfl rfl ?_
  refine AW.seqR ?_
  refine Chain.runK [] 2 fun K hK => ?_; simp; refine hK _ _ ?_; clear hK K
  refine Chain.sub (S' := mk 64 [] [(0, .d (.sl (a0.map (cI .i64)))), (1, .fn (.func g1) (cs1.map .d))] []) (Sub.table (by simp) (by simp)) ?_
  refine Chain.nil ?_
  refine AW.seqR ?_
  refine Chain.runK [] 1 fun K hK => ?_; simp; refine hK _ _ ?_; clear hK K
  refine Chain.sub (S' := mk 64 [] [(1, .fn (.func g1) (cs1.map .d)), (14, .d (.sl (a0.map (cI .i64))))] []) (Sub.table (by simp) (by simp)) ?_
  replace h := bsome h; obtain ⟨r1, hr1, h⟩ := h
  refine Chain.callC (d := 15) (p64 N a0 r1 hr1) (by simp) rfl rfl (by simp <;> rfl) (by simp <;> rfl) ent64 (by simp) (.inl ⟨by simp, by simp⟩) ?_
  refine Chain.sub (S' := mk 64 [] [(1, .fn (.func g1) (cs1.map .d)), (14, .d (.sl (a0.map (cI .i64)))), (15, .d (.sl (r1.map (cI .i64))))] []) (by simp; exact Sub.table (by simp) (by simp)) ?_
  refine Chain.runK [] 1 fun K hK => ?_; simp; refine hK _ _ ?_; clear hK K
  refine Chain.sub (S' := mk 64 [] [(1, .fn (.func g1) (cs1.map .d)), (6, .d (.sl (r1.map (cI .i64))))] []) (Sub.table (by simp) (by simp)) ?_
  refine Chain.nil ?_
  refine AW.seqR ?_
  refine Chain.runK [] 1 fun K hK => ?_; simp; refine hK _ _ ?_; clear hK K
  refine Chain.sub (S' := mk 64 [] [(1, .fn (.func g1) (cs1.map .d)), (6, .d (.sl (r1.map (cI .i64)))), (7, .d (.lit (.slice none 0 0)))] []) (Sub.table (by simp) (by simp)) ?_
  refine Chain.nil ?_
  refine AW.seqJ (fun (l564 : List Int) => mk 64 [] [(7, .ref 52 0 l564.length)] [(52, some (.arr 3 1 (l564.map (cI .i64))))]) h ?_ ?_ <;> clear h
  · intro o h
    refine AW.block ?_
    refine AW.iter (fun ((l188, l189) : ((List Int) × (List Int))) => mk 64 [] [(1, .fn (.func g1) (cs1.map .d)), (6, .d (.sl (l188.map (cI .i64)))), (7, .ref 52 0 l189.length)] [(52, some (.arr 3 1 (l189.map (cI .i64))))]) h (Sub.trans (Sub.nilOwn (t := 7) (id := 52) (T := 3) (n := 1) rfl rfl (by decide)) (by simp; exact Sub.table (by simp) (by simp))) ?_
    clear h
    rintro ⟨l188, l189⟩ x h
    dsimp only at h ⊢
    refine AW.seq ?_
    refine AW.seqR ?_
    refine Chain.runK [] 3 fun K hK => ?_; simp; refine hK _ _ ?_; clear hK K
    refine Chain.sub (S' := mk 64 [] [(1, .fn (.func g1) (cs1.map .d)), (6, .d (.sl (l188.map (cI .i64)))), (7, .ref 52 0 l189.length), (18, .d (.lit (.bool (decide ((l188.length : Int) > 0)))))] [(52, some (.arr 3 1 (l189.map (cI .i64))))]) (Sub.table (by simp) (by simp)) ?_
    refine Chain.nil ?_
    replace h := isome h; rcases h with ⟨c565, h⟩ | ⟨c565, h⟩
    · have c565_ : decide ((l188.length : Int) > 0) = true := decide_eq_true c565
      refine AW.condT (b := decide ((l188.length : Int) > 0)) rfl c565_ ?_
      refine AW.sub (Sub.bool 18 (b := decide ((l188.length : Int) > 0)) rfl c565_) ?_
      refine AW.sub (S' := mk 64 [] [(1, .fn (.func g1) (cs1.map .d)), (6, .d (.sl (l188.map (cI .i64)))), (7, .ref 52 0 l189.length), (18, .d (.lit (.bool true)))] [(52, some (.arr 3 1 (l189.map (cI .i64))))]) (by simp; exact Sub.table (by simp) (by simp)) ?_
      refine AW.skip ?_
      refine thenQ_normal ?_
      refine AW.block ?_
      refine AW.seqR ?_
      refine Chain.runK [] 1 fun K hK => ?_; simp; refine hK _ _ ?_; clear hK K
      refine Chain.sub (S' := mk 64 [] [(1, .fn (.func g1) (cs1.map .d)), (6, .d (.sl (l188.map (cI .i64)))), (7, .ref 52 0 l189.length), (8, .d (.lit (.int .i64 (-1))))] [(52, some (.arr 3 1 (l189.map (cI .i64))))]) (Sub.table (by simp) (by simp)) ?_
      refine Chain.nil ?_
      refine AW.seq ?_
      refine AW.seqR ?_
      refine Chain.runK [] 3 fun K hK => ?_; simp; refine hK _ _ ?_; clear hK K
      refine Chain.sub (S' := mk 64 [] [(1, .fn (.func g1) (cs1.map .d)), (6, .d (.sl (l188.map (cI .i64)))), (7, .ref 52 0 l189.length), (8, .d (.lit (.int .i64 (-1)))), (19, .d (.sl (l188.map (cI .i64)))), (20, .d (.lit (.int .i64 (l188.length : Int)))), (21, .d (.lit (.int .i64 0)))] [(52, some (.arr 3 1 (l189.map (cI .i64))))]) (Sub.table (by simp) (by simp)) ?_
      refine Chain.nil ?_
      refine AW.lastN (fun (v696 : Int) => mk 64 [] [(1, .fn (.func g1) (cs1.map .d)), (6, .d (.sl (l188.map (cI .i64)))), (7, .ref 52 0 l189.length), (8, .d (.lit (.int .i64 v696)))] [(52, some (.arr 3 1 (l189.map (cI .i64))))]) h ?_ ?_ <;> clear h
      · intro o h
        refine AW.block ?_
        refine AW.iter (fun (v608 : Int) => mk 64 [] [(1, .fn (.func g1) (cs1.map .d)), (6, .d (.sl (l188.map (cI .i64)))), (7, .ref 52 0 l189.length), (8, .d (.lit (.int .i64 (-1)))), (19, .d (.sl (l188.map (cI .i64)))), (20, .d (.lit (.int .i64 (l188.length : Int)))), (21, .d (.lit (.int .i64 v608)))] [(52, some (.arr 3 1 (l189.map (cI .i64))))]) h (Sub.table (by simp) (by simp)) ?_
        clear h
        rintro v608 x h
        refine AW.seqR ?_
        refine Chain.runK [] 1 fun K hK => ?_; simp; refine hK _ _ ?_; clear hK K
        refine Chain.sub (S' := mk 64 [] [(1, .fn (.func g1) (cs1.map .d)), (6, .d (.sl (l188.map (cI .i64)))), (7, .ref 52 0 l189.length), (8, .d (.lit (.int .i64 (-1)))), (19, .d (.sl (l188.map (cI .i64)))), (20, .d (.lit (.int .i64 (l188.length : Int)))), (21, .d (.lit (.int .i64 v608))), (22, .d (.lit (.bool (decide (v608 < (l188.length : Int))))))] [(52, some (.arr 3 1 (l189.map (cI .i64))))]) (Sub.table (by simp) (by simp)) ?_
        refine Chain.nil ?_
        refine AW.seq ?_
        replace h := isome h; rcases h with ⟨c697, h⟩ | ⟨c697, h⟩
        · have c697_ : decide (v608 < (l188.length : Int)) = true := decide_eq_true c697
          refine AW.condT (b := decide (v608 < (l188.length : Int))) rfl c697_ ?_
          refine AW.sub (Sub.bool 22 (b := decide (v608 < (l188.length : Int))) rfl c697_) ?_
          refine AW.sub (S' := mk 64 [] [(1, .fn (.func g1) (cs1.map .d)), (6, .d (.sl (l188.map (cI .i64)))), (7, .ref 52 0 l189.length), (8, .d (.lit (.int .i64 (-1)))), (19, .d (.sl (l188.map (cI .i64)))), (20, .d (.lit (.int .i64 (l188.length : Int)))), (21, .d (.lit (.int .i64 v608))), (22, .d (.lit (.bool true)))] [(52, some (.arr 3 1 (l189.map (cI .i64))))]) (by simp; exact Sub.table (by simp) (by simp)) ?_
          refine AW.skip ?_
          refine thenQ_normal ?_
          refine AW.seq ?_
          refine AW.block ?_
          refine AW.seqR ?_
          replace h := bsome h; obtain ⟨x698, hx698, h⟩ := h
          obtain ⟨k699, hx698k, hx698, hx698a, hx698b⟩ := idx_some hx698
          refine Chain.runK [] 5 fun K hK => ?_; simp [hx698, hx698k, hx698a]; refine hK _ _ ?_; clear hK K
          refine Chain.sub (S' := mk 64 [] [(1, .fn (.func g1) (cs1.map .d)), (6, .d (.sl (l188.map (cI .i64)))), (7, .ref 52 0 l189.length), (8, .d (.lit (.int .i64 (-1)))), (9, .d (.lit (.int .i64 v608))), (10, .d (.lit (.int .i64 x698))), (19, .d (.sl (l188.map (cI .i64)))), (20, .d (.lit (.int .i64 (l188.length : Int)))), (21, .d (.lit (.int .i64 v608)))] [(52, some (.arr 3 1 (l189.map (cI .i64))))]) (Sub.table (by simp) (by simp)) ?_
          refine Chain.nil ?_
          refine AW.seqR ?_
          refine Chain.runK [] 1 fun K hK => ?_; simp; refine hK _ _ ?_; clear hK K
          refine Chain.sub (S' := mk 64 [] [(1, .fn (.func g1) (cs1.map .d)), (6, .d (.sl (l188.map (cI .i64)))), (7, .ref 52 0 l189.length), (8, .d (.lit (.int .i64 (-1)))), (9, .d (.lit (.int .i64 v608))), (10, .d (.lit (.int .i64 x698))), (11, .d (.lit (.bool true))), (19, .d (.sl (l188.map (cI .i64)))), (20, .d (.lit (.int .i64 (l188.length : Int)))), (21, .d (.lit (.int .i64 v608)))] [(52, some (.arr 3 1 (l189.map (cI .i64))))]) (Sub.table (by simp) (by simp)) ?_
          refine Chain.nil ?_
          refine AW.seq ?_
          refine AW.seqR ?_
          refine Chain.runK [] 3 fun K hK => ?_; simp; refine hK _ _ ?_; clear hK K
          refine Chain.sub (S' := mk 64 [] [(1, .fn (.func g1) (cs1.map .d)), (6, .d (.sl (l188.map (cI .i64)))), (7, .ref 52 0 l189.length), (8, .d (.lit (.int .i64 (-1)))), (9, .d (.lit (.int .i64 v608))), (10, .d (.lit (.int .i64 x698))), (11, .d (.lit (.bool true))), (19, .d (.sl (l188.map (cI .i64)))), (20, .d (.lit (.int .i64 (l188.length : Int)))), (21, .d (.lit (.int .i64 v608))), (26, .d (.sl (l188.map (cI .i64)))), (27, .d (.lit (.int .i64 (l188.length : Int)))), (28, .d (.lit (.int .i64 0)))] [(52, some (.arr 3 1 (l189.map (cI .i64))))]) (Sub.table (by simp) (by simp)) ?_
          refine Chain.nil ?_
          refine AW.lastN (fun (v728 : Bool) => mk 64 [] [(1, .fn (.func g1) (cs1.map .d)), (6, .d (.sl (l188.map (cI .i64)))), (7, .ref 52 0 l189.length), (8, .d (.lit (.int .i64 (-1)))), (9, .d (.lit (.int .i64 v608))), (11, .d (.lit (.bool v728))), (19, .d (.sl (l188.map (cI .i64)))), (20, .d (.lit (.int .i64 (l188.length : Int)))), (21, .d (.lit (.int .i64 v608)))] [(52, some (.arr 3 1 (l189.map (cI .i64))))]) h ?_ ?_ <;> clear h
          · intro o h
            refine AW.block ?_
            refine AW.iter (fun ((v706, v707) : (Bool × Int)) => mk 64 [] [(1, .fn (.func g1) (cs1.map .d)), (6, .d (.sl (l188.map (cI .i64)))), (7, .ref 52 0 l189.length), (8, .d (.lit (.int .i64 (-1)))), (9, .d (.lit (.int .i64 v608))), (10, .d (.lit (.int .i64 x698))), (11, .d (.lit (.bool v706))), (19, .d (.sl (l188.map (cI .i64)))), (20, .d (.lit (.int .i64 (l188.length : Int)))), (21, .d (.lit (.int .i64 v608))), (26, .d (.sl (l188.map (cI .i64)))), (27, .d (.lit (.int .i64 (l188.length : Int)))), (28, .d (.lit (.int .i64 v707)))] [(52, some (.arr 3 1 (l189.map (cI .i64))))]) h (Sub.table (by simp) (by simp)) ?_
            clear h
            rintro ⟨v706, v707⟩ x h
            dsimp only at h ⊢
            refine AW.seqR ?_
            refine Chain.runK [] 1 fun K hK => ?_; simp; refine hK _ _ ?_; clear hK K
            refine Chain.sub (S' := mk 64 [] [(1, .fn (.func g1) (cs1.map .d)), (6, .d (.sl (l188.map (cI .i64)))), (7, .ref 52 0 l189.length), (8, .d (.lit (.int .i64 (-1)))), (9, .d (.lit (.int .i64 v608))), (10, .d (.lit (.int .i64 x698))), (11, .d (.lit (.bool v706))), (19, .d (.sl (l188.map (cI .i64)))), (20, .d (.lit (.int .i64 (l188.length : Int)))), (21, .d (.lit (.int .i64 v608))), (26, .d (.sl (l188.map (cI .i64)))), (27, .d (.lit (.int .i64 (l188.length : Int)))), (28, .d (.lit (.int .i64 v707))), (29, .d (.lit (.bool (decide (v707 < (l188.length : Int))))))] [(52, some (.arr 3 1 (l189.map (cI .i64))))]) (Sub.table (by simp) (by simp)) ?_
            refine Chain.nil ?_
            refine AW.seq ?_
            replace h := isome h; rcases h with ⟨c729, h⟩ | ⟨c729, h⟩
            · have c729_ : decide (v707 < (l188.length : Int)) = true := decide_eq_true c729
              refine AW.condT (b := decide (v707 < (l188.length : Int))) rfl c729_ ?_
              refine AW.sub (Sub.bool 29 (b := decide (v707 < (l188.length : Int))) rfl c729_) ?_
              refine AW.sub (S' := mk 64 [] [(1, .fn (.func g1) (cs1.map .d)), (6, .d (.sl (l188.map (cI .i64)))), (7, .ref 52 0 l189.length), (8, .d (.lit (.int .i64 (-1)))), (9, .d (.lit (.int .i64 v608))), (10, .d (.lit (.int .i64 x698))), (11, .d (.lit (.bool v706))), (19, .d (.sl (l188.map (cI .i64)))), (20, .d (.lit (.int .i64 (l188.length : Int)))), (21, .d (.lit (.int .i64 v608))), (26, .d (.sl (l188.map (cI .i64)))), (27, .d (.lit (.int .i64 (l188.length : Int)))), (28, .d (.lit (.int .i64 v707))), (29, .d (.lit (.bool true)))] [(52, some (.arr 3 1 (l189.map (cI .i64))))]) (by simp; exact Sub.table (by simp) (by simp)) ?_
              refine AW.skip ?_
              refine thenQ_normal ?_
              refine AW.seq ?_
              refine AW.block ?_
              refine AW.seqR ?_
              replace h := bsome h; obtain ⟨x730, hx730, h⟩ := h
              obtain ⟨k731, hx730k, hx730, hx730a, hx730b⟩ := idx_some hx730
              refine Chain.runK [] 3 fun K hK => ?_; simp [hx730, hx730k, hx730a]; refine hK _ _ ?_; clear hK K
              refine Chain.sub (S' := mk 64 [] [(1, .fn (.func g1) (cs1.map .d)), (6, .d (.sl (l188.map (cI .i64)))), (7, .ref 52 0 l189.length), (8, .d (.lit (.int .i64 (-1)))), (9, .d (.lit (.int .i64 v608))), (10, .d (.lit (.int .i64 x698))), (11, .d (.lit (.bool v706))), (13, .d (.lit (.int .i64 x730))), (19, .d (.sl (l188.map (cI .i64)))), (20, .d (.lit (.int .i64 (l188.length : Int)))), (21, .d (.lit (.int .i64 v608))), (26, .d (.sl (l188.map (cI .i64)))), (27, .d (.lit (.int .i64 (l188.length : Int)))), (28, .d (.lit (.int .i64 v707)))] [(52, some (.arr 3 1 (l189.map (cI .i64))))]) (Sub.table (by simp) (by simp)) ?_
              refine Chain.nil ?_
              replace h := bsome h; obtain ⟨v734, hj, h⟩ := h
              refine AW.region (Chain.cut (mk 64 [] [(1, .fn (.func g1) (cs1.map .d)), (6, .d (.sl (l188.map (cI .i64)))), (7, .ref 52 0 l189.length), (8, .d (.lit (.int .i64 (-1)))), (9, .d (.lit (.int .i64 v608))), (10, .d (.lit (.int .i64 x698))), (11, .d (.lit (.bool v734))), (19, .d (.sl (l188.map (cI .i64)))), (20, .d (.lit (.int .i64 (l188.length : Int)))), (21, .d (.lit (.int .i64 v608))), (26, .d (.sl (l188.map (cI .i64)))), (27, .d (.lit (.int .i64 (l188.length : Int)))), (28, .d (.lit (.int .i64 v707)))] [(52, some (.arr 3 1 (l189.map (cI .i64))))]) ?_ fun S' hS => ?_)
              · clear h; have h := hj; clear hj
                refine Chain.runK [] 2 fun K hK => ?_; simp; refine hK _ _ ?_; clear hK K
                refine Chain.sub (S' := mk 64 [] [(1, .fn (.func g1) (cs1.map .d)), (6, .d (.sl (l188.map (cI .i64)))), (7, .ref 52 0 l189.length), (8, .d (.lit (.int .i64 (-1)))), (9, .d (.lit (.int .i64 v608))), (10, .d (.lit (.int .i64 x698))), (13, .d (.lit (.int .i64 x730))), (19, .d (.sl (l188.map (cI .i64)))), (20, .d (.lit (.int .i64 (l188.length : Int)))), (21, .d (.lit (.int .i64 v608))), (26, .d (.sl (l188.map (cI .i64)))), (27, .d (.lit (.int .i64 (l188.length : Int)))), (28, .d (.lit (.int .i64 v707))), (33, .d (.lit (.bool v706)))] [(52, some (.arr 3 1 (l189.map (cI .i64))))]) (Sub.table (by simp) (by simp)) ?_
                replace h := isome h; rcases h with ⟨c735, h⟩ | ⟨c735, h⟩
                · have c735_ : v706 = true := c735
                  refine Chain.sub (Sub.bool 33 (b := v706) rfl c735_) ?_
                  refine Chain.sub (S' := mk 64 [] [(1, .fn (.func g1) (cs1.map .d)), (6, .d (.sl (l188.map (cI .i64)))), (7, .ref 52 0 l189.length), (8, .d (.lit (.int .i64 (-1)))), (9, .d (.lit (.int .i64 v608))), (10, .d (.lit (.int .i64 x698))), (13, .d (.lit (.int .i64 x730))), (19, .d (.sl (l188.map (cI .i64)))), (20, .d (.lit (.int .i64 (l188.length : Int)))), (21, .d (.lit (.int .i64 v608))), (26, .d (.sl (l188.map (cI .i64)))), (27, .d (.lit (.int .i64 (l188.length : Int)))), (28, .d (.lit (.int .i64 v707))), (33, .d (.lit (.bool true)))] [(52, some (.arr 3 1 (l189.map (cI .i64))))]) (by simp; exact Sub.table (by simp) (by simp)) ?_
                  refine Chain.runK [] 3 fun K hK => ?_; simp; refine hK _ _ ?_; clear hK K
                  refine Chain.sub (S' := mk 64 [] [(1, .fn (.func g1) (cs1.map .d)), (6, .d (.sl (l188.map (cI .i64)))), (7, .ref 52 0 l189.length), (8, .d (.lit (.int .i64 (-1)))), (9, .d (.lit (.int .i64 v608))), (10, .d (.lit (.int .i64 x698))), (19, .d (.sl (l188.map (cI .i64)))), (20, .d (.lit (.int .i64 (l188.length : Int)))), (21, .d (.lit (.int .i64 v608))), (26, .d (.sl (l188.map (cI .i64)))), (27, .d (.lit (.int .i64 (l188.length : Int)))), (28, .d (.lit (.int .i64 v707))), (33, .d (.lit (.bool true))), (34, .fn (.func g1) (cs1.map .d)), (35, .d (.lit (.int .i64 x730))), (36, .d (.lit (.int .i64 x698)))] [(52, some (.arr 3 1 (l189.map (cI .i64))))]) (Sub.table (by simp) (by simp)) ?_
                  replace h := bsome h; obtain ⟨r736, hr736, h⟩ := h
                  refine Chain.callL (d := 37) (hp1 x730 x698 r736 hr736) (by simp) rfl rfl (by simp <;> rfl) (by simp <;> rfl) ent_1 (by simp <;> rfl) ?_
                  refine Chain.sub (S' := mk 64 [] [(1, .fn (.func g1) (cs1.map .d)), (6, .d (.sl (l188.map (cI .i64)))), (7, .ref 52 0 l189.length), (8, .d (.lit (.int .i64 (-1)))), (9, .d (.lit (.int .i64 v608))), (10, .d (.lit (.int .i64 x698))), (19, .d (.sl (l188.map (cI .i64)))), (20, .d (.lit (.int .i64 (l188.length : Int)))), (21, .d (.lit (.int .i64 v608))), (26, .d (.sl (l188.map (cI .i64)))), (27, .d (.lit (.int .i64 (l188.length : Int)))), (28, .d (.lit (.int .i64 v707))), (33, .d (.lit (.bool true))), (34, .fn (.func g1) (cs1.map .d)), (35, .d (.lit (.int .i64 x730))), (36, .d (.lit (.int .i64 x698))), (37, .d (.lit (.bool r736)))] [(52, some (.arr 3 1 (l189.map (cI .i64))))]) (by simp; exact Sub.table (by simp) (by simp)) ?_
                  refine Chain.runK [] 3 fun K hK => ?_; simp; refine hK _ _ ?_; clear hK K
                  refine Chain.sub (S' := mk 64 [] [(1, .fn (.func g1) (cs1.map .d)), (6, .d (.sl (l188.map (cI .i64)))), (7, .ref 52 0 l189.length), (8, .d (.lit (.int .i64 (-1)))), (9, .d (.lit (.int .i64 v608))), (10, .d (.lit (.int .i64 x698))), (11, .d (.lit (.bool (!r736)))), (19, .d (.sl (l188.map (cI .i64)))), (20, .d (.lit (.int .i64 (l188.length : Int)))), (21, .d (.lit (.int .i64 v608))), (26, .d (.sl (l188.map (cI .i64)))), (27, .d (.lit (.int .i64 (l188.length : Int)))), (28, .d (.lit (.int .i64 v707))), (34, .fn (.func g1) (cs1.map .d)), (35, .d (.lit (.int .i64 x730))), (36, .d (.lit (.int .i64 x698))), (37, .d (.lit (.bool r736))), (38, .d (.lit (.bool (!r736))))] [(52, some (.arr 3 1 (l189.map (cI .i64))))]) (Sub.table (by simp) (by simp)) ?_
                  cases h
                  exact Chain.nil (Sub.table (by simp) (by simp))
                · have c735_ : v706 = false := Bool.eq_false_iff.2 c735
                  refine Chain.sub (Sub.bool 33 (b := v706) rfl c735_) ?_
                  refine Chain.sub (S' := mk 64 [] [(1, .fn (.func g1) (cs1.map .d)), (6, .d (.sl (l188.map (cI .i64)))), (7, .ref 52 0 l189.length), (8, .d (.lit (.int .i64 (-1)))), (9, .d (.lit (.int .i64 v608))), (10, .d (.lit (.int .i64 x698))), (13, .d (.lit (.int .i64 x730))), (19, .d (.sl (l188.map (cI .i64)))), (20, .d (.lit (.int .i64 (l188.length : Int)))), (21, .d (.lit (.int .i64 v608))), (26, .d (.sl (l188.map (cI .i64)))), (27, .d (.lit (.int .i64 (l188.length : Int)))), (28, .d (.lit (.int .i64 v707))), (33, .d (.lit (.bool false)))] [(52, some (.arr 3 1 (l189.map (cI .i64))))]) (by simp; exact Sub.table (by simp) (by simp)) ?_
                  refine Chain.runK [] 7 fun K hK => ?_; simp; refine hK _ _ ?_; clear hK K
                  refine Chain.sub (S' := mk 64 [] [(1, .fn (.func g1) (cs1.map .d)), (6, .d (.sl (l188.map (cI .i64)))), (7, .ref 52 0 l189.length), (8, .d (.lit (.int .i64 (-1)))), (9, .d (.lit (.int .i64 v608))), (10, .d (.lit (.int .i64 x698))), (11, .d (.lit (.bool false))), (19, .d (.sl (l188.map (cI .i64)))), (20, .d (.lit (.int .i64 (l188.length : Int)))), (21, .d (.lit (.int .i64 v608))), (26, .d (.sl (l188.map (cI .i64)))), (27, .d (.lit (.int .i64 (l188.length : Int)))), (28, .d (.lit (.int .i64 v707))), (34, .tup []), (35, .tup []), (36, .tup []), (37, .tup []), (38, .tup [])] [(52, some (.arr 3 1 (l189.map (cI .i64))))]) (Sub.table (by simp) (by simp)) ?_
                  cases h
                  exact Chain.nil (Sub.table (by simp) (by simp))
              · clear hj
                refine blockQ.normal ?_
                refine thenQ_normal ?_
                refine AW.sub hS ?_
                refine AW.region ?_
                replace h := bsome h; obtain ⟨v737, hv737, h⟩ := h
                have hv737 := chkI_some hv737
                refine Chain.runK [] 2 fun K hK => ?_; simp [hv737]; refine hK _ _ ?_; clear hK K
                refine Chain.sub (S' := mk 64 [] [(1, .fn (.func g1) (cs1.map .d)), (6, .d (.sl (l188.map (cI .i64)))), (7, .ref 52 0 l189.length), (8, .d (.lit (.int .i64 (-1)))), (9, .d (.lit (.int .i64 v608))), (10, .d (.lit (.int .i64 x698))), (11, .d (.lit (.bool v734))), (19, .d (.sl (l188.map (cI .i64)))), (20, .d (.lit (.int .i64 (l188.length : Int)))), (21, .d (.lit (.int .i64 v608))), (26, .d (.sl (l188.map (cI .i64)))), (27, .d (.lit (.int .i64 (l188.length : Int)))), (28, .d (.lit (.int .i64 v737)))] [(52, some (.arr 3 1 (l189.map (cI .i64))))]) (Sub.table (by simp) (by simp)) ?_
                refine Chain.nil ?_
                cases h
                refine PostI.next ?_
                exact (Sub.table (by simp) (by simp))
            · have c729_ : decide (v707 < (l188.length : Int)) = false := decide_eq_false c729
              refine AW.condF (b := decide (v707 < (l188.length : Int))) rfl c729_ ?_
              refine AW.sub (Sub.bool 29 (b := decide (v707 < (l188.length : Int))) rfl c729_) ?_
              refine AW.sub (S' := mk 64 [] [(1, .fn (.func g1) (cs1.map .d)), (6, .d (.sl (l188.map (cI .i64)))), (7, .ref 52 0 l189.length), (8, .d (.lit (.int .i64 (-1)))), (9, .d (.lit (.int .i64 v608))), (10, .d (.lit (.int .i64 x698))), (11, .d (.lit (.bool v706))), (19, .d (.sl (l188.map (cI .i64)))), (20, .d (.lit (.int .i64 (l188.length : Int)))), (21, .d (.lit (.int .i64 v608))), (26, .d (.sl (l188.map (cI .i64)))), (27, .d (.lit (.int .i64 (l188.length : Int)))), (28, .d (.lit (.int .i64 v707))), (29, .d (.lit (.bool false)))] [(52, some (.arr 3 1 (l189.map (cI .i64))))]) (by simp; exact Sub.table (by simp) (by simp)) ?_
              refine AW.exit ?_
              cases h
              refine thenQ_pass (by simp) ?_
              refine PostI.out (by simp) ?_
              rintro rfl
              refine blockQ.hit ?_
              refine PostN.next ?_
              exact (Sub.table (by simp) (by simp))
          · rintro v728 h
            refine thenQ_normal ?_
            refine AW.seqR ?_
            refine Chain.runK [] 1 fun K hK => ?_; simp; refine hK _ _ ?_; clear hK K
            refine Chain.sub (S' := mk 64 [] [(1, .fn (.func g1) (cs1.map .d)), (6, .d (.sl (l188.map (cI .i64)))), (7, .ref 52 0 l189.length), (8, .d (.lit (.int .i64 (-1)))), (9, .d (.lit (.int .i64 v608))), (19, .d (.sl (l188.map (cI .i64)))), (20, .d (.lit (.int .i64 (l188.length : Int)))), (21, .d (.lit (.int .i64 v608))), (41, .d (.lit (.bool v728)))] [(52, some (.arr 3 1 (l189.map (cI .i64))))]) (Sub.table (by simp) (by simp)) ?_
            refine Chain.nil ?_
            replace h := isome h; rcases h with ⟨c738, h⟩ | ⟨c738, h⟩
            · have c738_ : v728 = true := c738
              refine AW.condT (b := v728) rfl c738_ ?_
              refine AW.sub (Sub.bool 41 (b := v728) rfl c738_) ?_
              refine AW.sub (S' := mk 64 [] [(1, .fn (.func g1) (cs1.map .d)), (6, .d (.sl (l188.map (cI .i64)))), (7, .ref 52 0 l189.length), (8, .d (.lit (.int .i64 (-1)))), (9, .d (.lit (.int .i64 v608))), (19, .d (.sl (l188.map (cI .i64)))), (20, .d (.lit (.int .i64 (l188.length : Int)))), (21, .d (.lit (.int .i64 v608))), (41, .d (.lit (.bool true)))] [(52, some (.arr 3 1 (l189.map (cI .i64))))]) (by simp; exact Sub.table (by simp) (by simp)) ?_
              refine AW.seqR ?_
              refine Chain.runK [] 2 fun K hK => ?_; simp; refine hK _ _ ?_; clear hK K
              refine Chain.sub (S' := mk 64 [] [(1, .fn (.func g1) (cs1.map .d)), (6, .d (.sl (l188.map (cI .i64)))), (7, .ref 52 0 l189.length), (8, .d (.lit (.int .i64 v608)))] [(52, some (.arr 3 1 (l189.map (cI .i64))))]) (Sub.table (by simp) (by simp)) ?_
              refine Chain.nil ?_
              refine AW.exit ?_
              cases h
              refine blockQ.pass (by decide) ?_
              refine thenQ_pass (by simp) ?_
              refine PostI.out (by simp) ?_
              rintro rfl
              refine blockQ.hit ?_
              refine PostN.next ?_
              exact (Sub.table (by simp) (by simp))
            · have c738_ : v728 = false := Bool.eq_false_iff.2 c738
              refine AW.condF (b := v728) rfl c738_ ?_
              refine AW.sub (Sub.bool 41 (b := v728) rfl c738_) ?_
              refine AW.sub (S' := mk 64 [] [(1, .fn (.func g1) (cs1.map .d)), (6, .d (.sl (l188.map (cI .i64)))), (7, .ref 52 0 l189.length), (8, .d (.lit (.int .i64 (-1)))), (9, .d (.lit (.int .i64 v608))), (19, .d (.sl (l188.map (cI .i64)))), (20, .d (.lit (.int .i64 (l188.length : Int)))), (21, .d (.lit (.int .i64 v608))), (41, .d (.lit (.bool false)))] [(52, some (.arr 3 1 (l189.map (cI .i64))))]) (by simp; exact Sub.table (by simp) (by simp)) ?_
              refine AW.skip ?_
              refine blockQ.normal ?_
              refine thenQ_normal ?_
              refine AW.region ?_
              replace h := bsome h; obtain ⟨v739, hv739, h⟩ := h
              have hv739 := chkI_some hv739
              refine Chain.runK [] 2 fun K hK => ?_; simp [hv739]; refine hK _ _ ?_; clear hK K
              refine Chain.sub (S' := mk 64 [] [(1, .fn (.func g1) (cs1.map .d)), (6, .d (.sl (l188.map (cI .i64)))), (7, .ref 52 0 l189.length), (8, .d (.lit (.int .i64 (-1)))), (19, .d (.sl (l188.map (cI .i64)))), (20, .d (.lit (.int .i64 (l188.length : Int)))), (21, .d (.lit (.int .i64 v739)))] [(52, some (.arr 3 1 (l189.map (cI .i64))))]) (Sub.table (by simp) (by simp)) ?_
              refine Chain.nil ?_
              cases h
              refine PostI.next ?_
              exact (Sub.table (by simp) (by simp))
        · have c697_ : decide (v608 < (l188.length : Int)) = false := decide_eq_false c697
          refine AW.condF (b := decide (v608 < (l188.length : Int))) rfl c697_ ?_
          refine AW.sub (Sub.bool 22 (b := decide (v608 < (l188.length : Int))) rfl c697_) ?_
          refine AW.sub (S' := mk 64 [] [(1, .fn (.func g1) (cs1.map .d)), (6, .d (.sl (l188.map (cI .i64)))), (7, .ref 52 0 l189.length), (8, .d (.lit (.int .i64 (-1)))), (19, .d (.sl (l188.map (cI .i64)))), (20, .d (.lit (.int .i64 (l188.length : Int)))), (21, .d (.lit (.int .i64 v608))), (22, .d (.lit (.bool false)))] [(52, some (.arr 3 1 (l189.map (cI .i64))))]) (by simp; exact Sub.table (by simp) (by simp)) ?_
          refine AW.exit ?_
          cases h
          refine thenQ_pass (by simp) ?_
          refine PostI.out (by simp) ?_
          rintro rfl
          refine blockQ.hit ?_
          refine PostN.next ?_
          exact (Sub.table (by simp) (by simp))
      · rintro v696 h
        refine thenQ_normal ?_
        refine AW.seq ?_
        refine AW.seqR ?_
        refine Chain.runK [] 2 fun K hK => ?_; simp; refine hK _ _ ?_; clear hK K
        refine Chain.sub (S' := mk 64 [] [(1, .fn (.func g1) (cs1.map .d)), (6, .d (.sl (l188.map (cI .i64)))), (7, .ref 52 0 l189.length), (8, .d (.lit (.int .i64 v696))), (45, .d (.lit (.bool (decide (v696 < 0)))))] [(52, some (.arr 3 1 (l189.map (cI .i64))))]) (Sub.table (by simp) (by simp)) ?_
        refine Chain.nil ?_
        replace h := isome h; rcases h with ⟨c740, h⟩ | ⟨c740, h⟩
        · have c740_ : decide (v696 < 0) = true := decide_eq_true c740
          refine AW.condT (b := decide (v696 < 0)) rfl c740_ ?_
          refine AW.sub (Sub.bool 45 (b := decide (v696 < 0)) rfl c740_) ?_
          refine AW.sub (S' := mk 64 [] [(1, .fn (.func g1) (cs1.map .d)), (6, .d (.sl (l188.map (cI .i64)))), (7, .ref 52 0 l189.length), (8, .d (.lit (.int .i64 v696))), (45, .d (.lit (.bool true)))] [(52, some (.arr 3 1 (l189.map (cI .i64))))]) (by simp; exact Sub.table (by simp) (by simp)) ?_
          refine AW.seqR ?_
          refine Chain.runK [] 2 fun K hK => ?_; simp; refine hK _ _ ?_; clear hK K
          refine Chain.sub (S' := mk 64 [] [(4, .d (.lit (.slice none 0 0))), (5, .d (.lit (.bool false)))] []) (Sub.table (by simp) (by simp)) ?_
          refine Chain.nil ?_
          refine AW.sub (Sub.wk 4 rfl) ?_
          refine AW.sub (S' := mk 64 [] [(4, .d (.sl (([] : List Int).map (cI .i64)))), (5, .d (.lit (.bool false)))] []) (by simp; exact Sub.table (by simp) (by simp)) ?_
          refine AW.ret ?_
          cases h
          refine thenQ_pass (by simp) ?_
          refine blockQ.ret ?_
          refine PostI.out (by simp) ?_
          rintro rfl
          refine blockQ.ret ?_
          refine PostJ.out (by simp) ?_
          rintro rfl
          exact FinC.ret (by simp) (by simp)
        · have c740_ : decide (v696 < 0) = false := decide_eq_false c740
          refine AW.condF (b := decide (v696 < 0)) rfl c740_ ?_
          refine AW.sub (Sub.bool 45 (b := decide (v696 < 0)) rfl c740_) ?_
          refine AW.sub (S' := mk 64 [] [(1, .fn (.func g1) (cs1.map .d)), (6, .d (.sl (l188.map (cI .i64)))), (7, .ref 52 0 l189.length), (8, .d (.lit (.int .i64 v696))), (45, .d (.lit (.bool false)))] [(52, some (.arr 3 1 (l189.map (cI .i64))))]) (by simp; exact Sub.table (by simp) (by simp)) ?_
          refine AW.skip ?_
          refine thenQ_normal ?_
          refine AW.seqR ?_
          replace h := bsome h; obtain ⟨x741, hx741, h⟩ := h
          obtain ⟨k742, hx741k, hx741, hx741a, hx741b⟩ := idx_some hx741
          replace h := bsome h; obtain ⟨l743, hl743, h⟩ := h
          obtain ⟨hl743a, hl743⟩ := appL_some hl743
          subst hl743
          try simp only [List.length_append, List.length_cons, List.length_nil, Nat.zero_add] at hl743a
          refine Chain.runK [51] 8 fun K hK => ?_; simp [hx741, hx741k, hx741a, hl743a]; refine hK _ _ ?_; clear hK K
          refine Chain.sub (S' := mk 64 [] [(1, .fn (.func g1) (cs1.map .d)), (6, .d (.sl (l188.map (cI .i64)))), (7, .ref 52 0 ((l189 ++ [x741]).length)), (8, .d (.lit (.int .i64 v696)))] [(52, some (.arr 3 1 ((l189 ++ [x741]).map (cI .i64))))]) (Sub.table (by simp) (by simp)) ?_
          refine Chain.nil ?_
          replace h := bsome h; obtain ⟨n744, gn744, h⟩ := h
          obtain ⟨hn744a, hn744⟩ := natI_some gn744
          clear gn744
          subst hn744a
          replace h := lsome h; obtain ⟨l745, gl745, h⟩ := h
          have hl745 : ((l188.map (cI .i64)).take n744) = l745.map (cI .i64) := by rw [← gl745]; simp
          clear gl745
          replace h := bsome h; obtain ⟨l746, hl746, h⟩ := h
          obtain ⟨hl746a, hl746⟩ := appL_some hl746
          subst hl746
          try simp only [List.length_append, List.length_cons, List.length_nil, Nat.zero_add] at hl746a
          replace h := bsome h; obtain ⟨v747, hv747, h⟩ := h
          have hv747 := chkI_some hv747
          replace h := bsome h; obtain ⟨n748, gn748, h⟩ := h
          obtain ⟨hn748a, hn748⟩ := natI_some gn748
          clear gn748
          subst hn748a
          replace h := lsome h; obtain ⟨l749, gl749, h⟩ := h
          have hl749 : ((l188.map (cI .i64)).drop n748) = l749.map (cI .i64) := by rw [← gl749]; simp
          clear gl749
          replace h := bsome h; obtain ⟨l750, hl750, h⟩ := h
          obtain ⟨hl750a, hl750⟩ := appL_some hl750
          subst hl750
          try simp only [List.length_append, List.length_cons, List.length_nil, Nat.zero_add] at hl750a
          refine AW.lastAnyS [[], [], [], [1, 2], [0, 1, 2, 3], [], [], [6], [5, 6, 7], [0, 1, 2, 3, 4, 5, 6, 7, 8], [0, 1, 2, 3, 4, 5, 6, 7, 8, 9]] (fun (b : Nat → Bool) => mk 64 [] [(1, .fn (.func g1) (cs1.map .d)), (6, (if b 10 then .ref 53 0 (((([] : List Int) ++ l745) ++ l749).length) else .d (.sl (l188.map (cI .i64))))), (7, .ref 52 0 ((l189 ++ [x741]).length)), (8, .d (.lit (.int .i64 (n744 : Int)))), (53, (if b 4 then .junk else (if b 0 then .ref 53 0 (([] : List Int).length) else .junk))), (54, (if b 1 then .d (.sl (l188.map (cI .i64))) else .junk)), (55, (if b 2 then .d (.lit (.int .i64 (n744 : Int))) else .junk)), (56, (if b 3 then .d (.sl (l745.map (cI .i64))) else .junk)), (57, (if b 9 then .junk else (if b 4 then .ref 53 0 ((([] : List Int) ++ l745).length) else .junk))), (58, (if b 5 then .d (.sl (l188.map (cI .i64))) else .junk)), (59, (if b 6 then .d (.lit (.int .i64 (n744 : Int))) else .junk)), (60, (if b 7 then .d (.lit (.int .i64 (n748 : Int))) else .junk)), (61, (if b 8 then .d (.sl (l749.map (cI .i64))) else .junk)), (62, (if b 9 then .ref 53 0 (((([] : List Int) ++ l745) ++ l749).length) else .junk))] [(52, some (.arr 3 1 ((l189 ++ [x741]).map (cI .i64)))), (53, (if b 9 then some (.arr 3 1 (((([] : List Int) ++ l745) ++ l749).map (cI .i64))) else (if b 4 then some (.arr 3 1 ((([] : List Int) ++ l745).map (cI .i64))) else (if b 0 then some (.arr 3 1 (([] : List Int).map (cI .i64))) else none))))]) (mk 64 [] [(1, .fn (.func g1) (cs1.map .d)), (6, .ref 53 0 (((([] : List Int) ++ l745) ++ l749).length)), (7, .ref 52 0 ((l189 ++ [x741]).length))] [(52, some (.arr 3 1 ((l189 ++ [x741]).map (cI .i64)))), (53, some (.arr 3 1 (((([] : List Int) ++ l745) ++ l749).map (cI .i64))))]) (by kernel_rfl) (by kernel_rfl) (Sub.table (by simp) (by simp)) (Steps.cons ?_ (Steps.cons ?_ (Steps.cons ?_ (Steps.cons ?_ (Steps.cons ?_ (Steps.cons ?_ (Steps.cons ?_ (Steps.cons ?_ (Steps.cons ?_ (Steps.cons ?_ (Steps.cons ?_ (Steps.nil)))))))))))) ?_ ?_
          · intro b h0 ha hd
            have f4 : b 4 = false := hd 4 (by decide)
            have f9 : b 9 = false := hd 9 (by decide)
            have f10 : b 10 = false := hd 10 (by decide)
            refine Chain.runK [] 1 fun K hK => ?_; simp [h0, f4, f9, f10]; refine hK _ _ ?_; clear hK K
            exact Chain.nil (Sub.table (by simp [h0, f4, f9, f10]) (by simp [h0, f4, f9, f10]))
          · intro b h0 ha hd
            have f3 : b 3 = false := hd 3 (by decide)
            have f4 : b 4 = false := hd 4 (by decide)
            have f9 : b 9 = false := hd 9 (by decide)
            have f10 : b 10 = false := hd 10 (by decide)
            refine Chain.runK [] 1 fun K hK => ?_; simp [h0, f3, f4, f9, f10]; refine hK _ _ ?_; clear hK K
            exact Chain.nil (Sub.table (by simp [h0, f3, f4, f9, f10]) (by simp [h0, f3, f4, f9, f10]))
          · intro b h0 ha hd
            have f3 : b 3 = false := hd 3 (by decide)
            have f4 : b 4 = false := hd 4 (by decide)
            have f9 : b 9 = false := hd 9 (by decide)
            have f10 : b 10 = false := hd 10 (by decide)
            refine Chain.runK [] 1 fun K hK => ?_; simp [h0, f3, f4, f9, f10]; refine hK _ _ ?_; clear hK K
            exact Chain.nil (Sub.table (by simp [h0, f3, f4, f9, f10]) (by simp [h0, f3, f4, f9, f10]))
          · intro b h0 ha hd
            have t1 : b 1 = true := ha 1 (by decide)
            have t2 : b 2 = true := ha 2 (by decide)
            have f4 : b 4 = false := hd 4 (by decide)
            have f9 : b 9 = false := hd 9 (by decide)
            have f10 : b 10 = false := hd 10 (by decide)
            refine Chain.runK [] 1 fun K hK => ?_; simp [h0, t1, t2, f4, f9, f10, hn744, hl745]; refine hK _ _ ?_; clear hK K
            exact Chain.nil (Sub.table (by simp [h0, t1, t2, f4, f9, f10]) (by simp [h0, t1, t2, f4, f9, f10]))
          · intro b h0 ha hd
            have t0 : b 0 = true := ha 0 (by decide)
            have t1 : b 1 = true := ha 1 (by decide)
            have t2 : b 2 = true := ha 2 (by decide)
            have t3 : b 3 = true := ha 3 (by decide)
            have f9 : b 9 = false := hd 9 (by decide)
            have f10 : b 10 = false := hd 10 (by decide)
            refine Chain.runK [] 1 fun K hK => ?_; simp [h0, t0, t1, t2, t3, f9, f10, hl746a]; refine hK _ _ ?_; clear hK K
            exact Chain.nil (Sub.table (by simp [h0, t0, t1, t2, t3, f9, f10]) (by simp [h0, t0, t1, t2, t3, f9, f10]))
          · intro b h0 ha hd
            have f8 : b 8 = false := hd 8 (by decide)
            have f9 : b 9 = false := hd 9 (by decide)
            have f10 : b 10 = false := hd 10 (by decide)
            refine Chain.runK [] 1 fun K hK => ?_; simp [h0, f8, f9, f10]; refine hK _ _ ?_; clear hK K
            exact Chain.nil (Sub.table (by simp [h0, f8, f9, f10]) (by simp [h0, f8, f9, f10]))
          · intro b h0 ha hd
            have f7 : b 7 = false := hd 7 (by decide)
            have f8 : b 8 = false := hd 8 (by decide)
            have f9 : b 9 = false := hd 9 (by decide)
            have f10 : b 10 = false := hd 10 (by decide)
            refine Chain.runK [] 1 fun K hK => ?_; simp [h0, f7, f8, f9, f10]; refine hK _ _ ?_; clear hK K
            exact Chain.nil (Sub.table (by simp [h0, f7, f8, f9, f10]) (by simp [h0, f7, f8, f9, f10]))
          · intro b h0 ha hd
            have t6 : b 6 = true := ha 6 (by decide)
            have f8 : b 8 = false := hd 8 (by decide)
            have f9 : b 9 = false := hd 9 (by decide)
            have f10 : b 10 = false := hd 10 (by decide)
            refine Chain.runK [] 1 fun K hK => ?_; simp [h0, t6, f8, f9, f10, hv747]; refine hK _ _ ?_; clear hK K
            exact Chain.nil (Sub.table (by simp [h0, t6, f8, f9, f10]) (by simp [h0, t6, f8, f9, f10]))
          · intro b h0 ha hd
            have t5 : b 5 = true := ha 5 (by decide)
            have t6 : b 6 = true := ha 6 (by decide)
            have t7 : b 7 = true := ha 7 (by decide)
            have f9 : b 9 = false := hd 9 (by decide)
            have f10 : b 10 = false := hd 10 (by decide)
            refine Chain.runK [] 1 fun K hK => ?_; simp [h0, t5, t6, t7, f9, f10, hn748, hl749]; refine hK _ _ ?_; clear hK K
            exact Chain.nil (Sub.table (by simp [h0, t5, t6, t7, f9, f10]) (by simp [h0, t5, t6, t7, f9, f10]))
          · intro b h0 ha hd
            have t0 : b 0 = true := ha 0 (by decide)
            have t1 : b 1 = true := ha 1 (by decide)
            have t2 : b 2 = true := ha 2 (by decide)
            have t3 : b 3 = true := ha 3 (by decide)
            have t4 : b 4 = true := ha 4 (by decide)
            have t5 : b 5 = true := ha 5 (by decide)
            have t6 : b 6 = true := ha 6 (by decide)
            have t7 : b 7 = true := ha 7 (by decide)
            have t8 : b 8 = true := ha 8 (by decide)
            have f10 : b 10 = false := hd 10 (by decide)
            refine Chain.runK [] 1 fun K hK => ?_; simp [h0, t0, t1, t2, t3, t4, t5, t6, t7, t8, f10, hl750a]; refine hK _ _ ?_; clear hK K
            exact Chain.nil (Sub.table (by simp [h0, t0, t1, t2, t3, t4, t5, t6, t7, t8, f10]) (by simp [h0, t0, t1, t2, t3, t4, t5, t6, t7, t8, f10]))
          · intro b h0 ha hd
            have t0 : b 0 = true := ha 0 (by decide)
            have t1 : b 1 = true := ha 1 (by decide)
            have t2 : b 2 = true := ha 2 (by decide)
            have t3 : b 3 = true := ha 3 (by decide)
            have t4 : b 4 = true := ha 4 (by decide)
            have t5 : b 5 = true := ha 5 (by decide)
            have t6 : b 6 = true := ha 6 (by decide)
            have t7 : b 7 = true := ha 7 (by decide)
            have t8 : b 8 = true := ha 8 (by decide)
            have t9 : b 9 = true := ha 9 (by decide)
            refine Chain.runK [] 1 fun K hK => ?_; simp [h0, t0, t1, t2, t3, t4, t5, t6, t7, t8, t9]; refine hK _ _ ?_; clear hK K
            exact Chain.nil (Sub.table (by simp [h0, t0, t1, t2, t3, t4, t5, t6, t7, t8, t9]) (by simp [h0, t0, t1, t2, t3, t4, t5, t6, t7, t8, t9]))
          · intro b hb
            have t0 := hb 0 (by decide)
            have t1 := hb 1 (by decide)
            have t2 := hb 2 (by decide)
            have t3 := hb 3 (by decide)
            have t4 := hb 4 (by decide)
            have t5 := hb 5 (by decide)
            have t6 := hb 6 (by decide)
            have t7 := hb 7 (by decide)
            have t8 := hb 8 (by decide)
            have t9 := hb 9 (by decide)
            have t10 := hb 10 (by decide)
            exact Sub.table (by simp [t0, t1, t2, t3, t4, t5, t6, t7, t8, t9, t10]) (by simp [t0, t1, t2, t3, t4, t5, t6, t7, t8, t9, t10])
          · skip
            cases h
            refine blockQ.normal ?_
            refine PostI.next ?_
            exact (Sub.trans (Sub.freeze 53 rfl) (by simp; exact Sub.table (by simp) (by simp)))
    · have c565_ : decide ((l188.length : Int) > 0) = false := decide_eq_false c565
      refine AW.condF (b := decide ((l188.length : Int) > 0)) rfl c565_ ?_
      refine AW.sub (Sub.bool 18 (b := decide ((l188.length : Int) > 0)) rfl c565_) ?_
      refine AW.sub (S' := mk 64 [] [(1, .fn (.func g1) (cs1.map .d)), (6, .d (.sl (l188.map (cI .i64)))), (7, .ref 52 0 l189.length), (18, .d (.lit (.bool false)))] [(52, some (.arr 3 1 (l189.map (cI .i64))))]) (by simp; exact Sub.table (by simp) (by simp)) ?_
      refine AW.exit ?_
      cases h
      refine thenQ_pass (by simp) ?_
      refine PostI.out (by simp) ?_
      rintro rfl
      refine blockQ.hit ?_
      refine PostJ.next ?_
      exact (Sub.table (by simp) (by simp))
  · rintro l564 h
    refine AW.seqR ?_
    refine Chain.runK [] 3 fun K hK => ?_; simp; refine hK _ _ ?_; clear hK K
    refine Chain.sub (S' := mk 64 [] [(4, .ref 52 0 l564.length), (5, .d (.lit (.bool true)))] [(52, some (.arr 3 1 (l564.map (cI .i64))))]) (Sub.table (by simp) (by simp)) ?_
    refine Chain.nil ?_
    refine AW.sub (Sub.freeze 52 rfl) ?_
    refine AW.sub (S' := mk 64 [] [(4, .d (.sl (l564.map (cI .i64)))), (5, .d (.lit (.bool true)))] []) (by simp; exact Sub.table (by simp) (by simp)) ?_
    refine AW.ret ?_
    cases h
    exact FinC.ret (by simp) (by simp)

/-- slices.Equal[[]int,int] -/
def d22 (N : Nat) (a0 : (List Int)) (a1 : (List Int)) : Option Bool :=
  if ((a0.length : Int) != (a1.length : Int)) then (
    some false
  ) else
  bindO (β := Unit) (ρ := Bool) (
    iterN (σ := Int) (ρ := (Out Unit Bool)) (fun (v8 : Int) =>
      if v8 < (a0.length : Int) then (
        (idx a0 v8).bind fun x23 =>
        (idx a1 v8).bind fun x25 =>
        if (x23 != x25) then (
          some (.inr (.ret false))
        ) else
        (chkI (v8 + 1)).bind fun v27 =>
        some (.inl v27)
      ) else
      some (.inr (.go ()))
    ) N 0
  ) fun (_ : Unit) =>
  some true
set_option maxRecDepth 100000 in
set_option maxHeartbeats 4000000 in
theorem p22 (N : Nat) (a0 : (List Int)) (a1 : (List Int)) (r : Bool) (h : d22 N a0 a1 = some r) : FunC Try.prog 22 [.d (.sl (a0.map (cI .i64))), .d (.sl (a1.map (cI .i64)))] (.d (.lit (.bool r))) := by
  unfold d22 at h
  refine FunC.enter 26 [(0, .d (.sl (a0.map (cI .i64)))), (1, .d (.sl (a1.map (cI .i64))))] (by simp) Try.func22 rfl (of_decide_eq_true rfl) rfl rfl ?_
  refine AW.seqR ?_
  refine Chain.runK [] 1 fun K hK => ?_; simp; refine hK _ _ ?_; clear hK K
  refine Chain.sub (S' := mk 26 [] [(0, .d (.sl (a0.map (cI .i64)))), (1, .d (.sl (a1.map (cI .i64))))] []) (Sub.table (by simp) (by simp)) ?_
  refine Chain.nil ?_
  refine AW.seq ?_
  refine AW.seqR ?_
  refine Chain.runK [] 5 fun K hK => ?_; simp; refine hK _ _ ?_; clear hK K
  refine Chain.sub (S' := mk 26 [] [(0, .d (.sl (a0.map (cI .i64)))), (1, .d (.sl (a1.map (cI .i64)))), (10, .d (.lit (.bool ((a0.length : Int) != (a1.length : Int)))))] []) (Sub.table (by simp) (by simp)) ?_
  refine Chain.nil ?_
  replace h := isome h; rcases h with ⟨c1, h⟩ | ⟨c1, h⟩
  · have c1_ : ((a0.length : Int) != (a1.length : Int)) = true := c1
    refine AW.condT (b := ((a0.length : Int) != (a1.length : Int))) rfl c1_ ?_
    refine AW.sub (Sub.bool 10 (b := ((a0.length : Int) != (a1.length : Int))) rfl c1_) ?_
    refine AW.sub (S' := mk 26 [] [(0, .d (.sl (a0.map (cI .i64)))), (1, .d (.sl (a1.map (cI .i64)))), (10, .d (.lit (.bool true)))] []) (by simp; exact Sub.table (by simp) (by simp)) ?_
    refine AW.seqR ?_
    refine Chain.runK [] 1 fun K hK => ?_; simp; refine hK _ _ ?_; clear hK K
    refine Chain.sub (S' := mk 26 [] [(4, .d (.lit (.bool false)))] []) (Sub.table (by simp) (by simp)) ?_
    refine Chain.nil ?_
    refine AW.ret ?_
    cases h
    refine thenQ_pass (by simp) ?_
    exact FinC.ret (by simp) (by simp)
  · have c1_ : ((a0.length : Int) != (a1.length : Int)) = false := Bool.eq_false_iff.2 c1
    refine AW.condF (b := ((a0.length : Int) != (a1.length : Int))) rfl c1_ ?_
    refine AW.sub (Sub.bool 10 (b := ((a0.length : Int) != (a1.length : Int))) rfl c1_) ?_
    refine AW.sub (S' := mk 26 [] [(0, .d (.sl (a0.map (cI .i64)))), (1, .d (.sl (a1.map (cI .i64)))), (10, .d (.lit (.bool false)))] []) (by simp; exact Sub.table (by simp) (by simp)) ?_
    refine AW.skip ?_
    refine thenQ_normal ?_
    refine AW.seq ?_
    refine AW.seqR ?_
    refine Chain.runK [] 3 fun K hK => ?_; simp; refine hK _ _ ?_; clear hK K
    refine Chain.sub (S' := mk 26 [] [(0, .d (.sl (a0.map (cI .i64)))), (1, .d (.sl (a1.map (cI .i64)))), (12, .d (.lit (.int .i64 (a0.length : Int)))), (13, .d (.lit (.int .i64 0)))] []) (Sub.table (by simp) (by simp)) ?_
    refine Chain.nil ?_
    refine AW.lastJ (fun (_ : Unit) => mk 26 [] [] []) h ?_ ?_ <;> clear h
    · intro o h
      refine AW.block ?_
      refine AW.iter (fun (v8 : Int) => mk 26 [] [(0, .d (.sl (a0.map (cI .i64)))), (1, .d (.sl (a1.map (cI .i64)))), (12, .d (.lit (.int .i64 (a0.length : Int)))), (13, .d (.lit (.int .i64 v8)))] []) h (Sub.table (by simp) (by simp)) ?_
      clear h
      rintro v8 x h
      refine AW.seqR ?_
      refine Chain.runK [] 1 fun K hK => ?_; simp; refine hK _ _ ?_; clear hK K
      refine Chain.sub (S' := mk 26 [] [(0, .d (.sl (a0.map (cI .i64)))), (1, .d (.sl (a1.map (cI .i64)))), (12, .d (.lit (.int .i64 (a0.length : Int)))), (13, .d (.lit (.int .i64 v8))), (14, .d (.lit (.bool (decide (v8 < (a0.length : Int))))))] []) (Sub.table (by simp) (by simp)) ?_
      refine Chain.nil ?_
      refine AW.seq ?_
      replace h := isome h; rcases h with ⟨c22, h⟩ | ⟨c22, h⟩
      · have c22_ : decide (v8 < (a0.length : Int)) = true := decide_eq_true c22
        refine AW.condT (b := decide (v8 < (a0.length : Int))) rfl c22_ ?_
        refine AW.sub (Sub.bool 14 (b := decide (v8 < (a0.length : Int))) rfl c22_) ?_
        refine AW.sub (S' := mk 26 [] [(0, .d (.sl (a0.map (cI .i64)))), (1, .d (.sl (a1.map (cI .i64)))), (12, .d (.lit (.int .i64 (a0.length : Int)))), (13, .d (.lit (.int .i64 v8))), (14, .d (.lit (.bool true)))] []) (by simp; exact Sub.table (by simp) (by simp)) ?_
        refine AW.skip ?_
        refine thenQ_normal ?_
        refine AW.seq ?_
        refine AW.block ?_
        refine AW.seqR ?_
        refine Chain.runK [] 2 fun K hK => ?_; simp; refine hK _ _ ?_; clear hK K
        refine Chain.sub (S' := mk 26 [] [(0, .d (.sl (a0.map (cI .i64)))), (1, .d (.sl (a1.map (cI .i64)))), (5, .d (.lit (.int .i64 v8))), (12, .d (.lit (.int .i64 (a0.length : Int)))), (13, .d (.lit (.int .i64 v8)))] []) (Sub.table (by simp) (by simp)) ?_
        refine Chain.nil ?_
        refine AW.seqQ (by kernel_rfl) (by kernel_rfl) ?_
        replace h := bsome h; obtain ⟨x23, hx23, h⟩ := h
        obtain ⟨k24, hx23k, hx23, hx23a, hx23b⟩ := idx_some hx23
        replace h := bsome h; obtain ⟨x25, hx25, h⟩ := h
        obtain ⟨hx25, hx25a, hx25b⟩ := idx_some2 hx25 hx23k
        refine Chain.runQ 9 fun K hK => ?_; simp [hx23, hx23k, hx23a, hx25, hx23k, hx25a]; refine hK _ _ ?_; clear hK K
        refine Chain.sub (S' := mk 26 [] [(0, .d (.sl (a0.map (cI .i64)))), (1, .d (.sl (a1.map (cI .i64)))), (12, .d (.lit (.int .i64 (a0.length : Int)))), (13, .d (.lit (.int .i64 v8))), (24, .d (.lit (.bool (x23 != x25))))] []) (Sub.table (by simp) (by simp)) ?_
        refine Chain.nil ?_
        replace h := isome h; rcases h with ⟨c26, h⟩ | ⟨c26, h⟩
        · have c26_ : (x23 != x25) = true := c26
          refine AW.condT (b := (x23 != x25)) rfl c26_ ?_
          refine AW.sub (Sub.bool 24 (b := (x23 != x25)) rfl c26_) ?_
          refine AW.sub (S' := mk 26 [] [(0, .d (.sl (a0.map (cI .i64)))), (1, .d (.sl (a1.map (cI .i64)))), (12, .d (.lit (.int .i64 (a0.length : Int)))), (13, .d (.lit (.int .i64 v8))), (24, .d (.lit (.bool true)))] []) (by simp; exact Sub.table (by simp) (by simp)) ?_
          refine AW.seqR ?_
          refine Chain.runK [] 1 fun K hK => ?_; simp; refine hK _ _ ?_; clear hK K
          refine Chain.sub (S' := mk 26 [] [(4, .d (.lit (.bool false)))] []) (Sub.table (by simp) (by simp)) ?_
          refine Chain.nil ?_
          refine AW.ret ?_
          cases h
          refine blockQ.ret ?_
          refine thenQ_pass (by simp) ?_
          refine PostI.out (by simp) ?_
          rintro rfl
          refine blockQ.ret ?_
          refine PostJ.out (by simp) ?_
          rintro rfl
          refine thenQ_pass (by simp) ?_
          exact FinC.ret (by simp) (by simp)
        · have c26_ : (x23 != x25) = false := Bool.eq_false_iff.2 c26
          refine AW.condF (b := (x23 != x25)) rfl c26_ ?_
          refine AW.sub (Sub.bool 24 (b := (x23 != x25)) rfl c26_) ?_
          refine AW.sub (S' := mk 26 [] [(0, .d (.sl (a0.map (cI .i64)))), (1, .d (.sl (a1.map (cI .i64)))), (12, .d (.lit (.int .i64 (a0.length : Int)))), (13, .d (.lit (.int .i64 v8))), (24, .d (.lit (.bool false)))] []) (by simp; exact Sub.table (by simp) (by simp)) ?_
          refine AW.skip ?_
          refine blockQ.normal ?_
          refine thenQ_normal ?_
          refine AW.region ?_
          replace h := bsome h; obtain ⟨v27, hv27, h⟩ := h
          have hv27 := chkI_some hv27
          refine Chain.runK [] 2 fun K hK => ?_; simp [hv27]; refine hK _ _ ?_; clear hK K
          refine Chain.sub (S' := mk 26 [] [(0, .d (.sl (a0.map (cI .i64)))), (1, .d (.sl (a1.map (cI .i64)))), (12, .d (.lit (.int .i64 (a0.length : Int)))), (13, .d (.lit (.int .i64 v27)))] []) (Sub.table (by simp) (by simp)) ?_
          refine Chain.nil ?_
          cases h
          refine PostI.next ?_
          exact (Sub.table (by simp) (by simp))
      · have c22_ : decide (v8 < (a0.length : Int)) = false := decide_eq_false c22
        refine AW.condF (b := decide (v8 < (a0.length : Int))) rfl c22_ ?_
        refine AW.sub (Sub.bool 14 (b := decide (v8 < (a0.length : Int))) rfl c22_) ?_
        refine AW.sub (S' := mk 26 [] [(0, .d (.sl (a0.map (cI .i64)))), (1, .d (.sl (a1.map (cI .i64)))), (12, .d (.lit (.int .i64 (a0.length : Int)))), (13, .d (.lit (.int .i64 v8))), (14, .d (.lit (.bool false)))] []) (by simp; exact Sub.table (by simp) (by simp)) ?_
        refine AW.exit ?_
        cases h
        refine thenQ_pass (by simp) ?_
        refine PostI.out (by simp) ?_
        rintro rfl
        refine blockQ.hit ?_
        refine PostJ.next ?_
        exact (Sub.table (by simp) (by simp))
    · rintro ⟨⟩ h
      refine thenQ_normal ?_
      refine AW.seqR ?_
      refine Chain.runK [] 1 fun K hK => ?_; simp; refine hK _ _ ?_; clear hK K
      refine Chain.sub (S' := mk 26 [] [(4, .d (.lit (.bool true)))] []) (Sub.table (by simp) (by simp)) ?_
      refine Chain.nil ?_
      refine AW.ret ?_
      cases h
      exact FinC.ret (by simp) (by simp)

end Go.Proofs.Ytabjbkdlacibjaa
