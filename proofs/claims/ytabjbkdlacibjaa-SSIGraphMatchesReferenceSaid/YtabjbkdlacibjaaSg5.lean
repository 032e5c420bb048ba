/- Functions of the program as functional programs; the code computes them. -/
import Derived.Test.YtabjbkdlacibjaaSg4
namespace Go.Proofs.Ytabjbkdlacibjaa
open Go.Ab Go.Rp
attribute [-simp] List.all_eq_true Array.all_toList Array.all_eq_true

/-- slices.Index[[]int,int] -/
def d86 (N : Nat) (a0 : (List Int)) (a1 : Int) : Option Int :=
  bindO (β := Unit) (ρ := Int) (
    iterN (σ := Int) (ρ := (Out Unit Int)) (fun (v6 : Int) =>
      if v6 < (a0.length : Int) then (
        (idx a0 v6).bind fun x19 =>
        if (a1 == x19) then (
          some (.inr (.ret v6))
        ) else
        (chkI (v6 + 1)).bind fun v22 =>
        some (.inl v22)
      ) else
      some (.inr (.go ()))
    ) N 0
  ) fun (_ : Unit) =>
  some (-1)
set_option maxRecDepth 100000 in
set_option maxHeartbeats 4000000 in
theorem p86 (N : Nat) (a0 : (List Int)) (a1 : Int) (r : Int) (h : d86 N a0 a1 = some r) : FunC Try.prog 86 [.d (.sl (a0.map (cI .i64))), .d (.lit (.int .i64 a1))] (.d (.lit (.int .i64 r))) := by
  unfold d86 at h
  refine FunC.enter 19 [(0, .d (.sl (a0.map (cI .i64)))), (1, .d (.lit (.int .i64 a1)))] (by simp) Try.func86 rfl (of_decide_eq_true rfl) rfl rfl ?_
  refine AW.seqR ?_
  refine Chain.runK [] 1 fun K hK => ?_; simp; refine hK _ _ ?_; clear hK K
  refine Chain.sub (S' := mk 19 [] [(0, .d (.sl (a0.map (cI .i64)))), (1, .d (.lit (.int .i64 a1)))] []) (Sub.table (by simp) (by simp)) ?_
  refine Chain.nil ?_
  refine AW.seq ?_
  refine AW.seqR ?_
  refine Chain.runK [] 3 fun K hK => ?_; simp; refine hK _ _ ?_; clear hK K
  refine Chain.sub (S' := mk 19 [] [(0, .d (.sl (a0.map (cI .i64)))), (1, .d (.lit (.int .i64 a1))), (7, .d (.lit (.int .i64 (a0.length : Int)))), (8, .d (.lit (.int .i64 0)))] []) (Sub.table (by simp) (by simp)) ?_
  refine Chain.nil ?_
  refine AW.lastJ (fun (_ : Unit) => mk 19 [] [] []) h ?_ ?_ <;> clear h
  · intro o h
    refine AW.block ?_
    refine AW.iter (fun (v6 : Int) => mk 19 [] [(0, .d (.sl (a0.map (cI .i64)))), (1, .d (.lit (.int .i64 a1))), (7, .d (.lit (.int .i64 (a0.length : Int)))), (8, .d (.lit (.int .i64 v6)))] []) h (Sub.table (by simp) (by simp)) ?_
    clear h
    rintro v6 x h
    refine AW.seqR ?_
    refine Chain.runK [] 1 fun K hK => ?_; simp; refine hK _ _ ?_; clear hK K
    refine Chain.sub (S' := mk 19 [] [(0, .d (.sl (a0.map (cI .i64)))), (1, .d (.lit (.int .i64 a1))), (7, .d (.lit (.int .i64 (a0.length : Int)))), (8, .d (.lit (.int .i64 v6))), (9, .d (.lit (.bool (decide (v6 < (a0.length : Int))))))] []) (Sub.table (by simp) (by simp)) ?_
    refine Chain.nil ?_
    refine AW.seq ?_
    replace h := isome h; rcases h with ⟨c18, h⟩ | ⟨c18, h⟩
    · have c18_ : decide (v6 < (a0.length : Int)) = true := decide_eq_true c18
      refine AW.condT (b := decide (v6 < (a0.length : Int))) rfl c18_ ?_
      refine AW.sub (Sub.bool 9 (b := decide (v6 < (a0.length : Int))) rfl c18_) ?_
      refine AW.sub (S' := mk 19 [] [(0, .d (.sl (a0.map (cI .i64)))), (1, .d (.lit (.int .i64 a1))), (7, .d (.lit (.int .i64 (a0.length : Int)))), (8, .d (.lit (.int .i64 v6))), (9, .d (.lit (.bool true)))] []) (by simp; exact Sub.table (by simp) (by simp)) ?_
      refine AW.skip ?_
      refine thenQ_normal ?_
      refine AW.seq ?_
      refine AW.block ?_
      refine AW.seqR ?_
      refine Chain.runK [] 2 fun K hK => ?_; simp; refine hK _ _ ?_; clear hK K
      refine Chain.sub (S' := mk 19 [] [(0, .d (.sl (a0.map (cI .i64)))), (1, .d (.lit (.int .i64 a1))), (5, .d (.lit (.int .i64 v6))), (7, .d (.lit (.int .i64 (a0.length : Int)))), (8, .d (.lit (.int .i64 v6)))] []) (Sub.table (by simp) (by simp)) ?_
      refine Chain.nil ?_
      refine AW.seqR ?_
      replace h := bsome h; obtain ⟨x19, hx19, h⟩ := h
      obtain ⟨k20, hx19k, hx19, hx19a, hx19b⟩ := idx_some hx19
      refine Chain.runK [] 6 fun K hK => ?_; simp [hx19, hx19k, hx19a]; refine hK _ _ ?_; clear hK K
      refine Chain.sub (S' := mk 19 [] [(0, .d (.sl (a0.map (cI .i64)))), (1, .d (.lit (.int .i64 a1))), (5, .d (.lit (.int .i64 v6))), (7, .d (.lit (.int .i64 (a0.length : Int)))), (8, .d (.lit (.int .i64 v6))), (16, .d (.lit (.bool (a1 == x19))))] []) (Sub.table (by simp) (by simp)) ?_
      refine Chain.nil ?_
      replace h := isome h; rcases h with ⟨c21, h⟩ | ⟨c21, h⟩
      · have c21_ : (a1 == x19) = true := c21
        refine AW.condT (b := (a1 == x19)) rfl c21_ ?_
        refine AW.sub (Sub.bool 16 (b := (a1 == x19)) rfl c21_) ?_
        refine AW.sub (S' := mk 19 [] [(0, .d (.sl (a0.map (cI .i64)))), (1, .d (.lit (.int .i64 a1))), (5, .d (.lit (.int .i64 v6))), (7, .d (.lit (.int .i64 (a0.length : Int)))), (8, .d (.lit (.int .i64 v6))), (16, .d (.lit (.bool true)))] []) (by simp; exact Sub.table (by simp) (by simp)) ?_
        refine AW.seqR ?_
        refine Chain.runK [] 2 fun K hK => ?_; simp; refine hK _ _ ?_; clear hK K
        refine Chain.sub (S' := mk 19 [] [(4, .d (.lit (.int .i64 v6)))] []) (Sub.table (by simp) (by simp)) ?_
        refine Chain.nil ?_
        refine AW.ret ?_
        cases h
        refine blockQ.ret ?_
        refine thenQ_pass (by simp) ?_
        refine PostI.out (by simp) ?_
        rintro rfl
        refine blockQ.ret ?_
        refine PostJ.out (by simp) ?_
        rintro rfl
        refine thenQ_pass (by simp) ?_
        exact FinC.ret (by simp) (by simp)
      · have c21_ : (a1 == x19) = false := Bool.eq_false_iff.2 c21
        refine AW.condF (b := (a1 == x19)) rfl c21_ ?_
        refine AW.sub (Sub.bool 16 (b := (a1 == x19)) rfl c21_) ?_
        refine AW.sub (S' := mk 19 [] [(0, .d (.sl (a0.map (cI .i64)))), (1, .d (.lit (.int .i64 a1))), (5, .d (.lit (.int .i64 v6))), (7, .d (.lit (.int .i64 (a0.length : Int)))), (8, .d (.lit (.int .i64 v6))), (16, .d (.lit (.bool false)))] []) (by simp; exact Sub.table (by simp) (by simp)) ?_
        refine AW.skip ?_
        refine blockQ.normal ?_
        refine thenQ_normal ?_
        refine AW.region ?_
        replace h := bsome h; obtain ⟨v22, hv22, h⟩ := h
        have hv22 := chkI_some hv22
        refine Chain.runK [] 2 fun K hK => ?_; simp [hv22]; refine hK _ _ ?_; clear hK K
        refine Chain.sub (S' := mk 19 [] [(0, .d (.sl (a0.map (cI .i64)))), (1, .d (.lit (.int .i64 a1))), (7, .d (.lit (.int .i64 (a0.length : Int)))), (8, .d (.lit (.int .i64 v22)))] []) (Sub.table (by simp) (by simp)) ?_
        refine Chain.nil ?_
        cases h
        refine PostI.next ?_
        exact (Sub.table (by simp) (by simp))
    · have c18_ : decide (v6 < (a0.length : Int)) = false := decide_eq_false c18
      refine AW.condF (b := decide (v6 < (a0.length : Int))) rfl c18_ ?_
      refine AW.sub (Sub.bool 9 (b := decide (v6 < (a0.length : Int))) rfl c18_) ?_
      refine AW.sub (S' := mk 19 [] [(0, .d (.sl (a0.map (cI .i64)))), (1, .d (.lit (.int .i64 a1))), (7, .d (.lit (.int .i64 (a0.length : Int)))), (8, .d (.lit (.int .i64 v6))), (9, .d (.lit (.bool false)))] []) (by simp; exact Sub.table (by simp) (by simp)) ?_
      refine AW.exit ?_
      cases h
      refine thenQ_pass (by simp) ?_
      refine PostI.out (by simp) ?_
      rintro rfl
      refine blockQ.hit ?_
      refine PostJ.next ?_
      exact (Sub.table (by simp) (by simp))
  · rintro ⟨⟩ h
    refine thenQ_normal ?_
    refine AW.seqR ?_
    refine Chain.runK [] 1 fun K hK => ?_; simp; refine hK _ _ ?_; clear hK K
    refine Chain.sub (S' := mk 19 [] [(4, .d (.lit (.int .i64 (-1))))] []) (Sub.table (by simp) (by simp)) ?_
    refine Chain.nil ?_
    refine AW.ret ?_
    cases h
    exact FinC.ret (by simp) (by simp)

/-- slices.Contains[[]int,int] -/
def d57 (N : Nat) (a0 : (List Int)) (a1 : Int) : Option Bool :=
  (d86 N a0 a1).bind fun r1 =>
  some (decide (r1 ≥ 0))
set_option maxRecDepth 100000 in
set_option maxHeartbeats 4000000 in
theorem p57 (N : Nat) (a0 : (List Int)) (a1 : Int) (r : Bool) (h : d57 N a0 a1 = some r) : FunC Try.prog 57 [.d (.sl (a0.map (cI .i64))), .d (.lit (.int .i64 a1))] (.d (.lit (.bool r))) := by
  unfold d57 at h
  refine FunC.enter 9 [(0, .d (.sl (a0.map (cI .i64)))), (1, .d (.lit (.int .i64 a1)))] (by simp) Try.func57 rfl (of_decide_eq_true rfl) rfl rfl ?_
  refine AW.seqR ?_
  refine Chain.runK [] 1 fun K hK => ?_; simp; refine hK _ _ ?_; clear hK K
  refine Chain.sub (S' := mk 9 [] [(0, .d (.sl (a0.map (cI .i64)))), (1, .d (.lit (.int .i64 a1)))] []) (Sub.table (by simp) (by simp)) ?_
  refine Chain.nil ?_
  refine AW.seqR ?_
  refine Chain.runK [] 2 fun K hK => ?_; simp; refine hK _ _ ?_; clear hK K
  refine Chain.sub (S' := mk 9 [] [(5, .d (.sl (a0.map (cI .i64)))), (6, .d (.lit (.int .i64 a1)))] []) (Sub.table (by simp) (by simp)) ?_
  replace h := bsome h; obtain ⟨r1, hr1, h⟩ := h
  refine Chain.callL (d := 7) (p86 N a0 a1 r1 hr1) (by simp) rfl rfl (by simp <;> rfl) (by simp <;> rfl) ent86 (by simp <;> rfl) ?_
  refine Chain.sub (S' := mk 9 [] [(5, .d (.sl (a0.map (cI .i64)))), (6, .d (.lit (.int .i64 a1))), (7, .d (.lit (.int .i64 r1)))] []) (by simp; exact Sub.table (by simp) (by simp)) ?_
  refine Chain.runK [] 2 fun K hK => ?_; simp; refine hK _ _ ?_; clear hK K
  refine Chain.sub (S' := mk 9 [] [(4, .d (.lit (.bool (decide (r1 ≥ 0)))))] []) (Sub.table (by simp) (by simp)) ?_
  refine Chain.nil ?_
  refine AW.ret ?_
  cases h
  exact FinC.ret (by simp) (by simp)

/-- stemma/ssi.SerialOrder$1$1 -/
def d73 (N : Nat) (a0 : S43) (a1 : Int) (a2 : (List Int)) : Option Bool :=
  Option.bind (α := Bool) (
    if (a0.a1 == a1) then (
      (d57 N a2 a0.a0).bind fun r5 =>
      some r5
    ) else
    some false
  ) fun (v3 : Bool) =>
  some v3
set_option maxRecDepth 100000 in
set_option maxHeartbeats 4000000 in
theorem p73 (N : Nat) (a0 : S43) (a1 : Int) (a2 : (List Int)) (r : Bool) (h : d73 N a0 a1 a2 = some r) : FunC Try.prog 73 [.agg [.d (.lit (.int .i64 a0.a0)), .d (.lit (.int .i64 a0.a1))], .d (.pim [.lit (.int .i64 a1)]), .d (.pim [.sl (a2.map (cI .i64))])] (.d (.lit (.bool r))) := by
  unfold d73 at h
  refine FunC.enter 15 [(0, .agg [.d (.lit (.int .i64 a0.a0)), .d (.lit (.int .i64 a0.a1))]), (1, .d (.pim [.lit (.int .i64 a1)])), (2, .d (.pim [.sl (a2.map (cI .i64))]))] (by simp) Try.func73 rfl (of_decide_eq_true rfl) rfl rfl ?_
  refine AW.seqR ?_
  refine Chain.runK [] 2 fun K hK => ?_; simp; refine hK _ _ ?_; clear hK K
  refine Chain.sub (S' := mk 15 [] [(1, .d (.pim [.lit (.int .i64 a1)])), (2, .d (.pim [.sl (a2.map (cI .i64))])), (3, .ptr 3 0 0)] [(3, some (.box [.d (.lit (.int .i64 a0.a0)), .d (.lit (.int .i64 a0.a1))]))]) (Sub.table (by simp) (by simp)) ?_
  refine Chain.nil ?_
  replace h := bsome h; obtain ⟨v3, hj, h⟩ := h
  refine AW.cutR (mk 15 [] [(4, .d (.lit (.bool v3)))] []) ?_ ?_
  · clear h; have h := hj; clear hj
    refine Chain.runK [] 5 fun K hK => ?_; simp; refine hK _ _ ?_; clear hK K
    refine Chain.sub (S' := mk 15 [] [(2, .d (.pim [.sl (a2.map (cI .i64))])), (3, .ptr 3 0 0), (9, .d (.lit (.bool (a0.a1 == a1))))] [(3, some (.box [.d (.lit (.int .i64 a0.a0)), .d (.lit (.int .i64 a0.a1))]))]) (Sub.table (by simp) (by simp)) ?_
    replace h := isome h; rcases h with ⟨c4, h⟩ | ⟨c4, h⟩
    · have c4_ : (a0.a1 == a1) = true := c4
      refine Chain.sub (Sub.bool 9 (b := (a0.a1 == a1)) rfl c4_) ?_
      refine Chain.sub (S' := mk 15 [] [(2, .d (.pim [.sl (a2.map (cI .i64))])), (3, .ptr 3 0 0), (9, .d (.lit (.bool true)))] [(3, some (.box [.d (.lit (.int .i64 a0.a0)), .d (.lit (.int .i64 a0.a1))]))]) (by simp; exact Sub.table (by simp) (by simp)) ?_
      refine Chain.runK [] 3 fun K hK => ?_; simp; refine hK _ _ ?_; clear hK K
      refine Chain.sub (S' := mk 15 [] [(9, .d (.lit (.bool true))), (10, .d (.sl (a2.map (cI .i64)))), (12, .d (.lit (.int .i64 a0.a0)))] []) (Sub.table (by simp) (by simp)) ?_
      replace h := bsome h; obtain ⟨r5, hr5, h⟩ := h
      refine Chain.callL (d := 13) (p57 N a2 a0.a0 r5 hr5) (by simp) rfl rfl (by simp <;> rfl) (by simp <;> rfl) ent57 (by simp <;> rfl) ?_
      refine Chain.sub (S' := mk 15 [] [(9, .d (.lit (.bool true))), (10, .d (.sl (a2.map (cI .i64)))), (12, .d (.lit (.int .i64 a0.a0))), (13, .d (.lit (.bool r5)))] []) (by simp; exact Sub.table (by simp) (by simp)) ?_
      refine Chain.runK [] 2 fun K hK => ?_; simp; refine hK _ _ ?_; clear hK K
      refine Chain.sub (S' := mk 15 [] [(4, .d (.lit (.bool r5)))] []) (Sub.table (by simp) (by simp)) ?_
      cases h
      exact Chain.nil (Sub.table (by simp) (by simp))
    · have c4_ : (a0.a1 == a1) = false := Bool.eq_false_iff.2 c4
      refine Chain.sub (Sub.bool 9 (b := (a0.a1 == a1)) rfl c4_) ?_
      refine Chain.sub (S' := mk 15 [] [(2, .d (.pim [.sl (a2.map (cI .i64))])), (3, .ptr 3 0 0), (9, .d (.lit (.bool false)))] [(3, some (.box [.d (.lit (.int .i64 a0.a0)), .d (.lit (.int .i64 a0.a1))]))]) (by simp; exact Sub.table (by simp) (by simp)) ?_
      refine Chain.runK [] 6 fun K hK => ?_; simp; refine hK _ _ ?_; clear hK K
      refine Chain.sub (S' := mk 15 [] [(4, .d (.lit (.bool false)))] []) (Sub.table (by simp) (by simp)) ?_
      cases h
      exact Chain.nil (Sub.table (by simp) (by simp))
  · clear hj
    refine AW.ret ?_
    cases h
    exact FinC.ret (by simp) (by simp)

/-- slices.IndexFunc[[][2]int,[2]int] -/
def d89 (N : Nat) (a0 : (List S43)) (p1 : S43 → Option Bool) : Option Int :=
  bindO (β := Unit) (ρ := Int) (
    iterN (σ := Int) (ρ := (Out Unit Int)) (fun (v7 : Int) =>
      if v7 < (a0.length : Int) then (
        (idx a0 v7).bind fun x22 =>
        (p1 x22).bind fun r24 =>
        if r24 = true then (
          some (.inr (.ret v7))
        ) else
        (chkI (v7 + 1)).bind fun v26 =>
        some (.inl v26)
      ) else
      some (.inr (.go ()))
    ) N 0
  ) fun (_ : Unit) =>
  some (-1)
set_option maxRecDepth 100000 in
set_option maxHeartbeats 4000000 in
theorem p89 (N : Nat) (a0 : (List S43)) (g1 : Nat) (cs1 : List D) (p1 : S43 → Option Bool) (ent_1 : Rp.Enters Try.prog g1) (hp1 : ∀ a0 r, p1 a0 = some r → FunC Try.prog g1 ([.agg [.d (.lit (.int .i64 a0.a0)), .d (.lit (.int .i64 a0.a1))]] ++ cs1.map .d) (.d (.lit (.bool r)))) (r : Int) (h : d89 N a0 p1 = some r) : FunC Try.prog 89 [.d (.sl (a0.map cS43)), .fn (.func g1) (cs1.map .d)] (.d (.lit (.int .i64 r))) := by
  unfold d89 at h
  refine FunC.enter 19 [(0, .d (.sl (a0.map cS43))), (1, .fn (.func g1) (cs1.map .d))] (by simp) Try.func89 rfl (of_decide_eq_true rfl) rfl rfl ?_
  refine AW.seqR ?_
  refine Chain.runK [] 1 fun K hK => ?_; simp; refine hK _ _ ?_; clear hK K
  refine Chain.sub (S' := mk 19 [] [(0, .d (.sl (a0.map cS43))), (1, .fn (.func g1) (cs1.map .d))] []) (Sub.table (by simp) (by simp)) ?_
  refine Chain.nil ?_
  refine AW.seq ?_
  refine AW.seqR ?_
  refine Chain.runK [] 3 fun K hK => ?_; simp; refine hK _ _ ?_; clear hK K
  refine Chain.sub (S' := mk 19 [] [(0, .d (.sl (a0.map cS43))), (1, .fn (.func g1) (cs1.map .d)), (7, .d (.lit (.int .i64 (a0.length : Int)))), (8, .d (.lit (.int .i64 0)))] []) (Sub.table (by simp) (by simp)) ?_
  refine Chain.nil ?_
  refine AW.lastJ (fun (_ : Unit) => mk 19 [] [] []) h ?_ ?_ <;> clear h
  · intro o h
    refine AW.block ?_
    refine AW.iter (fun (v7 : Int) => mk 19 [] [(0, .d (.sl (a0.map cS43))), (1, .fn (.func g1) (cs1.map .d)), (7, .d (.lit (.int .i64 (a0.length : Int)))), (8, .d (.lit (.int .i64 v7)))] []) h (Sub.table (by simp) (by simp)) ?_
    clear h
    rintro v7 x h
    refine AW.seqR ?_
    refine Chain.runK [] 1 fun K hK => ?_; simp; refine hK _ _ ?_; clear hK K
    refine Chain.sub (S' := mk 19 [] [(0, .d (.sl (a0.map cS43))), (1, .fn (.func g1) (cs1.map .d)), (7, .d (.lit (.int .i64 (a0.length : Int)))), (8, .d (.lit (.int .i64 v7))), (9, .d (.lit (.bool (decide (v7 < (a0.length : Int))))))] []) (Sub.table (by simp) (by simp)) ?_
    refine Chain.nil ?_
    refine AW.seq ?_
    replace h := isome h; rcases h with ⟨c21, h⟩ | ⟨c21, h⟩
    · have c21_ : decide (v7 < (a0.length : Int)) = true := decide_eq_true c21
      refine AW.condT (b := decide (v7 < (a0.length : Int))) rfl c21_ ?_
      refine AW.sub (Sub.bool 9 (b := decide (v7 < (a0.length : Int))) rfl c21_) ?_
      refine AW.sub (S' := mk 19 [] [(0, .d (.sl (a0.map cS43))), (1, .fn (.func g1) (cs1.map .d)), (7, .d (.lit (.int .i64 (a0.length : Int)))), (8, .d (.lit (.int .i64 v7))), (9, .d (.lit (.bool true)))] []) (by simp; exact Sub.table (by simp) (by simp)) ?_
      refine AW.skip ?_
      refine thenQ_normal ?_
      refine AW.seq ?_
      refine AW.block ?_
      refine AW.seqR ?_
      refine Chain.runK [] 2 fun K hK => ?_; simp; refine hK _ _ ?_; clear hK K
      refine Chain.sub (S' := mk 19 [] [(0, .d (.sl (a0.map cS43))), (1, .fn (.func g1) (cs1.map .d)), (5, .d (.lit (.int .i64 v7))), (7, .d (.lit (.int .i64 (a0.length : Int)))), (8, .d (.lit (.int .i64 v7)))] []) (Sub.table (by simp) (by simp)) ?_
      refine Chain.nil ?_
      refine AW.seqR ?_
      replace h := bsome h; obtain ⟨x22, hx22, h⟩ := h
      obtain ⟨k23, hx22k, hx22, hx22a, hx22b⟩ := idx_some hx22
      refine Chain.runK [] 5 fun K hK => ?_; simp [hx22, hx22k, hx22a]; refine hK _ _ ?_; clear hK K
      refine Chain.sub (S' := mk 19 [] [(0, .d (.sl (a0.map cS43))), (1, .fn (.func g1) (cs1.map .d)), (5, .d (.lit (.int .i64 v7))), (7, .d (.lit (.int .i64 (a0.length : Int)))), (8, .d (.lit (.int .i64 v7))), (11, .fn (.func g1) (cs1.map .d)), (15, .agg [.d (.lit (.int .i64 x22.a0)), .d (.lit (.int .i64 x22.a1))])] []) (Sub.table (by simp) (by simp)) ?_
      replace h := bsome h; obtain ⟨r24, hr24, h⟩ := h
      refine Chain.callL (d := 16) (hp1 x22 r24 hr24) (by simp) rfl rfl (by simp <;> rfl) (by simp <;> rfl) ent_1 (by simp <;> rfl) ?_
      refine Chain.sub (S' := mk 19 [] [(0, .d (.sl (a0.map cS43))), (1, .fn (.func g1) (cs1.map .d)), (5, .d (.lit (.int .i64 v7))), (7, .d (.lit (.int .i64 (a0.length : Int)))), (8, .d (.lit (.int .i64 v7))), (11, .fn (.func g1) (cs1.map .d)), (15, .agg [.d (.lit (.int .i64 x22.a0)), .d (.lit (.int .i64 x22.a1))]), (16, .d (.lit (.bool r24)))] []) (by simp; exact Sub.table (by simp) (by simp)) ?_
      refine Chain.nil ?_
      replace h := isome h; rcases h with ⟨c25, h⟩ | ⟨c25, h⟩
      · have c25_ : r24 = true := c25
        refine AW.condT (b := r24) rfl c25_ ?_
        refine AW.sub (Sub.bool 16 (b := r24) rfl c25_) ?_
        refine AW.sub (S' := mk 19 [] [(0, .d (.sl (a0.map cS43))), (1, .fn (.func g1) (cs1.map .d)), (5, .d (.lit (.int .i64 v7))), (7, .d (.lit (.int .i64 (a0.length : Int)))), (8, .d (.lit (.int .i64 v7))), (11, .fn (.func g1) (cs1.map .d)), (15, .agg [.d (.lit (.int .i64 x22.a0)), .d (.lit (.int .i64 x22.a1))]), (16, .d (.lit (.bool true)))] []) (by simp; exact Sub.table (by simp) (by simp)) ?_
        refine AW.seqR ?_
        refine Chain.runK [] 2 fun K hK => ?_; simp; refine hK _ _ ?_; clear hK K
        refine Chain.sub (S' := mk 19 [] [(4, .d (.lit (.int .i64 v7)))] []) (Sub.table (by simp) (by simp)) ?_
        refine Chain.nil ?_
        refine AW.ret ?_
        cases h
        refine blockQ.ret ?_
        refine thenQ_pass (by simp) ?_
        refine PostI.out (by simp) ?_
        rintro rfl
        refine blockQ.ret ?_
        refine PostJ.out (by simp) ?_
        rintro rfl
        refine thenQ_pass (by simp) ?_
        exact FinC.ret (by simp) (by simp)
      · have c25_ : r24 = false := Bool.eq_false_iff.2 c25
        refine AW.condF (b := r24) rfl c25_ ?_
        refine AW.sub (Sub.bool 16 (b := r24) rfl c25_) ?_
        refine AW.sub (S' := mk 19 [] [(0, .d (.sl (a0.map cS43))), (1, .fn (.func g1) (cs1.map .d)), (5, .d (.lit (.int .i64 v7))), (7, .d (.lit (.int .i64 (a0.length : Int)))), (8, .d (.lit (.int .i64 v7))), (11, .fn (.func g1) (cs1.map .d)), (15, .agg [.d (.lit (.int .i64 x22.a0)), .d (.lit (.int .i64 x22.a1))]), (16, .d (.lit (.bool false)))] []) (by simp; exact Sub.table (by simp) (by simp)) ?_
        refine AW.skip ?_
        refine blockQ.normal ?_
        refine thenQ_normal ?_
        refine AW.region ?_
        replace h := bsome h; obtain ⟨v26, hv26, h⟩ := h
        have hv26 := chkI_some hv26
        refine Chain.runK [] 2 fun K hK => ?_; simp [hv26]; refine hK _ _ ?_; clear hK K
        refine Chain.sub (S' := mk 19 [] [(0, .d (.sl (a0.map cS43))), (1, .fn (.func g1) (cs1.map .d)), (7, .d (.lit (.int .i64 (a0.length : Int)))), (8, .d (.lit (.int .i64 v26)))] []) (Sub.table (by simp) (by simp)) ?_
        refine Chain.nil ?_
        cases h
        refine PostI.next ?_
        exact (Sub.table (by simp) (by simp))
    · have c21_ : decide (v7 < (a0.length : Int)) = false := decide_eq_false c21
      refine AW.condF (b := decide (v7 < (a0.length : Int))) rfl c21_ ?_
      refine AW.sub (Sub.bool 9 (b := decide (v7 < (a0.length : Int))) rfl c21_) ?_
      refine AW.sub (S' := mk 19 [] [(0, .d (.sl (a0.map cS43))), (1, .fn (.func g1) (cs1.map .d)), (7, .d (.lit (.int .i64 (a0.length : Int)))), (8, .d (.lit (.int .i64 v7))), (9, .d (.lit (.bool false)))] []) (by simp; exact Sub.table (by simp) (by simp)) ?_
      refine AW.exit ?_
      cases h
      refine thenQ_pass (by simp) ?_
      refine PostI.out (by simp) ?_
      rintro rfl
      refine blockQ.hit ?_
      refine PostJ.next ?_
      exact (Sub.table (by simp) (by simp))
  · rintro ⟨⟩ h
    refine thenQ_normal ?_
    refine AW.seqR ?_
    refine Chain.runK [] 1 fun K hK => ?_; simp; refine hK _ _ ?_; clear hK K
    refine Chain.sub (S' := mk 19 [] [(4, .d (.lit (.int .i64 (-1))))] []) (Sub.table (by simp) (by simp)) ?_
    refine Chain.nil ?_
    refine AW.ret ?_
    cases h
    exact FinC.ret (by simp) (by simp)

/-- slices.ContainsFunc[[][2]int,[2]int] -/
def d72 (N : Nat) (a0 : (List S43)) (p1 : S43 → Option Bool) : Option Bool :=
  (d89 N a0 p1).bind fun r1 =>
  some (decide (r1 ≥ 0))
set_option maxRecDepth 100000 in
set_option maxHeartbeats 4000000 in
theorem p72 (N : Nat) (a0 : (List S43)) (g1 : Nat) (cs1 : List D) (p1 : S43 → Option Bool) (ent_1 : Rp.Enters Try.prog g1) (hp1 : ∀ a0 r, p1 a0 = some r → FunC Try.prog g1 ([.agg [.d (.lit (.int .i64 a0.a0)), .d (.lit (.int .i64 a0.a1))]] ++ cs1.map .d) (.d (.lit (.bool r)))) (r : Bool) (h : d72 N a0 p1 = some r) : FunC Try.prog 72 [.d (.sl (a0.map cS43)), .fn (.func g1) (cs1.map .d)] (.d (.lit (.bool r))) := by
  unfold d72 at h
  refine FunC.enter 9 [(0, .d (.sl (a0.map cS43))), (1, .fn (.func g1) (cs1.map .d))] (by simp) Try.func72 rfl (of_decide_eq_true rfl) rfl rfl ?_
  refine AW.seqR ?_
  refine Chain.runK [] 1 fun K hK => ?_; simp; refine hK _ _ ?_; clear hK K
  refine Chain.sub (S' := mk 9 [] [(0, .d (.sl (a0.map cS43))), (1, .fn (.func g1) (cs1.map .d))] []) (Sub.table (by simp) (by simp)) ?_
  refine Chain.nil ?_
  refine AW.seqR ?_
  refine Chain.runK [] 2 fun K hK => ?_; simp; refine hK _ _ ?_; clear hK K
  refine Chain.sub (S' := mk 9 [] [(5, .d (.sl (a0.map cS43))), (6, .fn (.func g1) (cs1.map .d))] []) (Sub.table (by simp) (by simp)) ?_
  replace h := bsome h; obtain ⟨r1, hr1, h⟩ := h
  refine Chain.callL (d := 7) (p89 N a0 g1 cs1 p1 ent_1 hp1 r1 hr1) (by simp) rfl rfl (by simp <;> rfl) (by simp <;> rfl) ent89 (by simp <;> rfl) ?_
  refine Chain.sub (S' := mk 9 [] [(5, .d (.sl (a0.map cS43))), (6, .fn (.func g1) (cs1.map .d)), (7, .d (.lit (.int .i64 r1)))] []) (by simp; exact Sub.table (by simp) (by simp)) ?_
  refine Chain.runK [] 2 fun K hK => ?_; simp; refine hK _ _ ?_; clear hK K
  refine Chain.sub (S' := mk 9 [] [(4, .d (.lit (.bool (decide (r1 ≥ 0)))))] []) (Sub.table (by simp) (by simp)) ?_
  refine Chain.nil ?_
  refine AW.ret ?_
  cases h
  exact FinC.ret (by simp) (by simp)

/-- stemma/ssi.SerialOrder$1 -/
def d71 (N : Nat) (a0 : Int) (a1 : (List S43)) (a2 : (List Int)) : Option Bool :=
  (d72 N a1 (fun b0 => d73 N b0 a0 a2)).bind fun r1 =>
  some (!r1)
set_option maxRecDepth 100000 in
set_option maxHeartbeats 4000000 in
theorem p71 (N : Nat) (a0 : Int) (a1 : (List S43)) (a2 : (List Int)) (r : Bool) (h : d71 N a0 a1 a2 = some r) : FunC Try.prog 71 [.d (.lit (.int .i64 a0)), .d (.pim [.sl (a1.map cS43)]), .d (.pim [.sl (a2.map (cI .i64))])] (.d (.lit (.bool r))) := by
  unfold d71 at h
  refine FunC.enter 9 [(0, .d (.lit (.int .i64 a0))), (1, .d (.pim [.sl (a1.map cS43)])), (2, .d (.pim [.sl (a2.map (cI .i64))]))] (by simp) Try.func71 rfl (of_decide_eq_true rfl) rfl rfl ?_
  refine AW.seqR ?_
  refine Chain.runK [] 2 fun K hK => ?_; simp; refine hK _ _ ?_; clear hK K
  refine Chain.sub (S' := mk 9 [] [(1, .d (.pim [.sl (a1.map cS43)])), (2, .d (.pim [.sl (a2.map (cI .i64))])), (3, .ptr 3 0 0)] [(3, some (.box [.d (.lit (.int .i64 a0))]))]) (Sub.table (by simp) (by simp)) ?_
  refine Chain.nil ?_
  refine AW.seqR ?_
  refine Chain.runK [] 2 fun K hK => ?_; simp; refine hK _ _ ?_; clear hK K
  refine Chain.sub (S' := mk 9 [] [(5, .d (.sl (a1.map cS43))), (6, .fn (.func 73) [.ptr 3 0 0, .d (.pim [.sl (a2.map (cI .i64))])])] [(3, some (.box [.d (.lit (.int .i64 a0))]))]) (Sub.table (by simp) (by simp)) ?_
  replace h := bsome h; obtain ⟨r1, hr1, h⟩ := h
  refine Chain.callL (d := 7) (p72 N a1 73 [.pim [.lit (.int .i64 a0)], .pim [.sl (a2.map (cI .i64))]] (fun b0 => d73 N b0 a0 a2) ent73 (fun b0 r h => p73 N b0 a0 a2 r h) r1 hr1) (by simp) rfl rfl (by simp <;> rfl) (by simp <;> rfl) ent72 (by simp <;> rfl) ?_
  refine Chain.sub (S' := mk 9 [] [(5, .d (.sl (a1.map cS43))), (6, .fn (.func 73) [.ptr 3 0 0, .d (.pim [.sl (a2.map (cI .i64))])]), (7, .d (.lit (.bool r1)))] [(3, some (.box [.d (.lit (.int .i64 a0))]))]) (by simp; exact Sub.table (by simp) (by simp)) ?_
  refine Chain.runK [] 2 fun K hK => ?_; simp; refine hK _ _ ?_; clear hK K
  refine Chain.sub (S' := mk 9 [] [(4, .d (.lit (.bool (!r1))))] []) (Sub.table (by simp) (by simp)) ?_
  refine Chain.nil ?_
  refine AW.ret ?_
  cases h
  exact FinC.ret (by simp) (by simp)

/-- slices.IndexFunc[[]int,int] -/
def d58 (N : Nat) (a0 : (List Int)) (p1 : Int → Option Bool) : Option Int :=
  bindO (β := Unit) (ρ := Int) (
    iterN (σ := Int) (ρ := (Out Unit Int)) (fun (v7 : Int) =>
      if v7 < (a0.length : Int) then (
        (idx a0 v7).bind fun x22 =>
        (p1 x22).bind fun r24 =>
        if r24 = true then (
          some (.inr (.ret v7))
        ) else
        (chkI (v7 + 1)).bind fun v26 =>
        some (.inl v26)
      ) else
      some (.inr (.go ()))
    ) N 0
  ) fun (_ : Unit) =>
  some (-1)
set_option maxRecDepth 100000 in
set_option maxHeartbeats 4000000 in
theorem p58 (N : Nat) (a0 : (List Int)) (g1 : Nat) (cs1 : List D) (p1 : Int → Option Bool) (ent_1 : Rp.Enters Try.prog g1) (hp1 : ∀ a0 r, p1 a0 = some r → FunC Try.prog g1 ([.d (.lit (.int .i64 a0))] ++ cs1.map .d) (.d (.lit (.bool r)))) (r : Int) (h : d58 N a0 p1 = some r) : FunC Try.prog 58 [.d (.sl (a0.map (cI .i64))), .fn (.func g1) (cs1.map .d)] (.d (.lit (.int .i64 r))) := by
  unfold d58 at h
  refine FunC.enter 19 [(0, .d (.sl (a0.map (cI .i64)))), (1, .fn (.func g1) (cs1.map .d))] (by simp) Try.func58 rfl (of_decide_eq_true rfl) rfl rfl ?_
  refine AW.seqR ?_
  refine Chain.runK [] 1 fun K hK => ?_; simp; refine hK _ _ ?_; clear hK K
  refine Chain.sub (S' := mk 19 [] [(0, .d (.sl (a0.map (cI .i64)))), (1, .fn (.func g1) (cs1.map .d))] []) (Sub.table (by simp) (by simp)) ?_
  refine Chain.nil ?_
  refine AW.seq ?_
  refine AW.seqR ?_
  refine Chain.runK [] 3 fun K hK => ?_; simp; refine hK _ _ ?_; clear hK K
  refine Chain.sub (S' := mk 19 [] [(0, .d (.sl (a0.map (cI .i64)))), (1, .fn (.func g1) (cs1.map .d)), (7, .d (.lit (.int .i64 (a0.length : Int)))), (8, .d (.lit (.int .i64 0)))] []) (Sub.table (by simp) (by simp)) ?_
  refine Chain.nil ?_
  refine AW.lastJ (fun (_ : Unit) => mk 19 [] [] []) h ?_ ?_ <;> clear h
  · intro o h
    refine AW.block ?_
    refine AW.iter (fun (v7 : Int) => mk 19 [] [(0, .d (.sl (a0.map (cI .i64)))), (1, .fn (.func g1) (cs1.map .d)), (7, .d (.lit (.int .i64 (a0.length : Int)))), (8, .d (.lit (.int .i64 v7)))] []) h (Sub.table (by simp) (by simp)) ?_
    clear h
    rintro v7 x h
    refine AW.seqR ?_
    refine Chain.runK [] 1 fun K hK => ?_; simp; refine hK _ _ ?_; clear hK K
    refine Chain.sub (S' := mk 19 [] [(0, .d (.sl (a0.map (cI .i64)))), (1, .fn (.func g1) (cs1.map .d)), (7, .d (.lit (.int .i64 (a0.length : Int)))), (8, .d (.lit (.int .i64 v7))), (9, .d (.lit (.bool (decide (v7 < (a0.length : Int))))))] []) (Sub.table (by simp) (by simp)) ?_
    refine Chain.nil ?_
    refine AW.seq ?_
    replace h := isome h; rcases h with ⟨c21, h⟩ | ⟨c21, h⟩
    · have c21_ : decide (v7 < (a0.length : Int)) = true := decide_eq_true c21
      refine AW.condT (b := decide (v7 < (a0.length : Int))) rfl c21_ ?_
      refine AW.sub (Sub.bool 9 (b := decide (v7 < (a0.length : Int))) rfl c21_) ?_
      refine AW.sub (S' := mk 19 [] [(0, .d (.sl (a0.map (cI .i64)))), (1, .fn (.func g1) (cs1.map .d)), (7, .d (.lit (.int .i64 (a0.length : Int)))), (8, .d (.lit (.int .i64 v7))), (9, .d (.lit (.bool true)))] []) (by simp; exact Sub.table (by simp) (by simp)) ?_
      refine AW.skip ?_
      refine thenQ_normal ?_
      refine AW.seq ?_
      refine AW.block ?_
      refine AW.seqR ?_
      refine Chain.runK [] 2 fun K hK => ?_; simp; refine hK _ _ ?_; clear hK K
      refine Chain.sub (S' := mk 19 [] [(0, .d (.sl (a0.map (cI .i64)))), (1, .fn (.func g1) (cs1.map .d)), (5, .d (.lit (.int .i64 v7))), (7, .d (.lit (.int .i64 (a0.length : Int)))), (8, .d (.lit (.int .i64 v7)))] []) (Sub.table (by simp) (by simp)) ?_
      refine Chain.nil ?_
      refine AW.seqR ?_
      replace h := bsome h; obtain ⟨x22, hx22, h⟩ := h
      obtain ⟨k23, hx22k, hx22, hx22a, hx22b⟩ := idx_some hx22
      refine Chain.runK [] 5 fun K hK => ?_; simp [hx22, hx22k, hx22a]; refine hK _ _ ?_; clear hK K
      refine Chain.sub (S' := mk 19 [] [(0, .d (.sl (a0.map (cI .i64)))), (1, .fn (.func g1) (cs1.map .d)), (5, .d (.lit (.int .i64 v7))), (7, .d (.lit (.int .i64 (a0.length : Int)))), (8, .d (.lit (.int .i64 v7))), (11, .fn (.func g1) (cs1.map .d)), (15, .d (.lit (.int .i64 x22)))] []) (Sub.table (by simp) (by simp)) ?_
      replace h := bsome h; obtain ⟨r24, hr24, h⟩ := h
      refine Chain.callL (d := 16) (hp1 x22 r24 hr24) (by simp) rfl rfl (by simp <;> rfl) (by simp <;> rfl) ent_1 (by simp <;> rfl) ?_
      refine Chain.sub (S' := mk 19 [] [(0, .d (.sl (a0.map (cI .i64)))), (1, .fn (.func g1) (cs1.map .d)), (5, .d (.lit (.int .i64 v7))), (7, .d (.lit (.int .i64 (a0.length : Int)))), (8, .d (.lit (.int .i64 v7))), (11, .fn (.func g1) (cs1.map .d)), (15, .d (.lit (.int .i64 x22))), (16, .d (.lit (.bool r24)))] []) (by simp; exact Sub.table (by simp) (by simp)) ?_
      refine Chain.nil ?_
      replace h := isome h; rcases h with ⟨c25, h⟩ | ⟨c25, h⟩
      · have c25_ : r24 = true := c25
        refine AW.condT (b := r24) rfl c25_ ?_
        refine AW.sub (Sub.bool 16 (b := r24) rfl c25_) ?_
        refine AW.sub (S' := mk 19 [] [(0, .d (.sl (a0.map (cI .i64)))), (1, .fn (.func g1) (cs1.map .d)), (5, .d (.lit (.int .i64 v7))), (7, .d (.lit (.int .i64 (a0.length : Int)))), (8, .d (.lit (.int .i64 v7))), (11, .fn (.func g1) (cs1.map .d)), (15, .d (.lit (.int .i64 x22))), (16, .d (.lit (.bool true)))] []) (by simp; exact Sub.table (by simp) (by simp)) ?_
        refine AW.seqR ?_
        refine Chain.runK [] 2 fun K hK => ?_; simp; refine hK _ _ ?_; clear hK K
        refine Chain.sub (S' := mk 19 [] [(4, .d (.lit (.int .i64 v7)))] []) (Sub.table (by simp) (by simp)) ?_
        refine Chain.nil ?_
        refine AW.ret ?_
        cases h
        refine blockQ.ret ?_
        refine thenQ_pass (by simp) ?_
        refine PostI.out (by simp) ?_
        rintro rfl
        refine blockQ.ret ?_
        refine PostJ.out (by simp) ?_
        rintro rfl
        refine thenQ_pass (by simp) ?_
        exact FinC.ret (by simp) (by simp)
      · have c25_ : r24 = false := Bool.eq_false_iff.2 c25
        refine AW.condF (b := r24) rfl c25_ ?_
        refine AW.sub (Sub.bool 16 (b := r24) rfl c25_) ?_
        refine AW.sub (S' := mk 19 [] [(0, .d (.sl (a0.map (cI .i64)))), (1, .fn (.func g1) (cs1.map .d)), (5, .d (.lit (.int .i64 v7))), (7, .d (.lit (.int .i64 (a0.length : Int)))), (8, .d (.lit (.int .i64 v7))), (11, .fn (.func g1) (cs1.map .d)), (15, .d (.lit (.int .i64 x22))), (16, .d (.lit (.bool false)))] []) (by simp; exact Sub.table (by simp) (by simp)) ?_
        refine AW.skip ?_
        refine blockQ.normal ?_
        refine thenQ_normal ?_
        refine AW.region ?_
        replace h := bsome h; obtain ⟨v26, hv26, h⟩ := h
        have hv26 := chkI_some hv26
        refine Chain.runK [] 2 fun K hK => ?_; simp [hv26]; refine hK _ _ ?_; clear hK K
        refine Chain.sub (S' := mk 19 [] [(0, .d (.sl (a0.map (cI .i64)))), (1, .fn (.func g1) (cs1.map .d)), (7, .d (.lit (.int .i64 (a0.length : Int)))), (8, .d (.lit (.int .i64 v26)))] []) (Sub.table (by simp) (by simp)) ?_
        refine Chain.nil ?_
        cases h
        refine PostI.next ?_
        exact (Sub.table (by simp) (by simp))
    · have c21_ : decide (v7 < (a0.length : Int)) = false := decide_eq_false c21
      refine AW.condF (b := decide (v7 < (a0.length : Int))) rfl c21_ ?_
      refine AW.sub (Sub.bool 9 (b := decide (v7 < (a0.length : Int))) rfl c21_) ?_
      refine AW.sub (S' := mk 19 [] [(0, .d (.sl (a0.map (cI .i64)))), (1, .fn (.func g1) (cs1.map .d)), (7, .d (.lit (.int .i64 (a0.length : Int)))), (8, .d (.lit (.int .i64 v7))), (9, .d (.lit (.bool false)))] []) (by simp; exact Sub.table (by simp) (by simp)) ?_
      refine AW.exit ?_
      cases h
      refine thenQ_pass (by simp) ?_
      refine PostI.out (by simp) ?_
      rintro rfl
      refine blockQ.hit ?_
      refine PostJ.next ?_
      exact (Sub.table (by simp) (by simp))
  · rintro ⟨⟩ h
    refine thenQ_normal ?_
    refine AW.seqR ?_
    refine Chain.runK [] 1 fun K hK => ?_; simp; refine hK _ _ ?_; clear hK K
    refine Chain.sub (S' := mk 19 [] [(4, .d (.lit (.int .i64 (-1))))] []) (Sub.table (by simp) (by simp)) ?_
    refine Chain.nil ?_
    refine AW.ret ?_
    cases h
    exact FinC.ret (by simp) (by simp)

/-- slices.Delete[[]int,int] -/
def d62 (_ : Nat) (a0 : (List Int)) (a1 a2 : Int) : Option (List Int) := delL a0 a1 a2
theorem p62 (N : Nat) (a0 : (List Int)) (a1 a2 : Int) (r : (List Int)) (h : d62 N a0 a1 a2 = some r) : FunM Try.prog 62 [.ref 1000 0 a0.length, .d (.lit (.int .i64 a1)), .d (.lit (.int .i64 a2))] [(1000, some (.arr 3 1 (a0.map (cI .i64))))] [] (.ref 1000 0 r.length) [(1000, .arr 3 1 (r.map (cI .i64)))] := by
  obtain ⟨i, j, rfl, rfl, hij, hj, hrl, hr⟩ := delL_some (cI .i64) h
  have hes : ∀ x ∈ a0.map (cI .i64), x.length = 1 := fun x hx => by
    obtain ⟨y, _, rfl⟩ := List.mem_map.1 hx
    rfl
  rw [hr, hrl]
  have hel : (a0.map (cI .i64)).length = a0.length := by simp
  rw [← hel] at hj hrl ⊢
  clear hel h hr hrl
  generalize a0.map (cI .i64) = es at *
  refine FunM.enter 33 [(0, .ref 1000 0 es.length), (1, .d (.lit (.int .i64 i))), (2, .d (.lit (.int .i64 j)))] Try.func62 rfl (of_decide_eq_true rfl) rfl rfl ?_
  refine AW.goR [] 1 fun K hK => ?_; simp; refine hK _ ?_; clear hK K
  refine AW.seqR ?_
  refine Chain.runK [] 5 fun K hK => ?_; simp; refine hK _ _ ?_; clear hK K
  have hjn : (j : Int) ≤ es.length := by omega
  have hin : (i : Int) ≤ j := by omega
  refine Chain.slice3 (id := 1000) (off := 0) (len := es.length) (mq := es.length) (hq := j) (lq := i) (by simp) rfl ty35 rfl ty3 rfl (by simp [bnd]) (by simp [bnd, hj]) (by simp [bnd]; omega) ?_
  refine Chain.nil ?_
  have hne : ¬ ((i : Int) = j) := by omega
  refine AW.seq ?_
  refine AW.goR [] 3 fun K hK => ?_; simp; refine hK _ ?_; clear hK K
  refine AW.condK fun K1 K2 k1 k2 => ?_; simp [hne]; refine k2 ?_; clear k1 k2 K1 K2
  refine AW.skip ?_
  refine thenQ_normal ?_
  refine AW.goR [] 3 fun K hK => ?_; simp; refine hK _ ?_; clear hK K
  refine AW.seqT 6 (by kernel_rfl) (by kernel_rfl) fun K hK => ?_
  simp [show i ≤ es.length by omega, hj]; refine hK _ _ ?_; clear hK K
  have htk : List.take (es.length - j) (es.drop j) = es.drop j := List.take_of_length_le (by simp)
  refine Chain.cut (mk 33 [] [(0, .ref 1000 0 (i + (es.length - j))), (7, .d (.lit (.int .i64 es.length)))] [(1000, some (.arr 3 1 (es.take i ++ (es.drop j ++ es.drop (i + (es.length - j))))))]) ?_ fun S' hS => AW.sub hS ?_
  · by_cases hje : j = es.length
    · have hdn : es.drop j = [] := by rw [hje]; simp
      refine Chain.appNo (id := 1000) (len := i) (es := es) (te := ⟨_, 1, 8, _⟩) (by simp) rfl rfl rfl rfl ty35 rfl ty3 rfl rfl (by simp [srcV, hje]) (by omega) (by omega) ?_
      refine Chain.runK [] 1 fun K hK => ?_; simp; refine hK _ _ ?_; clear hK K
      refine Chain.nil ?_
      exact Sub.table (by simp [hje]) (by simp [hje])
    · refine Chain.appIn (id := 1000) (len := i) (es := es) (ys := es.drop j) (te := ⟨_, 1, 8, _⟩) (by simp) rfl rfl rfl rfl ty35 rfl ty3 rfl rfl (by simp [srcV, show j + (es.length - j) ≤ es.length by omega, htk]) (fun y hy => hes y (List.mem_of_mem_drop hy)) (by simp; omega) (by simp; omega) ?_
      refine Chain.runK [] 1 fun K hK => ?_; simp; refine hK _ _ ?_; clear hK K
      refine Chain.nil ?_
      exact Sub.table (by simp) (by simp)
  have hl2 : (es.take i ++ (es.drop j ++ es.drop (i + (es.length - j)))).length = es.length := by simp; omega
  have hes2 : ∀ x ∈ (es.take i ++ (es.drop j ++ es.drop (i + (es.length - j)))), x.length = 1 := fun x hx => by
    rcases List.mem_append.1 hx with hx | hx
    · exact hes x (List.mem_of_mem_take hx)
    · rcases List.mem_append.1 hx with hx | hx
      · exact hes x (List.mem_of_mem_drop hx)
      · exact hes x (List.mem_of_mem_drop hx)
  have htk2 : (es.take i ++ (es.drop j ++ es.drop (i + (es.length - j)))).take (i + (es.length - j)) = es.take i ++ es.drop j := by
    rw [← List.append_assoc]
    exact List.take_left' (by simp; omega)
  generalize (es.take i ++ (es.drop j ++ es.drop (i + (es.length - j)))) = es2 at hl2 hes2 htk2 ⊢
  refine AW.seqR ?_
  refine Chain.runK [] 4 fun K hK => ?_; simp; refine hK _ _ ?_; clear hK K
  refine Chain.sliceX (id := 1000) (off := 0) (len := i + (es.length - j)) (es := es2) (hq := es.length) (lq := i + (es.length - j)) (te := ⟨_, 1, 8, _⟩) (by simp) rfl ty35 rfl ty3 rfl rfl (by omega) (by omega) (by simp [bnd, hl2]) (by simp [bnd]; omega) ?_
  simp
  refine Chain.clear (id := 1000) (off := i + (es.length - j)) (len := es.length - (i + (es.length - j))) (es := es2) (te := ⟨_, 1, 8, _⟩) (by simp) rfl rfl rfl rfl ty35 rfl ty3 (by simp) (by simp) rfl rfl (by omega) (by omega) ?_
  simp
  refine Chain.nil ?_
  refine AW.goR [] 2 fun K hK => ?_; simp; refine hK _ ?_; clear hK K
  have hcl : ∀ zs : List (List D), List.take (i + (es.length - j)) (es.take i ++ (es.drop j ++ zs)) = es.take i ++ es.drop j := fun zs => by
    rw [← List.append_assoc]
    exact List.take_left' (by simp; omega)
  refine AW.sub (Sub.cut 1000 (i + (es.length - j)) rfl) ?_
  refine AW.sub (S' := mk 33 [] [(6, .ref 1000 0 (i + (es.length - j)))] [(1000, some (.arr 3 1 (es.take i ++ es.drop j)))]) (by simp [htk2]; exact Sub.table (by simp) (by simp [htk2, hcl])) ?_
  refine AW.ret ?_
  exact FinF.ret (by simp) (by simp)

/-- stemma/ssi.SerialOrder -/
def d44 (N : Nat) (a0 : (List S105)) (a1 : (List Bool)) : Option ((List Int) × Int) :=
  (d43 N a0 a1).bind fun r1 =>
  if (r1.2 != 0) then (
    some (([] : List Int), r1.2)
  ) else
  Option.bind (α := List Int) (
    iterN (σ := ((List Int) × Int)) (ρ := List Int) (fun ((l10, v11) : ((List Int) × Int)) =>
      if v11 < (a1.length : Int) then (
        (idx a1 v11).bind fun x30 =>
        if x30 = true then (
          (appL 8 l10 [v11]).bind fun l33 =>
          (chkI (v11 + 1)).bind fun v34 =>
          some (.inl ((l10 ++ [v11]), v34))
        ) else
        (chkI (v11 + 1)).bind fun v35 =>
        some (.inl (l10, v35))
      ) else
      some (.inr l10)
    ) N (([] : List Int), 0)
  ) fun (l28 : List Int) =>
  bindO (β := List Int) (ρ := ((List Int) × Int)) (
    iterN (σ := ((List Int) × (List Int))) (ρ := (Out (List Int) ((List Int) × Int))) (fun ((l44, l45) : ((List Int) × (List Int))) =>
      if (l44.length : Int) > 0 then (
        (d58 N l44 (fun b0 => d71 N b0 r1.1 l44)).bind fun r66 =>
        if r66 < 0 then (
          some (.inr (.ret (([] : List Int), 14)))
        ) else
        (idx l44 r66).bind fun x68 =>
        (appL 8 l45 [x68]).bind fun l70 =>
        (chkI (r66 + 1)).bind fun v71 =>
        (d62 N l44 r66 v71).bind fun l72 =>
        some (.inl (l72, (l45 ++ [x68])))
      ) else
      some (.inr (.go l45))
    ) N (l28, ([] : List Int))
  ) fun (l64 : List Int) =>
  some (l64, 0)
set_option maxRecDepth 100000 in
set_option maxHeartbeats 4000000 in
theorem p44 (N : Nat) (a0 : (List S105)) (a1 : (List Bool)) (r : ((List Int) × Int)) (h : d44 N a0 a1 = some r) : FunC Try.prog 44 [.d (.sl (a0.map cS105)), .d (.sl (a1.map cB))] (.tup [.d (.sl (r.1.map (cI .i64))), .d (.lit (.int .i64 r.2))]) := by
  unfold d44 at h
  refine FunC.enter 56 [(0, .d (.sl (a0.map cS105))), (1, .d (.sl (a1.map cB)))] (by simp) Try.func44 rfl (of_decide_eq_true rfl) rfl rfl ?_
  refine AW.seqR ?_
  refine Chain.runK [] 2 fun K hK => ?_; simp; refine hK _ _ ?_; clear hK K
  refine Chain.sub (S' := mk 56 [] [(0, .d (.sl (a0.map cS105))), (1, .d (.sl (a1.map cB)))] []) (Sub.table (by simp) (by simp)) ?_
  refine Chain.nil ?_
  refine AW.seqR ?_
  refine Chain.runK [] 2 fun K hK => ?_; simp; refine hK _ _ ?_; clear hK K
  refine Chain.sub (S' := mk 56 [] [(1, .d (.sl (a1.map cB))), (14, .d (.sl (a0.map cS105))), (15, .d (.sl (a1.map cB)))] []) (Sub.table (by simp) (by simp)) ?_
  replace h := bsome h; obtain ⟨r1, hr1, h⟩ := h
  refine Chain.callC (d := 16) (p43 N a0 a1 r1 hr1) (by simp) rfl rfl (by simp <;> rfl) (by simp <;> rfl) ent43 (by simp) (.inl ⟨by simp, by simp⟩) ?_
  refine Chain.sub (S' := mk 56 [] [(1, .d (.sl (a1.map cB))), (14, .d (.sl (a0.map cS105))), (15, .d (.sl (a1.map cB))), (16, .tup [.d (.sl (r1.1.map cS43)), .d (.lit (.int .i64 r1.2))])] []) (by simp; exact Sub.table (by simp) (by simp)) ?_
  refine Chain.runK [] 6 fun K hK => ?_; simp; refine hK _ _ ?_; clear hK K
  refine Chain.sub (S' := mk 56 [] [(1, .d (.sl (a1.map cB))), (6, .ptr 6 0 0), (7, .d (.lit (.int .i64 r1.2)))] [(6, some (.box [.d (.sl (r1.1.map cS43))]))]) (Sub.table (by simp) (by simp)) ?_
  refine Chain.nil ?_
  refine AW.seq ?_
  refine AW.seqR ?_
  refine Chain.runK [] 2 fun K hK => ?_; simp; refine hK _ _ ?_; clear hK K
  refine Chain.sub (S' := mk 56 [] [(1, .d (.sl (a1.map cB))), (6, .ptr 6 0 0), (7, .d (.lit (.int .i64 r1.2))), (20, .d (.lit (.bool (r1.2 != 0))))] [(6, some (.box [.d (.sl (r1.1.map cS43))]))]) (Sub.table (by simp) (by simp)) ?_
  refine Chain.nil ?_
  replace h := isome h; rcases h with ⟨c2, h⟩ | ⟨c2, h⟩
  · have c2_ : (r1.2 != 0) = true := c2
    refine AW.condT (b := (r1.2 != 0)) rfl c2_ ?_
    refine AW.sub (Sub.bool 20 (b := (r1.2 != 0)) rfl c2_) ?_
    refine AW.sub (S' := mk 56 [] [(1, .d (.sl (a1.map cB))), (6, .ptr 6 0 0), (7, .d (.lit (.int .i64 r1.2))), (20, .d (.lit (.bool true)))] [(6, some (.box [.d (.sl (r1.1.map cS43))]))]) (by simp; exact Sub.table (by simp) (by simp)) ?_
    refine AW.seqR ?_
    refine Chain.runK [] 3 fun K hK => ?_; simp; refine hK _ _ ?_; clear hK K
    refine Chain.sub (S' := mk 56 [] [(4, .d (.lit (.slice none 0 0))), (5, .d (.lit (.int .i64 r1.2)))] []) (Sub.table (by simp) (by simp)) ?_
    refine Chain.nil ?_
    refine AW.sub (Sub.wk 4 rfl) ?_
    refine AW.sub (S' := mk 56 [] [(4, .d (.sl (([] : List Int).map (cI .i64)))), (5, .d (.lit (.int .i64 r1.2)))] []) (by simp; exact Sub.table (by simp) (by simp)) ?_
    refine AW.ret ?_
    cases h
    refine thenQ_pass (by simp) ?_
    exact FinC.ret (by simp) (by simp)
  · have c2_ : (r1.2 != 0) = false := Bool.eq_false_iff.2 c2
    refine AW.condF (b := (r1.2 != 0)) rfl c2_ ?_
    refine AW.sub (Sub.bool 20 (b := (r1.2 != 0)) rfl c2_) ?_
    refine AW.sub (S' := mk 56 [] [(1, .d (.sl (a1.map cB))), (6, .ptr 6 0 0), (7, .d (.lit (.int .i64 r1.2))), (20, .d (.lit (.bool false)))] [(6, some (.box [.d (.sl (r1.1.map cS43))]))]) (by simp; exact Sub.table (by simp) (by simp)) ?_
    refine AW.skip ?_
    refine thenQ_normal ?_
    refine AW.seqR ?_
    refine Chain.runK [] 2 fun K hK => ?_; simp; refine hK _ _ ?_; clear hK K
    refine Chain.sub (S' := mk 56 [] [(1, .d (.sl (a1.map cB))), (6, .ptr 6 0 0), (8, .ptr 8 0 0), (9, .d (.lit (.slice none 0 0)))] [(6, some (.box [.d (.sl (r1.1.map cS43))])), (8, some (.box [.d (.lit (.slice none 0 0))]))]) (Sub.table (by simp) (by simp)) ?_
    refine Chain.nil ?_
    refine AW.seq ?_
    refine AW.seqR ?_
    refine Chain.runK [] 3 fun K hK => ?_; simp; refine hK _ _ ?_; clear hK K
    refine Chain.sub (S' := mk 56 [] [(6, .ptr 6 0 0), (8, .ptr 8 0 0), (9, .d (.lit (.slice none 0 0))), (22, .d (.sl (a1.map cB))), (23, .d (.lit (.int .i64 (a1.length : Int)))), (24, .d (.lit (.int .i64 0)))] [(6, some (.box [.d (.sl (r1.1.map cS43))])), (8, some (.box [.d (.lit (.slice none 0 0))]))]) (Sub.table (by simp) (by simp)) ?_
    refine Chain.nil ?_
    refine AW.lastN (fun (l28 : List Int) => mk 56 [] [(6, .ptr 6 0 0), (8, .ptr 8 0 0), (9, .d (.lit (.slice none 0 0)))] [(6, some (.box [.d (.sl (r1.1.map cS43))])), (8, some (.box [.ref 33 0 l28.length])), (33, some (.arr 3 1 (l28.map (cI .i64))))]) h ?_ ?_ <;> clear h
    · intro o h
      refine AW.block ?_
      refine AW.iter (fun ((l10, v11) : ((List Int) × Int)) => mk 56 [] [(6, .ptr 6 0 0), (8, .ptr 8 0 0), (9, .d (.lit (.slice none 0 0))), (22, .d (.sl (a1.map cB))), (23, .d (.lit (.int .i64 (a1.length : Int)))), (24, .d (.lit (.int .i64 v11)))] [(6, some (.box [.d (.sl (r1.1.map cS43))])), (8, some (.box [.ref 33 0 l10.length])), (33, some (.arr 3 1 (l10.map (cI .i64))))]) h (Sub.trans (Sub.nilOwnBox (bid := 8) (j := 0) (id := 33) (T := 3) (n := 1) rfl rfl (by decide) rfl (by decide)) (by simp; exact Sub.table (by simp) (by simp))) ?_
      clear h
      rintro ⟨l10, v11⟩ x h
      dsimp only at h ⊢
      refine AW.seqR ?_
      refine Chain.runK [] 1 fun K hK => ?_; simp; refine hK _ _ ?_; clear hK K
      refine Chain.sub (S' := mk 56 [] [(6, .ptr 6 0 0), (8, .ptr 8 0 0), (9, .d (.lit (.slice none 0 0))), (22, .d (.sl (a1.map cB))), (23, .d (.lit (.int .i64 (a1.length : Int)))), (24, .d (.lit (.int .i64 v11))), (25, .d (.lit (.bool (decide (v11 < (a1.length : Int))))))] [(6, some (.box [.d (.sl (r1.1.map cS43))])), (8, some (.box [.ref 33 0 l10.length])), (33, some (.arr 3 1 (l10.map (cI .i64))))]) (Sub.table (by simp) (by simp)) ?_
      refine Chain.nil ?_
      refine AW.seq ?_
      replace h := isome h; rcases h with ⟨c29, h⟩ | ⟨c29, h⟩
      · have c29_ : decide (v11 < (a1.length : Int)) = true := decide_eq_true c29
        refine AW.condT (b := decide (v11 < (a1.length : Int))) rfl c29_ ?_
        refine AW.sub (Sub.bool 25 (b := decide (v11 < (a1.length : Int))) rfl c29_) ?_
        refine AW.sub (S' := mk 56 [] [(6, .ptr 6 0 0), (8, .ptr 8 0 0), (9, .d (.lit (.slice none 0 0))), (22, .d (.sl (a1.map cB))), (23, .d (.lit (.int .i64 (a1.length : Int)))), (24, .d (.lit (.int .i64 v11))), (25, .d (.lit (.bool true)))] [(6, some (.box [.d (.sl (r1.1.map cS43))])), (8, some (.box [.ref 33 0 l10.length])), (33, some (.arr 3 1 (l10.map (cI .i64))))]) (by simp; exact Sub.table (by simp) (by simp)) ?_
        refine AW.skip ?_
        refine thenQ_normal ?_
        refine AW.seq ?_
        refine AW.block ?_
        refine AW.seqR ?_
        replace h := bsome h; obtain ⟨x30, hx30, h⟩ := h
        obtain ⟨k31, hx30k, hx30, hx30a, hx30b⟩ := idx_some hx30
        refine Chain.runK [] 5 fun K hK => ?_; simp [hx30, hx30k, hx30a]; refine hK _ _ ?_; clear hK K
        refine Chain.sub (S' := mk 56 [] [(6, .ptr 6 0 0), (8, .ptr 8 0 0), (9, .d (.lit (.slice none 0 0))), (10, .d (.lit (.int .i64 v11))), (11, .d (.lit (.bool x30))), (22, .d (.sl (a1.map cB))), (23, .d (.lit (.int .i64 (a1.length : Int)))), (24, .d (.lit (.int .i64 v11)))] [(6, some (.box [.d (.sl (r1.1.map cS43))])), (8, some (.box [.ref 33 0 l10.length])), (33, some (.arr 3 1 (l10.map (cI .i64))))]) (Sub.table (by simp) (by simp)) ?_
        refine Chain.nil ?_
        refine AW.seqR ?_
        refine Chain.runK [] 1 fun K hK => ?_; simp; refine hK _ _ ?_; clear hK K
        refine Chain.sub (S' := mk 56 [] [(6, .ptr 6 0 0), (8, .ptr 8 0 0), (9, .d (.lit (.slice none 0 0))), (10, .d (.lit (.int .i64 v11))), (22, .d (.sl (a1.map cB))), (23, .d (.lit (.int .i64 (a1.length : Int)))), (24, .d (.lit (.int .i64 v11))), (29, .d (.lit (.bool x30)))] [(6, some (.box [.d (.sl (r1.1.map cS43))])), (8, some (.box [.ref 33 0 l10.length])), (33, some (.arr 3 1 (l10.map (cI .i64))))]) (Sub.table (by simp) (by simp)) ?_
        refine Chain.nil ?_
        replace h := isome h; rcases h with ⟨c32, h⟩ | ⟨c32, h⟩
        · have c32_ : x30 = true := c32
          refine AW.condT (b := x30) rfl c32_ ?_
          refine AW.sub (Sub.bool 29 (b := x30) rfl c32_) ?_
          refine AW.sub (S' := mk 56 [] [(6, .ptr 6 0 0), (8, .ptr 8 0 0), (9, .d (.lit (.slice none 0 0))), (10, .d (.lit (.int .i64 v11))), (22, .d (.sl (a1.map cB))), (23, .d (.lit (.int .i64 (a1.length : Int)))), (24, .d (.lit (.int .i64 v11))), (29, .d (.lit (.bool true)))] [(6, some (.box [.d (.sl (r1.1.map cS43))])), (8, some (.box [.ref 33 0 l10.length])), (33, some (.arr 3 1 (l10.map (cI .i64))))]) (by simp; exact Sub.table (by simp) (by simp)) ?_
          refine AW.region ?_
          replace h := bsome h; obtain ⟨l33, hl33, h⟩ := h
          obtain ⟨hl33a, hl33⟩ := appL_some hl33
          subst hl33
          try simp only [List.length_append, List.length_cons, List.length_nil, Nat.zero_add] at hl33a
          refine Chain.runK [32] 5 fun K hK => ?_; simp [hl33a]; refine hK _ _ ?_; clear hK K
          refine Chain.sub (S' := mk 56 [] [(6, .ptr 6 0 0), (8, .ptr 8 0 0), (9, .d (.lit (.slice none 0 0))), (22, .d (.sl (a1.map cB))), (23, .d (.lit (.int .i64 (a1.length : Int)))), (24, .d (.lit (.int .i64 v11)))] [(6, some (.box [.d (.sl (r1.1.map cS43))])), (8, some (.box [.ref 33 0 ((l10 ++ [v11]).length)])), (33, some (.arr 3 1 ((l10 ++ [v11]).map (cI .i64))))]) (Sub.table (by simp) (by simp)) ?_
          refine Chain.nil ?_
          refine blockQ.normal ?_
          refine thenQ_normal ?_
          refine AW.region ?_
          replace h := bsome h; obtain ⟨v34, hv34, h⟩ := h
          have hv34 := chkI_some hv34
          refine Chain.runK [] 2 fun K hK => ?_; simp [hv34]; refine hK _ _ ?_; clear hK K
          refine Chain.sub (S' := mk 56 [] [(6, .ptr 6 0 0), (8, .ptr 8 0 0), (9, .d (.lit (.slice none 0 0))), (22, .d (.sl (a1.map cB))), (23, .d (.lit (.int .i64 (a1.length : Int)))), (24, .d (.lit (.int .i64 v34)))] [(6, some (.box [.d (.sl (r1.1.map cS43))])), (8, some (.box [.ref 33 0 ((l10 ++ [v11]).length)])), (33, some (.arr 3 1 ((l10 ++ [v11]).map (cI .i64))))]) (Sub.table (by simp) (by simp)) ?_
          refine Chain.nil ?_
          cases h
          refine PostI.next ?_
          exact (Sub.table (by simp) (by simp))
        · have c32_ : x30 = false := Bool.eq_false_iff.2 c32
          refine AW.condF (b := x30) rfl c32_ ?_
          refine AW.sub (Sub.bool 29 (b := x30) rfl c32_) ?_
          refine AW.sub (S' := mk 56 [] [(6, .ptr 6 0 0), (8, .ptr 8 0 0), (9, .d (.lit (.slice none 0 0))), (10, .d (.lit (.int .i64 v11))), (22, .d (.sl (a1.map cB))), (23, .d (.lit (.int .i64 (a1.length : Int)))), (24, .d (.lit (.int .i64 v11))), (29, .d (.lit (.bool false)))] [(6, some (.box [.d (.sl (r1.1.map cS43))])), (8, some (.box [.ref 33 0 l10.length])), (33, some (.arr 3 1 (l10.map (cI .i64))))]) (by simp; exact Sub.table (by simp) (by simp)) ?_
          refine AW.skip ?_
          refine blockQ.normal ?_
          refine thenQ_normal ?_
          refine AW.region ?_
          replace h := bsome h; obtain ⟨v35, hv35, h⟩ := h
          have hv35 := chkI_some hv35
          refine Chain.runK [] 2 fun K hK => ?_; simp [hv35]; refine hK _ _ ?_; clear hK K
          refine Chain.sub (S' := mk 56 [] [(6, .ptr 6 0 0), (8, .ptr 8 0 0), (9, .d (.lit (.slice none 0 0))), (22, .d (.sl (a1.map cB))), (23, .d (.lit (.int .i64 (a1.length : Int)))), (24, .d (.lit (.int .i64 v35)))] [(6, some (.box [.d (.sl (r1.1.map cS43))])), (8, some (.box [.ref 33 0 l10.length])), (33, some (.arr 3 1 (l10.map (cI .i64))))]) (Sub.table (by simp) (by simp)) ?_
          refine Chain.nil ?_
          cases h
          refine PostI.next ?_
          exact (Sub.table (by simp) (by simp))
      · have c29_ : decide (v11 < (a1.length : Int)) = false := decide_eq_false c29
        refine AW.condF (b := decide (v11 < (a1.length : Int))) rfl c29_ ?_
        refine AW.sub (Sub.bool 25 (b := decide (v11 < (a1.length : Int))) rfl c29_) ?_
        refine AW.sub (S' := mk 56 [] [(6, .ptr 6 0 0), (8, .ptr 8 0 0), (9, .d (.lit (.slice none 0 0))), (22, .d (.sl (a1.map cB))), (23, .d (.lit (.int .i64 (a1.length : Int)))), (24, .d (.lit (.int .i64 v11))), (25, .d (.lit (.bool false)))] [(6, some (.box [.d (.sl (r1.1.map cS43))])), (8, some (.box [.ref 33 0 l10.length])), (33, some (.arr 3 1 (l10.map (cI .i64))))]) (by simp; exact Sub.table (by simp) (by simp)) ?_
        refine AW.exit ?_
        cases h
        refine thenQ_pass (by simp) ?_
        refine PostI.out (by simp) ?_
        rintro rfl
        refine blockQ.hit ?_
        refine PostN.next ?_
        exact (Sub.table (by simp) (by simp))
    · rintro l28 h
      refine thenQ_normal ?_
      refine AW.seqJ (fun (l64 : List Int) => mk 56 [] [(9, .ref 49 0 l64.length)] [(49, some (.arr 3 1 (l64.map (cI .i64))))]) h ?_ ?_ <;> clear h
      · intro o h
        refine AW.block ?_
        refine AW.iter (fun ((l44, l45) : ((List Int) × (List Int))) => mk 56 [] [(6, .ptr 6 0 0), (8, .ptr 8 0 0), (9, .ref 49 0 l45.length)] [(6, some (.box [.d (.sl (r1.1.map cS43))])), (8, some (.box [.ref 33 0 l44.length])), (33, some (.arr 3 1 (l44.map (cI .i64)))), (49, some (.arr 3 1 (l45.map (cI .i64))))]) h (Sub.trans (Sub.nilOwn (t := 9) (id := 49) (T := 3) (n := 1) rfl rfl (by decide)) (by simp; exact Sub.table (by simp) (by simp))) ?_
        clear h
        rintro ⟨l44, l45⟩ x h
        dsimp only at h ⊢
        refine AW.seq ?_
        refine AW.seqR ?_
        refine Chain.runK [] 3 fun K hK => ?_; simp; refine hK _ _ ?_; clear hK K
        refine Chain.sub (S' := mk 56 [] [(6, .ptr 6 0 0), (8, .ptr 8 0 0), (9, .ref 49 0 l45.length), (37, .d (.lit (.bool (decide ((l44.length : Int) > 0)))))] [(6, some (.box [.d (.sl (r1.1.map cS43))])), (8, some (.box [.ref 33 0 l44.length])), (33, some (.arr 3 1 (l44.map (cI .i64)))), (49, some (.arr 3 1 (l45.map (cI .i64))))]) (Sub.table (by simp) (by simp)) ?_
        refine Chain.nil ?_
        replace h := isome h; rcases h with ⟨c65, h⟩ | ⟨c65, h⟩
        · have c65_ : decide ((l44.length : Int) > 0) = true := decide_eq_true c65
          refine AW.condT (b := decide ((l44.length : Int) > 0)) rfl c65_ ?_
          refine AW.sub (Sub.bool 37 (b := decide ((l44.length : Int) > 0)) rfl c65_) ?_
          refine AW.sub (S' := mk 56 [] [(6, .ptr 6 0 0), (8, .ptr 8 0 0), (9, .ref 49 0 l45.length), (37, .d (.lit (.bool true)))] [(6, some (.box [.d (.sl (r1.1.map cS43))])), (8, some (.box [.ref 33 0 l44.length])), (33, some (.arr 3 1 (l44.map (cI .i64)))), (49, some (.arr 3 1 (l45.map (cI .i64))))]) (by simp; exact Sub.table (by simp) (by simp)) ?_
          refine AW.skip ?_
          refine thenQ_normal ?_
          refine AW.block ?_
          refine AW.seqR ?_
          refine Chain.runK [] 2 fun K hK => ?_; simp; refine hK _ _ ?_; clear hK K
          refine Chain.sub (S' := mk 56 [] [(6, .ptr 6 0 0), (8, .ptr 8 0 0), (9, .ref 49 0 l45.length), (38, .ref 33 0 l44.length), (39, .fn (.func 71) [.ptr 6 0 0, .ptr 8 0 0])] [(6, some (.box [.d (.sl (r1.1.map cS43))])), (8, some (.box [.ref 33 0 l44.length])), (33, some (.arr 3 1 (l44.map (cI .i64)))), (49, some (.arr 3 1 (l45.map (cI .i64))))]) (Sub.table (by simp) (by simp)) ?_
          replace h := bsome h; obtain ⟨r66, hr66, h⟩ := h
          refine Chain.callL (d := 40) (p58 N l44 71 [.pim [.sl (r1.1.map cS43)], .pim [.sl (l44.map (cI .i64))]] (fun b0 => d71 N b0 r1.1 l44) ent71 (fun b0 r h => p71 N b0 r1.1 l44 r h) r66 hr66) (by simp) rfl rfl (by simp <;> rfl) (by simp <;> rfl) ent58 (by simp <;> rfl) ?_
          refine Chain.sub (S' := mk 56 [] [(6, .ptr 6 0 0), (8, .ptr 8 0 0), (9, .ref 49 0 l45.length), (38, .ref 33 0 l44.length), (39, .fn (.func 71) [.ptr 6 0 0, .ptr 8 0 0]), (40, .d (.lit (.int .i64 r66)))] [(6, some (.box [.d (.sl (r1.1.map cS43))])), (8, some (.box [.ref 33 0 l44.length])), (33, some (.arr 3 1 (l44.map (cI .i64)))), (49, some (.arr 3 1 (l45.map (cI .i64))))]) (by simp; exact Sub.table (by simp) (by simp)) ?_
          refine Chain.runK [] 1 fun K hK => ?_; simp; refine hK _ _ ?_; clear hK K
          refine Chain.sub (S' := mk 56 [] [(6, .ptr 6 0 0), (8, .ptr 8 0 0), (9, .ref 49 0 l45.length), (12, .d (.lit (.int .i64 r66)))] [(6, some (.box [.d (.sl (r1.1.map cS43))])), (8, some (.box [.ref 33 0 l44.length])), (33, some (.arr 3 1 (l44.map (cI .i64)))), (49, some (.arr 3 1 (l45.map (cI .i64))))]) (Sub.table (by simp) (by simp)) ?_
          refine Chain.nil ?_
          refine AW.seq ?_
          refine AW.seqR ?_
          refine Chain.runK [] 2 fun K hK => ?_; simp; refine hK _ _ ?_; clear hK K
          refine Chain.sub (S' := mk 56 [] [(6, .ptr 6 0 0), (8, .ptr 8 0 0), (9, .ref 49 0 l45.length), (12, .d (.lit (.int .i64 r66))), (42, .d (.lit (.bool (decide (r66 < 0)))))] [(6, some (.box [.d (.sl (r1.1.map cS43))])), (8, some (.box [.ref 33 0 l44.length])), (33, some (.arr 3 1 (l44.map (cI .i64)))), (49, some (.arr 3 1 (l45.map (cI .i64))))]) (Sub.table (by simp) (by simp)) ?_
          refine Chain.nil ?_
          replace h := isome h; rcases h with ⟨c67, h⟩ | ⟨c67, h⟩
          · have c67_ : decide (r66 < 0) = true := decide_eq_true c67
            refine AW.condT (b := decide (r66 < 0)) rfl c67_ ?_
            refine AW.sub (Sub.bool 42 (b := decide (r66 < 0)) rfl c67_) ?_
            refine AW.sub (S' := mk 56 [] [(6, .ptr 6 0 0), (8, .ptr 8 0 0), (9, .ref 49 0 l45.length), (12, .d (.lit (.int .i64 r66))), (42, .d (.lit (.bool true)))] [(6, some (.box [.d (.sl (r1.1.map cS43))])), (8, some (.box [.ref 33 0 l44.length])), (33, some (.arr 3 1 (l44.map (cI .i64)))), (49, some (.arr 3 1 (l45.map (cI .i64))))]) (by simp; exact Sub.table (by simp) (by simp)) ?_
            refine AW.seqR ?_
            refine Chain.runK [] 2 fun K hK => ?_; simp; refine hK _ _ ?_; clear hK K
            refine Chain.sub (S' := mk 56 [] [(4, .d (.lit (.slice none 0 0))), (5, .d (.lit (.int .i64 14)))] []) (Sub.table (by simp) (by simp)) ?_
            refine Chain.nil ?_
            refine AW.sub (Sub.wk 4 rfl) ?_
            refine AW.sub (S' := mk 56 [] [(4, .d (.sl (([] : List Int).map (cI .i64)))), (5, .d (.lit (.int .i64 14)))] []) (by simp; exact Sub.table (by simp) (by simp)) ?_
            refine AW.ret ?_
            cases h
            refine thenQ_pass (by simp) ?_
            refine blockQ.ret ?_
            refine PostI.out (by simp) ?_
            rintro rfl
            refine blockQ.ret ?_
            refine PostJ.out (by simp) ?_
            rintro rfl
            exact FinC.ret (by simp) (by simp)
          · have c67_ : decide (r66 < 0) = false := decide_eq_false c67
            refine AW.condF (b := decide (r66 < 0)) rfl c67_ ?_
            refine AW.sub (Sub.bool 42 (b := decide (r66 < 0)) rfl c67_) ?_
            refine AW.sub (S' := mk 56 [] [(6, .ptr 6 0 0), (8, .ptr 8 0 0), (9, .ref 49 0 l45.length), (12, .d (.lit (.int .i64 r66))), (42, .d (.lit (.bool false)))] [(6, some (.box [.d (.sl (r1.1.map cS43))])), (8, some (.box [.ref 33 0 l44.length])), (33, some (.arr 3 1 (l44.map (cI .i64)))), (49, some (.arr 3 1 (l45.map (cI .i64))))]) (by simp; exact Sub.table (by simp) (by simp)) ?_
            refine AW.skip ?_
            refine thenQ_normal ?_
            refine AW.seqR ?_
            replace h := bsome h; obtain ⟨x68, hx68, h⟩ := h
            obtain ⟨k69, hx68k, hx68, hx68a, hx68b⟩ := idx_some hx68
            replace h := bsome h; obtain ⟨l70, hl70, h⟩ := h
            obtain ⟨hl70a, hl70⟩ := appL_some hl70
            subst hl70
            try simp only [List.length_append, List.length_cons, List.length_nil, Nat.zero_add] at hl70a
            refine Chain.runK [48] 8 fun K hK => ?_; simp [hx68, hx68k, hx68a, hx68b, hl70a]; refine hK _ _ ?_; clear hK K
            refine Chain.sub (S' := mk 56 [] [(6, .ptr 6 0 0), (8, .ptr 8 0 0), (9, .ref 49 0 ((l45 ++ [x68]).length)), (12, .d (.lit (.int .i64 r66)))] [(6, some (.box [.d (.sl (r1.1.map cS43))])), (8, some (.box [.ref 33 0 l44.length])), (33, some (.arr 3 1 (l44.map (cI .i64)))), (49, some (.arr 3 1 ((l45 ++ [x68]).map (cI .i64))))]) (Sub.table (by simp) (by simp)) ?_
            refine Chain.nil ?_
            refine AW.region ?_
            replace h := bsome h; obtain ⟨v71, hv71, h⟩ := h
            have hv71 := chkI_some hv71
            refine Chain.runK [] 4 fun K hK => ?_; simp [hv71]; refine hK _ _ ?_; clear hK K
            refine Chain.sub (S' := mk 56 [] [(6, .ptr 6 0 0), (8, .ptr 8 0 0), (9, .ref 49 0 ((l45 ++ [x68]).length)), (50, .ref 33 0 l44.length), (51, .d (.lit (.int .i64 r66))), (53, .d (.lit (.int .i64 v71)))] [(6, some (.box [.d (.sl (r1.1.map cS43))])), (8, some (.box [.ref 33 0 l44.length])), (33, some (.arr 3 1 (l44.map (cI .i64)))), (49, some (.arr 3 1 ((l45 ++ [x68]).map (cI .i64))))]) (Sub.table (by simp) (by simp)) ?_
            replace h := bsome h; obtain ⟨l72, hl72, h⟩ := h
            refine Chain.callF (p62 N l44 r66 v71 l72 hl72) [(33, 1000)] [] [(1000, 33)] [(33, .arr 3 1 (l72.map (cI .i64)))] (.ref 33 0 l72.length) (by simp) rfl (by simp <;> rfl) (by simp) (by simp) (by simp) (by simp) (by simp) ent62 (by simp) (by simp) (by simp) (by simp) (by simp) (by simp) ?_
            refine Chain.sub (S' := mk 56 [] [(6, .ptr 6 0 0), (8, .ptr 8 0 0), (9, .ref 49 0 ((l45 ++ [x68]).length)), (51, .d (.lit (.int .i64 r66))), (53, .d (.lit (.int .i64 v71))), (54, .ref 33 0 l72.length)] [(6, some (.box [.d (.sl (r1.1.map cS43))])), (8, some (.box [.hole])), (33, some (.arr 3 1 (l72.map (cI .i64)))), (49, some (.arr 3 1 ((l45 ++ [x68]).map (cI .i64))))]) (by simp; exact Sub.table (by simp) (by simp)) ?_
            refine Chain.runK [] 1 fun K hK => ?_; simp; refine hK _ _ ?_; clear hK K
            refine Chain.sub (S' := mk 56 [] [(6, .ptr 6 0 0), (8, .ptr 8 0 0), (9, .ref 49 0 ((l45 ++ [x68]).length))] [(6, some (.box [.d (.sl (r1.1.map cS43))])), (8, some (.box [.ref 33 0 l72.length])), (33, some (.arr 3 1 (l72.map (cI .i64)))), (49, some (.arr 3 1 ((l45 ++ [x68]).map (cI .i64))))]) (Sub.table (by simp) (by simp)) ?_
            refine Chain.nil ?_
            cases h
            refine blockQ.normal ?_
            refine PostI.next ?_
            exact (Sub.table (by simp) (by simp))
        · have c65_ : decide ((l44.length : Int) > 0) = false := decide_eq_false c65
          refine AW.condF (b := decide ((l44.length : Int) > 0)) rfl c65_ ?_
          refine AW.sub (Sub.bool 37 (b := decide ((l44.length : Int) > 0)) rfl c65_) ?_
          refine AW.sub (S' := mk 56 [] [(6, .ptr 6 0 0), (8, .ptr 8 0 0), (9, .ref 49 0 l45.length), (37, .d (.lit (.bool false)))] [(6, some (.box [.d (.sl (r1.1.map cS43))])), (8, some (.box [.ref 33 0 l44.length])), (33, some (.arr 3 1 (l44.map (cI .i64)))), (49, some (.arr 3 1 (l45.map (cI .i64))))]) (by simp; exact Sub.table (by simp) (by simp)) ?_
          refine AW.exit ?_
          cases h
          refine thenQ_pass (by simp) ?_
          refine PostI.out (by simp) ?_
          rintro rfl
          refine blockQ.hit ?_
          refine PostJ.next ?_
          exact (Sub.table (by simp) (by simp))
      · rintro l64 h
        refine AW.seqR ?_
        refine Chain.runK [] 3 fun K hK => ?_; simp; refine hK _ _ ?_; clear hK K
        refine Chain.sub (S' := mk 56 [] [(4, .ref 49 0 l64.length), (5, .d (.lit (.int .i64 0)))] [(49, some (.arr 3 1 (l64.map (cI .i64))))]) (Sub.table (by simp) (by simp)) ?_
        refine Chain.nil ?_
        refine AW.sub (Sub.freeze 49 rfl) ?_
        refine AW.sub (S' := mk 56 [] [(4, .d (.sl (l64.map (cI .i64)))), (5, .d (.lit (.int .i64 0)))] []) (by simp; exact Sub.table (by simp) (by simp)) ?_
        refine AW.ret ?_
        cases h
        exact FinC.ret (by simp) (by simp)

end Go.Proofs.Ytabjbkdlacibjaa
