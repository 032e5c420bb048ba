/- Functions of the program as functional programs; the code computes them. -/
import Derived.Test.YtabjbkdlacibjaaRf4
namespace Go.Proofs.Ytabjbkdlacibjaa
open Go.Ab Go.Rp
attribute [-simp] List.all_eq_true Array.all_toList Array.all_eq_true

/-- stemma/stemref5.Between -/
def d39 (N : Nat) (a0 : Int) (a1 : Int) (a2 : Int) : Option Bool :=
  Option.bind (α := Bool) (
    if a0 ≥ a1 then (
      some (decide (a0 ≤ a2))
    ) else
    some false
  ) fun (v2 : Bool) =>
  some v2
set_option maxRecDepth 100000 in
set_option maxHeartbeats 4000000 in
theorem p39 (N : Nat) (a0 : Int) (a1 : Int) (a2 : Int) (r : Bool) (h : d39 N a0 a1 a2 = some r) : FunC Try.prog 39 [.d (.lit (.int .i64 a0)), .d (.lit (.int .i64 a1)), .d (.lit (.int .i64 a2))] (.d (.lit (.bool r))) := by
  unfold d39 at h
  refine FunC.enter 15 [(0, .d (.lit (.int .i64 a0))), (1, .d (.lit (.int .i64 a1))), (2, .d (.lit (.int .i64 a2)))] (by simp) Try.func39 rfl (of_decide_eq_true rfl) rfl rfl ?_
  refine AW.seqR ?_
  refine Chain.runK [] 1 fun K hK => ?_; simp; refine hK _ _ ?_; clear hK K
  refine Chain.sub (S' := mk 15 [] [(0, .d (.lit (.int .i64 a0))), (1, .d (.lit (.int .i64 a1))), (2, .d (.lit (.int .i64 a2)))] []) (Sub.table (by simp) (by simp)) ?_
  refine Chain.nil ?_
  replace h := bsome h; obtain ⟨v2, hj, h⟩ := h
  refine AW.cutR (mk 15 [] [(6, .d (.lit (.bool v2)))] []) ?_ ?_
  · clear h; have h := hj; clear hj
    refine Chain.runK [] 4 fun K hK => ?_; simp; refine hK _ _ ?_; clear hK K
    refine Chain.sub (S' := mk 15 [] [(0, .d (.lit (.int .i64 a0))), (2, .d (.lit (.int .i64 a2))), (10, .d (.lit (.bool (decide (a0 ≥ a1)))))] []) (Sub.table (by simp) (by simp)) ?_
    replace h := isome h; rcases h with ⟨c3, h⟩ | ⟨c3, h⟩
    · have c3_ : decide (a0 ≥ a1) = true := decide_eq_true c3
      refine Chain.sub (Sub.bool 10 (b := decide (a0 ≥ a1)) rfl c3_) ?_
      refine Chain.sub (S' := mk 15 [] [(0, .d (.lit (.int .i64 a0))), (2, .d (.lit (.int .i64 a2))), (10, .d (.lit (.bool true)))] []) (by simp; exact Sub.table (by simp) (by simp)) ?_
      refine Chain.runK [] 5 fun K hK => ?_; simp; refine hK _ _ ?_; clear hK K
      refine Chain.sub (S' := mk 15 [] [(6, .d (.lit (.bool (decide (a0 ≤ a2)))))] []) (Sub.table (by simp) (by simp)) ?_
      cases h
      exact Chain.nil (Sub.table (by simp) (by simp))
    · have c3_ : decide (a0 ≥ a1) = false := decide_eq_false c3
      refine Chain.sub (Sub.bool 10 (b := decide (a0 ≥ a1)) rfl c3_) ?_
      refine Chain.sub (S' := mk 15 [] [(0, .d (.lit (.int .i64 a0))), (2, .d (.lit (.int .i64 a2))), (10, .d (.lit (.bool false)))] []) (by simp; exact Sub.table (by simp) (by simp)) ?_
      refine Chain.runK [] 5 fun K hK => ?_; simp; refine hK _ _ ?_; clear hK K
      refine Chain.sub (S' := mk 15 [] [(6, .d (.lit (.bool false)))] []) (Sub.table (by simp) (by simp)) ?_
      cases h
      exact Chain.nil (Sub.table (by simp) (by simp))
  · clear hj
    refine AW.ret ?_
    cases h
    exact FinC.ret (by simp) (by simp)

/-- stemma/stemref5.CheckHistory -/
def d12 (N : Nat) (a0 : (List S27)) : Option Int :=
  if (a0.length : Int) > 200 then (
    some 2
  ) else
  bindO (β := Unit) (ρ := Int) (
    iterN (σ := Int) (ρ := (Out Unit Int)) (fun (v11 : Int) =>
      if v11 < (a0.length : Int) then (
        (idx a0 v11).bind fun x32 =>
        (d39 N x32.Kind 1 2).bind fun r34 =>
        if (!r34) = true then (
          some (.inr (.ret 3))
        ) else
        (d39 N x32.Tx 0 19).bind fun r36 =>
        if (!r36) = true then (
          some (.inr (.ret 1))
        ) else
        if (x32.Key.size : Int) > 24 then (
          some (.inr (.ret 2))
        ) else
        (chkI (v11 + 1)).bind fun v39 =>
        some (.inl v39)
      ) else
      some (.inr (.go ()))
    ) N 0
  ) fun (_ : Unit) =>
  some 0
set_option maxRecDepth 100000 in
set_option maxHeartbeats 4000000 in
theorem p12 (N : Nat) (a0 : (List S27)) (r : Int) (h : d12 N a0 = some r) : FunC Try.prog 12 [.d (.sl (a0.map cS27))] (.d (.lit (.int .i64 r))) := by
  unfold d12 at h
  refine FunC.enter 30 [(0, .d (.sl (a0.map cS27)))] (by simp) Try.func12 rfl (of_decide_eq_true rfl) rfl rfl ?_
  refine AW.seqR ?_
  refine Chain.runK [] 1 fun K hK => ?_; simp; refine hK _ _ ?_; clear hK K
  refine Chain.sub (S' := mk 30 [] [(0, .d (.sl (a0.map cS27)))] []) (Sub.table (by simp) (by simp)) ?_
  refine Chain.nil ?_
  refine AW.seq ?_
  refine AW.seqR ?_
  refine Chain.runK [] 3 fun K hK => ?_; simp; refine hK _ _ ?_; clear hK K
  refine Chain.sub (S' := mk 30 [] [(0, .d (.sl (a0.map cS27))), (7, .d (.lit (.bool (decide ((a0.length : Int) > 200)))))] []) (Sub.table (by simp) (by simp)) ?_
  refine Chain.nil ?_
  replace h := isome h; rcases h with ⟨c1, h⟩ | ⟨c1, h⟩
  · have c1_ : decide ((a0.length : Int) > 200) = true := decide_eq_true c1
    refine AW.condT (b := decide ((a0.length : Int) > 200)) rfl c1_ ?_
    refine AW.sub (Sub.bool 7 (b := decide ((a0.length : Int) > 200)) rfl c1_) ?_
    refine AW.sub (S' := mk 30 [] [(0, .d (.sl (a0.map cS27))), (7, .d (.lit (.bool true)))] []) (by simp; exact Sub.table (by simp) (by simp)) ?_
    refine AW.seqR ?_
    refine Chain.runK [] 1 fun K hK => ?_; simp; refine hK _ _ ?_; clear hK K
    refine Chain.sub (S' := mk 30 [] [(2, .d (.lit (.int .i64 2)))] []) (Sub.table (by simp) (by simp)) ?_
    refine Chain.nil ?_
    refine AW.ret ?_
    cases h
    refine thenQ_pass (by simp) ?_
    exact FinC.ret (by simp) (by simp)
  · have c1_ : decide ((a0.length : Int) > 200) = false := decide_eq_false c1
    refine AW.condF (b := decide ((a0.length : Int) > 200)) rfl c1_ ?_
    refine AW.sub (Sub.bool 7 (b := decide ((a0.length : Int) > 200)) rfl c1_) ?_
    refine AW.sub (S' := mk 30 [] [(0, .d (.sl (a0.map cS27))), (7, .d (.lit (.bool false)))] []) (by simp; exact Sub.table (by simp) (by simp)) ?_
    refine AW.skip ?_
    refine thenQ_normal ?_
    refine AW.seq ?_
    refine AW.seqR ?_
    refine Chain.runK [] 3 fun K hK => ?_; simp; refine hK _ _ ?_; clear hK K
    refine Chain.sub (S' := mk 30 [] [(8, .d (.sl (a0.map cS27))), (9, .d (.lit (.int .i64 (a0.length : Int)))), (10, .d (.lit (.int .i64 0)))] []) (Sub.table (by simp) (by simp)) ?_
    refine Chain.nil ?_
    refine AW.lastJ (fun (_ : Unit) => mk 30 [] [] []) h ?_ ?_ <;> clear h
    · intro o h
      refine AW.block ?_
      refine AW.iter (fun (v11 : Int) => mk 30 [] [(8, .d (.sl (a0.map cS27))), (9, .d (.lit (.int .i64 (a0.length : Int)))), (10, .d (.lit (.int .i64 v11)))] []) h (Sub.table (by simp) (by simp)) ?_
      clear h
      rintro v11 x h
      refine AW.seqR ?_
      refine Chain.runK [] 1 fun K hK => ?_; simp; refine hK _ _ ?_; clear hK K
      refine Chain.sub (S' := mk 30 [] [(8, .d (.sl (a0.map cS27))), (9, .d (.lit (.int .i64 (a0.length : Int)))), (10, .d (.lit (.int .i64 v11))), (11, .d (.lit (.bool (decide (v11 < (a0.length : Int))))))] []) (Sub.table (by simp) (by simp)) ?_
      refine Chain.nil ?_
      refine AW.seq ?_
      replace h := isome h; rcases h with ⟨c31, h⟩ | ⟨c31, h⟩
      · have c31_ : decide (v11 < (a0.length : Int)) = true := decide_eq_true c31
        refine AW.condT (b := decide (v11 < (a0.length : Int))) rfl c31_ ?_
        refine AW.sub (Sub.bool 11 (b := decide (v11 < (a0.length : Int))) rfl c31_) ?_
        refine AW.sub (S' := mk 30 [] [(8, .d (.sl (a0.map cS27))), (9, .d (.lit (.int .i64 (a0.length : Int)))), (10, .d (.lit (.int .i64 v11))), (11, .d (.lit (.bool true)))] []) (by simp; exact Sub.table (by simp) (by simp)) ?_
        refine AW.skip ?_
        refine thenQ_normal ?_
        refine AW.seq ?_
        refine AW.block ?_
        refine AW.seqR ?_
        replace h := bsome h; obtain ⟨x32, hx32, h⟩ := h
        obtain ⟨k33, hx32k, hx32, hx32a, hx32b⟩ := idx_some hx32
        refine Chain.runK [] 4 fun K hK => ?_; simp [hx32, hx32k, hx32a]; refine hK _ _ ?_; clear hK K
        refine Chain.sub (S' := mk 30 [] [(4, .ptr 4 0 0), (8, .d (.sl (a0.map cS27))), (9, .d (.lit (.int .i64 (a0.length : Int)))), (10, .d (.lit (.int .i64 v11)))] [(4, some (.box [.d (.lit (.int .i64 x32.Tx)), .d (.lit (.int .i64 x32.Kind)), .d (.lit (.string x32.Key))]))]) (Sub.table (by simp) (by simp)) ?_
        refine Chain.nil ?_
        refine AW.block ?_
        refine AW.seqR ?_
        refine Chain.runK [] 2 fun K hK => ?_; simp; refine hK _ _ ?_; clear hK K
        refine Chain.sub (S' := mk 30 [] [(4, .ptr 4 0 0), (8, .d (.sl (a0.map cS27))), (9, .d (.lit (.int .i64 (a0.length : Int)))), (10, .d (.lit (.int .i64 v11))), (16, .d (.lit (.int .i64 x32.Kind)))] [(4, some (.box [.d (.lit (.int .i64 x32.Tx)), .d (.lit (.int .i64 x32.Kind)), .d (.lit (.string x32.Key))]))]) (Sub.table (by simp) (by simp)) ?_
        replace h := bsome h; obtain ⟨r34, hr34, h⟩ := h
        refine Chain.callL (d := 17) (p39 N x32.Kind 1 2 r34 hr34) (by simp) rfl rfl (by simp <;> rfl) (by simp <;> rfl) ent39 (by simp <;> rfl) ?_
        refine Chain.sub (S' := mk 30 [] [(4, .ptr 4 0 0), (8, .d (.sl (a0.map cS27))), (9, .d (.lit (.int .i64 (a0.length : Int)))), (10, .d (.lit (.int .i64 v11))), (16, .d (.lit (.int .i64 x32.Kind))), (17, .d (.lit (.bool r34)))] [(4, some (.box [.d (.lit (.int .i64 x32.Tx)), .d (.lit (.int .i64 x32.Kind)), .d (.lit (.string x32.Key))]))]) (by simp; exact Sub.table (by simp) (by simp)) ?_
        refine Chain.runK [] 2 fun K hK => ?_; simp; refine hK _ _ ?_; clear hK K
        refine Chain.sub (S' := mk 30 [] [(4, .ptr 4 0 0), (8, .d (.sl (a0.map cS27))), (9, .d (.lit (.int .i64 (a0.length : Int)))), (10, .d (.lit (.int .i64 v11))), (14, .d (.lit (.bool (!r34))))] [(4, some (.box [.d (.lit (.int .i64 x32.Tx)), .d (.lit (.int .i64 x32.Kind)), .d (.lit (.string x32.Key))]))]) (Sub.table (by simp) (by simp)) ?_
        refine Chain.nil ?_
        replace h := isome h; rcases h with ⟨c35, h⟩ | ⟨c35, h⟩
        · have c35_ : (!r34) = true := c35
          refine AW.condT (b := (!r34)) rfl c35_ ?_
          refine AW.sub (Sub.bool 14 (b := (!r34)) rfl c35_) ?_
          refine AW.sub (S' := mk 30 [] [(4, .ptr 4 0 0), (8, .d (.sl (a0.map cS27))), (9, .d (.lit (.int .i64 (a0.length : Int)))), (10, .d (.lit (.int .i64 v11))), (14, .d (.lit (.bool true)))] [(4, some (.box [.d (.lit (.int .i64 x32.Tx)), .d (.lit (.int .i64 x32.Kind)), .d (.lit (.string x32.Key))]))]) (by simp; exact Sub.table (by simp) (by simp)) ?_
          refine AW.seqR ?_
          refine Chain.runK [] 1 fun K hK => ?_; simp; refine hK _ _ ?_; clear hK K
          refine Chain.sub (S' := mk 30 [] [(2, .d (.lit (.int .i64 3)))] []) (Sub.table (by simp) (by simp)) ?_
          refine Chain.nil ?_
          refine AW.ret ?_
          cases h
          refine blockQ.ret ?_
          refine blockQ.ret ?_
          refine thenQ_pass (by simp) ?_
          refine PostI.out (by simp) ?_
          rintro rfl
          refine blockQ.ret ?_
          refine PostJ.out (by simp) ?_
          rintro rfl
          refine thenQ_pass (by simp) ?_
          exact FinC.ret (by simp) (by simp)
        · have c35_ : (!r34) = false := Bool.eq_false_iff.2 c35
          refine AW.condF (b := (!r34)) rfl c35_ ?_
          refine AW.sub (Sub.bool 14 (b := (!r34)) rfl c35_) ?_
          refine AW.sub (S' := mk 30 [] [(4, .ptr 4 0 0), (8, .d (.sl (a0.map cS27))), (9, .d (.lit (.int .i64 (a0.length : Int)))), (10, .d (.lit (.int .i64 v11))), (14, .d (.lit (.bool false)))] [(4, some (.box [.d (.lit (.int .i64 x32.Tx)), .d (.lit (.int .i64 x32.Kind)), .d (.lit (.string x32.Key))]))]) (by simp; exact Sub.table (by simp) (by simp)) ?_
          refine AW.seqR ?_
          refine Chain.runK [] 2 fun K hK => ?_; simp; refine hK _ _ ?_; clear hK K
          refine Chain.sub (S' := mk 30 [] [(4, .ptr 4 0 0), (8, .d (.sl (a0.map cS27))), (9, .d (.lit (.int .i64 (a0.length : Int)))), (10, .d (.lit (.int .i64 v11))), (21, .d (.lit (.int .i64 x32.Tx)))] [(4, some (.box [.d (.lit (.int .i64 x32.Tx)), .d (.lit (.int .i64 x32.Kind)), .d (.lit (.string x32.Key))]))]) (Sub.table (by simp) (by simp)) ?_
          replace h := bsome h; obtain ⟨r36, hr36, h⟩ := h
          refine Chain.callL (d := 22) (p39 N x32.Tx 0 19 r36 hr36) (by simp) rfl rfl (by simp <;> rfl) (by simp <;> rfl) ent39 (by simp <;> rfl) ?_
          refine Chain.sub (S' := mk 30 [] [(4, .ptr 4 0 0), (8, .d (.sl (a0.map cS27))), (9, .d (.lit (.int .i64 (a0.length : Int)))), (10, .d (.lit (.int .i64 v11))), (21, .d (.lit (.int .i64 x32.Tx))), (22, .d (.lit (.bool r36)))] [(4, some (.box [.d (.lit (.int .i64 x32.Tx)), .d (.lit (.int .i64 x32.Kind)), .d (.lit (.string x32.Key))]))]) (by simp; exact Sub.table (by simp) (by simp)) ?_
          refine Chain.runK [] 2 fun K hK => ?_; simp; refine hK _ _ ?_; clear hK K
          refine Chain.sub (S' := mk 30 [] [(4, .ptr 4 0 0), (8, .d (.sl (a0.map cS27))), (9, .d (.lit (.int .i64 (a0.length : Int)))), (10, .d (.lit (.int .i64 v11))), (19, .d (.lit (.bool (!r36))))] [(4, some (.box [.d (.lit (.int .i64 x32.Tx)), .d (.lit (.int .i64 x32.Kind)), .d (.lit (.string x32.Key))]))]) (Sub.table (by simp) (by simp)) ?_
          refine Chain.nil ?_
          replace h := isome h; rcases h with ⟨c37, h⟩ | ⟨c37, h⟩
          · have c37_ : (!r36) = true := c37
            refine AW.condT (b := (!r36)) rfl c37_ ?_
            refine AW.sub (Sub.bool 19 (b := (!r36)) rfl c37_) ?_
            refine AW.sub (S' := mk 30 [] [(4, .ptr 4 0 0), (8, .d (.sl (a0.map cS27))), (9, .d (.lit (.int .i64 (a0.length : Int)))), (10, .d (.lit (.int .i64 v11))), (19, .d (.lit (.bool true)))] [(4, some (.box [.d (.lit (.int .i64 x32.Tx)), .d (.lit (.int .i64 x32.Kind)), .d (.lit (.string x32.Key))]))]) (by simp; exact Sub.table (by simp) (by simp)) ?_
            refine AW.seqR ?_
            refine Chain.runK [] 1 fun K hK => ?_; simp; refine hK _ _ ?_; clear hK K
            refine Chain.sub (S' := mk 30 [] [(2, .d (.lit (.int .i64 1)))] []) (Sub.table (by simp) (by simp)) ?_
            refine Chain.nil ?_
            refine AW.ret ?_
            cases h
            refine blockQ.ret ?_
            refine blockQ.ret ?_
            refine thenQ_pass (by simp) ?_
            refine PostI.out (by simp) ?_
            rintro rfl
            refine blockQ.ret ?_
            refine PostJ.out (by simp) ?_
            rintro rfl
            refine thenQ_pass (by simp) ?_
            exact FinC.ret (by simp) (by simp)
          · have c37_ : (!r36) = false := Bool.eq_false_iff.2 c37
            refine AW.condF (b := (!r36)) rfl c37_ ?_
            refine AW.sub (Sub.bool 19 (b := (!r36)) rfl c37_) ?_
            refine AW.sub (S' := mk 30 [] [(4, .ptr 4 0 0), (8, .d (.sl (a0.map cS27))), (9, .d (.lit (.int .i64 (a0.length : Int)))), (10, .d (.lit (.int .i64 v11))), (19, .d (.lit (.bool false)))] [(4, some (.box [.d (.lit (.int .i64 x32.Tx)), .d (.lit (.int .i64 x32.Kind)), .d (.lit (.string x32.Key))]))]) (by simp; exact Sub.table (by simp) (by simp)) ?_
            refine AW.seqR ?_
            refine Chain.runK [] 5 fun K hK => ?_; simp; refine hK _ _ ?_; clear hK K
            refine Chain.sub (S' := mk 30 [] [(8, .d (.sl (a0.map cS27))), (9, .d (.lit (.int .i64 (a0.length : Int)))), (10, .d (.lit (.int .i64 v11))), (24, .d (.lit (.bool (decide ((x32.Key.size : Int) > 24)))))] []) (Sub.table (by simp) (by simp)) ?_
            refine Chain.nil ?_
            replace h := isome h; rcases h with ⟨c38, h⟩ | ⟨c38, h⟩
            · have c38_ : decide ((x32.Key.size : Int) > 24) = true := decide_eq_true c38
              refine AW.condT (b := decide ((x32.Key.size : Int) > 24)) rfl c38_ ?_
              refine AW.sub (Sub.bool 24 (b := decide ((x32.Key.size : Int) > 24)) rfl c38_) ?_
              refine AW.sub (S' := mk 30 [] [(8, .d (.sl (a0.map cS27))), (9, .d (.lit (.int .i64 (a0.length : Int)))), (10, .d (.lit (.int .i64 v11))), (24, .d (.lit (.bool true)))] []) (by simp; exact Sub.table (by simp) (by simp)) ?_
              refine AW.seqR ?_
              refine Chain.runK [] 1 fun K hK => ?_; simp; refine hK _ _ ?_; clear hK K
              refine Chain.sub (S' := mk 30 [] [(2, .d (.lit (.int .i64 2)))] []) (Sub.table (by simp) (by simp)) ?_
              refine Chain.nil ?_
              refine AW.ret ?_
              cases h
              refine blockQ.ret ?_
              refine blockQ.ret ?_
              refine thenQ_pass (by simp) ?_
              refine PostI.out (by simp) ?_
              rintro rfl
              refine blockQ.ret ?_
              refine PostJ.out (by simp) ?_
              rintro rfl
              refine thenQ_pass (by simp) ?_
              exact FinC.ret (by simp) (by simp)
            · have c38_ : decide ((x32.Key.size : Int) > 24) = false := decide_eq_false c38
              refine AW.condF (b := decide ((x32.Key.size : Int) > 24)) rfl c38_ ?_
              refine AW.sub (Sub.bool 24 (b := decide ((x32.Key.size : Int) > 24)) rfl c38_) ?_
              refine AW.sub (S' := mk 30 [] [(8, .d (.sl (a0.map cS27))), (9, .d (.lit (.int .i64 (a0.length : Int)))), (10, .d (.lit (.int .i64 v11))), (24, .d (.lit (.bool false)))] []) (by simp; exact Sub.table (by simp) (by simp)) ?_
              refine AW.skip ?_
              refine blockQ.normal ?_
              refine blockQ.normal ?_
              refine thenQ_normal ?_
              refine AW.region ?_
              replace h := bsome h; obtain ⟨v39, hv39, h⟩ := h
              have hv39 := chkI_some hv39
              refine Chain.runK [] 2 fun K hK => ?_; simp [hv39]; refine hK _ _ ?_; clear hK K
              refine Chain.sub (S' := mk 30 [] [(8, .d (.sl (a0.map cS27))), (9, .d (.lit (.int .i64 (a0.length : Int)))), (10, .d (.lit (.int .i64 v39)))] []) (Sub.table (by simp) (by simp)) ?_
              refine Chain.nil ?_
              cases h
              refine PostI.next ?_
              exact (Sub.table (by simp) (by simp))
      · have c31_ : decide (v11 < (a0.length : Int)) = false := decide_eq_false c31
        refine AW.condF (b := decide (v11 < (a0.length : Int))) rfl c31_ ?_
        refine AW.sub (Sub.bool 11 (b := decide (v11 < (a0.length : Int))) rfl c31_) ?_
        refine AW.sub (S' := mk 30 [] [(8, .d (.sl (a0.map cS27))), (9, .d (.lit (.int .i64 (a0.length : Int)))), (10, .d (.lit (.int .i64 v11))), (11, .d (.lit (.bool false)))] []) (by simp; exact Sub.table (by simp) (by simp)) ?_
        refine AW.exit ?_
        cases h
        refine thenQ_pass (by simp) ?_
        refine PostI.out (by simp) ?_
        rintro rfl
        refine blockQ.hit ?_
        refine PostJ.next ?_
        exact (Sub.table (by simp) (by simp))
    · rintro ⟨⟩ h
      refine thenQ_normal ?_
      refine AW.seqR ?_
      refine Chain.runK [] 1 fun K hK => ?_; simp; refine hK _ _ ?_; clear hK K
      refine Chain.sub (S' := mk 30 [] [(2, .d (.lit (.int .i64 0)))] []) (Sub.table (by simp) (by simp)) ?_
      refine Chain.nil ?_
      refine AW.ret ?_
      cases h
      exact FinC.ret (by simp) (by simp)

/-- slices.Equal[[]stemma/serializability.Operation,stemma/serializability.Operation] -/
def d27 (N : Nat) (a0 : (List S27)) (a1 : (List S27)) : Option Bool :=
  if ((a0.length : Int) != (a1.length : Int)) then (
    some false
  ) else
  bindO (β := Unit) (ρ := Bool) (
    iterN (σ := Int) (ρ := (Out Unit Bool)) (fun (v8 : Int) =>
      if v8 < (a0.length : Int) then (
        (idx a0 v8).bind fun x23 =>
        (idx a1 v8).bind fun x25 =>
        if (!beqS27 x23 x25) = true then (
          some (.inr (.ret false))
        ) else
        (chkI (v8 + 1)).bind fun v27 =>
        some (.inl v27)
      ) else
      some (.inr (.go ()))
    ) N 0
  ) fun (_ : Unit) =>
  some true
set_option maxRecDepth 100000 in
set_option maxHeartbeats 4000000 in
theorem p27 (N : Nat) (a0 : (List S27)) (a1 : (List S27)) (r : Bool) (h : d27 N a0 a1 = some r) : FunC Try.prog 27 [.d (.sl (a0.map cS27)), .d (.sl (a1.map cS27))] (.d (.lit (.bool r))) := by
  unfold d27 at h
  refine FunC.enter 26 [(0, .d (.sl (a0.map cS27))), (1, .d (.sl (a1.map cS27)))] (by simp) Try.func27 rfl (of_decide_eq_true rfl) rfl rfl ?_
  refine AW.seqR ?_
  refine Chain.runK [] 1 fun K hK => ?_; simp; refine hK _ _ ?_; clear hK K
  refine Chain.sub (S' := mk 26 [] [(0, .d (.sl (a0.map cS27))), (1, .d (.sl (a1.map cS27)))] []) (Sub.table (by simp) (by simp)) ?_
  refine Chain.nil ?_
  refine AW.seq ?_
  refine AW.seqR ?_
  refine Chain.runK [] 5 fun K hK => ?_; simp; refine hK _ _ ?_; clear hK K
  refine Chain.sub (S' := mk 26 [] [(0, .d (.sl (a0.map cS27))), (1, .d (.sl (a1.map cS27))), (10, .d (.lit (.bool ((a0.length : Int) != (a1.length : Int)))))] []) (Sub.table (by simp) (by simp)) ?_
  refine Chain.nil ?_
  replace h := isome h; rcases h with ⟨c1, h⟩ | ⟨c1, h⟩
  · have c1_ : ((a0.length : Int) != (a1.length : Int)) = true := c1
    refine AW.condT (b := ((a0.length : Int) != (a1.length : Int))) rfl c1_ ?_
    refine AW.sub (Sub.bool 10 (b := ((a0.length : Int) != (a1.length : Int))) rfl c1_) ?_
    refine AW.sub (S' := mk 26 [] [(0, .d (.sl (a0.map cS27))), (1, .d (.sl (a1.map cS27))), (10, .d (.lit (.bool true)))] []) (by simp; exact Sub.table (by simp) (by simp)) ?_
    refine AW.seqR ?_
    refine Chain.runK [] 1 fun K hK => ?_; simp; refine hK _ _ ?_; clear hK K
    refine Chain.sub (S' := mk 26 [] [(4, .d (.lit (.bool false)))] []) (Sub.table (by simp) (by simp)) ?_
    refine Chain.nil ?_
    refine AW.ret ?_
    cases h
    refine thenQ_pass (by simp) ?_
    exact FinC.ret (by simp) (by simp)
  · have c1_ : ((a0.length : Int) != (a1.length : Int)) = false := Bool.eq_false_iff.2 c1
    refine AW.condF (b := ((a0.length : Int) != (a1.length : Int))) rfl c1_ ?_
    refine AW.sub (Sub.bool 10 (b := ((a0.length : Int) != (a1.length : Int))) rfl c1_) ?_
    refine AW.sub (S' := mk 26 [] [(0, .d (.sl (a0.map cS27))), (1, .d (.sl (a1.map cS27))), (10, .d (.lit (.bool false)))] []) (by simp; exact Sub.table (by simp) (by simp)) ?_
    refine AW.skip ?_
    refine thenQ_normal ?_
    refine AW.seq ?_
    refine AW.seqR ?_
    refine Chain.runK [] 3 fun K hK => ?_; simp; refine hK _ _ ?_; clear hK K
    refine Chain.sub (S' := mk 26 [] [(0, .d (.sl (a0.map cS27))), (1, .d (.sl (a1.map cS27))), (12, .d (.lit (.int .i64 (a0.length : Int)))), (13, .d (.lit (.int .i64 0)))] []) (Sub.table (by simp) (by simp)) ?_
    refine Chain.nil ?_
    refine AW.lastJ (fun (_ : Unit) => mk 26 [] [] []) h ?_ ?_ <;> clear h
    · intro o h
      refine AW.block ?_
      refine AW.iter (fun (v8 : Int) => mk 26 [] [(0, .d (.sl (a0.map cS27))), (1, .d (.sl (a1.map cS27))), (12, .d (.lit (.int .i64 (a0.length : Int)))), (13, .d (.lit (.int .i64 v8)))] []) h (Sub.table (by simp) (by simp)) ?_
      clear h
      rintro v8 x h
      refine AW.seqR ?_
      refine Chain.runK [] 1 fun K hK => ?_; simp; refine hK _ _ ?_; clear hK K
      refine Chain.sub (S' := mk 26 [] [(0, .d (.sl (a0.map cS27))), (1, .d (.sl (a1.map cS27))), (12, .d (.lit (.int .i64 (a0.length : Int)))), (13, .d (.lit (.int .i64 v8))), (14, .d (.lit (.bool (decide (v8 < (a0.length : Int))))))] []) (Sub.table (by simp) (by simp)) ?_
      refine Chain.nil ?_
      refine AW.seq ?_
      replace h := isome h; rcases h with ⟨c22, h⟩ | ⟨c22, h⟩
      · have c22_ : decide (v8 < (a0.length : Int)) = true := decide_eq_true c22
        refine AW.condT (b := decide (v8 < (a0.length : Int))) rfl c22_ ?_
        refine AW.sub (Sub.bool 14 (b := decide (v8 < (a0.length : Int))) rfl c22_) ?_
        refine AW.sub (S' := mk 26 [] [(0, .d (.sl (a0.map cS27))), (1, .d (.sl (a1.map cS27))), (12, .d (.lit (.int .i64 (a0.length : Int)))), (13, .d (.lit (.int .i64 v8))), (14, .d (.lit (.bool true)))] []) (by simp; exact Sub.table (by simp) (by simp)) ?_
        refine AW.skip ?_
        refine thenQ_normal ?_
        refine AW.seq ?_
        refine AW.block ?_
        refine AW.seqR ?_
        refine Chain.runK [] 2 fun K hK => ?_; simp; refine hK _ _ ?_; clear hK K
        refine Chain.sub (S' := mk 26 [] [(0, .d (.sl (a0.map cS27))), (1, .d (.sl (a1.map cS27))), (5, .d (.lit (.int .i64 v8))), (12, .d (.lit (.int .i64 (a0.length : Int)))), (13, .d (.lit (.int .i64 v8)))] []) (Sub.table (by simp) (by simp)) ?_
        refine Chain.nil ?_
        refine AW.seqQ (by kernel_rfl) (by kernel_rfl) ?_
        replace h := bsome h; obtain ⟨x23, hx23, h⟩ := h
        obtain ⟨k24, hx23k, hx23, hx23a, hx23b⟩ := idx_some hx23
        replace h := bsome h; obtain ⟨x25, hx25, h⟩ := h
        obtain ⟨hx25, hx25a, hx25b⟩ := idx_some2 hx25 hx23k
        refine Chain.runQ 8 fun K hK => ?_; simp [hx23, hx23k, hx23a, hx25, hx23k, hx25a]; refine hK _ _ ?_; clear hK K
        refine Chain.sub (S' := mk 26 [] [(0, .d (.sl (a0.map cS27))), (1, .d (.sl (a1.map cS27))), (12, .d (.lit (.int .i64 (a0.length : Int)))), (13, .d (.lit (.int .i64 v8))), (19, .agg [.d (.lit (.int .i64 x23.Tx)), .d (.lit (.int .i64 x23.Kind)), .d (.lit (.string x23.Key))]), (23, .agg [.d (.lit (.int .i64 x25.Tx)), .d (.lit (.int .i64 x25.Kind)), .d (.lit (.string x25.Key))])] []) (Sub.table (by simp) (by simp)) ?_
        refine Chain.pureP (by simp) (pure_eqA true rfl rfl rfl rfl (by kernel_rfl) (eqv27 x23 x25)) ?_
        refine Chain.sub (S' := mk 26 [] [(0, .d (.sl (a0.map cS27))), (1, .d (.sl (a1.map cS27))), (12, .d (.lit (.int .i64 (a0.length : Int)))), (13, .d (.lit (.int .i64 v8))), (19, .agg [.d (.lit (.int .i64 x23.Tx)), .d (.lit (.int .i64 x23.Kind)), .d (.lit (.string x23.Key))]), (23, .agg [.d (.lit (.int .i64 x25.Tx)), .d (.lit (.int .i64 x25.Kind)), .d (.lit (.string x25.Key))]), (24, .d (.lit (.bool (!beqS27 x23 x25))))] []) (by simp; exact Sub.table (by simp) (by simp)) ?_
        refine Chain.nil ?_
        replace h := isome h; rcases h with ⟨c26, h⟩ | ⟨c26, h⟩
        · have c26_ : (!beqS27 x23 x25) = true := c26
          refine AW.condT (b := (!beqS27 x23 x25)) rfl c26_ ?_
          refine AW.sub (Sub.bool 24 (b := (!beqS27 x23 x25)) rfl c26_) ?_
          refine AW.sub (S' := mk 26 [] [(0, .d (.sl (a0.map cS27))), (1, .d (.sl (a1.map cS27))), (12, .d (.lit (.int .i64 (a0.length : Int)))), (13, .d (.lit (.int .i64 v8))), (19, .agg [.d (.lit (.int .i64 x23.Tx)), .d (.lit (.int .i64 x23.Kind)), .d (.lit (.string x23.Key))]), (23, .agg [.d (.lit (.int .i64 x25.Tx)), .d (.lit (.int .i64 x25.Kind)), .d (.lit (.string x25.Key))]), (24, .d (.lit (.bool true)))] []) (by simp; exact Sub.table (by simp) (by simp)) ?_
          refine AW.seqR ?_
          refine Chain.runK [] 1 fun K hK => ?_; simp; refine hK _ _ ?_; clear hK K
          refine Chain.sub (S' := mk 26 [] [(4, .d (.lit (.bool false)))] []) (Sub.table (by simp) (by simp)) ?_
          refine Chain.nil ?_
          refine AW.ret ?_
          cases h
          refine blockQ.ret ?_
          refine thenQ_pass (by simp) ?_
          refine PostI.out (by simp) ?_
          rintro rfl
          refine blockQ.ret ?_
          refine PostJ.out (by simp) ?_
          rintro rfl
          refine thenQ_pass (by simp) ?_
          exact FinC.ret (by simp) (by simp)
        · have c26_ : (!beqS27 x23 x25) = false := Bool.eq_false_iff.2 c26
          refine AW.condF (b := (!beqS27 x23 x25)) rfl c26_ ?_
          refine AW.sub (Sub.bool 24 (b := (!beqS27 x23 x25)) rfl c26_) ?_
          refine AW.sub (S' := mk 26 [] [(0, .d (.sl (a0.map cS27))), (1, .d (.sl (a1.map cS27))), (12, .d (.lit (.int .i64 (a0.length : Int)))), (13, .d (.lit (.int .i64 v8))), (19, .agg [.d (.lit (.int .i64 x23.Tx)), .d (.lit (.int .i64 x23.Kind)), .d (.lit (.string x23.Key))]), (23, .agg [.d (.lit (.int .i64 x25.Tx)), .d (.lit (.int .i64 x25.Kind)), .d (.lit (.string x25.Key))]), (24, .d (.lit (.bool false)))] []) (by simp; exact Sub.table (by simp) (by simp)) ?_
          refine AW.skip ?_
          refine blockQ.normal ?_
          refine thenQ_normal ?_
          refine AW.region ?_
          replace h := bsome h; obtain ⟨v27, hv27, h⟩ := h
          have hv27 := chkI_some hv27
          refine Chain.runK [] 2 fun K hK => ?_; simp [hv27]; refine hK _ _ ?_; clear hK K
          refine Chain.sub (S' := mk 26 [] [(0, .d (.sl (a0.map cS27))), (1, .d (.sl (a1.map cS27))), (12, .d (.lit (.int .i64 (a0.length : Int)))), (13, .d (.lit (.int .i64 v27)))] []) (Sub.table (by simp) (by simp)) ?_
          refine Chain.nil ?_
          cases h
          refine PostI.next ?_
          exact (Sub.table (by simp) (by simp))
      · have c22_ : decide (v8 < (a0.length : Int)) = false := decide_eq_false c22
        refine AW.condF (b := decide (v8 < (a0.length : Int))) rfl c22_ ?_
        refine AW.sub (Sub.bool 14 (b := decide (v8 < (a0.length : Int))) rfl c22_) ?_
        refine AW.sub (S' := mk 26 [] [(0, .d (.sl (a0.map cS27))), (1, .d (.sl (a1.map cS27))), (12, .d (.lit (.int .i64 (a0.length : Int)))), (13, .d (.lit (.int .i64 v8))), (14, .d (.lit (.bool false)))] []) (by simp; exact Sub.table (by simp) (by simp)) ?_
        refine AW.exit ?_
        cases h
        refine thenQ_pass (by simp) ?_
        refine PostI.out (by simp) ?_
        rintro rfl
        refine blockQ.hit ?_
        refine PostJ.next ?_
        exact (Sub.table (by simp) (by simp))
    · rintro ⟨⟩ h
      refine thenQ_normal ?_
      refine AW.seqR ?_
      refine Chain.runK [] 1 fun K hK => ?_; simp; refine hK _ _ ?_; clear hK K
      refine Chain.sub (S' := mk 26 [] [(4, .d (.lit (.bool true)))] []) (Sub.table (by simp) (by simp)) ?_
      refine Chain.nil ?_
      refine AW.ret ?_
      cases h
      exact FinC.ret (by simp) (by simp)

end Go.Proofs.Ytabjbkdlacibjaa
