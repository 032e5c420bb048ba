/- Functions of the program as functional programs; the code computes them. -/
import Derived.Test.YtabjbkdlacibjaaSo0
namespace Go.Proofs.Ytabjbkdlacibjaa
open Go.Ab Go.Rp
attribute [-simp] List.all_eq_true Array.all_toList Array.all_eq_true

/-- stemma/serializability.Check -/
def d18 (N : Nat) (a0 : (List S27)) : Option Int :=
  if (a0.length : Int) > 200 then (
    some 2
  ) else
  bindO (β := Unit) (ρ := Int) (
    iterN (σ := Int) (ρ := (Out Unit Int)) (fun (v15 : Int) =>
      if v15 < (a0.length : Int) then (
        (idx a0 v15).bind fun x44 =>
        Option.bind (α := Bool) (
          if (x44.Kind != 1) then (
            some (x44.Kind != 2)
          ) else
          some false
        ) fun (v47 : Bool) =>
        if v47 = true then (
          some (.inr (.ret 3))
        ) else
        Option.bind (α := Bool) (
          if x44.Tx < 0 then (
            some true
          ) else
          some (decide (x44.Tx ≥ 20))
        ) fun (v51 : Bool) =>
        if v51 = true then (
          some (.inr (.ret 1))
        ) else
        if (x44.Key.size : Int) > 24 then (
          some (.inr (.ret 2))
        ) else
        (chkI (v15 + 1)).bind fun v55 =>
        some (.inl v55)
      ) else
      some (.inr (.go ()))
    ) N 0
  ) fun (_ : Unit) =>
  some 0
set_option maxRecDepth 100000 in
set_option maxHeartbeats 4000000 in
theorem p18 (N : Nat) (a0 : (List S27)) (r : Int) (h : d18 N a0 = some r) : FunC Try.prog 18 [.d (.sl (a0.map cS27))] (.d (.lit (.int .i64 r))) := by
  unfold d18 at h
  refine FunC.enter 35 [(0, .d (.sl (a0.map cS27)))] (by simp) Try.func18 rfl (of_decide_eq_true rfl) rfl rfl ?_
  refine AW.seqR ?_
  refine Chain.runK [] 1 fun K hK => ?_; simp; refine hK _ _ ?_; clear hK K
  refine Chain.sub (S' := mk 35 [] [(0, .d (.sl (a0.map cS27)))] []) (Sub.table (by simp) (by simp)) ?_
  refine Chain.nil ?_
  refine AW.seq ?_
  refine AW.seqR ?_
  refine Chain.runK [] 3 fun K hK => ?_; simp; refine hK _ _ ?_; clear hK K
  refine Chain.sub (S' := mk 35 [] [(0, .d (.sl (a0.map cS27))), (7, .d (.lit (.bool (decide ((a0.length : Int) > 200)))))] []) (Sub.table (by simp) (by simp)) ?_
  refine Chain.nil ?_
  replace h := isome h; rcases h with ⟨c1, h⟩ | ⟨c1, h⟩
  · have c1_ : decide ((a0.length : Int) > 200) = true := decide_eq_true c1
    refine AW.condT (b := decide ((a0.length : Int) > 200)) rfl c1_ ?_
    refine AW.sub (Sub.bool 7 (b := decide ((a0.length : Int) > 200)) rfl c1_) ?_
    refine AW.sub (S' := mk 35 [] [(0, .d (.sl (a0.map cS27))), (7, .d (.lit (.bool true)))] []) (by simp; exact Sub.table (by simp) (by simp)) ?_
    refine AW.seqR ?_
    refine Chain.runK [] 1 fun K hK => ?_; simp; refine hK _ _ ?_; clear hK K
    refine Chain.sub (S' := mk 35 [] [(2, .d (.lit (.int .i64 2)))] []) (Sub.table (by simp) (by simp)) ?_
    refine Chain.nil ?_
    refine AW.ret ?_
    cases h
    refine thenQ_pass (by simp) ?_
    exact FinC.ret (by simp) (by simp)
  · have c1_ : decide ((a0.length : Int) > 200) = false := decide_eq_false c1
    refine AW.condF (b := decide ((a0.length : Int) > 200)) rfl c1_ ?_
    refine AW.sub (Sub.bool 7 (b := decide ((a0.length : Int) > 200)) rfl c1_) ?_
    refine AW.sub (S' := mk 35 [] [(0, .d (.sl (a0.map cS27))), (7, .d (.lit (.bool false)))] []) (by simp; exact Sub.table (by simp) (by simp)) ?_
    refine AW.skip ?_
    refine thenQ_normal ?_
    refine AW.seq ?_
    refine AW.seqR ?_
    refine Chain.runK [] 3 fun K hK => ?_; simp; refine hK _ _ ?_; clear hK K
    refine Chain.sub (S' := mk 35 [] [(8, .d (.sl (a0.map cS27))), (9, .d (.lit (.int .i64 (a0.length : Int)))), (10, .d (.lit (.int .i64 0)))] []) (Sub.table (by simp) (by simp)) ?_
    refine Chain.nil ?_
    refine AW.lastJ (fun (_ : Unit) => mk 35 [] [] []) h ?_ ?_ <;> clear h
    · intro o h
      refine AW.block ?_
      refine AW.iter (fun (v15 : Int) => mk 35 [] [(8, .d (.sl (a0.map cS27))), (9, .d (.lit (.int .i64 (a0.length : Int)))), (10, .d (.lit (.int .i64 v15)))] []) h (Sub.table (by simp) (by simp)) ?_
      clear h
      rintro v15 x h
      refine AW.seqR ?_
      refine Chain.runK [] 1 fun K hK => ?_; simp; refine hK _ _ ?_; clear hK K
      refine Chain.sub (S' := mk 35 [] [(8, .d (.sl (a0.map cS27))), (9, .d (.lit (.int .i64 (a0.length : Int)))), (10, .d (.lit (.int .i64 v15))), (11, .d (.lit (.bool (decide (v15 < (a0.length : Int))))))] []) (Sub.table (by simp) (by simp)) ?_
      refine Chain.nil ?_
      refine AW.seq ?_
      replace h := isome h; rcases h with ⟨c43, h⟩ | ⟨c43, h⟩
      · have c43_ : decide (v15 < (a0.length : Int)) = true := decide_eq_true c43
        refine AW.condT (b := decide (v15 < (a0.length : Int))) rfl c43_ ?_
        refine AW.sub (Sub.bool 11 (b := decide (v15 < (a0.length : Int))) rfl c43_) ?_
        refine AW.sub (S' := mk 35 [] [(8, .d (.sl (a0.map cS27))), (9, .d (.lit (.int .i64 (a0.length : Int)))), (10, .d (.lit (.int .i64 v15))), (11, .d (.lit (.bool true)))] []) (by simp; exact Sub.table (by simp) (by simp)) ?_
        refine AW.skip ?_
        refine thenQ_normal ?_
        refine AW.seq ?_
        refine AW.block ?_
        refine AW.seqR ?_
        replace h := bsome h; obtain ⟨x44, hx44, h⟩ := h
        obtain ⟨k45, hx44k, hx44, hx44a, hx44b⟩ := idx_some hx44
        refine Chain.runK [] 4 fun K hK => ?_; simp [hx44, hx44k, hx44a]; refine hK _ _ ?_; clear hK K
        refine Chain.sub (S' := mk 35 [] [(4, .ptr 4 0 0), (8, .d (.sl (a0.map cS27))), (9, .d (.lit (.int .i64 (a0.length : Int)))), (10, .d (.lit (.int .i64 v15)))] [(4, some (.box [.d (.lit (.int .i64 x44.Tx)), .d (.lit (.int .i64 x44.Kind)), .d (.lit (.string x44.Key))]))]) (Sub.table (by simp) (by simp)) ?_
        refine Chain.nil ?_
        refine AW.seq ?_
        replace h := bsome h; obtain ⟨v47, hj, h⟩ := h
        refine AW.cutR (mk 35 [] [(4, .ptr 4 0 0), (8, .d (.sl (a0.map cS27))), (9, .d (.lit (.int .i64 (a0.length : Int)))), (10, .d (.lit (.int .i64 v15))), (21, .d (.lit (.bool v47)))] [(4, some (.box [.d (.lit (.int .i64 x44.Tx)), .d (.lit (.int .i64 x44.Kind)), .d (.lit (.string x44.Key))]))]) ?_ ?_
        · clear h; have h := hj; clear hj
          refine Chain.runK [] 4 fun K hK => ?_; simp; refine hK _ _ ?_; clear hK K
          refine Chain.sub (S' := mk 35 [] [(4, .ptr 4 0 0), (8, .d (.sl (a0.map cS27))), (9, .d (.lit (.int .i64 (a0.length : Int)))), (10, .d (.lit (.int .i64 v15))), (17, .d (.lit (.bool (x44.Kind != 1))))] [(4, some (.box [.d (.lit (.int .i64 x44.Tx)), .d (.lit (.int .i64 x44.Kind)), .d (.lit (.string x44.Key))]))]) (Sub.table (by simp) (by simp)) ?_
          replace h := isome h; rcases h with ⟨c48, h⟩ | ⟨c48, h⟩
          · have c48_ : (x44.Kind != 1) = true := c48
            refine Chain.sub (Sub.bool 17 (b := (x44.Kind != 1)) rfl c48_) ?_
            refine Chain.sub (S' := mk 35 [] [(4, .ptr 4 0 0), (8, .d (.sl (a0.map cS27))), (9, .d (.lit (.int .i64 (a0.length : Int)))), (10, .d (.lit (.int .i64 v15))), (17, .d (.lit (.bool true)))] [(4, some (.box [.d (.lit (.int .i64 x44.Tx)), .d (.lit (.int .i64 x44.Kind)), .d (.lit (.string x44.Key))]))]) (by simp; exact Sub.table (by simp) (by simp)) ?_
            refine Chain.runK [] 4 fun K hK => ?_; simp; refine hK _ _ ?_; clear hK K
            refine Chain.sub (S' := mk 35 [] [(4, .ptr 4 0 0), (8, .d (.sl (a0.map cS27))), (9, .d (.lit (.int .i64 (a0.length : Int)))), (10, .d (.lit (.int .i64 v15))), (18, .ptr 4 0 1), (19, .d (.lit (.int .i64 x44.Kind))), (20, .d (.lit (.bool (x44.Kind != 2)))), (21, .d (.lit (.bool (x44.Kind != 2))))] [(4, some (.box [.d (.lit (.int .i64 x44.Tx)), .d (.lit (.int .i64 x44.Kind)), .d (.lit (.string x44.Key))]))]) (Sub.table (by simp) (by simp)) ?_
            cases h
            exact Chain.nil (Sub.table (by simp) (by simp))
          · have c48_ : (x44.Kind != 1) = false := Bool.eq_false_iff.2 c48
            refine Chain.sub (Sub.bool 17 (b := (x44.Kind != 1)) rfl c48_) ?_
            refine Chain.sub (S' := mk 35 [] [(4, .ptr 4 0 0), (8, .d (.sl (a0.map cS27))), (9, .d (.lit (.int .i64 (a0.length : Int)))), (10, .d (.lit (.int .i64 v15))), (17, .d (.lit (.bool false)))] [(4, some (.box [.d (.lit (.int .i64 x44.Tx)), .d (.lit (.int .i64 x44.Kind)), .d (.lit (.string x44.Key))]))]) (by simp; exact Sub.table (by simp) (by simp)) ?_
            refine Chain.runK [] 4 fun K hK => ?_; simp; refine hK _ _ ?_; clear hK K
            refine Chain.sub (S' := mk 35 [] [(4, .ptr 4 0 0), (8, .d (.sl (a0.map cS27))), (9, .d (.lit (.int .i64 (a0.length : Int)))), (10, .d (.lit (.int .i64 v15))), (18, .tup []), (19, .tup []), (20, .tup []), (21, .d (.lit (.bool false)))] [(4, some (.box [.d (.lit (.int .i64 x44.Tx)), .d (.lit (.int .i64 x44.Kind)), .d (.lit (.string x44.Key))]))]) (Sub.table (by simp) (by simp)) ?_
            cases h
            exact Chain.nil (Sub.table (by simp) (by simp))
        · clear hj
          replace h := isome h; rcases h with ⟨c49, h⟩ | ⟨c49, h⟩
          · have c49_ : v47 = true := c49
            refine AW.condT (b := v47) rfl c49_ ?_
            refine AW.sub (Sub.bool 21 (b := v47) rfl c49_) ?_
            refine AW.sub (S' := mk 35 [] [(4, .ptr 4 0 0), (8, .d (.sl (a0.map cS27))), (9, .d (.lit (.int .i64 (a0.length : Int)))), (10, .d (.lit (.int .i64 v15))), (21, .d (.lit (.bool true)))] [(4, some (.box [.d (.lit (.int .i64 x44.Tx)), .d (.lit (.int .i64 x44.Kind)), .d (.lit (.string x44.Key))]))]) (by simp; exact Sub.table (by simp) (by simp)) ?_
            refine AW.seqR ?_
            refine Chain.runK [] 1 fun K hK => ?_; simp; refine hK _ _ ?_; clear hK K
            refine Chain.sub (S' := mk 35 [] [(2, .d (.lit (.int .i64 3)))] []) (Sub.table (by simp) (by simp)) ?_
            refine Chain.nil ?_
            refine AW.ret ?_
            cases h
            refine thenQ_pass (by simp) ?_
            refine blockQ.ret ?_
            refine thenQ_pass (by simp) ?_
            refine PostI.out (by simp) ?_
            rintro rfl
            refine blockQ.ret ?_
            refine PostJ.out (by simp) ?_
            rintro rfl
            refine thenQ_pass (by simp) ?_
            exact FinC.ret (by simp) (by simp)
          · have c49_ : v47 = false := Bool.eq_false_iff.2 c49
            refine AW.condF (b := v47) rfl c49_ ?_
            refine AW.sub (Sub.bool 21 (b := v47) rfl c49_) ?_
            refine AW.sub (S' := mk 35 [] [(4, .ptr 4 0 0), (8, .d (.sl (a0.map cS27))), (9, .d (.lit (.int .i64 (a0.length : Int)))), (10, .d (.lit (.int .i64 v15))), (21, .d (.lit (.bool false)))] [(4, some (.box [.d (.lit (.int .i64 x44.Tx)), .d (.lit (.int .i64 x44.Kind)), .d (.lit (.string x44.Key))]))]) (by simp; exact Sub.table (by simp) (by simp)) ?_
            refine AW.skip ?_
            refine thenQ_normal ?_
            refine AW.seq ?_
            replace h := bsome h; obtain ⟨v51, hj, h⟩ := h
            refine AW.cutR (mk 35 [] [(4, .ptr 4 0 0), (8, .d (.sl (a0.map cS27))), (9, .d (.lit (.int .i64 (a0.length : Int)))), (10, .d (.lit (.int .i64 v15))), (29, .d (.lit (.bool v51)))] [(4, some (.box [.d (.lit (.int .i64 x44.Tx)), .d (.lit (.int .i64 x44.Kind)), .d (.lit (.string x44.Key))]))]) ?_ ?_
            · clear h; have h := hj; clear hj
              refine Chain.runK [] 4 fun K hK => ?_; simp; refine hK _ _ ?_; clear hK K
              refine Chain.sub (S' := mk 35 [] [(4, .ptr 4 0 0), (8, .d (.sl (a0.map cS27))), (9, .d (.lit (.int .i64 (a0.length : Int)))), (10, .d (.lit (.int .i64 v15))), (25, .d (.lit (.bool (decide (x44.Tx < 0)))))] [(4, some (.box [.d (.lit (.int .i64 x44.Tx)), .d (.lit (.int .i64 x44.Kind)), .d (.lit (.string x44.Key))]))]) (Sub.table (by simp) (by simp)) ?_
              replace h := isome h; rcases h with ⟨c52, h⟩ | ⟨c52, h⟩
              · have c52_ : decide (x44.Tx < 0) = true := decide_eq_true c52
                refine Chain.sub (Sub.bool 25 (b := decide (x44.Tx < 0)) rfl c52_) ?_
                refine Chain.sub (S' := mk 35 [] [(4, .ptr 4 0 0), (8, .d (.sl (a0.map cS27))), (9, .d (.lit (.int .i64 (a0.length : Int)))), (10, .d (.lit (.int .i64 v15))), (25, .d (.lit (.bool true)))] [(4, some (.box [.d (.lit (.int .i64 x44.Tx)), .d (.lit (.int .i64 x44.Kind)), .d (.lit (.string x44.Key))]))]) (by simp; exact Sub.table (by simp) (by simp)) ?_
                refine Chain.runK [] 4 fun K hK => ?_; simp; refine hK _ _ ?_; clear hK K
                refine Chain.sub (S' := mk 35 [] [(4, .ptr 4 0 0), (8, .d (.sl (a0.map cS27))), (9, .d (.lit (.int .i64 (a0.length : Int)))), (10, .d (.lit (.int .i64 v15))), (26, .tup []), (27, .tup []), (28, .tup []), (29, .d (.lit (.bool true)))] [(4, some (.box [.d (.lit (.int .i64 x44.Tx)), .d (.lit (.int .i64 x44.Kind)), .d (.lit (.string x44.Key))]))]) (Sub.table (by simp) (by simp)) ?_
                cases h
                exact Chain.nil (Sub.table (by simp) (by simp))
              · have c52_ : decide (x44.Tx < 0) = false := decide_eq_false c52
                refine Chain.sub (Sub.bool 25 (b := decide (x44.Tx < 0)) rfl c52_) ?_
                refine Chain.sub (S' := mk 35 [] [(4, .ptr 4 0 0), (8, .d (.sl (a0.map cS27))), (9, .d (.lit (.int .i64 (a0.length : Int)))), (10, .d (.lit (.int .i64 v15))), (25, .d (.lit (.bool false)))] [(4, some (.box [.d (.lit (.int .i64 x44.Tx)), .d (.lit (.int .i64 x44.Kind)), .d (.lit (.string x44.Key))]))]) (by simp; exact Sub.table (by simp) (by simp)) ?_
                refine Chain.runK [] 4 fun K hK => ?_; simp; refine hK _ _ ?_; clear hK K
                refine Chain.sub (S' := mk 35 [] [(4, .ptr 4 0 0), (8, .d (.sl (a0.map cS27))), (9, .d (.lit (.int .i64 (a0.length : Int)))), (10, .d (.lit (.int .i64 v15))), (26, .ptr 4 0 0), (27, .d (.lit (.int .i64 x44.Tx))), (28, .d (.lit (.bool (decide (x44.Tx ≥ 20))))), (29, .d (.lit (.bool (decide (x44.Tx ≥ 20)))))] [(4, some (.box [.d (.lit (.int .i64 x44.Tx)), .d (.lit (.int .i64 x44.Kind)), .d (.lit (.string x44.Key))]))]) (Sub.table (by simp) (by simp)) ?_
                cases h
                exact Chain.nil (Sub.table (by simp) (by simp))
            · clear hj
              replace h := isome h; rcases h with ⟨c53, h⟩ | ⟨c53, h⟩
              · have c53_ : v51 = true := c53
                refine AW.condT (b := v51) rfl c53_ ?_
                refine AW.sub (Sub.bool 29 (b := v51) rfl c53_) ?_
                refine AW.sub (S' := mk 35 [] [(4, .ptr 4 0 0), (8, .d (.sl (a0.map cS27))), (9, .d (.lit (.int .i64 (a0.length : Int)))), (10, .d (.lit (.int .i64 v15))), (29, .d (.lit (.bool true)))] [(4, some (.box [.d (.lit (.int .i64 x44.Tx)), .d (.lit (.int .i64 x44.Kind)), .d (.lit (.string x44.Key))]))]) (by simp; exact Sub.table (by simp) (by simp)) ?_
                refine AW.seqR ?_
                refine Chain.runK [] 1 fun K hK => ?_; simp; refine hK _ _ ?_; clear hK K
                refine Chain.sub (S' := mk 35 [] [(2, .d (.lit (.int .i64 1)))] []) (Sub.table (by simp) (by simp)) ?_
                refine Chain.nil ?_
                refine AW.ret ?_
                cases h
                refine thenQ_pass (by simp) ?_
                refine blockQ.ret ?_
                refine thenQ_pass (by simp) ?_
                refine PostI.out (by simp) ?_
                rintro rfl
                refine blockQ.ret ?_
                refine PostJ.out (by simp) ?_
                rintro rfl
                refine thenQ_pass (by simp) ?_
                exact FinC.ret (by simp) (by simp)
              · have c53_ : v51 = false := Bool.eq_false_iff.2 c53
                refine AW.condF (b := v51) rfl c53_ ?_
                refine AW.sub (Sub.bool 29 (b := v51) rfl c53_) ?_
                refine AW.sub (S' := mk 35 [] [(4, .ptr 4 0 0), (8, .d (.sl (a0.map cS27))), (9, .d (.lit (.int .i64 (a0.length : Int)))), (10, .d (.lit (.int .i64 v15))), (29, .d (.lit (.bool false)))] [(4, some (.box [.d (.lit (.int .i64 x44.Tx)), .d (.lit (.int .i64 x44.Kind)), .d (.lit (.string x44.Key))]))]) (by simp; exact Sub.table (by simp) (by simp)) ?_
                refine AW.skip ?_
                refine thenQ_normal ?_
                refine AW.seqR ?_
                refine Chain.runK [] 4 fun K hK => ?_; simp; refine hK _ _ ?_; clear hK K
                refine Chain.sub (S' := mk 35 [] [(8, .d (.sl (a0.map cS27))), (9, .d (.lit (.int .i64 (a0.length : Int)))), (10, .d (.lit (.int .i64 v15))), (33, .d (.lit (.bool (decide ((x44.Key.size : Int) > 24)))))] []) (Sub.table (by simp) (by simp)) ?_
                refine Chain.nil ?_
                replace h := isome h; rcases h with ⟨c54, h⟩ | ⟨c54, h⟩
                · have c54_ : decide ((x44.Key.size : Int) > 24) = true := decide_eq_true c54
                  refine AW.condT (b := decide ((x44.Key.size : Int) > 24)) rfl c54_ ?_
                  refine AW.sub (Sub.bool 33 (b := decide ((x44.Key.size : Int) > 24)) rfl c54_) ?_
                  refine AW.sub (S' := mk 35 [] [(8, .d (.sl (a0.map cS27))), (9, .d (.lit (.int .i64 (a0.length : Int)))), (10, .d (.lit (.int .i64 v15))), (33, .d (.lit (.bool true)))] []) (by simp; exact Sub.table (by simp) (by simp)) ?_
                  refine AW.seqR ?_
                  refine Chain.runK [] 1 fun K hK => ?_; simp; refine hK _ _ ?_; clear hK K
                  refine Chain.sub (S' := mk 35 [] [(2, .d (.lit (.int .i64 2)))] []) (Sub.table (by simp) (by simp)) ?_
                  refine Chain.nil ?_
                  refine AW.ret ?_
                  cases h
                  refine blockQ.ret ?_
                  refine thenQ_pass (by simp) ?_
                  refine PostI.out (by simp) ?_
                  rintro rfl
                  refine blockQ.ret ?_
                  refine PostJ.out (by simp) ?_
                  rintro rfl
                  refine thenQ_pass (by simp) ?_
                  exact FinC.ret (by simp) (by simp)
                · have c54_ : decide ((x44.Key.size : Int) > 24) = false := decide_eq_false c54
                  refine AW.condF (b := decide ((x44.Key.size : Int) > 24)) rfl c54_ ?_
                  refine AW.sub (Sub.bool 33 (b := decide ((x44.Key.size : Int) > 24)) rfl c54_) ?_
                  refine AW.sub (S' := mk 35 [] [(8, .d (.sl (a0.map cS27))), (9, .d (.lit (.int .i64 (a0.length : Int)))), (10, .d (.lit (.int .i64 v15))), (33, .d (.lit (.bool false)))] []) (by simp; exact Sub.table (by simp) (by simp)) ?_
                  refine AW.skip ?_
                  refine blockQ.normal ?_
                  refine thenQ_normal ?_
                  refine AW.region ?_
                  replace h := bsome h; obtain ⟨v55, hv55, h⟩ := h
                  have hv55 := chkI_some hv55
                  refine Chain.runK [] 2 fun K hK => ?_; simp [hv55]; refine hK _ _ ?_; clear hK K
                  refine Chain.sub (S' := mk 35 [] [(8, .d (.sl (a0.map cS27))), (9, .d (.lit (.int .i64 (a0.length : Int)))), (10, .d (.lit (.int .i64 v55)))] []) (Sub.table (by simp) (by simp)) ?_
                  refine Chain.nil ?_
                  cases h
                  refine PostI.next ?_
                  exact (Sub.table (by simp) (by simp))
      · have c43_ : decide (v15 < (a0.length : Int)) = false := decide_eq_false c43
        refine AW.condF (b := decide (v15 < (a0.length : Int))) rfl c43_ ?_
        refine AW.sub (Sub.bool 11 (b := decide (v15 < (a0.length : Int))) rfl c43_) ?_
        refine AW.sub (S' := mk 35 [] [(8, .d (.sl (a0.map cS27))), (9, .d (.lit (.int .i64 (a0.length : Int)))), (10, .d (.lit (.int .i64 v15))), (11, .d (.lit (.bool false)))] []) (by simp; exact Sub.table (by simp) (by simp)) ?_
        refine AW.exit ?_
        cases h
        refine thenQ_pass (by simp) ?_
        refine PostI.out (by simp) ?_
        rintro rfl
        refine blockQ.hit ?_
        refine PostJ.next ?_
        exact (Sub.table (by simp) (by simp))
    · rintro ⟨⟩ h
      refine thenQ_normal ?_
      refine AW.seqR ?_
      refine Chain.runK [] 1 fun K hK => ?_; simp; refine hK _ _ ?_; clear hK K
      refine Chain.sub (S' := mk 35 [] [(2, .d (.lit (.int .i64 0)))] []) (Sub.table (by simp) (by simp)) ?_
      refine Chain.nil ?_
      refine AW.ret ?_
      cases h
      exact FinC.ret (by simp) (by simp)

/-- stemma/serializability.Conflict -/
def d20 (N : Nat) (a0 : S27) (a1 : S27) : Option Bool :=
  Option.bind (α := Bool) (
    if (a0.Tx != a1.Tx) then (
      if decide (a0.Key = a1.Key) = true then (
        if (a0.Kind == 2) then (
          some true
        ) else
        some (a1.Kind == 2)
      ) else
      some false
    ) else
    some false
  ) fun (v4 : Bool) =>
  some v4
set_option maxRecDepth 100000 in
set_option maxHeartbeats 4000000 in
theorem p20 (N : Nat) (a0 : S27) (a1 : S27) (r : Bool) (h : d20 N a0 a1 = some r) : FunC Try.prog 20 [.agg [.d (.lit (.int .i64 a0.Tx)), .d (.lit (.int .i64 a0.Kind)), .d (.lit (.string a0.Key))], .agg [.d (.lit (.int .i64 a1.Tx)), .d (.lit (.int .i64 a1.Kind)), .d (.lit (.string a1.Key))]] (.d (.lit (.bool r))) := by
  unfold d20 at h
  refine FunC.enter 27 [(0, .agg [.d (.lit (.int .i64 a0.Tx)), .d (.lit (.int .i64 a0.Kind)), .d (.lit (.string a0.Key))]), (1, .agg [.d (.lit (.int .i64 a1.Tx)), .d (.lit (.int .i64 a1.Kind)), .d (.lit (.string a1.Key))])] (by simp) Try.func20 rfl (of_decide_eq_true rfl) rfl rfl ?_
  refine AW.seqR ?_
  refine Chain.runK [] 3 fun K hK => ?_; simp; refine hK _ _ ?_; clear hK K
  refine Chain.sub (S' := mk 27 [] [(2, .ptr 2 0 0), (3, .ptr 3 0 0)] [(2, some (.box [.d (.lit (.int .i64 a0.Tx)), .d (.lit (.int .i64 a0.Kind)), .d (.lit (.string a0.Key))])), (3, some (.box [.d (.lit (.int .i64 a1.Tx)), .d (.lit (.int .i64 a1.Kind)), .d (.lit (.string a1.Key))]))]) (Sub.table (by simp) (by simp)) ?_
  refine Chain.nil ?_
  replace h := bsome h; obtain ⟨v4, hj, h⟩ := h
  refine AW.cutR (mk 27 [] [(4, .d (.lit (.bool v4)))] []) ?_ ?_
  · clear h; have h := hj; clear hj
    refine Chain.runK [] 6 fun K hK => ?_; simp; refine hK _ _ ?_; clear hK K
    refine Chain.sub (S' := mk 27 [] [(2, .ptr 2 0 0), (3, .ptr 3 0 0), (10, .d (.lit (.bool (a0.Tx != a1.Tx))))] [(2, some (.box [.d (.lit (.int .i64 a0.Tx)), .d (.lit (.int .i64 a0.Kind)), .d (.lit (.string a0.Key))])), (3, some (.box [.d (.lit (.int .i64 a1.Tx)), .d (.lit (.int .i64 a1.Kind)), .d (.lit (.string a1.Key))]))]) (Sub.table (by simp) (by simp)) ?_
    replace h := isome h; rcases h with ⟨c5, h⟩ | ⟨c5, h⟩
    · have c5_ : (a0.Tx != a1.Tx) = true := c5
      refine Chain.sub (Sub.bool 10 (b := (a0.Tx != a1.Tx)) rfl c5_) ?_
      refine Chain.sub (S' := mk 27 [] [(2, .ptr 2 0 0), (3, .ptr 3 0 0), (10, .d (.lit (.bool true)))] [(2, some (.box [.d (.lit (.int .i64 a0.Tx)), .d (.lit (.int .i64 a0.Kind)), .d (.lit (.string a0.Key))])), (3, some (.box [.d (.lit (.int .i64 a1.Tx)), .d (.lit (.int .i64 a1.Kind)), .d (.lit (.string a1.Key))]))]) (by simp; exact Sub.table (by simp) (by simp)) ?_
      refine Chain.runK [] 7 fun K hK => ?_; simp; refine hK _ _ ?_; clear hK K
      refine Chain.sub (S' := mk 27 [] [(2, .ptr 2 0 0), (3, .ptr 3 0 0), (17, .d (.lit (.bool (decide (a0.Key = a1.Key)))))] [(2, some (.box [.d (.lit (.int .i64 a0.Tx)), .d (.lit (.int .i64 a0.Kind)), .d (.lit (.string a0.Key))])), (3, some (.box [.d (.lit (.int .i64 a1.Tx)), .d (.lit (.int .i64 a1.Kind)), .d (.lit (.string a1.Key))]))]) (Sub.table (by simp) (by simp)) ?_
      replace h := isome h; rcases h with ⟨c6, h⟩ | ⟨c6, h⟩
      · have c6_ : decide (a0.Key = a1.Key) = true := c6
        refine Chain.sub (Sub.bool 17 (b := decide (a0.Key = a1.Key)) rfl c6_) ?_
        refine Chain.sub (S' := mk 27 [] [(2, .ptr 2 0 0), (3, .ptr 3 0 0), (17, .d (.lit (.bool true)))] [(2, some (.box [.d (.lit (.int .i64 a0.Tx)), .d (.lit (.int .i64 a0.Kind)), .d (.lit (.string a0.Key))])), (3, some (.box [.d (.lit (.int .i64 a1.Tx)), .d (.lit (.int .i64 a1.Kind)), .d (.lit (.string a1.Key))]))]) (by simp; exact Sub.table (by simp) (by simp)) ?_
        refine Chain.runK [] 4 fun K hK => ?_; simp; refine hK _ _ ?_; clear hK K
        refine Chain.sub (S' := mk 27 [] [(3, .ptr 3 0 0), (17, .d (.lit (.bool true))), (21, .d (.lit (.bool (a0.Kind == 2))))] [(3, some (.box [.d (.lit (.int .i64 a1.Tx)), .d (.lit (.int .i64 a1.Kind)), .d (.lit (.string a1.Key))]))]) (Sub.table (by simp) (by simp)) ?_
        replace h := isome h; rcases h with ⟨c7, h⟩ | ⟨c7, h⟩
        · have c7_ : (a0.Kind == 2) = true := c7
          refine Chain.sub (Sub.bool 21 (b := (a0.Kind == 2)) rfl c7_) ?_
          refine Chain.sub (S' := mk 27 [] [(3, .ptr 3 0 0), (17, .d (.lit (.bool true))), (21, .d (.lit (.bool true)))] [(3, some (.box [.d (.lit (.int .i64 a1.Tx)), .d (.lit (.int .i64 a1.Kind)), .d (.lit (.string a1.Key))]))]) (by simp; exact Sub.table (by simp) (by simp)) ?_
          refine Chain.runK [] 6 fun K hK => ?_; simp; refine hK _ _ ?_; clear hK K
          refine Chain.sub (S' := mk 27 [] [(4, .d (.lit (.bool true)))] []) (Sub.table (by simp) (by simp)) ?_
          cases h
          exact Chain.nil (Sub.table (by simp) (by simp))
        · have c7_ : (a0.Kind == 2) = false := Bool.eq_false_iff.2 c7
          refine Chain.sub (Sub.bool 21 (b := (a0.Kind == 2)) rfl c7_) ?_
          refine Chain.sub (S' := mk 27 [] [(3, .ptr 3 0 0), (17, .d (.lit (.bool true))), (21, .d (.lit (.bool false)))] [(3, some (.box [.d (.lit (.int .i64 a1.Tx)), .d (.lit (.int .i64 a1.Kind)), .d (.lit (.string a1.Key))]))]) (by simp; exact Sub.table (by simp) (by simp)) ?_
          refine Chain.runK [] 6 fun K hK => ?_; simp; refine hK _ _ ?_; clear hK K
          refine Chain.sub (S' := mk 27 [] [(4, .d (.lit (.bool (a1.Kind == 2))))] []) (Sub.table (by simp) (by simp)) ?_
          cases h
          exact Chain.nil (Sub.table (by simp) (by simp))
      · have c6_ : decide (a0.Key = a1.Key) = false := Bool.eq_false_iff.2 c6
        refine Chain.sub (Sub.bool 17 (b := decide (a0.Key = a1.Key)) rfl c6_) ?_
        refine Chain.sub (S' := mk 27 [] [(2, .ptr 2 0 0), (3, .ptr 3 0 0), (17, .d (.lit (.bool false)))] [(2, some (.box [.d (.lit (.int .i64 a0.Tx)), .d (.lit (.int .i64 a0.Kind)), .d (.lit (.string a0.Key))])), (3, some (.box [.d (.lit (.int .i64 a1.Tx)), .d (.lit (.int .i64 a1.Kind)), .d (.lit (.string a1.Key))]))]) (by simp; exact Sub.table (by simp) (by simp)) ?_
        refine Chain.runK [] 10 fun K hK => ?_; simp; refine hK _ _ ?_; clear hK K
        refine Chain.sub (S' := mk 27 [] [(4, .d (.lit (.bool false)))] []) (Sub.table (by simp) (by simp)) ?_
        cases h
        exact Chain.nil (Sub.table (by simp) (by simp))
    · have c5_ : (a0.Tx != a1.Tx) = false := Bool.eq_false_iff.2 c5
      refine Chain.sub (Sub.bool 10 (b := (a0.Tx != a1.Tx)) rfl c5_) ?_
      refine Chain.sub (S' := mk 27 [] [(2, .ptr 2 0 0), (3, .ptr 3 0 0), (10, .d (.lit (.bool false)))] [(2, some (.box [.d (.lit (.int .i64 a0.Tx)), .d (.lit (.int .i64 a0.Kind)), .d (.lit (.string a0.Key))])), (3, some (.box [.d (.lit (.int .i64 a1.Tx)), .d (.lit (.int .i64 a1.Kind)), .d (.lit (.string a1.Key))]))]) (by simp; exact Sub.table (by simp) (by simp)) ?_
      refine Chain.runK [] 17 fun K hK => ?_; simp; refine hK _ _ ?_; clear hK K
      refine Chain.sub (S' := mk 27 [] [(4, .d (.lit (.bool false)))] []) (Sub.table (by simp) (by simp)) ?_
      cases h
      exact Chain.nil (Sub.table (by simp) (by simp))
  · clear hj
    refine AW.ret ?_
    cases h
    exact FinC.ret (by simp) (by simp)

/-- stemma/serializability.conflicts -/
def d56 (N : Nat) (a0 : (List S27)) : Option (List Bool) :=
  Option.bind (α := List Bool) (
    iterN (σ := ((List Bool) × Int)) (ρ := List Bool) (fun ((l51, v52) : ((List Bool) × Int)) =>
      if v52 < (a0.length : Int) then (
        (idx a0 v52).bind fun x159 =>
        (natI v52 a0.length).bind fun n161 =>
        letv (a0.take n161) fun l162 =>
        Option.bind (α := List Bool) (
          iterN (σ := ((List Bool) × Int)) (ρ := List Bool) (fun ((l173, v174) : ((List Bool) × Int)) =>
            if v174 < (l162.length : Int) then (
              (idx l162 v174).bind fun x199 =>
              (d20 N x199 x159).bind fun r201 =>
              if r201 = true then (
                (arrI x199.Tx 20).bind fun k203 =>
                (arrI x159.Tx 20).bind fun k204 =>
                (setN l173 (k203 * 20 + k204) true).bind fun l205 =>
                (chkI (v174 + 1)).bind fun v206 =>
                some (.inl (l205, v206))
              ) else
              (chkI (v174 + 1)).bind fun v207 =>
              some (.inl (l173, v207))
            ) else
            some (.inr l173)
          ) N (l51, 0)
        ) fun (l197 : List Bool) =>
        (chkI ((n161 : Int) + 1)).bind fun v208 =>
        some (.inl (l197, v208))
      ) else
      some (.inr l51)
    ) N ((List.replicate 400 false), 0)
  ) fun (l157 : List Bool) =>
  (lenL 400 l157).bind fun _ =>
  (lenL 400 (List.replicate 400 false)).bind fun _ =>
  some l157
set_option maxRecDepth 100000 in
set_option maxHeartbeats 4000000 in
theorem p56 (N : Nat) (a0 : (List S27)) (r : (List Bool)) (h : d56 N a0 = some r) : FunC Try.prog 56 [.d (.sl (a0.map cS27))] (.agg (r.map vB)) := by
  unfold d56 at h
  refine FunC.enter 35 [(0, .d (.sl (a0.map cS27)))] (by simp) Try.func56 rfl (of_decide_eq_true rfl) rfl rfl ?_
  refine AW.seqR ?_
  refine Chain.runK [] 1 fun K hK => ?_; simp; refine hK _ _ ?_; clear hK K
  refine Chain.sub (S' := mk 35 [] [(0, .d (.sl (a0.map cS27))), (2, .ptr 2 0 0)] [(2, some (.box ((List.replicate 400 false).map vB)))]) (Sub.table (by simp) (by simp)) ?_
  refine Chain.nil ?_
  refine AW.seqR ?_
  refine Chain.runK [] 1 fun K hK => ?_; simp; refine hK _ _ ?_; clear hK K
  refine Chain.sub (S' := mk 35 [] [(0, .d (.sl (a0.map cS27))), (2, .ptr 2 0 0), (3, .ptr 3 0 0)] [(2, some (.box ((List.replicate 400 false).map vB))), (3, some (.box ((List.replicate 400 false).map vB)))]) (Sub.table (by simp) (by simp)) ?_
  refine Chain.nil ?_
  refine AW.seq ?_
  refine AW.seqR ?_
  refine Chain.runK [] 3 fun K hK => ?_; simp; refine hK _ _ ?_; clear hK K
  refine Chain.sub (S' := mk 35 [] [(0, .d (.sl (a0.map cS27))), (2, .ptr 2 0 0), (3, .ptr 3 0 0), (8, .d (.sl (a0.map cS27))), (9, .d (.lit (.int .i64 (a0.length : Int)))), (10, .d (.lit (.int .i64 0)))] [(2, some (.box ((List.replicate 400 false).map vB))), (3, some (.box ((List.replicate 400 false).map vB)))]) (Sub.table (by simp) (by simp)) ?_
  refine Chain.nil ?_
  refine AW.lastN (fun (l157 : List Bool) => mk 35 [] [(2, .ptr 2 0 0), (3, .ptr 3 0 0)] [(2, some (.box ((List.replicate 400 false).map vB))), (3, some (.box (l157.map vB)))]) h ?_ ?_ <;> clear h
  · intro o h
    refine AW.block ?_
    refine AW.iter (fun ((l51, v52) : ((List Bool) × Int)) => mk 35 [] [(0, .d (.sl (a0.map cS27))), (2, .ptr 2 0 0), (3, .ptr 3 0 0), (8, .d (.sl (a0.map cS27))), (9, .d (.lit (.int .i64 (a0.length : Int)))), (10, .d (.lit (.int .i64 v52)))] [(2, some (.box ((List.replicate 400 false).map vB))), (3, some (.box (l51.map vB)))]) h (Sub.table (by simp) (by simp)) ?_
    clear h
    rintro ⟨l51, v52⟩ x h
    dsimp only at h ⊢
    refine AW.seqR ?_
    refine Chain.runK [] 1 fun K hK => ?_; simp; refine hK _ _ ?_; clear hK K
    refine Chain.sub (S' := mk 35 [] [(0, .d (.sl (a0.map cS27))), (2, .ptr 2 0 0), (3, .ptr 3 0 0), (8, .d (.sl (a0.map cS27))), (9, .d (.lit (.int .i64 (a0.length : Int)))), (10, .d (.lit (.int .i64 v52))), (11, .d (.lit (.bool (decide (v52 < (a0.length : Int))))))] [(2, some (.box ((List.replicate 400 false).map vB))), (3, some (.box (l51.map vB)))]) (Sub.table (by simp) (by simp)) ?_
    refine Chain.nil ?_
    refine AW.seq ?_
    replace h := isome h; rcases h with ⟨c158, h⟩ | ⟨c158, h⟩
    · have c158_ : decide (v52 < (a0.length : Int)) = true := decide_eq_true c158
      refine AW.condT (b := decide (v52 < (a0.length : Int))) rfl c158_ ?_
      refine AW.sub (Sub.bool 11 (b := decide (v52 < (a0.length : Int))) rfl c158_) ?_
      refine AW.sub (S' := mk 35 [] [(0, .d (.sl (a0.map cS27))), (2, .ptr 2 0 0), (3, .ptr 3 0 0), (8, .d (.sl (a0.map cS27))), (9, .d (.lit (.int .i64 (a0.length : Int)))), (10, .d (.lit (.int .i64 v52))), (11, .d (.lit (.bool true)))] [(2, some (.box ((List.replicate 400 false).map vB))), (3, some (.box (l51.map vB)))]) (by simp; exact Sub.table (by simp) (by simp)) ?_
      refine AW.skip ?_
      refine thenQ_normal ?_
      refine AW.seq ?_
      refine AW.block ?_
      refine AW.seqR ?_
      replace h := bsome h; obtain ⟨x159, hx159, h⟩ := h
      obtain ⟨k160, hx159k, hx159, hx159a, hx159b⟩ := idx_some hx159
      refine Chain.runK [] 6 fun K hK => ?_; simp [hx159, hx159k, hx159a]; refine hK _ _ ?_; clear hK K
      refine Chain.sub (S' := mk 35 [] [(0, .d (.sl (a0.map cS27))), (2, .ptr 2 0 0), (3, .ptr 3 0 0), (4, .d (.lit (.int .i64 v52))), (5, .ptr 5 0 0), (8, .d (.sl (a0.map cS27))), (9, .d (.lit (.int .i64 (a0.length : Int)))), (10, .d (.lit (.int .i64 v52)))] [(2, some (.box ((List.replicate 400 false).map vB))), (3, some (.box (l51.map vB))), (5, some (.box [.d (.lit (.int .i64 x159.Tx)), .d (.lit (.int .i64 x159.Kind)), .d (.lit (.string x159.Key))]))]) (Sub.table (by simp) (by simp)) ?_
      refine Chain.nil ?_
      refine AW.seqR ?_
      replace h := bsome h; obtain ⟨n161, gn161, h⟩ := h
      obtain ⟨hn161a, hn161⟩ := natI_some gn161
      clear gn161
      subst hn161a
      replace h := lsome h; obtain ⟨l162, gl162, h⟩ := h
      have hl162 : ((a0.map cS27).take n161) = l162.map cS27 := by rw [← gl162]; simp
      clear gl162
      refine Chain.runK [] 5 fun K hK => ?_; simp [hn161, hl162]; refine hK _ _ ?_; clear hK K
      refine Chain.sub (S' := mk 35 [] [(0, .d (.sl (a0.map cS27))), (2, .ptr 2 0 0), (3, .ptr 3 0 0), (5, .ptr 5 0 0), (8, .d (.sl (a0.map cS27))), (9, .d (.lit (.int .i64 (a0.length : Int)))), (10, .d (.lit (.int .i64 (n161 : Int)))), (17, .d (.sl (l162.map cS27))), (18, .d (.lit (.int .i64 (l162.length : Int)))), (19, .d (.lit (.int .i64 0)))] [(2, some (.box ((List.replicate 400 false).map vB))), (3, some (.box (l51.map vB))), (5, some (.box [.d (.lit (.int .i64 x159.Tx)), .d (.lit (.int .i64 x159.Kind)), .d (.lit (.string x159.Key))]))]) (Sub.table (by simp) (by simp)) ?_
      refine Chain.nil ?_
      refine AW.lastN (fun (l197 : List Bool) => mk 35 [] [(0, .d (.sl (a0.map cS27))), (2, .ptr 2 0 0), (3, .ptr 3 0 0), (8, .d (.sl (a0.map cS27))), (9, .d (.lit (.int .i64 (a0.length : Int)))), (10, .d (.lit (.int .i64 (n161 : Int))))] [(2, some (.box ((List.replicate 400 false).map vB))), (3, some (.box (l197.map vB)))]) h ?_ ?_ <;> clear h
      · intro o h
        refine AW.block ?_
        refine AW.iter (fun ((l173, v174) : ((List Bool) × Int)) => mk 35 [] [(0, .d (.sl (a0.map cS27))), (2, .ptr 2 0 0), (3, .ptr 3 0 0), (5, .ptr 5 0 0), (8, .d (.sl (a0.map cS27))), (9, .d (.lit (.int .i64 (a0.length : Int)))), (10, .d (.lit (.int .i64 (n161 : Int)))), (17, .d (.sl (l162.map cS27))), (18, .d (.lit (.int .i64 (l162.length : Int)))), (19, .d (.lit (.int .i64 v174)))] [(2, some (.box ((List.replicate 400 false).map vB))), (3, some (.box (l173.map vB))), (5, some (.box [.d (.lit (.int .i64 x159.Tx)), .d (.lit (.int .i64 x159.Kind)), .d (.lit (.string x159.Key))]))]) h (Sub.table (by simp) (by simp)) ?_
        clear h
        rintro ⟨l173, v174⟩ x h
        dsimp only at h ⊢
        refine AW.seqR ?_
        refine Chain.runK [] 1 fun K hK => ?_; simp; refine hK _ _ ?_; clear hK K
        refine Chain.sub (S' := mk 35 [] [(0, .d (.sl (a0.map cS27))), (2, .ptr 2 0 0), (3, .ptr 3 0 0), (5, .ptr 5 0 0), (8, .d (.sl (a0.map cS27))), (9, .d (.lit (.int .i64 (a0.length : Int)))), (10, .d (.lit (.int .i64 (n161 : Int)))), (17, .d (.sl (l162.map cS27))), (18, .d (.lit (.int .i64 (l162.length : Int)))), (19, .d (.lit (.int .i64 v174))), (20, .d (.lit (.bool (decide (v174 < (l162.length : Int))))))] [(2, some (.box ((List.replicate 400 false).map vB))), (3, some (.box (l173.map vB))), (5, some (.box [.d (.lit (.int .i64 x159.Tx)), .d (.lit (.int .i64 x159.Kind)), .d (.lit (.string x159.Key))]))]) (Sub.table (by simp) (by simp)) ?_
        refine Chain.nil ?_
        refine AW.seq ?_
        replace h := isome h; rcases h with ⟨c198, h⟩ | ⟨c198, h⟩
        · have c198_ : decide (v174 < (l162.length : Int)) = true := decide_eq_true c198
          refine AW.condT (b := decide (v174 < (l162.length : Int))) rfl c198_ ?_
          refine AW.sub (Sub.bool 20 (b := decide (v174 < (l162.length : Int))) rfl c198_) ?_
          refine AW.sub (S' := mk 35 [] [(0, .d (.sl (a0.map cS27))), (2, .ptr 2 0 0), (3, .ptr 3 0 0), (5, .ptr 5 0 0), (8, .d (.sl (a0.map cS27))), (9, .d (.lit (.int .i64 (a0.length : Int)))), (10, .d (.lit (.int .i64 (n161 : Int)))), (17, .d (.sl (l162.map cS27))), (18, .d (.lit (.int .i64 (l162.length : Int)))), (19, .d (.lit (.int .i64 v174))), (20, .d (.lit (.bool true)))] [(2, some (.box ((List.replicate 400 false).map vB))), (3, some (.box (l173.map vB))), (5, some (.box [.d (.lit (.int .i64 x159.Tx)), .d (.lit (.int .i64 x159.Kind)), .d (.lit (.string x159.Key))]))]) (by simp; exact Sub.table (by simp) (by simp)) ?_
          refine AW.skip ?_
          refine thenQ_normal ?_
          refine AW.seq ?_
          refine AW.block ?_
          refine AW.seqR ?_
          replace h := bsome h; obtain ⟨x199, hx199, h⟩ := h
          obtain ⟨k200, hx199k, hx199, hx199a, hx199b⟩ := idx_some hx199
          refine Chain.runK [] 4 fun K hK => ?_; simp [hx199, hx199k, hx199a]; refine hK _ _ ?_; clear hK K
          refine Chain.sub (S' := mk 35 [] [(0, .d (.sl (a0.map cS27))), (2, .ptr 2 0 0), (3, .ptr 3 0 0), (5, .ptr 5 0 0), (7, .ptr 7 0 0), (8, .d (.sl (a0.map cS27))), (9, .d (.lit (.int .i64 (a0.length : Int)))), (10, .d (.lit (.int .i64 (n161 : Int)))), (17, .d (.sl (l162.map cS27))), (18, .d (.lit (.int .i64 (l162.length : Int)))), (19, .d (.lit (.int .i64 v174)))] [(2, some (.box ((List.replicate 400 false).map vB))), (3, some (.box (l173.map vB))), (5, some (.box [.d (.lit (.int .i64 x159.Tx)), .d (.lit (.int .i64 x159.Kind)), .d (.lit (.string x159.Key))])), (7, some (.box [.d (.lit (.int .i64 x199.Tx)), .d (.lit (.int .i64 x199.Kind)), .d (.lit (.string x199.Key))]))]) (Sub.table (by simp) (by simp)) ?_
          refine Chain.nil ?_
          refine AW.seqR ?_
          refine Chain.runK [] 2 fun K hK => ?_; simp; refine hK _ _ ?_; clear hK K
          refine Chain.sub (S' := mk 35 [] [(0, .d (.sl (a0.map cS27))), (2, .ptr 2 0 0), (3, .ptr 3 0 0), (5, .ptr 5 0 0), (7, .ptr 7 0 0), (8, .d (.sl (a0.map cS27))), (9, .d (.lit (.int .i64 (a0.length : Int)))), (10, .d (.lit (.int .i64 (n161 : Int)))), (17, .d (.sl (l162.map cS27))), (18, .d (.lit (.int .i64 (l162.length : Int)))), (19, .d (.lit (.int .i64 v174))), (23, .agg [.d (.lit (.int .i64 x199.Tx)), .d (.lit (.int .i64 x199.Kind)), .d (.lit (.string x199.Key))]), (24, .agg [.d (.lit (.int .i64 x159.Tx)), .d (.lit (.int .i64 x159.Kind)), .d (.lit (.string x159.Key))])] [(2, some (.box ((List.replicate 400 false).map vB))), (3, some (.box (l173.map vB))), (5, some (.box [.d (.lit (.int .i64 x159.Tx)), .d (.lit (.int .i64 x159.Kind)), .d (.lit (.string x159.Key))])), (7, some (.box [.d (.lit (.int .i64 x199.Tx)), .d (.lit (.int .i64 x199.Kind)), .d (.lit (.string x199.Key))]))]) (Sub.table (by simp) (by simp)) ?_
          replace h := bsome h; obtain ⟨r201, hr201, h⟩ := h
          refine Chain.callL (d := 25) (p20 N x199 x159 r201 hr201) (by simp) rfl rfl (by simp <;> rfl) (by simp <;> rfl) ent20 (by simp <;> rfl) ?_
          refine Chain.sub (S' := mk 35 [] [(0, .d (.sl (a0.map cS27))), (2, .ptr 2 0 0), (3, .ptr 3 0 0), (5, .ptr 5 0 0), (7, .ptr 7 0 0), (8, .d (.sl (a0.map cS27))), (9, .d (.lit (.int .i64 (a0.length : Int)))), (10, .d (.lit (.int .i64 (n161 : Int)))), (17, .d (.sl (l162.map cS27))), (18, .d (.lit (.int .i64 (l162.length : Int)))), (19, .d (.lit (.int .i64 v174))), (23, .agg [.d (.lit (.int .i64 x199.Tx)), .d (.lit (.int .i64 x199.Kind)), .d (.lit (.string x199.Key))]), (24, .agg [.d (.lit (.int .i64 x159.Tx)), .d (.lit (.int .i64 x159.Kind)), .d (.lit (.string x159.Key))]), (25, .d (.lit (.bool r201)))] [(2, some (.box ((List.replicate 400 false).map vB))), (3, some (.box (l173.map vB))), (5, some (.box [.d (.lit (.int .i64 x159.Tx)), .d (.lit (.int .i64 x159.Kind)), .d (.lit (.string x159.Key))])), (7, some (.box [.d (.lit (.int .i64 x199.Tx)), .d (.lit (.int .i64 x199.Kind)), .d (.lit (.string x199.Key))]))]) (by simp; exact Sub.table (by simp) (by simp)) ?_
          refine Chain.nil ?_
          replace h := isome h; rcases h with ⟨c202, h⟩ | ⟨c202, h⟩
          · have c202_ : r201 = true := c202
            refine AW.condT (b := r201) rfl c202_ ?_
            refine AW.sub (Sub.bool 25 (b := r201) rfl c202_) ?_
            refine AW.sub (S' := mk 35 [] [(0, .d (.sl (a0.map cS27))), (2, .ptr 2 0 0), (3, .ptr 3 0 0), (5, .ptr 5 0 0), (7, .ptr 7 0 0), (8, .d (.sl (a0.map cS27))), (9, .d (.lit (.int .i64 (a0.length : Int)))), (10, .d (.lit (.int .i64 (n161 : Int)))), (17, .d (.sl (l162.map cS27))), (18, .d (.lit (.int .i64 (l162.length : Int)))), (19, .d (.lit (.int .i64 v174))), (23, .agg [.d (.lit (.int .i64 x199.Tx)), .d (.lit (.int .i64 x199.Kind)), .d (.lit (.string x199.Key))]), (24, .agg [.d (.lit (.int .i64 x159.Tx)), .d (.lit (.int .i64 x159.Kind)), .d (.lit (.string x159.Key))]), (25, .d (.lit (.bool true)))] [(2, some (.box ((List.replicate 400 false).map vB))), (3, some (.box (l173.map vB))), (5, some (.box [.d (.lit (.int .i64 x159.Tx)), .d (.lit (.int .i64 x159.Kind)), .d (.lit (.string x159.Key))])), (7, some (.box [.d (.lit (.int .i64 x199.Tx)), .d (.lit (.int .i64 x199.Kind)), .d (.lit (.string x199.Key))]))]) (by simp; exact Sub.table (by simp) (by simp)) ?_
            replace h := bsome h; obtain ⟨k203, gk203, h⟩ := h
            obtain ⟨hk203, hk203a, hk203b, hk203c⟩ := arrI_some gk203
            have hk203b : x199.Tx < 20 := hk203b
            replace h := bsome h; obtain ⟨k204, gk204, h⟩ := h
            obtain ⟨hk204, hk204a, hk204b, hk204c⟩ := arrI_some gk204
            have hk204b : x159.Tx < 20 := hk204b
            replace h := bsome h; obtain ⟨l205, gl205, h⟩ := h
            obtain ⟨hl205a, hl205b, hl205c⟩ := setN_some vB gl205
            replace hl205b : (l173.map vB).take (k203 * 20 + k204) ++ .d (.lit (.bool true)) :: (l173.map vB).drop (k203 * 20 + k204 + 1) = l205.map vB := hl205b
            refine AW.lastAnyS [[], [0], [], [2], [0, 1], [0, 1, 2, 3, 4], [0, 1, 2, 3, 4, 5]] (fun (b : Nat → Bool) => mk 35 [] [(0, .d (.sl (a0.map cS27))), (2, .ptr 2 0 0), (3, .ptr 3 0 0), (5, .ptr 5 0 0), (7, .ptr 7 0 0), (8, .d (.sl (a0.map cS27))), (9, .d (.lit (.int .i64 (a0.length : Int)))), (10, .d (.lit (.int .i64 (n161 : Int)))), (17, .d (.sl (l162.map cS27))), (18, .d (.lit (.int .i64 (l162.length : Int)))), (19, .d (.lit (.int .i64 v174))), (26, (if b 0 then .ptr 7 0 0 else .junk)), (27, (if b 1 then .d (.lit (.int .i64 x199.Tx)) else .junk)), (28, (if b 2 then .ptr 5 0 0 else .junk)), (29, (if b 3 then .d (.lit (.int .i64 x159.Tx)) else .junk)), (30, (if b 4 then .ptr 3 0 (k203 * 20) else .junk)), (31, (if b 5 then .ptr 3 0 (k203 * 20 + k204) else .junk))] [(2, some (.box ((List.replicate 400 false).map vB))), (3, (if b 6 then some (.box (l205.map vB)) else some (.box (l173.map vB)))), (5, some (.box [.d (.lit (.int .i64 x159.Tx)), .d (.lit (.int .i64 x159.Kind)), .d (.lit (.string x159.Key))])), (7, some (.box [.d (.lit (.int .i64 x199.Tx)), .d (.lit (.int .i64 x199.Kind)), .d (.lit (.string x199.Key))]))]) (mk 35 [] [(0, .d (.sl (a0.map cS27))), (2, .ptr 2 0 0), (3, .ptr 3 0 0), (5, .ptr 5 0 0), (8, .d (.sl (a0.map cS27))), (9, .d (.lit (.int .i64 (a0.length : Int)))), (10, .d (.lit (.int .i64 (n161 : Int)))), (17, .d (.sl (l162.map cS27))), (18, .d (.lit (.int .i64 (l162.length : Int)))), (19, .d (.lit (.int .i64 v174)))] [(2, some (.box ((List.replicate 400 false).map vB))), (3, some (.box (l205.map vB))), (5, some (.box [.d (.lit (.int .i64 x159.Tx)), .d (.lit (.int .i64 x159.Kind)), .d (.lit (.string x159.Key))]))]) (by kernel_rfl) (by kernel_rfl) (Sub.table (by simp) (by simp)) (Steps.cons ?_ (Steps.cons ?_ (Steps.cons ?_ (Steps.cons ?_ (Steps.cons ?_ (Steps.cons ?_ (Steps.cons ?_ (Steps.nil)))))))) ?_ ?_
            · intro b h0 ha hd
              have f1 : b 1 = false := hd 1 (by decide)
              have f4 : b 4 = false := hd 4 (by decide)
              have f5 : b 5 = false := hd 5 (by decide)
              have f6 : b 6 = false := hd 6 (by decide)
              refine Chain.runK [] 1 fun K hK => ?_; simp [h0, f1, f4, f5, f6]; refine hK _ _ ?_; clear hK K
              exact Chain.nil (Sub.table (by simp [h0, f1, f4, f5, f6]) (by simp [h0, f1, f4, f5, f6]))
            · intro b h0 ha hd
              have t0 : b 0 = true := ha 0 (by decide)
              have f4 : b 4 = false := hd 4 (by decide)
              have f5 : b 5 = false := hd 5 (by decide)
              have f6 : b 6 = false := hd 6 (by decide)
              refine Chain.runK [] 1 fun K hK => ?_; simp [h0, t0, f4, f5, f6]; refine hK _ _ ?_; clear hK K
              exact Chain.nil (Sub.table (by simp [h0, t0, f4, f5, f6]) (by simp [h0, t0, f4, f5, f6]))
            · intro b h0 ha hd
              have f3 : b 3 = false := hd 3 (by decide)
              have f5 : b 5 = false := hd 5 (by decide)
              have f6 : b 6 = false := hd 6 (by decide)
              refine Chain.runK [] 1 fun K hK => ?_; simp [h0, f3, f5, f6]; refine hK _ _ ?_; clear hK K
              exact Chain.nil (Sub.table (by simp [h0, f3, f5, f6]) (by simp [h0, f3, f5, f6]))
            · intro b h0 ha hd
              have t2 : b 2 = true := ha 2 (by decide)
              have f5 : b 5 = false := hd 5 (by decide)
              have f6 : b 6 = false := hd 6 (by decide)
              refine Chain.runK [] 1 fun K hK => ?_; simp [h0, t2, f5, f6]; refine hK _ _ ?_; clear hK K
              exact Chain.nil (Sub.table (by simp [h0, t2, f5, f6]) (by simp [h0, t2, f5, f6]))
            · intro b h0 ha hd
              have t0 : b 0 = true := ha 0 (by decide)
              have t1 : b 1 = true := ha 1 (by decide)
              have f5 : b 5 = false := hd 5 (by decide)
              have f6 : b 6 = false := hd 6 (by decide)
              refine Chain.runK [] 1 fun K hK => ?_; simp [h0, t0, t1, f5, f6, hk203, hk203a, hk203b]; refine hK _ _ ?_; clear hK K
              exact Chain.nil (Sub.table (by simp [h0, t0, t1, f5, f6]) (by simp [h0, t0, t1, f5, f6]))
            · intro b h0 ha hd
              have t0 : b 0 = true := ha 0 (by decide)
              have t1 : b 1 = true := ha 1 (by decide)
              have t2 : b 2 = true := ha 2 (by decide)
              have t3 : b 3 = true := ha 3 (by decide)
              have t4 : b 4 = true := ha 4 (by decide)
              have f6 : b 6 = false := hd 6 (by decide)
              refine Chain.runK [] 1 fun K hK => ?_; simp [h0, t0, t1, t2, t3, t4, f6, hk204, hk204a, hk204b]; refine hK _ _ ?_; clear hK K
              exact Chain.nil (Sub.table (by simp [h0, t0, t1, t2, t3, t4, f6]) (by simp [h0, t0, t1, t2, t3, t4, f6]))
            · intro b h0 ha hd
              have t0 : b 0 = true := ha 0 (by decide)
              have t1 : b 1 = true := ha 1 (by decide)
              have t2 : b 2 = true := ha 2 (by decide)
              have t3 : b 3 = true := ha 3 (by decide)
              have t4 : b 4 = true := ha 4 (by decide)
              have t5 : b 5 = true := ha 5 (by decide)
              refine Chain.runK [] 1 fun K hK => ?_; simp [h0, t0, t1, t2, t3, t4, t5, hl205a, hl205b]; refine hK _ _ ?_; clear hK K
              exact Chain.nil (Sub.table (by simp [h0, t0, t1, t2, t3, t4, t5]) (by simp [h0, t0, t1, t2, t3, t4, t5]))
            · intro b hb
              have t0 := hb 0 (by decide)
              have t1 := hb 1 (by decide)
              have t2 := hb 2 (by decide)
              have t3 := hb 3 (by decide)
              have t4 := hb 4 (by decide)
              have t5 := hb 5 (by decide)
              have t6 := hb 6 (by decide)
              exact Sub.table (by simp [t0, t1, t2, t3, t4, t5, t6]) (by simp [t0, t1, t2, t3, t4, t5, t6])
            · skip
              refine blockQ.normal ?_
              refine thenQ_normal ?_
              refine AW.region ?_
              replace h := bsome h; obtain ⟨v206, hv206, h⟩ := h
              have hv206 := chkI_some hv206
              refine Chain.runK [] 2 fun K hK => ?_; simp [hv206]; refine hK _ _ ?_; clear hK K
              refine Chain.sub (S' := mk 35 [] [(0, .d (.sl (a0.map cS27))), (2, .ptr 2 0 0), (3, .ptr 3 0 0), (5, .ptr 5 0 0), (8, .d (.sl (a0.map cS27))), (9, .d (.lit (.int .i64 (a0.length : Int)))), (10, .d (.lit (.int .i64 (n161 : Int)))), (17, .d (.sl (l162.map cS27))), (18, .d (.lit (.int .i64 (l162.length : Int)))), (19, .d (.lit (.int .i64 v206)))] [(2, some (.box ((List.replicate 400 false).map vB))), (3, some (.box (l205.map vB))), (5, some (.box [.d (.lit (.int .i64 x159.Tx)), .d (.lit (.int .i64 x159.Kind)), .d (.lit (.string x159.Key))]))]) (Sub.table (by simp) (by simp)) ?_
              refine Chain.nil ?_
              cases h
              refine PostI.next ?_
              exact (Sub.table (by simp) (by simp))
          · have c202_ : r201 = false := Bool.eq_false_iff.2 c202
            refine AW.condF (b := r201) rfl c202_ ?_
            refine AW.sub (Sub.bool 25 (b := r201) rfl c202_) ?_
            refine AW.sub (S' := mk 35 [] [(0, .d (.sl (a0.map cS27))), (2, .ptr 2 0 0), (3, .ptr 3 0 0), (5, .ptr 5 0 0), (7, .ptr 7 0 0), (8, .d (.sl (a0.map cS27))), (9, .d (.lit (.int .i64 (a0.length : Int)))), (10, .d (.lit (.int .i64 (n161 : Int)))), (17, .d (.sl (l162.map cS27))), (18, .d (.lit (.int .i64 (l162.length : Int)))), (19, .d (.lit (.int .i64 v174))), (23, .agg [.d (.lit (.int .i64 x199.Tx)), .d (.lit (.int .i64 x199.Kind)), .d (.lit (.string x199.Key))]), (24, .agg [.d (.lit (.int .i64 x159.Tx)), .d (.lit (.int .i64 x159.Kind)), .d (.lit (.string x159.Key))]), (25, .d (.lit (.bool false)))] [(2, some (.box ((List.replicate 400 false).map vB))), (3, some (.box (l173.map vB))), (5, some (.box [.d (.lit (.int .i64 x159.Tx)), .d (.lit (.int .i64 x159.Kind)), .d (.lit (.string x159.Key))])), (7, some (.box [.d (.lit (.int .i64 x199.Tx)), .d (.lit (.int .i64 x199.Kind)), .d (.lit (.string x199.Key))]))]) (by simp; exact Sub.table (by simp) (by simp)) ?_
            refine AW.skip ?_
            refine blockQ.normal ?_
            refine thenQ_normal ?_
            refine AW.region ?_
            replace h := bsome h; obtain ⟨v207, hv207, h⟩ := h
            have hv207 := chkI_some hv207
            refine Chain.runK [] 2 fun K hK => ?_; simp [hv207]; refine hK _ _ ?_; clear hK K
            refine Chain.sub (S' := mk 35 [] [(0, .d (.sl (a0.map cS27))), (2, .ptr 2 0 0), (3, .ptr 3 0 0), (5, .ptr 5 0 0), (8, .d (.sl (a0.map cS27))), (9, .d (.lit (.int .i64 (a0.length : Int)))), (10, .d (.lit (.int .i64 (n161 : Int)))), (17, .d (.sl (l162.map cS27))), (18, .d (.lit (.int .i64 (l162.length : Int)))), (19, .d (.lit (.int .i64 v207)))] [(2, some (.box ((List.replicate 400 false).map vB))), (3, some (.box (l173.map vB))), (5, some (.box [.d (.lit (.int .i64 x159.Tx)), .d (.lit (.int .i64 x159.Kind)), .d (.lit (.string x159.Key))]))]) (Sub.table (by simp) (by simp)) ?_
            refine Chain.nil ?_
            cases h
            refine PostI.next ?_
            exact (Sub.table (by simp) (by simp))
        · have c198_ : decide (v174 < (l162.length : Int)) = false := decide_eq_false c198
          refine AW.condF (b := decide (v174 < (l162.length : Int))) rfl c198_ ?_
          refine AW.sub (Sub.bool 20 (b := decide (v174 < (l162.length : Int))) rfl c198_) ?_
          refine AW.sub (S' := mk 35 [] [(0, .d (.sl (a0.map cS27))), (2, .ptr 2 0 0), (3, .ptr 3 0 0), (5, .ptr 5 0 0), (8, .d (.sl (a0.map cS27))), (9, .d (.lit (.int .i64 (a0.length : Int)))), (10, .d (.lit (.int .i64 (n161 : Int)))), (17, .d (.sl (l162.map cS27))), (18, .d (.lit (.int .i64 (l162.length : Int)))), (19, .d (.lit (.int .i64 v174))), (20, .d (.lit (.bool false)))] [(2, some (.box ((List.replicate 400 false).map vB))), (3, some (.box (l173.map vB))), (5, some (.box [.d (.lit (.int .i64 x159.Tx)), .d (.lit (.int .i64 x159.Kind)), .d (.lit (.string x159.Key))]))]) (by simp; exact Sub.table (by simp) (by simp)) ?_
          refine AW.exit ?_
          cases h
          refine thenQ_pass (by simp) ?_
          refine PostI.out (by simp) ?_
          rintro rfl
          refine blockQ.hit ?_
          refine PostN.next ?_
          exact (Sub.table (by simp) (by simp))
      · rintro l197 h
        refine blockQ.normal ?_
        refine thenQ_normal ?_
        refine AW.region ?_
        replace h := bsome h; obtain ⟨v208, hv208, h⟩ := h
        have hv208 := chkI_some hv208
        refine Chain.runK [] 2 fun K hK => ?_; simp [hv208]; refine hK _ _ ?_; clear hK K
        refine Chain.sub (S' := mk 35 [] [(0, .d (.sl (a0.map cS27))), (2, .ptr 2 0 0), (3, .ptr 3 0 0), (8, .d (.sl (a0.map cS27))), (9, .d (.lit (.int .i64 (a0.length : Int)))), (10, .d (.lit (.int .i64 v208)))] [(2, some (.box ((List.replicate 400 false).map vB))), (3, some (.box (l197.map vB)))]) (Sub.table (by simp) (by simp)) ?_
        refine Chain.nil ?_
        cases h
        refine PostI.next ?_
        exact (Sub.table (by simp) (by simp))
    · have c158_ : decide (v52 < (a0.length : Int)) = false := decide_eq_false c158
      refine AW.condF (b := decide (v52 < (a0.length : Int))) rfl c158_ ?_
      refine AW.sub (Sub.bool 11 (b := decide (v52 < (a0.length : Int))) rfl c158_) ?_
      refine AW.sub (S' := mk 35 [] [(0, .d (.sl (a0.map cS27))), (2, .ptr 2 0 0), (3, .ptr 3 0 0), (8, .d (.sl (a0.map cS27))), (9, .d (.lit (.int .i64 (a0.length : Int)))), (10, .d (.lit (.int .i64 v52))), (11, .d (.lit (.bool false)))] [(2, some (.box ((List.replicate 400 false).map vB))), (3, some (.box (l51.map vB)))]) (by simp; exact Sub.table (by simp) (by simp)) ?_
      refine AW.exit ?_
      cases h
      refine thenQ_pass (by simp) ?_
      refine PostI.out (by simp) ?_
      rintro rfl
      refine blockQ.hit ?_
      refine PostN.next ?_
      exact (Sub.table (by simp) (by simp))
  · rintro l157 h
    refine thenQ_normal ?_
    refine AW.seqR ?_
    replace h := bsome h; obtain ⟨q209, gq209, h⟩ := h
    have hq209 := (lenL_some gq209).1
    refine Chain.runK [] 1 fun K hK => ?_; simp [hq209]; refine hK _ _ ?_; clear hK K
    refine Chain.sub (S' := mk 35 [] [(2, .ptr 2 0 0), (34, .agg (l157.map vB))] [(2, some (.box ((List.replicate 400 false).map vB)))]) (Sub.table (by simp) (by simp)) ?_
    replace h := bsome h; obtain ⟨q210, gq210, h⟩ := h
    have hq210 := (lenL_some gq210).1
    refine Chain.runK [] 1 fun K hK => ?_; simp [hq210, hq209]; refine hK _ _ ?_; clear hK K
    refine Chain.sub (S' := mk 35 [] [(2, .ptr 2 0 0)] [(2, some (.box (l157.map vB)))]) (Sub.table (by simp) (by simp)) ?_
    refine Chain.nil ?_
    refine AW.ret ?_
    cases h
    exact FinC.ret (by simp) (by simp [hq209])

end Go.Proofs.Ytabjbkdlacibjaa
