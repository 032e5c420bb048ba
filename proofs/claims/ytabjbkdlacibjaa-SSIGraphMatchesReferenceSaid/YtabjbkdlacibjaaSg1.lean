/- Functions of the program as functional programs; the code computes them. -/
import Derived.Test.YtabjbkdlacibjaaSg0
namespace Go.Proofs.Ytabjbkdlacibjaa
open Go.Ab Go.Rp
attribute [-simp] List.all_eq_true Array.all_toList Array.all_eq_true

/-- stemma/ssi.Check -/
def d38 (N : Nat) (a0 : (List S105)) : Option Int :=
  if (a0.length : Int) > 40 then (
    some 2
  ) else
  bindO (β := Unit) (ρ := Int) (
    iterN (σ := Int) (ρ := (Out Unit Int)) (fun (v26 : Int) =>
      if v26 < (a0.length : Int) then (
        (idx a0 v26).bind fun x77 =>
        Option.bind (α := Bool) (
          if (x77.Reads.length : Int) > 12 then (
            some true
          ) else
          some (decide ((x77.Writes.length : Int) > 12))
        ) fun (v80 : Bool) =>
        if v80 = true then (
          some (.inr (.ret 2))
        ) else
        Option.bind (α := Bool) (
          if x77.Start < 0 then (
            some true
          ) else
          if x77.Commit > 1099511627776 then (
            some true
          ) else
          some (decide (x77.Start ≥ x77.Commit))
        ) fun (v85 : Bool) =>
        if v85 = true then (
          some (.inr (.ret 1))
        ) else
        Option.bind (α := Bool) (
          if v26 > 0 then (
            (chkI (v26 - 1)).bind fun v95 =>
            (idx a0 v95).bind fun x96 =>
            some (decide (x96.Commit ≥ x77.Commit))
          ) else
          some false
        ) fun (v93 : Bool) =>
        if v93 = true then (
          some (.inr (.ret 6))
        ) else
        (chkI (v26 + 1)).bind fun v99 =>
        some (.inl v99)
      ) else
      some (.inr (.go ()))
    ) N 0
  ) fun (_ : Unit) =>
  some 0
set_option maxRecDepth 100000 in
set_option maxHeartbeats 4000000 in
theorem p38 (N : Nat) (a0 : (List S105)) (r : Int) (h : d38 N a0 = some r) : FunC Try.prog 38 [.d (.sl (a0.map cS105))] (.d (.lit (.int .i64 r))) := by
  unfold d38 at h
  refine FunC.enter 54 [(0, .d (.sl (a0.map cS105)))] (by simp) Try.func38 rfl (of_decide_eq_true rfl) rfl rfl ?_
  refine AW.seqR ?_
  refine Chain.runK [] 1 fun K hK => ?_; simp; refine hK _ _ ?_; clear hK K
  refine Chain.sub (S' := mk 54 [] [(0, .d (.sl (a0.map cS105)))] []) (Sub.table (by simp) (by simp)) ?_
  refine Chain.nil ?_
  refine AW.seq ?_
  refine AW.seqR ?_
  refine Chain.runK [] 3 fun K hK => ?_; simp; refine hK _ _ ?_; clear hK K
  refine Chain.sub (S' := mk 54 [] [(0, .d (.sl (a0.map cS105))), (7, .d (.lit (.bool (decide ((a0.length : Int) > 40)))))] []) (Sub.table (by simp) (by simp)) ?_
  refine Chain.nil ?_
  replace h := isome h; rcases h with ⟨c1, h⟩ | ⟨c1, h⟩
  · have c1_ : decide ((a0.length : Int) > 40) = true := decide_eq_true c1
    refine AW.condT (b := decide ((a0.length : Int) > 40)) rfl c1_ ?_
    refine AW.sub (Sub.bool 7 (b := decide ((a0.length : Int) > 40)) rfl c1_) ?_
    refine AW.sub (S' := mk 54 [] [(0, .d (.sl (a0.map cS105))), (7, .d (.lit (.bool true)))] []) (by simp; exact Sub.table (by simp) (by simp)) ?_
    refine AW.seqR ?_
    refine Chain.runK [] 1 fun K hK => ?_; simp; refine hK _ _ ?_; clear hK K
    refine Chain.sub (S' := mk 54 [] [(2, .d (.lit (.int .i64 2)))] []) (Sub.table (by simp) (by simp)) ?_
    refine Chain.nil ?_
    refine AW.ret ?_
    cases h
    refine thenQ_pass (by simp) ?_
    exact FinC.ret (by simp) (by simp)
  · have c1_ : decide ((a0.length : Int) > 40) = false := decide_eq_false c1
    refine AW.condF (b := decide ((a0.length : Int) > 40)) rfl c1_ ?_
    refine AW.sub (Sub.bool 7 (b := decide ((a0.length : Int) > 40)) rfl c1_) ?_
    refine AW.sub (S' := mk 54 [] [(0, .d (.sl (a0.map cS105))), (7, .d (.lit (.bool false)))] []) (by simp; exact Sub.table (by simp) (by simp)) ?_
    refine AW.skip ?_
    refine thenQ_normal ?_
    refine AW.seq ?_
    refine AW.seqR ?_
    refine Chain.runK [] 3 fun K hK => ?_; simp; refine hK _ _ ?_; clear hK K
    refine Chain.sub (S' := mk 54 [] [(0, .d (.sl (a0.map cS105))), (8, .d (.sl (a0.map cS105))), (9, .d (.lit (.int .i64 (a0.length : Int)))), (10, .d (.lit (.int .i64 0)))] []) (Sub.table (by simp) (by simp)) ?_
    refine Chain.nil ?_
    refine AW.lastJ (fun (_ : Unit) => mk 54 [] [] []) h ?_ ?_ <;> clear h
    · intro o h
      refine AW.block ?_
      refine AW.iter (fun (v26 : Int) => mk 54 [] [(0, .d (.sl (a0.map cS105))), (8, .d (.sl (a0.map cS105))), (9, .d (.lit (.int .i64 (a0.length : Int)))), (10, .d (.lit (.int .i64 v26)))] []) h (Sub.table (by simp) (by simp)) ?_
      clear h
      rintro v26 x h
      refine AW.seqR ?_
      refine Chain.runK [] 1 fun K hK => ?_; simp; refine hK _ _ ?_; clear hK K
      refine Chain.sub (S' := mk 54 [] [(0, .d (.sl (a0.map cS105))), (8, .d (.sl (a0.map cS105))), (9, .d (.lit (.int .i64 (a0.length : Int)))), (10, .d (.lit (.int .i64 v26))), (11, .d (.lit (.bool (decide (v26 < (a0.length : Int))))))] []) (Sub.table (by simp) (by simp)) ?_
      refine Chain.nil ?_
      refine AW.seq ?_
      replace h := isome h; rcases h with ⟨c76, h⟩ | ⟨c76, h⟩
      · have c76_ : decide (v26 < (a0.length : Int)) = true := decide_eq_true c76
        refine AW.condT (b := decide (v26 < (a0.length : Int))) rfl c76_ ?_
        refine AW.sub (Sub.bool 11 (b := decide (v26 < (a0.length : Int))) rfl c76_) ?_
        refine AW.sub (S' := mk 54 [] [(0, .d (.sl (a0.map cS105))), (8, .d (.sl (a0.map cS105))), (9, .d (.lit (.int .i64 (a0.length : Int)))), (10, .d (.lit (.int .i64 v26))), (11, .d (.lit (.bool true)))] []) (by simp; exact Sub.table (by simp) (by simp)) ?_
        refine AW.skip ?_
        refine thenQ_normal ?_
        refine AW.seq ?_
        refine AW.block ?_
        refine AW.seqR ?_
        replace h := bsome h; obtain ⟨x77, hx77, h⟩ := h
        obtain ⟨k78, hx77k, hx77, hx77a, hx77b⟩ := idx_some hx77
        refine Chain.runK [] 6 fun K hK => ?_; simp [hx77, hx77k, hx77a]; refine hK _ _ ?_; clear hK K
        refine Chain.sub (S' := mk 54 [] [(0, .d (.sl (a0.map cS105))), (3, .d (.lit (.int .i64 v26))), (4, .ptr 4 0 0), (8, .d (.sl (a0.map cS105))), (9, .d (.lit (.int .i64 (a0.length : Int)))), (10, .d (.lit (.int .i64 v26)))] [(4, some (.box [.d (.lit (.int .i64 x77.Start)), .d (.lit (.int .i64 x77.Commit)), .d (.sl (x77.Reads.map cS)), .d (.sl (x77.Writes.map cS))]))]) (Sub.table (by simp) (by simp)) ?_
        refine Chain.nil ?_
        refine AW.seq ?_
        replace h := bsome h; obtain ⟨v80, hj, h⟩ := h
        refine AW.cutR (mk 54 [] [(0, .d (.sl (a0.map cS105))), (3, .d (.lit (.int .i64 v26))), (4, .ptr 4 0 0), (8, .d (.sl (a0.map cS105))), (9, .d (.lit (.int .i64 (a0.length : Int)))), (10, .d (.lit (.int .i64 v26))), (24, .d (.lit (.bool v80)))] [(4, some (.box [.d (.lit (.int .i64 x77.Start)), .d (.lit (.int .i64 x77.Commit)), .d (.sl (x77.Reads.map cS)), .d (.sl (x77.Writes.map cS))]))]) ?_ ?_
        · clear h; have h := hj; clear hj
          refine Chain.runK [] 5 fun K hK => ?_; simp; refine hK _ _ ?_; clear hK K
          refine Chain.sub (S' := mk 54 [] [(0, .d (.sl (a0.map cS105))), (3, .d (.lit (.int .i64 v26))), (4, .ptr 4 0 0), (8, .d (.sl (a0.map cS105))), (9, .d (.lit (.int .i64 (a0.length : Int)))), (10, .d (.lit (.int .i64 v26))), (19, .d (.lit (.bool (decide ((x77.Reads.length : Int) > 12)))))] [(4, some (.box [.d (.lit (.int .i64 x77.Start)), .d (.lit (.int .i64 x77.Commit)), .d (.sl (x77.Reads.map cS)), .d (.sl (x77.Writes.map cS))]))]) (Sub.table (by simp) (by simp)) ?_
          replace h := isome h; rcases h with ⟨c81, h⟩ | ⟨c81, h⟩
          · have c81_ : decide ((x77.Reads.length : Int) > 12) = true := decide_eq_true c81
            refine Chain.sub (Sub.bool 19 (b := decide ((x77.Reads.length : Int) > 12)) rfl c81_) ?_
            refine Chain.sub (S' := mk 54 [] [(0, .d (.sl (a0.map cS105))), (3, .d (.lit (.int .i64 v26))), (4, .ptr 4 0 0), (8, .d (.sl (a0.map cS105))), (9, .d (.lit (.int .i64 (a0.length : Int)))), (10, .d (.lit (.int .i64 v26))), (19, .d (.lit (.bool true)))] [(4, some (.box [.d (.lit (.int .i64 x77.Start)), .d (.lit (.int .i64 x77.Commit)), .d (.sl (x77.Reads.map cS)), .d (.sl (x77.Writes.map cS))]))]) (by simp; exact Sub.table (by simp) (by simp)) ?_
            refine Chain.runK [] 5 fun K hK => ?_; simp; refine hK _ _ ?_; clear hK K
            refine Chain.sub (S' := mk 54 [] [(0, .d (.sl (a0.map cS105))), (3, .d (.lit (.int .i64 v26))), (4, .ptr 4 0 0), (8, .d (.sl (a0.map cS105))), (9, .d (.lit (.int .i64 (a0.length : Int)))), (10, .d (.lit (.int .i64 v26))), (20, .tup []), (21, .tup []), (22, .tup []), (23, .tup []), (24, .d (.lit (.bool true)))] [(4, some (.box [.d (.lit (.int .i64 x77.Start)), .d (.lit (.int .i64 x77.Commit)), .d (.sl (x77.Reads.map cS)), .d (.sl (x77.Writes.map cS))]))]) (Sub.table (by simp) (by simp)) ?_
            cases h
            exact Chain.nil (Sub.table (by simp) (by simp))
          · have c81_ : decide ((x77.Reads.length : Int) > 12) = false := decide_eq_false c81
            refine Chain.sub (Sub.bool 19 (b := decide ((x77.Reads.length : Int) > 12)) rfl c81_) ?_
            refine Chain.sub (S' := mk 54 [] [(0, .d (.sl (a0.map cS105))), (3, .d (.lit (.int .i64 v26))), (4, .ptr 4 0 0), (8, .d (.sl (a0.map cS105))), (9, .d (.lit (.int .i64 (a0.length : Int)))), (10, .d (.lit (.int .i64 v26))), (19, .d (.lit (.bool false)))] [(4, some (.box [.d (.lit (.int .i64 x77.Start)), .d (.lit (.int .i64 x77.Commit)), .d (.sl (x77.Reads.map cS)), .d (.sl (x77.Writes.map cS))]))]) (by simp; exact Sub.table (by simp) (by simp)) ?_
            refine Chain.runK [] 5 fun K hK => ?_; simp; refine hK _ _ ?_; clear hK K
            refine Chain.sub (S' := mk 54 [] [(0, .d (.sl (a0.map cS105))), (3, .d (.lit (.int .i64 v26))), (4, .ptr 4 0 0), (8, .d (.sl (a0.map cS105))), (9, .d (.lit (.int .i64 (a0.length : Int)))), (10, .d (.lit (.int .i64 v26))), (20, .ptr 4 0 3), (21, .d (.sl (x77.Writes.map cS))), (22, .d (.lit (.int .i64 (x77.Writes.length : Int)))), (23, .d (.lit (.bool (decide ((x77.Writes.length : Int) > 12))))), (24, .d (.lit (.bool (decide ((x77.Writes.length : Int) > 12)))))] [(4, some (.box [.d (.lit (.int .i64 x77.Start)), .d (.lit (.int .i64 x77.Commit)), .d (.sl (x77.Reads.map cS)), .d (.sl (x77.Writes.map cS))]))]) (Sub.table (by simp) (by simp)) ?_
            cases h
            exact Chain.nil (Sub.table (by simp) (by simp))
        · clear hj
          replace h := isome h; rcases h with ⟨c82, h⟩ | ⟨c82, h⟩
          · have c82_ : v80 = true := c82
            refine AW.condT (b := v80) rfl c82_ ?_
            refine AW.sub (Sub.bool 24 (b := v80) rfl c82_) ?_
            refine AW.sub (S' := mk 54 [] [(0, .d (.sl (a0.map cS105))), (3, .d (.lit (.int .i64 v26))), (4, .ptr 4 0 0), (8, .d (.sl (a0.map cS105))), (9, .d (.lit (.int .i64 (a0.length : Int)))), (10, .d (.lit (.int .i64 v26))), (24, .d (.lit (.bool true)))] [(4, some (.box [.d (.lit (.int .i64 x77.Start)), .d (.lit (.int .i64 x77.Commit)), .d (.sl (x77.Reads.map cS)), .d (.sl (x77.Writes.map cS))]))]) (by simp; exact Sub.table (by simp) (by simp)) ?_
            refine AW.seqR ?_
            refine Chain.runK [] 1 fun K hK => ?_; simp; refine hK _ _ ?_; clear hK K
            refine Chain.sub (S' := mk 54 [] [(2, .d (.lit (.int .i64 2)))] []) (Sub.table (by simp) (by simp)) ?_
            refine Chain.nil ?_
            refine AW.ret ?_
            cases h
            refine thenQ_pass (by simp) ?_
            refine blockQ.ret ?_
            refine thenQ_pass (by simp) ?_
            refine PostI.out (by simp) ?_
            rintro rfl
            refine blockQ.ret ?_
            refine PostJ.out (by simp) ?_
            rintro rfl
            refine thenQ_pass (by simp) ?_
            exact FinC.ret (by simp) (by simp)
          · have c82_ : v80 = false := Bool.eq_false_iff.2 c82
            refine AW.condF (b := v80) rfl c82_ ?_
            refine AW.sub (Sub.bool 24 (b := v80) rfl c82_) ?_
            refine AW.sub (S' := mk 54 [] [(0, .d (.sl (a0.map cS105))), (3, .d (.lit (.int .i64 v26))), (4, .ptr 4 0 0), (8, .d (.sl (a0.map cS105))), (9, .d (.lit (.int .i64 (a0.length : Int)))), (10, .d (.lit (.int .i64 v26))), (24, .d (.lit (.bool false)))] [(4, some (.box [.d (.lit (.int .i64 x77.Start)), .d (.lit (.int .i64 x77.Commit)), .d (.sl (x77.Reads.map cS)), .d (.sl (x77.Writes.map cS))]))]) (by simp; exact Sub.table (by simp) (by simp)) ?_
            refine AW.skip ?_
            refine thenQ_normal ?_
            refine AW.seq ?_
            replace h := bsome h; obtain ⟨v85, hj, h⟩ := h
            refine AW.cutR (mk 54 [] [(0, .d (.sl (a0.map cS105))), (3, .d (.lit (.int .i64 v26))), (4, .ptr 4 0 0), (8, .d (.sl (a0.map cS105))), (9, .d (.lit (.int .i64 (a0.length : Int)))), (10, .d (.lit (.int .i64 v26))), (39, .d (.lit (.bool v85)))] [(4, some (.box [.d (.lit (.int .i64 x77.Start)), .d (.lit (.int .i64 x77.Commit)), .d (.sl (x77.Reads.map cS)), .d (.sl (x77.Writes.map cS))]))]) ?_ ?_
            · clear h; have h := hj; clear hj
              refine Chain.runK [] 4 fun K hK => ?_; simp; refine hK _ _ ?_; clear hK K
              refine Chain.sub (S' := mk 54 [] [(0, .d (.sl (a0.map cS105))), (3, .d (.lit (.int .i64 v26))), (4, .ptr 4 0 0), (8, .d (.sl (a0.map cS105))), (9, .d (.lit (.int .i64 (a0.length : Int)))), (10, .d (.lit (.int .i64 v26))), (28, .d (.lit (.bool (decide (x77.Start < 0)))))] [(4, some (.box [.d (.lit (.int .i64 x77.Start)), .d (.lit (.int .i64 x77.Commit)), .d (.sl (x77.Reads.map cS)), .d (.sl (x77.Writes.map cS))]))]) (Sub.table (by simp) (by simp)) ?_
              replace h := isome h; rcases h with ⟨c86, h⟩ | ⟨c86, h⟩
              · have c86_ : decide (x77.Start < 0) = true := decide_eq_true c86
                refine Chain.sub (Sub.bool 28 (b := decide (x77.Start < 0)) rfl c86_) ?_
                refine Chain.sub (S' := mk 54 [] [(0, .d (.sl (a0.map cS105))), (3, .d (.lit (.int .i64 v26))), (4, .ptr 4 0 0), (8, .d (.sl (a0.map cS105))), (9, .d (.lit (.int .i64 (a0.length : Int)))), (10, .d (.lit (.int .i64 v26))), (28, .d (.lit (.bool true)))] [(4, some (.box [.d (.lit (.int .i64 x77.Start)), .d (.lit (.int .i64 x77.Commit)), .d (.sl (x77.Reads.map cS)), .d (.sl (x77.Writes.map cS))]))]) (by simp; exact Sub.table (by simp) (by simp)) ?_
                refine Chain.runK [] 11 fun K hK => ?_; simp; refine hK _ _ ?_; clear hK K
                refine Chain.sub (S' := mk 54 [] [(0, .d (.sl (a0.map cS105))), (3, .d (.lit (.int .i64 v26))), (4, .ptr 4 0 0), (8, .d (.sl (a0.map cS105))), (9, .d (.lit (.int .i64 (a0.length : Int)))), (10, .d (.lit (.int .i64 v26))), (29, .tup []), (30, .tup []), (31, .tup []), (34, .tup []), (35, .tup []), (36, .tup []), (37, .tup []), (38, .tup []), (39, .d (.lit (.bool true)))] [(4, some (.box [.d (.lit (.int .i64 x77.Start)), .d (.lit (.int .i64 x77.Commit)), .d (.sl (x77.Reads.map cS)), .d (.sl (x77.Writes.map cS))]))]) (Sub.table (by simp) (by simp)) ?_
                cases h
                exact Chain.nil (Sub.table (by simp) (by simp))
              · have c86_ : decide (x77.Start < 0) = false := decide_eq_false c86
                refine Chain.sub (Sub.bool 28 (b := decide (x77.Start < 0)) rfl c86_) ?_
                refine Chain.sub (S' := mk 54 [] [(0, .d (.sl (a0.map cS105))), (3, .d (.lit (.int .i64 v26))), (4, .ptr 4 0 0), (8, .d (.sl (a0.map cS105))), (9, .d (.lit (.int .i64 (a0.length : Int)))), (10, .d (.lit (.int .i64 v26))), (28, .d (.lit (.bool false)))] [(4, some (.box [.d (.lit (.int .i64 x77.Start)), .d (.lit (.int .i64 x77.Commit)), .d (.sl (x77.Reads.map cS)), .d (.sl (x77.Writes.map cS))]))]) (by simp; exact Sub.table (by simp) (by simp)) ?_
                refine Chain.runK [] 5 fun K hK => ?_; simp; refine hK _ _ ?_; clear hK K
                refine Chain.sub (S' := mk 54 [] [(0, .d (.sl (a0.map cS105))), (3, .d (.lit (.int .i64 v26))), (4, .ptr 4 0 0), (8, .d (.sl (a0.map cS105))), (9, .d (.lit (.int .i64 (a0.length : Int)))), (10, .d (.lit (.int .i64 v26))), (29, .ptr 4 0 1), (30, .d (.lit (.int .i64 x77.Commit))), (31, .d (.lit (.bool (decide (x77.Commit > 1099511627776))))), (33, .d (.lit (.bool (decide (x77.Commit > 1099511627776)))))] [(4, some (.box [.d (.lit (.int .i64 x77.Start)), .d (.lit (.int .i64 x77.Commit)), .d (.sl (x77.Reads.map cS)), .d (.sl (x77.Writes.map cS))]))]) (Sub.table (by simp) (by simp)) ?_
                replace h := isome h; rcases h with ⟨c87, h⟩ | ⟨c87, h⟩
                · have c87_ : decide (x77.Commit > 1099511627776) = true := decide_eq_true c87
                  refine Chain.sub (Sub.bool 31 (b := decide (x77.Commit > 1099511627776)) rfl c87_) ?_
                  refine Chain.sub (Sub.bool 33 (b := decide (x77.Commit > 1099511627776)) rfl c87_) ?_
                  refine Chain.sub (S' := mk 54 [] [(0, .d (.sl (a0.map cS105))), (3, .d (.lit (.int .i64 v26))), (4, .ptr 4 0 0), (8, .d (.sl (a0.map cS105))), (9, .d (.lit (.int .i64 (a0.length : Int)))), (10, .d (.lit (.int .i64 v26))), (29, .ptr 4 0 1), (30, .d (.lit (.int .i64 x77.Commit))), (31, .d (.lit (.bool true))), (33, .d (.lit (.bool true)))] [(4, some (.box [.d (.lit (.int .i64 x77.Start)), .d (.lit (.int .i64 x77.Commit)), .d (.sl (x77.Reads.map cS)), .d (.sl (x77.Writes.map cS))]))]) (by simp; exact Sub.table (by simp) (by simp)) ?_
                  refine Chain.runK [] 6 fun K hK => ?_; simp; refine hK _ _ ?_; clear hK K
                  refine Chain.sub (S' := mk 54 [] [(0, .d (.sl (a0.map cS105))), (3, .d (.lit (.int .i64 v26))), (4, .ptr 4 0 0), (8, .d (.sl (a0.map cS105))), (9, .d (.lit (.int .i64 (a0.length : Int)))), (10, .d (.lit (.int .i64 v26))), (29, .ptr 4 0 1), (30, .d (.lit (.int .i64 x77.Commit))), (31, .d (.lit (.bool true))), (34, .tup []), (35, .tup []), (36, .tup []), (37, .tup []), (38, .tup []), (39, .d (.lit (.bool true)))] [(4, some (.box [.d (.lit (.int .i64 x77.Start)), .d (.lit (.int .i64 x77.Commit)), .d (.sl (x77.Reads.map cS)), .d (.sl (x77.Writes.map cS))]))]) (Sub.table (by simp) (by simp)) ?_
                  cases h
                  exact Chain.nil (Sub.table (by simp) (by simp))
                · have c87_ : decide (x77.Commit > 1099511627776) = false := decide_eq_false c87
                  refine Chain.sub (Sub.bool 31 (b := decide (x77.Commit > 1099511627776)) rfl c87_) ?_
                  refine Chain.sub (Sub.bool 33 (b := decide (x77.Commit > 1099511627776)) rfl c87_) ?_
                  refine Chain.sub (S' := mk 54 [] [(0, .d (.sl (a0.map cS105))), (3, .d (.lit (.int .i64 v26))), (4, .ptr 4 0 0), (8, .d (.sl (a0.map cS105))), (9, .d (.lit (.int .i64 (a0.length : Int)))), (10, .d (.lit (.int .i64 v26))), (29, .ptr 4 0 1), (30, .d (.lit (.int .i64 x77.Commit))), (31, .d (.lit (.bool false))), (33, .d (.lit (.bool false)))] [(4, some (.box [.d (.lit (.int .i64 x77.Start)), .d (.lit (.int .i64 x77.Commit)), .d (.sl (x77.Reads.map cS)), .d (.sl (x77.Writes.map cS))]))]) (by simp; exact Sub.table (by simp) (by simp)) ?_
                  refine Chain.runK [] 6 fun K hK => ?_; simp; refine hK _ _ ?_; clear hK K
                  refine Chain.sub (S' := mk 54 [] [(0, .d (.sl (a0.map cS105))), (3, .d (.lit (.int .i64 v26))), (4, .ptr 4 0 0), (8, .d (.sl (a0.map cS105))), (9, .d (.lit (.int .i64 (a0.length : Int)))), (10, .d (.lit (.int .i64 v26))), (29, .ptr 4 0 1), (30, .d (.lit (.int .i64 x77.Commit))), (31, .d (.lit (.bool false))), (34, .ptr 4 0 0), (35, .d (.lit (.int .i64 x77.Start))), (36, .ptr 4 0 1), (37, .d (.lit (.int .i64 x77.Commit))), (38, .d (.lit (.bool (decide (x77.Start ≥ x77.Commit))))), (39, .d (.lit (.bool (decide (x77.Start ≥ x77.Commit)))))] [(4, some (.box [.d (.lit (.int .i64 x77.Start)), .d (.lit (.int .i64 x77.Commit)), .d (.sl (x77.Reads.map cS)), .d (.sl (x77.Writes.map cS))]))]) (Sub.table (by simp) (by simp)) ?_
                  cases h
                  exact Chain.nil (Sub.table (by simp) (by simp))
            · clear hj
              replace h := isome h; rcases h with ⟨c88, h⟩ | ⟨c88, h⟩
              · have c88_ : v85 = true := c88
                refine AW.condT (b := v85) rfl c88_ ?_
                refine AW.sub (Sub.bool 39 (b := v85) rfl c88_) ?_
                refine AW.sub (S' := mk 54 [] [(0, .d (.sl (a0.map cS105))), (3, .d (.lit (.int .i64 v26))), (4, .ptr 4 0 0), (8, .d (.sl (a0.map cS105))), (9, .d (.lit (.int .i64 (a0.length : Int)))), (10, .d (.lit (.int .i64 v26))), (39, .d (.lit (.bool true)))] [(4, some (.box [.d (.lit (.int .i64 x77.Start)), .d (.lit (.int .i64 x77.Commit)), .d (.sl (x77.Reads.map cS)), .d (.sl (x77.Writes.map cS))]))]) (by simp; exact Sub.table (by simp) (by simp)) ?_
                refine AW.seqR ?_
                refine Chain.runK [] 1 fun K hK => ?_; simp; refine hK _ _ ?_; clear hK K
                refine Chain.sub (S' := mk 54 [] [(2, .d (.lit (.int .i64 1)))] []) (Sub.table (by simp) (by simp)) ?_
                refine Chain.nil ?_
                refine AW.ret ?_
                cases h
                refine thenQ_pass (by simp) ?_
                refine blockQ.ret ?_
                refine thenQ_pass (by simp) ?_
                refine PostI.out (by simp) ?_
                rintro rfl
                refine blockQ.ret ?_
                refine PostJ.out (by simp) ?_
                rintro rfl
                refine thenQ_pass (by simp) ?_
                exact FinC.ret (by simp) (by simp)
              · have c88_ : v85 = false := Bool.eq_false_iff.2 c88
                refine AW.condF (b := v85) rfl c88_ ?_
                refine AW.sub (Sub.bool 39 (b := v85) rfl c88_) ?_
                refine AW.sub (S' := mk 54 [] [(0, .d (.sl (a0.map cS105))), (3, .d (.lit (.int .i64 v26))), (4, .ptr 4 0 0), (8, .d (.sl (a0.map cS105))), (9, .d (.lit (.int .i64 (a0.length : Int)))), (10, .d (.lit (.int .i64 v26))), (39, .d (.lit (.bool false)))] [(4, some (.box [.d (.lit (.int .i64 x77.Start)), .d (.lit (.int .i64 x77.Commit)), .d (.sl (x77.Reads.map cS)), .d (.sl (x77.Writes.map cS))]))]) (by simp; exact Sub.table (by simp) (by simp)) ?_
                refine AW.skip ?_
                refine thenQ_normal ?_
                replace h := bsome h; obtain ⟨v93, hj, h⟩ := h
                refine AW.cutQ (by kernel_rfl) (by kernel_rfl) (mk 54 [] [(0, .d (.sl (a0.map cS105))), (8, .d (.sl (a0.map cS105))), (9, .d (.lit (.int .i64 (a0.length : Int)))), (10, .d (.lit (.int .i64 v26))), (52, .d (.lit (.bool v93)))] []) ?_ ?_
                · clear h; have h := hj; clear hj
                  refine Chain.runQ 3 fun K hK => ?_; simp; refine hK _ _ ?_; clear hK K
                  refine Chain.sub (S' := mk 54 [] [(0, .d (.sl (a0.map cS105))), (3, .d (.lit (.int .i64 v26))), (4, .ptr 4 0 0), (8, .d (.sl (a0.map cS105))), (9, .d (.lit (.int .i64 (a0.length : Int)))), (10, .d (.lit (.int .i64 v26))), (42, .d (.lit (.bool (decide (v26 > 0)))))] [(4, some (.box [.d (.lit (.int .i64 x77.Start)), .d (.lit (.int .i64 x77.Commit)), .d (.sl (x77.Reads.map cS)), .d (.sl (x77.Writes.map cS))]))]) (Sub.table (by simp) (by simp)) ?_
                  replace h := isome h; rcases h with ⟨c94, h⟩ | ⟨c94, h⟩
                  · have c94_ : decide (v26 > 0) = true := decide_eq_true c94
                    refine Chain.sub (Sub.bool 42 (b := decide (v26 > 0)) rfl c94_) ?_
                    refine Chain.sub (S' := mk 54 [] [(0, .d (.sl (a0.map cS105))), (3, .d (.lit (.int .i64 v26))), (4, .ptr 4 0 0), (8, .d (.sl (a0.map cS105))), (9, .d (.lit (.int .i64 (a0.length : Int)))), (10, .d (.lit (.int .i64 v26))), (42, .d (.lit (.bool true)))] [(4, some (.box [.d (.lit (.int .i64 x77.Start)), .d (.lit (.int .i64 x77.Commit)), .d (.sl (x77.Reads.map cS)), .d (.sl (x77.Writes.map cS))]))]) (by simp; exact Sub.table (by simp) (by simp)) ?_
                    replace h := bsome h; obtain ⟨v95, hv95, h⟩ := h
                    have hv95 := chkI_some hv95
                    replace h := bsome h; obtain ⟨x96, hx96, h⟩ := h
                    obtain ⟨k97, hx96k, hx96, hx96a, hx96b⟩ := idx_some hx96
                    refine Chain.runQ 10 fun K hK => ?_; simp [hv95, hx96, hx96k, hx96a]; refine hK _ _ ?_; clear hK K
                    refine Chain.sub (S' := mk 54 [] [(0, .d (.sl (a0.map cS105))), (8, .d (.sl (a0.map cS105))), (9, .d (.lit (.int .i64 (a0.length : Int)))), (10, .d (.lit (.int .i64 v26))), (43, .d (.sl (a0.map cS105))), (44, .d (.lit (.int .i64 v26))), (45, .d (.lit (.int .i64 v95))), (46, .d (.pim [.lit (.int .i64 x96.Start), .lit (.int .i64 x96.Commit), .sl (x96.Reads.map cS), .sl (x96.Writes.map cS)])), (47, .d (.pim [.lit (.int .i64 x96.Commit), .sl (x96.Reads.map cS), .sl (x96.Writes.map cS)])), (48, .d (.lit (.int .i64 x96.Commit))), (49, .ptr 4 0 1), (50, .d (.lit (.int .i64 x77.Commit))), (51, .d (.lit (.bool (decide (x96.Commit ≥ x77.Commit))))), (52, .d (.lit (.bool (decide (x96.Commit ≥ x77.Commit)))))] [(4, some (.box [.d (.lit (.int .i64 x77.Start)), .d (.lit (.int .i64 x77.Commit)), .d (.sl (x77.Reads.map cS)), .d (.sl (x77.Writes.map cS))]))]) (Sub.table (by simp) (by simp)) ?_
                    cases h
                    exact Chain.nil (Sub.table (by simp) (by simp))
                  · have c94_ : decide (v26 > 0) = false := decide_eq_false c94
                    refine Chain.sub (Sub.bool 42 (b := decide (v26 > 0)) rfl c94_) ?_
                    refine Chain.sub (S' := mk 54 [] [(0, .d (.sl (a0.map cS105))), (3, .d (.lit (.int .i64 v26))), (4, .ptr 4 0 0), (8, .d (.sl (a0.map cS105))), (9, .d (.lit (.int .i64 (a0.length : Int)))), (10, .d (.lit (.int .i64 v26))), (42, .d (.lit (.bool false)))] [(4, some (.box [.d (.lit (.int .i64 x77.Start)), .d (.lit (.int .i64 x77.Commit)), .d (.sl (x77.Reads.map cS)), .d (.sl (x77.Writes.map cS))]))]) (by simp; exact Sub.table (by simp) (by simp)) ?_
                    refine Chain.runQ 10 fun K hK => ?_; simp; refine hK _ _ ?_; clear hK K
                    refine Chain.sub (S' := mk 54 [] [(0, .d (.sl (a0.map cS105))), (8, .d (.sl (a0.map cS105))), (9, .d (.lit (.int .i64 (a0.length : Int)))), (10, .d (.lit (.int .i64 v26))), (43, .tup []), (44, .tup []), (45, .tup []), (46, .tup []), (47, .tup []), (48, .tup []), (49, .tup []), (50, .tup []), (51, .tup []), (52, .d (.lit (.bool false)))] []) (Sub.table (by simp) (by simp)) ?_
                    cases h
                    exact Chain.nil (Sub.table (by simp) (by simp))
                · clear hj
                  replace h := isome h; rcases h with ⟨c98, h⟩ | ⟨c98, h⟩
                  · have c98_ : v93 = true := c98
                    refine AW.condT (b := v93) rfl c98_ ?_
                    refine AW.sub (Sub.bool 52 (b := v93) rfl c98_) ?_
                    refine AW.sub (S' := mk 54 [] [(0, .d (.sl (a0.map cS105))), (8, .d (.sl (a0.map cS105))), (9, .d (.lit (.int .i64 (a0.length : Int)))), (10, .d (.lit (.int .i64 v26))), (52, .d (.lit (.bool true)))] []) (by simp; exact Sub.table (by simp) (by simp)) ?_
                    refine AW.seqR ?_
                    refine Chain.runK [] 1 fun K hK => ?_; simp; refine hK _ _ ?_; clear hK K
                    refine Chain.sub (S' := mk 54 [] [(2, .d (.lit (.int .i64 6)))] []) (Sub.table (by simp) (by simp)) ?_
                    refine Chain.nil ?_
                    refine AW.ret ?_
                    cases h
                    refine blockQ.ret ?_
                    refine thenQ_pass (by simp) ?_
                    refine PostI.out (by simp) ?_
                    rintro rfl
                    refine blockQ.ret ?_
                    refine PostJ.out (by simp) ?_
                    rintro rfl
                    refine thenQ_pass (by simp) ?_
                    exact FinC.ret (by simp) (by simp)
                  · have c98_ : v93 = false := Bool.eq_false_iff.2 c98
                    refine AW.condF (b := v93) rfl c98_ ?_
                    refine AW.sub (Sub.bool 52 (b := v93) rfl c98_) ?_
                    refine AW.sub (S' := mk 54 [] [(0, .d (.sl (a0.map cS105))), (8, .d (.sl (a0.map cS105))), (9, .d (.lit (.int .i64 (a0.length : Int)))), (10, .d (.lit (.int .i64 v26))), (52, .d (.lit (.bool false)))] []) (by simp; exact Sub.table (by simp) (by simp)) ?_
                    refine AW.skip ?_
                    refine blockQ.normal ?_
                    refine thenQ_normal ?_
                    refine AW.region ?_
                    replace h := bsome h; obtain ⟨v99, hv99, h⟩ := h
                    have hv99 := chkI_some hv99
                    refine Chain.runK [] 2 fun K hK => ?_; simp [hv99]; refine hK _ _ ?_; clear hK K
                    refine Chain.sub (S' := mk 54 [] [(0, .d (.sl (a0.map cS105))), (8, .d (.sl (a0.map cS105))), (9, .d (.lit (.int .i64 (a0.length : Int)))), (10, .d (.lit (.int .i64 v99)))] []) (Sub.table (by simp) (by simp)) ?_
                    refine Chain.nil ?_
                    cases h
                    refine PostI.next ?_
                    exact (Sub.table (by simp) (by simp))
      · have c76_ : decide (v26 < (a0.length : Int)) = false := decide_eq_false c76
        refine AW.condF (b := decide (v26 < (a0.length : Int))) rfl c76_ ?_
        refine AW.sub (Sub.bool 11 (b := decide (v26 < (a0.length : Int))) rfl c76_) ?_
        refine AW.sub (S' := mk 54 [] [(0, .d (.sl (a0.map cS105))), (8, .d (.sl (a0.map cS105))), (9, .d (.lit (.int .i64 (a0.length : Int)))), (10, .d (.lit (.int .i64 v26))), (11, .d (.lit (.bool false)))] []) (by simp; exact Sub.table (by simp) (by simp)) ?_
        refine AW.exit ?_
        cases h
        refine thenQ_pass (by simp) ?_
        refine PostI.out (by simp) ?_
        rintro rfl
        refine blockQ.hit ?_
        refine PostJ.next ?_
        exact (Sub.table (by simp) (by simp))
    · rintro ⟨⟩ h
      refine thenQ_normal ?_
      refine AW.seqR ?_
      refine Chain.runK [] 1 fun K hK => ?_; simp; refine hK _ _ ?_; clear hK K
      refine Chain.sub (S' := mk 54 [] [(2, .d (.lit (.int .i64 0)))] []) (Sub.table (by simp) (by simp)) ?_
      refine Chain.nil ?_
      refine AW.ret ?_
      cases h
      exact FinC.ret (by simp) (by simp)

/-- stemma/ssi.concurrent -/
def d87 (N : Nat) (a0 : S105) (a1 : S105) : Option Bool :=
  Option.bind (α := Bool) (
    if a0.Start < a1.Commit then (
      some (decide (a1.Start < a0.Commit))
    ) else
    some false
  ) fun (v2 : Bool) =>
  some v2
set_option maxRecDepth 100000 in
set_option maxHeartbeats 4000000 in
theorem p87 (N : Nat) (a0 : S105) (a1 : S105) (r : Bool) (h : d87 N a0 a1 = some r) : FunC Try.prog 87 [.agg [.d (.lit (.int .i64 a0.Start)), .d (.lit (.int .i64 a0.Commit)), .d (.sl (a0.Reads.map cS)), .d (.sl (a0.Writes.map cS))], .agg [.d (.lit (.int .i64 a1.Start)), .d (.lit (.int .i64 a1.Commit)), .d (.sl (a1.Reads.map cS)), .d (.sl (a1.Writes.map cS))]] (.d (.lit (.bool r))) := by
  unfold d87 at h
  refine FunC.enter 17 [(0, .agg [.d (.lit (.int .i64 a0.Start)), .d (.lit (.int .i64 a0.Commit)), .d (.sl (a0.Reads.map cS)), .d (.sl (a0.Writes.map cS))]), (1, .agg [.d (.lit (.int .i64 a1.Start)), .d (.lit (.int .i64 a1.Commit)), .d (.sl (a1.Reads.map cS)), .d (.sl (a1.Writes.map cS))])] (by simp) Try.func87 rfl (of_decide_eq_true rfl) rfl rfl ?_
  refine AW.seqR ?_
  refine Chain.runK [] 3 fun K hK => ?_; simp; refine hK _ _ ?_; clear hK K
  refine Chain.sub (S' := mk 17 [] [(2, .ptr 2 0 0), (3, .ptr 3 0 0)] [(2, some (.box [.d (.lit (.int .i64 a0.Start)), .d (.lit (.int .i64 a0.Commit)), .d (.sl (a0.Reads.map cS)), .d (.sl (a0.Writes.map cS))])), (3, some (.box [.d (.lit (.int .i64 a1.Start)), .d (.lit (.int .i64 a1.Commit)), .d (.sl (a1.Reads.map cS)), .d (.sl (a1.Writes.map cS))]))]) (Sub.table (by simp) (by simp)) ?_
  refine Chain.nil ?_
  replace h := bsome h; obtain ⟨v2, hj, h⟩ := h
  refine AW.cutR (mk 17 [] [(4, .d (.lit (.bool v2)))] []) ?_ ?_
  · clear h; have h := hj; clear hj
    refine Chain.runK [] 6 fun K hK => ?_; simp; refine hK _ _ ?_; clear hK K
    refine Chain.sub (S' := mk 17 [] [(2, .ptr 2 0 0), (3, .ptr 3 0 0), (10, .d (.lit (.bool (decide (a0.Start < a1.Commit)))))] [(2, some (.box [.d (.lit (.int .i64 a0.Start)), .d (.lit (.int .i64 a0.Commit)), .d (.sl (a0.Reads.map cS)), .d (.sl (a0.Writes.map cS))])), (3, some (.box [.d (.lit (.int .i64 a1.Start)), .d (.lit (.int .i64 a1.Commit)), .d (.sl (a1.Reads.map cS)), .d (.sl (a1.Writes.map cS))]))]) (Sub.table (by simp) (by simp)) ?_
    replace h := isome h; rcases h with ⟨c3, h⟩ | ⟨c3, h⟩
    · have c3_ : decide (a0.Start < a1.Commit) = true := decide_eq_true c3
      refine Chain.sub (Sub.bool 10 (b := decide (a0.Start < a1.Commit)) rfl c3_) ?_
      refine Chain.sub (S' := mk 17 [] [(2, .ptr 2 0 0), (3, .ptr 3 0 0), (10, .d (.lit (.bool true)))] [(2, some (.box [.d (.lit (.int .i64 a0.Start)), .d (.lit (.int .i64 a0.Commit)), .d (.sl (a0.Reads.map cS)), .d (.sl (a0.Writes.map cS))])), (3, some (.box [.d (.lit (.int .i64 a1.Start)), .d (.lit (.int .i64 a1.Commit)), .d (.sl (a1.Reads.map cS)), .d (.sl (a1.Writes.map cS))]))]) (by simp; exact Sub.table (by simp) (by simp)) ?_
      refine Chain.runK [] 7 fun K hK => ?_; simp; refine hK _ _ ?_; clear hK K
      refine Chain.sub (S' := mk 17 [] [(4, .d (.lit (.bool (decide (a1.Start < a0.Commit)))))] []) (Sub.table (by simp) (by simp)) ?_
      cases h
      exact Chain.nil (Sub.table (by simp) (by simp))
    · have c3_ : decide (a0.Start < a1.Commit) = false := decide_eq_false c3
      refine Chain.sub (Sub.bool 10 (b := decide (a0.Start < a1.Commit)) rfl c3_) ?_
      refine Chain.sub (S' := mk 17 [] [(2, .ptr 2 0 0), (3, .ptr 3 0 0), (10, .d (.lit (.bool false)))] [(2, some (.box [.d (.lit (.int .i64 a0.Start)), .d (.lit (.int .i64 a0.Commit)), .d (.sl (a0.Reads.map cS)), .d (.sl (a0.Writes.map cS))])), (3, some (.box [.d (.lit (.int .i64 a1.Start)), .d (.lit (.int .i64 a1.Commit)), .d (.sl (a1.Reads.map cS)), .d (.sl (a1.Writes.map cS))]))]) (by simp; exact Sub.table (by simp) (by simp)) ?_
      refine Chain.runK [] 7 fun K hK => ?_; simp; refine hK _ _ ?_; clear hK K
      refine Chain.sub (S' := mk 17 [] [(4, .d (.lit (.bool false)))] []) (Sub.table (by simp) (by simp)) ?_
      cases h
      exact Chain.nil (Sub.table (by simp) (by simp))
  · clear hj
    refine AW.ret ?_
    cases h
    exact FinC.ret (by simp) (by simp)

/-- slices.Index[[]string,string] -/
def d97 (N : Nat) (a0 : (List ByteArray)) (a1 : ByteArray) : Option Int :=
  bindO (β := Unit) (ρ := Int) (
    iterN (σ := Int) (ρ := (Out Unit Int)) (fun (v6 : Int) =>
      if v6 < (a0.length : Int) then (
        (idx a0 v6).bind fun x19 =>
        if decide (a1 = x19) = true then (
          some (.inr (.ret v6))
        ) else
        (chkI (v6 + 1)).bind fun v22 =>
        some (.inl v22)
      ) else
      some (.inr (.go ()))
    ) N 0
  ) fun (_ : Unit) =>
  some (-1)
set_option maxRecDepth 100000 in
set_option maxHeartbeats 4000000 in
theorem p97 (N : Nat) (a0 : (List ByteArray)) (a1 : ByteArray) (r : Int) (h : d97 N a0 a1 = some r) : FunC Try.prog 97 [.d (.sl (a0.map cS)), .d (.lit (.string a1))] (.d (.lit (.int .i64 r))) := by
  unfold d97 at h
  refine FunC.enter 19 [(0, .d (.sl (a0.map cS))), (1, .d (.lit (.string a1)))] (by simp) Try.func97 rfl (of_decide_eq_true rfl) rfl rfl ?_
  refine AW.seqR ?_
  refine Chain.runK [] 1 fun K hK => ?_; simp; refine hK _ _ ?_; clear hK K
  refine Chain.sub (S' := mk 19 [] [(0, .d (.sl (a0.map cS))), (1, .d (.lit (.string a1)))] []) (Sub.table (by simp) (by simp)) ?_
  refine Chain.nil ?_
  refine AW.seq ?_
  refine AW.seqR ?_
  refine Chain.runK [] 3 fun K hK => ?_; simp; refine hK _ _ ?_; clear hK K
  refine Chain.sub (S' := mk 19 [] [(0, .d (.sl (a0.map cS))), (1, .d (.lit (.string a1))), (7, .d (.lit (.int .i64 (a0.length : Int)))), (8, .d (.lit (.int .i64 0)))] []) (Sub.table (by simp) (by simp)) ?_
  refine Chain.nil ?_
  refine AW.lastJ (fun (_ : Unit) => mk 19 [] [] []) h ?_ ?_ <;> clear h
  · intro o h
    refine AW.block ?_
    refine AW.iter (fun (v6 : Int) => mk 19 [] [(0, .d (.sl (a0.map cS))), (1, .d (.lit (.string a1))), (7, .d (.lit (.int .i64 (a0.length : Int)))), (8, .d (.lit (.int .i64 v6)))] []) h (Sub.table (by simp) (by simp)) ?_
    clear h
    rintro v6 x h
    refine AW.seqR ?_
    refine Chain.runK [] 1 fun K hK => ?_; simp; refine hK _ _ ?_; clear hK K
    refine Chain.sub (S' := mk 19 [] [(0, .d (.sl (a0.map cS))), (1, .d (.lit (.string a1))), (7, .d (.lit (.int .i64 (a0.length : Int)))), (8, .d (.lit (.int .i64 v6))), (9, .d (.lit (.bool (decide (v6 < (a0.length : Int))))))] []) (Sub.table (by simp) (by simp)) ?_
    refine Chain.nil ?_
    refine AW.seq ?_
    replace h := isome h; rcases h with ⟨c18, h⟩ | ⟨c18, h⟩
    · have c18_ : decide (v6 < (a0.length : Int)) = true := decide_eq_true c18
      refine AW.condT (b := decide (v6 < (a0.length : Int))) rfl c18_ ?_
      refine AW.sub (Sub.bool 9 (b := decide (v6 < (a0.length : Int))) rfl c18_) ?_
      refine AW.sub (S' := mk 19 [] [(0, .d (.sl (a0.map cS))), (1, .d (.lit (.string a1))), (7, .d (.lit (.int .i64 (a0.length : Int)))), (8, .d (.lit (.int .i64 v6))), (9, .d (.lit (.bool true)))] []) (by simp; exact Sub.table (by simp) (by simp)) ?_
      refine AW.skip ?_
      refine thenQ_normal ?_
      refine AW.seq ?_
      refine AW.block ?_
      refine AW.seqR ?_
      refine Chain.runK [] 2 fun K hK => ?_; simp; refine hK _ _ ?_; clear hK K
      refine Chain.sub (S' := mk 19 [] [(0, .d (.sl (a0.map cS))), (1, .d (.lit (.string a1))), (5, .d (.lit (.int .i64 v6))), (7, .d (.lit (.int .i64 (a0.length : Int)))), (8, .d (.lit (.int .i64 v6)))] []) (Sub.table (by simp) (by simp)) ?_
      refine Chain.nil ?_
      refine AW.seqR ?_
      replace h := bsome h; obtain ⟨x19, hx19, h⟩ := h
      obtain ⟨k20, hx19k, hx19, hx19a, hx19b⟩ := idx_some hx19
      refine Chain.runK [] 6 fun K hK => ?_; simp [hx19, hx19k, hx19a]; refine hK _ _ ?_; clear hK K
      refine Chain.sub (S' := mk 19 [] [(0, .d (.sl (a0.map cS))), (1, .d (.lit (.string a1))), (5, .d (.lit (.int .i64 v6))), (7, .d (.lit (.int .i64 (a0.length : Int)))), (8, .d (.lit (.int .i64 v6))), (16, .d (.lit (.bool (decide (a1 = x19)))))] []) (Sub.table (by simp) (by simp)) ?_
      refine Chain.nil ?_
      replace h := isome h; rcases h with ⟨c21, h⟩ | ⟨c21, h⟩
      · have c21_ : decide (a1 = x19) = true := c21
        refine AW.condT (b := decide (a1 = x19)) rfl c21_ ?_
        refine AW.sub (Sub.bool 16 (b := decide (a1 = x19)) rfl c21_) ?_
        refine AW.sub (S' := mk 19 [] [(0, .d (.sl (a0.map cS))), (1, .d (.lit (.string a1))), (5, .d (.lit (.int .i64 v6))), (7, .d (.lit (.int .i64 (a0.length : Int)))), (8, .d (.lit (.int .i64 v6))), (16, .d (.lit (.bool true)))] []) (by simp; exact Sub.table (by simp) (by simp)) ?_
        refine AW.seqR ?_
        refine Chain.runK [] 2 fun K hK => ?_; simp; refine hK _ _ ?_; clear hK K
        refine Chain.sub (S' := mk 19 [] [(4, .d (.lit (.int .i64 v6)))] []) (Sub.table (by simp) (by simp)) ?_
        refine Chain.nil ?_
        refine AW.ret ?_
        cases h
        refine blockQ.ret ?_
        refine thenQ_pass (by simp) ?_
        refine PostI.out (by simp) ?_
        rintro rfl
        refine blockQ.ret ?_
        refine PostJ.out (by simp) ?_
        rintro rfl
        refine thenQ_pass (by simp) ?_
        exact FinC.ret (by simp) (by simp)
      · have c21_ : decide (a1 = x19) = false := Bool.eq_false_iff.2 c21
        refine AW.condF (b := decide (a1 = x19)) rfl c21_ ?_
        refine AW.sub (Sub.bool 16 (b := decide (a1 = x19)) rfl c21_) ?_
        refine AW.sub (S' := mk 19 [] [(0, .d (.sl (a0.map cS))), (1, .d (.lit (.string a1))), (5, .d (.lit (.int .i64 v6))), (7, .d (.lit (.int .i64 (a0.length : Int)))), (8, .d (.lit (.int .i64 v6))), (16, .d (.lit (.bool false)))] []) (by simp; exact Sub.table (by simp) (by simp)) ?_
        refine AW.skip ?_
        refine blockQ.normal ?_
        refine thenQ_normal ?_
        refine AW.region ?_
        replace h := bsome h; obtain ⟨v22, hv22, h⟩ := h
        have hv22 := chkI_some hv22
        refine Chain.runK [] 2 fun K hK => ?_; simp [hv22]; refine hK _ _ ?_; clear hK K
        refine Chain.sub (S' := mk 19 [] [(0, .d (.sl (a0.map cS))), (1, .d (.lit (.string a1))), (7, .d (.lit (.int .i64 (a0.length : Int)))), (8, .d (.lit (.int .i64 v22)))] []) (Sub.table (by simp) (by simp)) ?_
        refine Chain.nil ?_
        cases h
        refine PostI.next ?_
        exact (Sub.table (by simp) (by simp))
    · have c18_ : decide (v6 < (a0.length : Int)) = false := decide_eq_false c18
      refine AW.condF (b := decide (v6 < (a0.length : Int))) rfl c18_ ?_
      refine AW.sub (Sub.bool 9 (b := decide (v6 < (a0.length : Int))) rfl c18_) ?_
      refine AW.sub (S' := mk 19 [] [(0, .d (.sl (a0.map cS))), (1, .d (.lit (.string a1))), (7, .d (.lit (.int .i64 (a0.length : Int)))), (8, .d (.lit (.int .i64 v6))), (9, .d (.lit (.bool false)))] []) (by simp; exact Sub.table (by simp) (by simp)) ?_
      refine AW.exit ?_
      cases h
      refine thenQ_pass (by simp) ?_
      refine PostI.out (by simp) ?_
      rintro rfl
      refine blockQ.hit ?_
      refine PostJ.next ?_
      exact (Sub.table (by simp) (by simp))
  · rintro ⟨⟩ h
    refine thenQ_normal ?_
    refine AW.seqR ?_
    refine Chain.runK [] 1 fun K hK => ?_; simp; refine hK _ _ ?_; clear hK K
    refine Chain.sub (S' := mk 19 [] [(4, .d (.lit (.int .i64 (-1))))] []) (Sub.table (by simp) (by simp)) ?_
    refine Chain.nil ?_
    refine AW.ret ?_
    cases h
    exact FinC.ret (by simp) (by simp)

/-- slices.Contains[[]string,string] -/
def d95 (N : Nat) (a0 : (List ByteArray)) (a1 : ByteArray) : Option Bool :=
  (d97 N a0 a1).bind fun r1 =>
  some (decide (r1 ≥ 0))
set_option maxRecDepth 100000 in
set_option maxHeartbeats 4000000 in
theorem p95 (N : Nat) (a0 : (List ByteArray)) (a1 : ByteArray) (r : Bool) (h : d95 N a0 a1 = some r) : FunC Try.prog 95 [.d (.sl (a0.map cS)), .d (.lit (.string a1))] (.d (.lit (.bool r))) := by
  unfold d95 at h
  refine FunC.enter 9 [(0, .d (.sl (a0.map cS))), (1, .d (.lit (.string a1)))] (by simp) Try.func95 rfl (of_decide_eq_true rfl) rfl rfl ?_
  refine AW.seqR ?_
  refine Chain.runK [] 1 fun K hK => ?_; simp; refine hK _ _ ?_; clear hK K
  refine Chain.sub (S' := mk 9 [] [(0, .d (.sl (a0.map cS))), (1, .d (.lit (.string a1)))] []) (Sub.table (by simp) (by simp)) ?_
  refine Chain.nil ?_
  refine AW.seqR ?_
  refine Chain.runK [] 2 fun K hK => ?_; simp; refine hK _ _ ?_; clear hK K
  refine Chain.sub (S' := mk 9 [] [(5, .d (.sl (a0.map cS))), (6, .d (.lit (.string a1)))] []) (Sub.table (by simp) (by simp)) ?_
  replace h := bsome h; obtain ⟨r1, hr1, h⟩ := h
  refine Chain.callL (d := 7) (p97 N a0 a1 r1 hr1) (by simp) rfl rfl (by simp <;> rfl) (by simp <;> rfl) ent97 (by simp <;> rfl) ?_
  refine Chain.sub (S' := mk 9 [] [(5, .d (.sl (a0.map cS))), (6, .d (.lit (.string a1))), (7, .d (.lit (.int .i64 r1)))] []) (by simp; exact Sub.table (by simp) (by simp)) ?_
  refine Chain.runK [] 2 fun K hK => ?_; simp; refine hK _ _ ?_; clear hK K
  refine Chain.sub (S' := mk 9 [] [(4, .d (.lit (.bool (decide (r1 ≥ 0)))))] []) (Sub.table (by simp) (by simp)) ?_
  refine Chain.nil ?_
  refine AW.ret ?_
  cases h
  exact FinC.ret (by simp) (by simp)

/-- stemma/ssi.intersect$1 -/
def d94 (N : Nat) (a0 : ByteArray) (a1 : (List ByteArray)) : Option Bool :=
  (d95 N a1 a0).bind fun r1 =>
  some r1
set_option maxRecDepth 100000 in
set_option maxHeartbeats 4000000 in
theorem p94 (N : Nat) (a0 : ByteArray) (a1 : (List ByteArray)) (r : Bool) (h : d94 N a0 a1 = some r) : FunC Try.prog 94 [.d (.lit (.string a0)), .d (.pim [.sl (a1.map cS)])] (.d (.lit (.bool r))) := by
  unfold d94 at h
  refine FunC.enter 7 [(0, .d (.lit (.string a0))), (1, .d (.pim [.sl (a1.map cS)]))] (by simp) Try.func94 rfl (of_decide_eq_true rfl) rfl rfl ?_
  refine AW.seqR ?_
  refine Chain.runK [] 1 fun K hK => ?_; simp; refine hK _ _ ?_; clear hK K
  refine Chain.sub (S' := mk 7 [] [(0, .d (.lit (.string a0))), (1, .d (.pim [.sl (a1.map cS)]))] []) (Sub.table (by simp) (by simp)) ?_
  refine Chain.nil ?_
  refine AW.seqR ?_
  refine Chain.runK [] 2 fun K hK => ?_; simp; refine hK _ _ ?_; clear hK K
  refine Chain.sub (S' := mk 7 [] [(4, .d (.sl (a1.map cS))), (5, .d (.lit (.string a0)))] []) (Sub.table (by simp) (by simp)) ?_
  replace h := bsome h; obtain ⟨r1, hr1, h⟩ := h
  refine Chain.callL (d := 6) (p95 N a1 a0 r1 hr1) (by simp) rfl rfl (by simp <;> rfl) (by simp <;> rfl) ent95 (by simp <;> rfl) ?_
  refine Chain.sub (S' := mk 7 [] [(4, .d (.sl (a1.map cS))), (5, .d (.lit (.string a0))), (6, .d (.lit (.bool r1)))] []) (by simp; exact Sub.table (by simp) (by simp)) ?_
  refine Chain.runK [] 1 fun K hK => ?_; simp; refine hK _ _ ?_; clear hK K
  refine Chain.sub (S' := mk 7 [] [(3, .d (.lit (.bool r1)))] []) (Sub.table (by simp) (by simp)) ?_
  refine Chain.nil ?_
  refine AW.ret ?_
  cases h
  exact FinC.ret (by simp) (by simp)

/-- slices.IndexFunc[[]string,string] -/
def d96 (N : Nat) (a0 : (List ByteArray)) (p1 : ByteArray → Option Bool) : Option Int :=
  bindO (β := Unit) (ρ := Int) (
    iterN (σ := Int) (ρ := (Out Unit Int)) (fun (v7 : Int) =>
      if v7 < (a0.length : Int) then (
        (idx a0 v7).bind fun x22 =>
        (p1 x22).bind fun r24 =>
        if r24 = true then (
          some (.inr (.ret v7))
        ) else
        (chkI (v7 + 1)).bind fun v26 =>
        some (.inl v26)
      ) else
      some (.inr (.go ()))
    ) N 0
  ) fun (_ : Unit) =>
  some (-1)
set_option maxRecDepth 100000 in
set_option maxHeartbeats 4000000 in
theorem p96 (N : Nat) (a0 : (List ByteArray)) (g1 : Nat) (cs1 : List D) (p1 : ByteArray → Option Bool) (ent_1 : Rp.Enters Try.prog g1) (hp1 : ∀ a0 r, p1 a0 = some r → FunC Try.prog g1 ([.d (.lit (.string a0))] ++ cs1.map .d) (.d (.lit (.bool r)))) (r : Int) (h : d96 N a0 p1 = some r) : FunC Try.prog 96 [.d (.sl (a0.map cS)), .fn (.func g1) (cs1.map .d)] (.d (.lit (.int .i64 r))) := by
  unfold d96 at h
  refine FunC.enter 19 [(0, .d (.sl (a0.map cS))), (1, .fn (.func g1) (cs1.map .d))] (by simp) Try.func96 rfl (of_decide_eq_true rfl) rfl rfl ?_
  refine AW.seqR ?_
  refine Chain.runK [] 1 fun K hK => ?_; simp; refine hK _ _ ?_; clear hK K
  refine Chain.sub (S' := mk 19 [] [(0, .d (.sl (a0.map cS))), (1, .fn (.func g1) (cs1.map .d))] []) (Sub.table (by simp) (by simp)) ?_
  refine Chain.nil ?_
  refine AW.seq ?_
  refine AW.seqR ?_
  refine Chain.runK [] 3 fun K hK => ?_; simp; refine hK _ _ ?_; clear hK K
  refine Chain.sub (S' := mk 19 [] [(0, .d (.sl (a0.map cS))), (1, .fn (.func g1) (cs1.map .d)), (7, .d (.lit (.int .i64 (a0.length : Int)))), (8, .d (.lit (.int .i64 0)))] []) (Sub.table (by simp) (by simp)) ?_
  refine Chain.nil ?_
  refine AW.lastJ (fun (_ : Unit) => mk 19 [] [] []) h ?_ ?_ <;> clear h
  · intro o h
    refine AW.block ?_
    refine AW.iter (fun (v7 : Int) => mk 19 [] [(0, .d (.sl (a0.map cS))), (1, .fn (.func g1) (cs1.map .d)), (7, .d (.lit (.int .i64 (a0.length : Int)))), (8, .d (.lit (.int .i64 v7)))] []) h (Sub.table (by simp) (by simp)) ?_
    clear h
    rintro v7 x h
    refine AW.seqR ?_
    refine Chain.runK [] 1 fun K hK => ?_; simp; refine hK _ _ ?_; clear hK K
    refine Chain.sub (S' := mk 19 [] [(0, .d (.sl (a0.map cS))), (1, .fn (.func g1) (cs1.map .d)), (7, .d (.lit (.int .i64 (a0.length : Int)))), (8, .d (.lit (.int .i64 v7))), (9, .d (.lit (.bool (decide (v7 < (a0.length : Int))))))] []) (Sub.table (by simp) (by simp)) ?_
    refine Chain.nil ?_
    refine AW.seq ?_
    replace h := isome h; rcases h with ⟨c21, h⟩ | ⟨c21, h⟩
    · have c21_ : decide (v7 < (a0.length : Int)) = true := decide_eq_true c21
      refine AW.condT (b := decide (v7 < (a0.length : Int))) rfl c21_ ?_
      refine AW.sub (Sub.bool 9 (b := decide (v7 < (a0.length : Int))) rfl c21_) ?_
      refine AW.sub (S' := mk 19 [] [(0, .d (.sl (a0.map cS))), (1, .fn (.func g1) (cs1.map .d)), (7, .d (.lit (.int .i64 (a0.length : Int)))), (8, .d (.lit (.int .i64 v7))), (9, .d (.lit (.bool true)))] []) (by simp; exact Sub.table (by simp) (by simp)) ?_
      refine AW.skip ?_
      refine thenQ_normal ?_
      refine AW.seq ?_
      refine AW.block ?_
      refine AW.seqR ?_
      refine Chain.runK [] 2 fun K hK => ?_; simp; refine hK _ _ ?_; clear hK K
      refine Chain.sub (S' := mk 19 [] [(0, .d (.sl (a0.map cS))), (1, .fn (.func g1) (cs1.map .d)), (5, .d (.lit (.int .i64 v7))), (7, .d (.lit (.int .i64 (a0.length : Int)))), (8, .d (.lit (.int .i64 v7)))] []) (Sub.table (by simp) (by simp)) ?_
      refine Chain.nil ?_
      refine AW.seqR ?_
      replace h := bsome h; obtain ⟨x22, hx22, h⟩ := h
      obtain ⟨k23, hx22k, hx22, hx22a, hx22b⟩ := idx_some hx22
      refine Chain.runK [] 5 fun K hK => ?_; simp [hx22, hx22k, hx22a]; refine hK _ _ ?_; clear hK K
      refine Chain.sub (S' := mk 19 [] [(0, .d (.sl (a0.map cS))), (1, .fn (.func g1) (cs1.map .d)), (5, .d (.lit (.int .i64 v7))), (7, .d (.lit (.int .i64 (a0.length : Int)))), (8, .d (.lit (.int .i64 v7))), (11, .fn (.func g1) (cs1.map .d)), (15, .d (.lit (.string x22)))] []) (Sub.table (by simp) (by simp)) ?_
      replace h := bsome h; obtain ⟨r24, hr24, h⟩ := h
      refine Chain.callL (d := 16) (hp1 x22 r24 hr24) (by simp) rfl rfl (by simp <;> rfl) (by simp <;> rfl) ent_1 (by simp <;> rfl) ?_
      refine Chain.sub (S' := mk 19 [] [(0, .d (.sl (a0.map cS))), (1, .fn (.func g1) (cs1.map .d)), (5, .d (.lit (.int .i64 v7))), (7, .d (.lit (.int .i64 (a0.length : Int)))), (8, .d (.lit (.int .i64 v7))), (11, .fn (.func g1) (cs1.map .d)), (15, .d (.lit (.string x22))), (16, .d (.lit (.bool r24)))] []) (by simp; exact Sub.table (by simp) (by simp)) ?_
      refine Chain.nil ?_
      replace h := isome h; rcases h with ⟨c25, h⟩ | ⟨c25, h⟩
      · have c25_ : r24 = true := c25
        refine AW.condT (b := r24) rfl c25_ ?_
        refine AW.sub (Sub.bool 16 (b := r24) rfl c25_) ?_
        refine AW.sub (S' := mk 19 [] [(0, .d (.sl (a0.map cS))), (1, .fn (.func g1) (cs1.map .d)), (5, .d (.lit (.int .i64 v7))), (7, .d (.lit (.int .i64 (a0.length : Int)))), (8, .d (.lit (.int .i64 v7))), (11, .fn (.func g1) (cs1.map .d)), (15, .d (.lit (.string x22))), (16, .d (.lit (.bool true)))] []) (by simp; exact Sub.table (by simp) (by simp)) ?_
        refine AW.seqR ?_
        refine Chain.runK [] 2 fun K hK => ?_; simp; refine hK _ _ ?_; clear hK K
        refine Chain.sub (S' := mk 19 [] [(4, .d (.lit (.int .i64 v7)))] []) (Sub.table (by simp) (by simp)) ?_
        refine Chain.nil ?_
        refine AW.ret ?_
        cases h
        refine blockQ.ret ?_
        refine thenQ_pass (by simp) ?_
        refine PostI.out (by simp) ?_
        rintro rfl
        refine blockQ.ret ?_
        refine PostJ.out (by simp) ?_
        rintro rfl
        refine thenQ_pass (by simp) ?_
        exact FinC.ret (by simp) (by simp)
      · have c25_ : r24 = false := Bool.eq_false_iff.2 c25
        refine AW.condF (b := r24) rfl c25_ ?_
        refine AW.sub (Sub.bool 16 (b := r24) rfl c25_) ?_
        refine AW.sub (S' := mk 19 [] [(0, .d (.sl (a0.map cS))), (1, .fn (.func g1) (cs1.map .d)), (5, .d (.lit (.int .i64 v7))), (7, .d (.lit (.int .i64 (a0.length : Int)))), (8, .d (.lit (.int .i64 v7))), (11, .fn (.func g1) (cs1.map .d)), (15, .d (.lit (.string x22))), (16, .d (.lit (.bool false)))] []) (by simp; exact Sub.table (by simp) (by simp)) ?_
        refine AW.skip ?_
        refine blockQ.normal ?_
        refine thenQ_normal ?_
        refine AW.region ?_
        replace h := bsome h; obtain ⟨v26, hv26, h⟩ := h
        have hv26 := chkI_some hv26
        refine Chain.runK [] 2 fun K hK => ?_; simp [hv26]; refine hK _ _ ?_; clear hK K
        refine Chain.sub (S' := mk 19 [] [(0, .d (.sl (a0.map cS))), (1, .fn (.func g1) (cs1.map .d)), (7, .d (.lit (.int .i64 (a0.length : Int)))), (8, .d (.lit (.int .i64 v26)))] []) (Sub.table (by simp) (by simp)) ?_
        refine Chain.nil ?_
        cases h
        refine PostI.next ?_
        exact (Sub.table (by simp) (by simp))
    · have c21_ : decide (v7 < (a0.length : Int)) = false := decide_eq_false c21
      refine AW.condF (b := decide (v7 < (a0.length : Int))) rfl c21_ ?_
      refine AW.sub (Sub.bool 9 (b := decide (v7 < (a0.length : Int))) rfl c21_) ?_
      refine AW.sub (S' := mk 19 [] [(0, .d (.sl (a0.map cS))), (1, .fn (.func g1) (cs1.map .d)), (7, .d (.lit (.int .i64 (a0.length : Int)))), (8, .d (.lit (.int .i64 v7))), (9, .d (.lit (.bool false)))] []) (by simp; exact Sub.table (by simp) (by simp)) ?_
      refine AW.exit ?_
      cases h
      refine thenQ_pass (by simp) ?_
      refine PostI.out (by simp) ?_
      rintro rfl
      refine blockQ.hit ?_
      refine PostJ.next ?_
      exact (Sub.table (by simp) (by simp))
  · rintro ⟨⟩ h
    refine thenQ_normal ?_
    refine AW.seqR ?_
    refine Chain.runK [] 1 fun K hK => ?_; simp; refine hK _ _ ?_; clear hK K
    refine Chain.sub (S' := mk 19 [] [(4, .d (.lit (.int .i64 (-1))))] []) (Sub.table (by simp) (by simp)) ?_
    refine Chain.nil ?_
    refine AW.ret ?_
    cases h
    exact FinC.ret (by simp) (by simp)

/-- slices.ContainsFunc[[]string,string] -/
def d93 (N : Nat) (a0 : (List ByteArray)) (p1 : ByteArray → Option Bool) : Option Bool :=
  (d96 N a0 p1).bind fun r1 =>
  some (decide (r1 ≥ 0))
set_option maxRecDepth 100000 in
set_option maxHeartbeats 4000000 in
theorem p93 (N : Nat) (a0 : (List ByteArray)) (g1 : Nat) (cs1 : List D) (p1 : ByteArray → Option Bool) (ent_1 : Rp.Enters Try.prog g1) (hp1 : ∀ a0 r, p1 a0 = some r → FunC Try.prog g1 ([.d (.lit (.string a0))] ++ cs1.map .d) (.d (.lit (.bool r)))) (r : Bool) (h : d93 N a0 p1 = some r) : FunC Try.prog 93 [.d (.sl (a0.map cS)), .fn (.func g1) (cs1.map .d)] (.d (.lit (.bool r))) := by
  unfold d93 at h
  refine FunC.enter 9 [(0, .d (.sl (a0.map cS))), (1, .fn (.func g1) (cs1.map .d))] (by simp) Try.func93 rfl (of_decide_eq_true rfl) rfl rfl ?_
  refine AW.seqR ?_
  refine Chain.runK [] 1 fun K hK => ?_; simp; refine hK _ _ ?_; clear hK K
  refine Chain.sub (S' := mk 9 [] [(0, .d (.sl (a0.map cS))), (1, .fn (.func g1) (cs1.map .d))] []) (Sub.table (by simp) (by simp)) ?_
  refine Chain.nil ?_
  refine AW.seqR ?_
  refine Chain.runK [] 2 fun K hK => ?_; simp; refine hK _ _ ?_; clear hK K
  refine Chain.sub (S' := mk 9 [] [(5, .d (.sl (a0.map cS))), (6, .fn (.func g1) (cs1.map .d))] []) (Sub.table (by simp) (by simp)) ?_
  replace h := bsome h; obtain ⟨r1, hr1, h⟩ := h
  refine Chain.callL (d := 7) (p96 N a0 g1 cs1 p1 ent_1 hp1 r1 hr1) (by simp) rfl rfl (by simp <;> rfl) (by simp <;> rfl) ent96 (by simp <;> rfl) ?_
  refine Chain.sub (S' := mk 9 [] [(5, .d (.sl (a0.map cS))), (6, .fn (.func g1) (cs1.map .d)), (7, .d (.lit (.int .i64 r1)))] []) (by simp; exact Sub.table (by simp) (by simp)) ?_
  refine Chain.runK [] 2 fun K hK => ?_; simp; refine hK _ _ ?_; clear hK K
  refine Chain.sub (S' := mk 9 [] [(4, .d (.lit (.bool (decide (r1 ≥ 0)))))] []) (Sub.table (by simp) (by simp)) ?_
  refine Chain.nil ?_
  refine AW.ret ?_
  cases h
  exact FinC.ret (by simp) (by simp)

/-- stemma/ssi.intersect -/
def d88 (N : Nat) (a0 : (List ByteArray)) (a1 : (List ByteArray)) : Option Bool :=
  (d93 N a0 (fun b0 => d94 N b0 a1)).bind fun r1 =>
  some r1
set_option maxRecDepth 100000 in
set_option maxHeartbeats 4000000 in
theorem p88 (N : Nat) (a0 : (List ByteArray)) (a1 : (List ByteArray)) (r : Bool) (h : d88 N a0 a1 = some r) : FunC Try.prog 88 [.d (.sl (a0.map cS)), .d (.sl (a1.map cS))] (.d (.lit (.bool r))) := by
  unfold d88 at h
  refine FunC.enter 8 [(0, .d (.sl (a0.map cS))), (1, .d (.sl (a1.map cS)))] (by simp) Try.func88 rfl (of_decide_eq_true rfl) rfl rfl ?_
  refine AW.seqR ?_
  refine Chain.runK [] 2 fun K hK => ?_; simp; refine hK _ _ ?_; clear hK K
  refine Chain.sub (S' := mk 8 [] [(0, .d (.sl (a0.map cS))), (3, .ptr 3 0 0)] [(3, some (.box [.d (.sl (a1.map cS))]))]) (Sub.table (by simp) (by simp)) ?_
  refine Chain.nil ?_
  refine AW.seqR ?_
  refine Chain.runK [] 2 fun K hK => ?_; simp; refine hK _ _ ?_; clear hK K
  refine Chain.sub (S' := mk 8 [] [(5, .d (.sl (a0.map cS))), (6, .fn (.func 94) [.ptr 3 0 0])] [(3, some (.box [.d (.sl (a1.map cS))]))]) (Sub.table (by simp) (by simp)) ?_
  replace h := bsome h; obtain ⟨r1, hr1, h⟩ := h
  refine Chain.callL (d := 7) (p93 N a0 94 [.pim [.sl (a1.map cS)]] (fun b0 => d94 N b0 a1) ent94 (fun b0 r h => p94 N b0 a1 r h) r1 hr1) (by simp) rfl rfl (by simp <;> rfl) (by simp <;> rfl) ent93 (by simp <;> rfl) ?_
  refine Chain.sub (S' := mk 8 [] [(5, .d (.sl (a0.map cS))), (6, .fn (.func 94) [.ptr 3 0 0]), (7, .d (.lit (.bool r1)))] [(3, some (.box [.d (.sl (a1.map cS))]))]) (by simp; exact Sub.table (by simp) (by simp)) ?_
  refine Chain.runK [] 1 fun K hK => ?_; simp; refine hK _ _ ?_; clear hK K
  refine Chain.sub (S' := mk 8 [] [(4, .d (.lit (.bool r1)))] []) (Sub.table (by simp) (by simp)) ?_
  refine Chain.nil ?_
  refine AW.ret ?_
  cases h
  exact FinC.ret (by simp) (by simp)

end Go.Proofs.Ytabjbkdlacibjaa
