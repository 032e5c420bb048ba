/- Functions of the program as functional programs; the code computes them. -/
import Derived.Test.YtabjbkdlacibjaaSg5
namespace Go.Proofs.Ytabjbkdlacibjaa
open Go.Ab Go.Rp
attribute [-simp] List.all_eq_true Array.all_toList Array.all_eq_true

/-- stemma/stemref5.CheckTxs -/
def d37 (N : Nat) (a0 : (List S105)) : Option Int :=
  if (a0.length : Int) > 40 then (
    some 2
  ) else
  bindO (β := Unit) (ρ := Int) (
    iterN (σ := (Int × Int)) (ρ := (Out Unit Int)) (fun ((v17, v18) : (Int × Int)) =>
      if v18 < (a0.length : Int) then (
        (idx a0 v18).bind fun x52 =>
        Option.bind (α := Bool) (
          if (x52.Reads.length : Int) > 12 then (
            some true
          ) else
          some (decide ((x52.Writes.length : Int) > 12))
        ) fun (v55 : Bool) =>
        if v55 = true then (
          some (.inr (.ret 2))
        ) else
        Option.bind (α := Bool) (
          if x52.Start < 0 then (
            some true
          ) else
          if x52.Commit > 1099511627776 then (
            some true
          ) else
          some (decide (x52.Commit ≤ x52.Start))
        ) fun (v60 : Bool) =>
        if v60 = true then (
          some (.inr (.ret 1))
        ) else
        if x52.Commit ≤ v17 then (
          some (.inr (.ret 6))
        ) else
        (chkI (v18 + 1)).bind fun v65 =>
        some (.inl (x52.Commit, v65))
      ) else
      some (.inr (.go ()))
    ) N ((-1), 0)
  ) fun (_ : Unit) =>
  some 0
set_option maxRecDepth 100000 in
set_option maxHeartbeats 4000000 in
theorem p37 (N : Nat) (a0 : (List S105)) (r : Int) (h : d37 N a0 = some r) : FunC Try.prog 37 [.d (.sl (a0.map cS105))] (.d (.lit (.int .i64 r))) := by
  unfold d37 at h
  refine FunC.enter 50 [(0, .d (.sl (a0.map cS105)))] (by simp) Try.func37 rfl (of_decide_eq_true rfl) rfl rfl ?_
  refine AW.seqR ?_
  refine Chain.runK [] 1 fun K hK => ?_; simp; refine hK _ _ ?_; clear hK K
  refine Chain.sub (S' := mk 50 [] [(0, .d (.sl (a0.map cS105)))] []) (Sub.table (by simp) (by simp)) ?_
  refine Chain.nil ?_
  refine AW.seq ?_
  refine AW.seqR ?_
  refine Chain.runK [] 3 fun K hK => ?_; simp; refine hK _ _ ?_; clear hK K
  refine Chain.sub (S' := mk 50 [] [(0, .d (.sl (a0.map cS105))), (8, .d (.lit (.bool (decide ((a0.length : Int) > 40)))))] []) (Sub.table (by simp) (by simp)) ?_
  refine Chain.nil ?_
  replace h := isome h; rcases h with ⟨c1, h⟩ | ⟨c1, h⟩
  · have c1_ : decide ((a0.length : Int) > 40) = true := decide_eq_true c1
    refine AW.condT (b := decide ((a0.length : Int) > 40)) rfl c1_ ?_
    refine AW.sub (Sub.bool 8 (b := decide ((a0.length : Int) > 40)) rfl c1_) ?_
    refine AW.sub (S' := mk 50 [] [(0, .d (.sl (a0.map cS105))), (8, .d (.lit (.bool true)))] []) (by simp; exact Sub.table (by simp) (by simp)) ?_
    refine AW.seqR ?_
    refine Chain.runK [] 1 fun K hK => ?_; simp; refine hK _ _ ?_; clear hK K
    refine Chain.sub (S' := mk 50 [] [(2, .d (.lit (.int .i64 2)))] []) (Sub.table (by simp) (by simp)) ?_
    refine Chain.nil ?_
    refine AW.ret ?_
    cases h
    refine thenQ_pass (by simp) ?_
    exact FinC.ret (by simp) (by simp)
  · have c1_ : decide ((a0.length : Int) > 40) = false := decide_eq_false c1
    refine AW.condF (b := decide ((a0.length : Int) > 40)) rfl c1_ ?_
    refine AW.sub (Sub.bool 8 (b := decide ((a0.length : Int) > 40)) rfl c1_) ?_
    refine AW.sub (S' := mk 50 [] [(0, .d (.sl (a0.map cS105))), (8, .d (.lit (.bool false)))] []) (by simp; exact Sub.table (by simp) (by simp)) ?_
    refine AW.skip ?_
    refine thenQ_normal ?_
    refine AW.seqR ?_
    refine Chain.runK [] 1 fun K hK => ?_; simp; refine hK _ _ ?_; clear hK K
    refine Chain.sub (S' := mk 50 [] [(0, .d (.sl (a0.map cS105))), (3, .d (.lit (.int .i64 (-1))))] []) (Sub.table (by simp) (by simp)) ?_
    refine Chain.nil ?_
    refine AW.seq ?_
    refine AW.seqR ?_
    refine Chain.runK [] 3 fun K hK => ?_; simp; refine hK _ _ ?_; clear hK K
    refine Chain.sub (S' := mk 50 [] [(3, .d (.lit (.int .i64 (-1)))), (9, .d (.sl (a0.map cS105))), (10, .d (.lit (.int .i64 (a0.length : Int)))), (11, .d (.lit (.int .i64 0)))] []) (Sub.table (by simp) (by simp)) ?_
    refine Chain.nil ?_
    refine AW.lastJ (fun (_ : Unit) => mk 50 [] [] []) h ?_ ?_ <;> clear h
    · intro o h
      refine AW.block ?_
      refine AW.iter (fun ((v17, v18) : (Int × Int)) => mk 50 [] [(3, .d (.lit (.int .i64 v17))), (9, .d (.sl (a0.map cS105))), (10, .d (.lit (.int .i64 (a0.length : Int)))), (11, .d (.lit (.int .i64 v18)))] []) h (Sub.table (by simp) (by simp)) ?_
      clear h
      rintro ⟨v17, v18⟩ x h
      dsimp only at h ⊢
      refine AW.seqR ?_
      refine Chain.runK [] 1 fun K hK => ?_; simp; refine hK _ _ ?_; clear hK K
      refine Chain.sub (S' := mk 50 [] [(3, .d (.lit (.int .i64 v17))), (9, .d (.sl (a0.map cS105))), (10, .d (.lit (.int .i64 (a0.length : Int)))), (11, .d (.lit (.int .i64 v18))), (12, .d (.lit (.bool (decide (v18 < (a0.length : Int))))))] []) (Sub.table (by simp) (by simp)) ?_
      refine Chain.nil ?_
      refine AW.seq ?_
      replace h := isome h; rcases h with ⟨c51, h⟩ | ⟨c51, h⟩
      · have c51_ : decide (v18 < (a0.length : Int)) = true := decide_eq_true c51
        refine AW.condT (b := decide (v18 < (a0.length : Int))) rfl c51_ ?_
        refine AW.sub (Sub.bool 12 (b := decide (v18 < (a0.length : Int))) rfl c51_) ?_
        refine AW.sub (S' := mk 50 [] [(3, .d (.lit (.int .i64 v17))), (9, .d (.sl (a0.map cS105))), (10, .d (.lit (.int .i64 (a0.length : Int)))), (11, .d (.lit (.int .i64 v18))), (12, .d (.lit (.bool true)))] []) (by simp; exact Sub.table (by simp) (by simp)) ?_
        refine AW.skip ?_
        refine thenQ_normal ?_
        refine AW.seq ?_
        refine AW.block ?_
        refine AW.seqR ?_
        replace h := bsome h; obtain ⟨x52, hx52, h⟩ := h
        obtain ⟨k53, hx52k, hx52, hx52a, hx52b⟩ := idx_some hx52
        refine Chain.runK [] 4 fun K hK => ?_; simp [hx52, hx52k, hx52a]; refine hK _ _ ?_; clear hK K
        refine Chain.sub (S' := mk 50 [] [(3, .d (.lit (.int .i64 v17))), (5, .ptr 5 0 0), (9, .d (.sl (a0.map cS105))), (10, .d (.lit (.int .i64 (a0.length : Int)))), (11, .d (.lit (.int .i64 v18)))] [(5, some (.box [.d (.lit (.int .i64 x52.Start)), .d (.lit (.int .i64 x52.Commit)), .d (.sl (x52.Reads.map cS)), .d (.sl (x52.Writes.map cS))]))]) (Sub.table (by simp) (by simp)) ?_
        refine Chain.nil ?_
        refine AW.seq ?_
        refine AW.block ?_
        replace h := bsome h; obtain ⟨v55, hj, h⟩ := h
        refine AW.cutR (mk 50 [] [(3, .d (.lit (.int .i64 v17))), (5, .ptr 5 0 0), (9, .d (.sl (a0.map cS105))), (10, .d (.lit (.int .i64 (a0.length : Int)))), (11, .d (.lit (.int .i64 v18))), (15, .d (.lit (.bool v55)))] [(5, some (.box [.d (.lit (.int .i64 x52.Start)), .d (.lit (.int .i64 x52.Commit)), .d (.sl (x52.Reads.map cS)), .d (.sl (x52.Writes.map cS))]))]) ?_ ?_
        · clear h; have h := hj; clear hj
          refine Chain.runK [] 5 fun K hK => ?_; simp; refine hK _ _ ?_; clear hK K
          refine Chain.sub (S' := mk 50 [] [(3, .d (.lit (.int .i64 v17))), (5, .ptr 5 0 0), (9, .d (.sl (a0.map cS105))), (10, .d (.lit (.int .i64 (a0.length : Int)))), (11, .d (.lit (.int .i64 v18))), (20, .d (.lit (.bool (decide ((x52.Reads.length : Int) > 12)))))] [(5, some (.box [.d (.lit (.int .i64 x52.Start)), .d (.lit (.int .i64 x52.Commit)), .d (.sl (x52.Reads.map cS)), .d (.sl (x52.Writes.map cS))]))]) (Sub.table (by simp) (by simp)) ?_
          replace h := isome h; rcases h with ⟨c56, h⟩ | ⟨c56, h⟩
          · have c56_ : decide ((x52.Reads.length : Int) > 12) = true := decide_eq_true c56
            refine Chain.sub (Sub.bool 20 (b := decide ((x52.Reads.length : Int) > 12)) rfl c56_) ?_
            refine Chain.sub (S' := mk 50 [] [(3, .d (.lit (.int .i64 v17))), (5, .ptr 5 0 0), (9, .d (.sl (a0.map cS105))), (10, .d (.lit (.int .i64 (a0.length : Int)))), (11, .d (.lit (.int .i64 v18))), (20, .d (.lit (.bool true)))] [(5, some (.box [.d (.lit (.int .i64 x52.Start)), .d (.lit (.int .i64 x52.Commit)), .d (.sl (x52.Reads.map cS)), .d (.sl (x52.Writes.map cS))]))]) (by simp; exact Sub.table (by simp) (by simp)) ?_
            refine Chain.runK [] 6 fun K hK => ?_; simp; refine hK _ _ ?_; clear hK K
            refine Chain.sub (S' := mk 50 [] [(3, .d (.lit (.int .i64 v17))), (5, .ptr 5 0 0), (9, .d (.sl (a0.map cS105))), (10, .d (.lit (.int .i64 (a0.length : Int)))), (11, .d (.lit (.int .i64 v18))), (15, .d (.lit (.bool true))), (21, .tup []), (22, .tup []), (23, .tup []), (24, .tup [])] [(5, some (.box [.d (.lit (.int .i64 x52.Start)), .d (.lit (.int .i64 x52.Commit)), .d (.sl (x52.Reads.map cS)), .d (.sl (x52.Writes.map cS))]))]) (Sub.table (by simp) (by simp)) ?_
            cases h
            exact Chain.nil (Sub.table (by simp) (by simp))
          · have c56_ : decide ((x52.Reads.length : Int) > 12) = false := decide_eq_false c56
            refine Chain.sub (Sub.bool 20 (b := decide ((x52.Reads.length : Int) > 12)) rfl c56_) ?_
            refine Chain.sub (S' := mk 50 [] [(3, .d (.lit (.int .i64 v17))), (5, .ptr 5 0 0), (9, .d (.sl (a0.map cS105))), (10, .d (.lit (.int .i64 (a0.length : Int)))), (11, .d (.lit (.int .i64 v18))), (20, .d (.lit (.bool false)))] [(5, some (.box [.d (.lit (.int .i64 x52.Start)), .d (.lit (.int .i64 x52.Commit)), .d (.sl (x52.Reads.map cS)), .d (.sl (x52.Writes.map cS))]))]) (by simp; exact Sub.table (by simp) (by simp)) ?_
            refine Chain.runK [] 6 fun K hK => ?_; simp; refine hK _ _ ?_; clear hK K
            refine Chain.sub (S' := mk 50 [] [(3, .d (.lit (.int .i64 v17))), (5, .ptr 5 0 0), (9, .d (.sl (a0.map cS105))), (10, .d (.lit (.int .i64 (a0.length : Int)))), (11, .d (.lit (.int .i64 v18))), (15, .d (.lit (.bool (decide ((x52.Writes.length : Int) > 12))))), (21, .ptr 5 0 3), (22, .d (.sl (x52.Writes.map cS))), (23, .d (.lit (.int .i64 (x52.Writes.length : Int)))), (24, .d (.lit (.bool (decide ((x52.Writes.length : Int) > 12)))))] [(5, some (.box [.d (.lit (.int .i64 x52.Start)), .d (.lit (.int .i64 x52.Commit)), .d (.sl (x52.Reads.map cS)), .d (.sl (x52.Writes.map cS))]))]) (Sub.table (by simp) (by simp)) ?_
            cases h
            exact Chain.nil (Sub.table (by simp) (by simp))
        · clear hj
          replace h := isome h; rcases h with ⟨c57, h⟩ | ⟨c57, h⟩
          · have c57_ : v55 = true := c57
            refine AW.condT (b := v55) rfl c57_ ?_
            refine AW.sub (Sub.bool 15 (b := v55) rfl c57_) ?_
            refine AW.sub (S' := mk 50 [] [(3, .d (.lit (.int .i64 v17))), (5, .ptr 5 0 0), (9, .d (.sl (a0.map cS105))), (10, .d (.lit (.int .i64 (a0.length : Int)))), (11, .d (.lit (.int .i64 v18))), (15, .d (.lit (.bool true)))] [(5, some (.box [.d (.lit (.int .i64 x52.Start)), .d (.lit (.int .i64 x52.Commit)), .d (.sl (x52.Reads.map cS)), .d (.sl (x52.Writes.map cS))]))]) (by simp; exact Sub.table (by simp) (by simp)) ?_
            refine AW.seqR ?_
            refine Chain.runK [] 1 fun K hK => ?_; simp; refine hK _ _ ?_; clear hK K
            refine Chain.sub (S' := mk 50 [] [(2, .d (.lit (.int .i64 2)))] []) (Sub.table (by simp) (by simp)) ?_
            refine Chain.nil ?_
            refine AW.ret ?_
            cases h
            refine blockQ.ret ?_
            refine thenQ_pass (by simp) ?_
            refine blockQ.ret ?_
            refine thenQ_pass (by simp) ?_
            refine PostI.out (by simp) ?_
            rintro rfl
            refine blockQ.ret ?_
            refine PostJ.out (by simp) ?_
            rintro rfl
            refine thenQ_pass (by simp) ?_
            exact FinC.ret (by simp) (by simp)
          · have c57_ : v55 = false := Bool.eq_false_iff.2 c57
            refine AW.condF (b := v55) rfl c57_ ?_
            refine AW.sub (Sub.bool 15 (b := v55) rfl c57_) ?_
            refine AW.sub (S' := mk 50 [] [(3, .d (.lit (.int .i64 v17))), (5, .ptr 5 0 0), (9, .d (.sl (a0.map cS105))), (10, .d (.lit (.int .i64 (a0.length : Int)))), (11, .d (.lit (.int .i64 v18))), (15, .d (.lit (.bool false)))] [(5, some (.box [.d (.lit (.int .i64 x52.Start)), .d (.lit (.int .i64 x52.Commit)), .d (.sl (x52.Reads.map cS)), .d (.sl (x52.Writes.map cS))]))]) (by simp; exact Sub.table (by simp) (by simp)) ?_
            replace h := bsome h; obtain ⟨v60, hj, h⟩ := h
            refine AW.cutR (mk 50 [] [(3, .d (.lit (.int .i64 v17))), (5, .ptr 5 0 0), (9, .d (.sl (a0.map cS105))), (10, .d (.lit (.int .i64 (a0.length : Int)))), (11, .d (.lit (.int .i64 v18))), (26, .d (.lit (.bool v60)))] [(5, some (.box [.d (.lit (.int .i64 x52.Start)), .d (.lit (.int .i64 x52.Commit)), .d (.sl (x52.Reads.map cS)), .d (.sl (x52.Writes.map cS))]))]) ?_ ?_
            · clear h; have h := hj; clear hj
              refine Chain.runK [] 4 fun K hK => ?_; simp; refine hK _ _ ?_; clear hK K
              refine Chain.sub (S' := mk 50 [] [(3, .d (.lit (.int .i64 v17))), (5, .ptr 5 0 0), (9, .d (.sl (a0.map cS105))), (10, .d (.lit (.int .i64 (a0.length : Int)))), (11, .d (.lit (.int .i64 v18))), (30, .d (.lit (.bool (decide (x52.Start < 0)))))] [(5, some (.box [.d (.lit (.int .i64 x52.Start)), .d (.lit (.int .i64 x52.Commit)), .d (.sl (x52.Reads.map cS)), .d (.sl (x52.Writes.map cS))]))]) (Sub.table (by simp) (by simp)) ?_
              replace h := isome h; rcases h with ⟨c61, h⟩ | ⟨c61, h⟩
              · have c61_ : decide (x52.Start < 0) = true := decide_eq_true c61
                refine Chain.sub (Sub.bool 30 (b := decide (x52.Start < 0)) rfl c61_) ?_
                refine Chain.sub (S' := mk 50 [] [(3, .d (.lit (.int .i64 v17))), (5, .ptr 5 0 0), (9, .d (.sl (a0.map cS105))), (10, .d (.lit (.int .i64 (a0.length : Int)))), (11, .d (.lit (.int .i64 v18))), (30, .d (.lit (.bool true)))] [(5, some (.box [.d (.lit (.int .i64 x52.Start)), .d (.lit (.int .i64 x52.Commit)), .d (.sl (x52.Reads.map cS)), .d (.sl (x52.Writes.map cS))]))]) (by simp; exact Sub.table (by simp) (by simp)) ?_
                refine Chain.runK [] 12 fun K hK => ?_; simp; refine hK _ _ ?_; clear hK K
                refine Chain.sub (S' := mk 50 [] [(3, .d (.lit (.int .i64 v17))), (5, .ptr 5 0 0), (9, .d (.sl (a0.map cS105))), (10, .d (.lit (.int .i64 (a0.length : Int)))), (11, .d (.lit (.int .i64 v18))), (26, .d (.lit (.bool true))), (31, .tup []), (32, .tup []), (33, .tup []), (36, .tup []), (37, .tup []), (38, .tup []), (39, .tup []), (40, .tup [])] [(5, some (.box [.d (.lit (.int .i64 x52.Start)), .d (.lit (.int .i64 x52.Commit)), .d (.sl (x52.Reads.map cS)), .d (.sl (x52.Writes.map cS))]))]) (Sub.table (by simp) (by simp)) ?_
                cases h
                exact Chain.nil (Sub.table (by simp) (by simp))
              · have c61_ : decide (x52.Start < 0) = false := decide_eq_false c61
                refine Chain.sub (Sub.bool 30 (b := decide (x52.Start < 0)) rfl c61_) ?_
                refine Chain.sub (S' := mk 50 [] [(3, .d (.lit (.int .i64 v17))), (5, .ptr 5 0 0), (9, .d (.sl (a0.map cS105))), (10, .d (.lit (.int .i64 (a0.length : Int)))), (11, .d (.lit (.int .i64 v18))), (30, .d (.lit (.bool false)))] [(5, some (.box [.d (.lit (.int .i64 x52.Start)), .d (.lit (.int .i64 x52.Commit)), .d (.sl (x52.Reads.map cS)), .d (.sl (x52.Writes.map cS))]))]) (by simp; exact Sub.table (by simp) (by simp)) ?_
                refine Chain.runK [] 5 fun K hK => ?_; simp; refine hK _ _ ?_; clear hK K
                refine Chain.sub (S' := mk 50 [] [(3, .d (.lit (.int .i64 v17))), (5, .ptr 5 0 0), (9, .d (.sl (a0.map cS105))), (10, .d (.lit (.int .i64 (a0.length : Int)))), (11, .d (.lit (.int .i64 v18))), (31, .ptr 5 0 1), (32, .d (.lit (.int .i64 x52.Commit))), (33, .d (.lit (.bool (decide (x52.Commit > 1099511627776))))), (35, .d (.lit (.bool (decide (x52.Commit > 1099511627776)))))] [(5, some (.box [.d (.lit (.int .i64 x52.Start)), .d (.lit (.int .i64 x52.Commit)), .d (.sl (x52.Reads.map cS)), .d (.sl (x52.Writes.map cS))]))]) (Sub.table (by simp) (by simp)) ?_
                replace h := isome h; rcases h with ⟨c62, h⟩ | ⟨c62, h⟩
                · have c62_ : decide (x52.Commit > 1099511627776) = true := decide_eq_true c62
                  refine Chain.sub (Sub.bool 33 (b := decide (x52.Commit > 1099511627776)) rfl c62_) ?_
                  refine Chain.sub (Sub.bool 35 (b := decide (x52.Commit > 1099511627776)) rfl c62_) ?_
                  refine Chain.sub (S' := mk 50 [] [(3, .d (.lit (.int .i64 v17))), (5, .ptr 5 0 0), (9, .d (.sl (a0.map cS105))), (10, .d (.lit (.int .i64 (a0.length : Int)))), (11, .d (.lit (.int .i64 v18))), (31, .ptr 5 0 1), (32, .d (.lit (.int .i64 x52.Commit))), (33, .d (.lit (.bool true))), (35, .d (.lit (.bool true)))] [(5, some (.box [.d (.lit (.int .i64 x52.Start)), .d (.lit (.int .i64 x52.Commit)), .d (.sl (x52.Reads.map cS)), .d (.sl (x52.Writes.map cS))]))]) (by simp; exact Sub.table (by simp) (by simp)) ?_
                  refine Chain.runK [] 7 fun K hK => ?_; simp; refine hK _ _ ?_; clear hK K
                  refine Chain.sub (S' := mk 50 [] [(3, .d (.lit (.int .i64 v17))), (5, .ptr 5 0 0), (9, .d (.sl (a0.map cS105))), (10, .d (.lit (.int .i64 (a0.length : Int)))), (11, .d (.lit (.int .i64 v18))), (26, .d (.lit (.bool true))), (31, .ptr 5 0 1), (32, .d (.lit (.int .i64 x52.Commit))), (33, .d (.lit (.bool true))), (36, .tup []), (37, .tup []), (38, .tup []), (39, .tup []), (40, .tup [])] [(5, some (.box [.d (.lit (.int .i64 x52.Start)), .d (.lit (.int .i64 x52.Commit)), .d (.sl (x52.Reads.map cS)), .d (.sl (x52.Writes.map cS))]))]) (Sub.table (by simp) (by simp)) ?_
                  cases h
                  exact Chain.nil (Sub.table (by simp) (by simp))
                · have c62_ : decide (x52.Commit > 1099511627776) = false := decide_eq_false c62
                  refine Chain.sub (Sub.bool 33 (b := decide (x52.Commit > 1099511627776)) rfl c62_) ?_
                  refine Chain.sub (Sub.bool 35 (b := decide (x52.Commit > 1099511627776)) rfl c62_) ?_
                  refine Chain.sub (S' := mk 50 [] [(3, .d (.lit (.int .i64 v17))), (5, .ptr 5 0 0), (9, .d (.sl (a0.map cS105))), (10, .d (.lit (.int .i64 (a0.length : Int)))), (11, .d (.lit (.int .i64 v18))), (31, .ptr 5 0 1), (32, .d (.lit (.int .i64 x52.Commit))), (33, .d (.lit (.bool false))), (35, .d (.lit (.bool false)))] [(5, some (.box [.d (.lit (.int .i64 x52.Start)), .d (.lit (.int .i64 x52.Commit)), .d (.sl (x52.Reads.map cS)), .d (.sl (x52.Writes.map cS))]))]) (by simp; exact Sub.table (by simp) (by simp)) ?_
                  refine Chain.runK [] 7 fun K hK => ?_; simp; refine hK _ _ ?_; clear hK K
                  refine Chain.sub (S' := mk 50 [] [(3, .d (.lit (.int .i64 v17))), (5, .ptr 5 0 0), (9, .d (.sl (a0.map cS105))), (10, .d (.lit (.int .i64 (a0.length : Int)))), (11, .d (.lit (.int .i64 v18))), (26, .d (.lit (.bool (decide (x52.Commit ≤ x52.Start))))), (31, .ptr 5 0 1), (32, .d (.lit (.int .i64 x52.Commit))), (33, .d (.lit (.bool false))), (36, .ptr 5 0 1), (37, .d (.lit (.int .i64 x52.Commit))), (38, .ptr 5 0 0), (39, .d (.lit (.int .i64 x52.Start))), (40, .d (.lit (.bool (decide (x52.Commit ≤ x52.Start)))))] [(5, some (.box [.d (.lit (.int .i64 x52.Start)), .d (.lit (.int .i64 x52.Commit)), .d (.sl (x52.Reads.map cS)), .d (.sl (x52.Writes.map cS))]))]) (Sub.table (by simp) (by simp)) ?_
                  cases h
                  exact Chain.nil (Sub.table (by simp) (by simp))
            · clear hj
              replace h := isome h; rcases h with ⟨c63, h⟩ | ⟨c63, h⟩
              · have c63_ : v60 = true := c63
                refine AW.condT (b := v60) rfl c63_ ?_
                refine AW.sub (Sub.bool 26 (b := v60) rfl c63_) ?_
                refine AW.sub (S' := mk 50 [] [(3, .d (.lit (.int .i64 v17))), (5, .ptr 5 0 0), (9, .d (.sl (a0.map cS105))), (10, .d (.lit (.int .i64 (a0.length : Int)))), (11, .d (.lit (.int .i64 v18))), (26, .d (.lit (.bool true)))] [(5, some (.box [.d (.lit (.int .i64 x52.Start)), .d (.lit (.int .i64 x52.Commit)), .d (.sl (x52.Reads.map cS)), .d (.sl (x52.Writes.map cS))]))]) (by simp; exact Sub.table (by simp) (by simp)) ?_
                refine AW.seqR ?_
                refine Chain.runK [] 1 fun K hK => ?_; simp; refine hK _ _ ?_; clear hK K
                refine Chain.sub (S' := mk 50 [] [(2, .d (.lit (.int .i64 1)))] []) (Sub.table (by simp) (by simp)) ?_
                refine Chain.nil ?_
                refine AW.ret ?_
                cases h
                refine blockQ.ret ?_
                refine thenQ_pass (by simp) ?_
                refine blockQ.ret ?_
                refine thenQ_pass (by simp) ?_
                refine PostI.out (by simp) ?_
                rintro rfl
                refine blockQ.ret ?_
                refine PostJ.out (by simp) ?_
                rintro rfl
                refine thenQ_pass (by simp) ?_
                exact FinC.ret (by simp) (by simp)
              · have c63_ : v60 = false := Bool.eq_false_iff.2 c63
                refine AW.condF (b := v60) rfl c63_ ?_
                refine AW.sub (Sub.bool 26 (b := v60) rfl c63_) ?_
                refine AW.sub (S' := mk 50 [] [(3, .d (.lit (.int .i64 v17))), (5, .ptr 5 0 0), (9, .d (.sl (a0.map cS105))), (10, .d (.lit (.int .i64 (a0.length : Int)))), (11, .d (.lit (.int .i64 v18))), (26, .d (.lit (.bool false)))] [(5, some (.box [.d (.lit (.int .i64 x52.Start)), .d (.lit (.int .i64 x52.Commit)), .d (.sl (x52.Reads.map cS)), .d (.sl (x52.Writes.map cS))]))]) (by simp; exact Sub.table (by simp) (by simp)) ?_
                refine AW.seqR ?_
                refine Chain.runK [] 5 fun K hK => ?_; simp; refine hK _ _ ?_; clear hK K
                refine Chain.sub (S' := mk 50 [] [(5, .ptr 5 0 0), (9, .d (.sl (a0.map cS105))), (10, .d (.lit (.int .i64 (a0.length : Int)))), (11, .d (.lit (.int .i64 v18))), (42, .d (.lit (.bool (decide (x52.Commit ≤ v17)))))] [(5, some (.box [.d (.lit (.int .i64 x52.Start)), .d (.lit (.int .i64 x52.Commit)), .d (.sl (x52.Reads.map cS)), .d (.sl (x52.Writes.map cS))]))]) (Sub.table (by simp) (by simp)) ?_
                refine Chain.nil ?_
                replace h := isome h; rcases h with ⟨c64, h⟩ | ⟨c64, h⟩
                · have c64_ : decide (x52.Commit ≤ v17) = true := decide_eq_true c64
                  refine AW.condT (b := decide (x52.Commit ≤ v17)) rfl c64_ ?_
                  refine AW.sub (Sub.bool 42 (b := decide (x52.Commit ≤ v17)) rfl c64_) ?_
                  refine AW.sub (S' := mk 50 [] [(5, .ptr 5 0 0), (9, .d (.sl (a0.map cS105))), (10, .d (.lit (.int .i64 (a0.length : Int)))), (11, .d (.lit (.int .i64 v18))), (42, .d (.lit (.bool true)))] [(5, some (.box [.d (.lit (.int .i64 x52.Start)), .d (.lit (.int .i64 x52.Commit)), .d (.sl (x52.Reads.map cS)), .d (.sl (x52.Writes.map cS))]))]) (by simp; exact Sub.table (by simp) (by simp)) ?_
                  refine AW.seqR ?_
                  refine Chain.runK [] 1 fun K hK => ?_; simp; refine hK _ _ ?_; clear hK K
                  refine Chain.sub (S' := mk 50 [] [(2, .d (.lit (.int .i64 6)))] []) (Sub.table (by simp) (by simp)) ?_
                  refine Chain.nil ?_
                  refine AW.ret ?_
                  cases h
                  refine blockQ.ret ?_
                  refine thenQ_pass (by simp) ?_
                  refine blockQ.ret ?_
                  refine thenQ_pass (by simp) ?_
                  refine PostI.out (by simp) ?_
                  rintro rfl
                  refine blockQ.ret ?_
                  refine PostJ.out (by simp) ?_
                  rintro rfl
                  refine thenQ_pass (by simp) ?_
                  exact FinC.ret (by simp) (by simp)
                · have c64_ : decide (x52.Commit ≤ v17) = false := decide_eq_false c64
                  refine AW.condF (b := decide (x52.Commit ≤ v17)) rfl c64_ ?_
                  refine AW.sub (Sub.bool 42 (b := decide (x52.Commit ≤ v17)) rfl c64_) ?_
                  refine AW.sub (S' := mk 50 [] [(5, .ptr 5 0 0), (9, .d (.sl (a0.map cS105))), (10, .d (.lit (.int .i64 (a0.length : Int)))), (11, .d (.lit (.int .i64 v18))), (42, .d (.lit (.bool false)))] [(5, some (.box [.d (.lit (.int .i64 x52.Start)), .d (.lit (.int .i64 x52.Commit)), .d (.sl (x52.Reads.map cS)), .d (.sl (x52.Writes.map cS))]))]) (by simp; exact Sub.table (by simp) (by simp)) ?_
                  refine AW.skip ?_
                  refine blockQ.normal ?_
                  refine thenQ_normal ?_
                  refine AW.region ?_
                  refine Chain.runK [] 3 fun K hK => ?_; simp; refine hK _ _ ?_; clear hK K
                  refine Chain.sub (S' := mk 50 [] [(3, .d (.lit (.int .i64 x52.Commit))), (9, .d (.sl (a0.map cS105))), (10, .d (.lit (.int .i64 (a0.length : Int)))), (11, .d (.lit (.int .i64 v18)))] []) (Sub.table (by simp) (by simp)) ?_
                  refine Chain.nil ?_
                  refine blockQ.normal ?_
                  refine thenQ_normal ?_
                  refine AW.region ?_
                  replace h := bsome h; obtain ⟨v65, hv65, h⟩ := h
                  have hv65 := chkI_some hv65
                  refine Chain.runK [] 2 fun K hK => ?_; simp [hv65]; refine hK _ _ ?_; clear hK K
                  refine Chain.sub (S' := mk 50 [] [(3, .d (.lit (.int .i64 x52.Commit))), (9, .d (.sl (a0.map cS105))), (10, .d (.lit (.int .i64 (a0.length : Int)))), (11, .d (.lit (.int .i64 v65)))] []) (Sub.table (by simp) (by simp)) ?_
                  refine Chain.nil ?_
                  cases h
                  refine PostI.next ?_
                  exact (Sub.table (by simp) (by simp))
      · have c51_ : decide (v18 < (a0.length : Int)) = false := decide_eq_false c51
        refine AW.condF (b := decide (v18 < (a0.length : Int))) rfl c51_ ?_
        refine AW.sub (Sub.bool 12 (b := decide (v18 < (a0.length : Int))) rfl c51_) ?_
        refine AW.sub (S' := mk 50 [] [(3, .d (.lit (.int .i64 v17))), (9, .d (.sl (a0.map cS105))), (10, .d (.lit (.int .i64 (a0.length : Int)))), (11, .d (.lit (.int .i64 v18))), (12, .d (.lit (.bool false)))] []) (by simp; exact Sub.table (by simp) (by simp)) ?_
        refine AW.exit ?_
        cases h
        refine thenQ_pass (by simp) ?_
        refine PostI.out (by simp) ?_
        rintro rfl
        refine blockQ.hit ?_
        refine PostJ.next ?_
        exact (Sub.table (by simp) (by simp))
    · rintro ⟨⟩ h
      refine thenQ_normal ?_
      refine AW.seqR ?_
      refine Chain.runK [] 1 fun K hK => ?_; simp; refine hK _ _ ?_; clear hK K
      refine Chain.sub (S' := mk 50 [] [(2, .d (.lit (.int .i64 0)))] []) (Sub.table (by simp) (by simp)) ?_
      refine Chain.nil ?_
      refine AW.ret ?_
      cases h
      exact FinC.ret (by simp) (by simp)

/-- (stemma/stemref5.Tx).Concurrent -/
def d68 (N : Nat) (a0 : S105) (a1 : S105) : Option Bool :=
  Option.bind (α := Bool) (
    if (!decide (a0.Commit ≤ a1.Start)) = true then (
      some (!decide (a1.Commit ≤ a0.Start))
    ) else
    some false
  ) fun (v2 : Bool) =>
  some v2
set_option maxRecDepth 100000 in
set_option maxHeartbeats 4000000 in
theorem p68 (N : Nat) (a0 : S105) (a1 : S105) (r : Bool) (h : d68 N a0 a1 = some r) : FunC Try.prog 68 [.agg [.d (.lit (.int .i64 a0.Start)), .d (.lit (.int .i64 a0.Commit)), .d (.sl (a0.Reads.map cS)), .d (.sl (a0.Writes.map cS))], .agg [.d (.lit (.int .i64 a1.Start)), .d (.lit (.int .i64 a1.Commit)), .d (.sl (a1.Reads.map cS)), .d (.sl (a1.Writes.map cS))]] (.d (.lit (.bool r))) := by
  unfold d68 at h
  refine FunC.enter 19 [(0, .agg [.d (.lit (.int .i64 a0.Start)), .d (.lit (.int .i64 a0.Commit)), .d (.sl (a0.Reads.map cS)), .d (.sl (a0.Writes.map cS))]), (1, .agg [.d (.lit (.int .i64 a1.Start)), .d (.lit (.int .i64 a1.Commit)), .d (.sl (a1.Reads.map cS)), .d (.sl (a1.Writes.map cS))])] (by simp) Try.func68 rfl (of_decide_eq_true rfl) rfl rfl ?_
  refine AW.seqR ?_
  refine Chain.runK [] 3 fun K hK => ?_; simp; refine hK _ _ ?_; clear hK K
  refine Chain.sub (S' := mk 19 [] [(2, .ptr 2 0 0), (3, .ptr 3 0 0)] [(2, some (.box [.d (.lit (.int .i64 a0.Start)), .d (.lit (.int .i64 a0.Commit)), .d (.sl (a0.Reads.map cS)), .d (.sl (a0.Writes.map cS))])), (3, some (.box [.d (.lit (.int .i64 a1.Start)), .d (.lit (.int .i64 a1.Commit)), .d (.sl (a1.Reads.map cS)), .d (.sl (a1.Writes.map cS))]))]) (Sub.table (by simp) (by simp)) ?_
  refine Chain.nil ?_
  replace h := bsome h; obtain ⟨v2, hj, h⟩ := h
  refine AW.cutR (mk 19 [] [(4, .d (.lit (.bool v2)))] []) ?_ ?_
  · clear h; have h := hj; clear hj
    refine Chain.runK [] 7 fun K hK => ?_; simp; refine hK _ _ ?_; clear hK K
    refine Chain.sub (S' := mk 19 [] [(2, .ptr 2 0 0), (3, .ptr 3 0 0), (11, .d (.lit (.bool (!decide (a0.Commit ≤ a1.Start)))))] [(2, some (.box [.d (.lit (.int .i64 a0.Start)), .d (.lit (.int .i64 a0.Commit)), .d (.sl (a0.Reads.map cS)), .d (.sl (a0.Writes.map cS))])), (3, some (.box [.d (.lit (.int .i64 a1.Start)), .d (.lit (.int .i64 a1.Commit)), .d (.sl (a1.Reads.map cS)), .d (.sl (a1.Writes.map cS))]))]) (Sub.table (by simp) (by simp)) ?_
    replace h := isome h; rcases h with ⟨c3, h⟩ | ⟨c3, h⟩
    · have c3_ : (!decide (a0.Commit ≤ a1.Start)) = true := c3
      refine Chain.sub (Sub.bool 11 (b := (!decide (a0.Commit ≤ a1.Start))) rfl c3_) ?_
      refine Chain.sub (S' := mk 19 [] [(2, .ptr 2 0 0), (3, .ptr 3 0 0), (11, .d (.lit (.bool true)))] [(2, some (.box [.d (.lit (.int .i64 a0.Start)), .d (.lit (.int .i64 a0.Commit)), .d (.sl (a0.Reads.map cS)), .d (.sl (a0.Writes.map cS))])), (3, some (.box [.d (.lit (.int .i64 a1.Start)), .d (.lit (.int .i64 a1.Commit)), .d (.sl (a1.Reads.map cS)), .d (.sl (a1.Writes.map cS))]))]) (by simp; exact Sub.table (by simp) (by simp)) ?_
      refine Chain.runK [] 8 fun K hK => ?_; simp; refine hK _ _ ?_; clear hK K
      refine Chain.sub (S' := mk 19 [] [(4, .d (.lit (.bool (!decide (a1.Commit ≤ a0.Start)))))] []) (Sub.table (by simp) (by simp)) ?_
      cases h
      exact Chain.nil (Sub.table (by simp) (by simp))
    · have c3_ : (!decide (a0.Commit ≤ a1.Start)) = false := Bool.eq_false_iff.2 c3
      refine Chain.sub (Sub.bool 11 (b := (!decide (a0.Commit ≤ a1.Start))) rfl c3_) ?_
      refine Chain.sub (S' := mk 19 [] [(2, .ptr 2 0 0), (3, .ptr 3 0 0), (11, .d (.lit (.bool false)))] [(2, some (.box [.d (.lit (.int .i64 a0.Start)), .d (.lit (.int .i64 a0.Commit)), .d (.sl (a0.Reads.map cS)), .d (.sl (a0.Writes.map cS))])), (3, some (.box [.d (.lit (.int .i64 a1.Start)), .d (.lit (.int .i64 a1.Commit)), .d (.sl (a1.Reads.map cS)), .d (.sl (a1.Writes.map cS))]))]) (by simp; exact Sub.table (by simp) (by simp)) ?_
      refine Chain.runK [] 8 fun K hK => ?_; simp; refine hK _ _ ?_; clear hK K
      refine Chain.sub (S' := mk 19 [] [(4, .d (.lit (.bool false)))] []) (Sub.table (by simp) (by simp)) ?_
      cases h
      exact Chain.nil (Sub.table (by simp) (by simp))
  · clear hj
    refine AW.ret ?_
    cases h
    exact FinC.ret (by simp) (by simp)

/-- stemma/stemref5.overlap -/
def d69 (N : Nat) (a0 : (List ByteArray)) (a1 : (List ByteArray)) : Option Bool :=
  Option.bind (α := List (ByteArray × Bool)) (
    iterN (σ := ((List (ByteArray × Bool)) × Int)) (ρ := List (ByteArray × Bool)) (fun ((m5, v6) : ((List (ByteArray × Bool)) × Int)) =>
      if v6 < (a0.length : Int) then (
        (idx a0 v6).bind fun x19 =>
        (chkI (v6 + 1)).bind fun v21 =>
        some (.inl ((mput m5 x19 true), v21))
      ) else
      some (.inr m5)
    ) N (([] : List (ByteArray × Bool)), 0)
  ) fun (m17 : List (ByteArray × Bool)) =>
  bindO (β := Unit) (ρ := Bool) (
    iterN (σ := Int) (ρ := (Out Unit Bool)) (fun (v28 : Int) =>
      if v28 < (a1.length : Int) then (
        (idx a1 v28).bind fun x43 =>
        letv ((mget m17 x43).getD false) fun v45 =>
        if v45 = true then (
          some (.inr (.ret true))
        ) else
        (chkI (v28 + 1)).bind fun v47 =>
        some (.inl v47)
      ) else
      some (.inr (.go ()))
    ) N 0
  ) fun (_ : Unit) =>
  some false
set_option maxRecDepth 100000 in
set_option maxHeartbeats 4000000 in
theorem p69 (N : Nat) (a0 : (List ByteArray)) (a1 : (List ByteArray)) (r : Bool) (h : d69 N a0 a1 = some r) : FunC Try.prog 69 [.d (.sl (a0.map cS)), .d (.sl (a1.map cS))] (.d (.lit (.bool r))) := by
  unfold d69 at h
  refine FunC.enter 30 [(0, .d (.sl (a0.map cS))), (1, .d (.sl (a1.map cS)))] (by simp) Try.func69 rfl (of_decide_eq_true rfl) rfl rfl ?_
  refine AW.seqR ?_
  refine Chain.runK [] 1 fun K hK => ?_; simp; refine hK _ _ ?_; clear hK K
  refine Chain.sub (S' := mk 30 [] [(0, .d (.sl (a0.map cS))), (1, .d (.sl (a1.map cS)))] []) (Sub.table (by simp) (by simp)) ?_
  refine Chain.nil ?_
  refine AW.seqR ?_
  refine Chain.mmake .string (by simp) rfl rfl (by simp) ?_
  refine Chain.sub (S' := mk 30 [] [(0, .d (.sl (a0.map cS))), (1, .d (.sl (a1.map cS))), (10, .mref 10)] [(10, some (.mp .string (encM MKey.sk vB ([] : List (ByteArray × Bool)))))]) (by simp; exact Sub.table (by simp) (by simp [encM_nil])) ?_
  refine Chain.runK [] 1 fun K hK => ?_; simp; refine hK _ _ ?_; clear hK K
  refine Chain.sub (S' := mk 30 [] [(0, .d (.sl (a0.map cS))), (1, .d (.sl (a1.map cS))), (5, .mref 10)] [(10, some (.mp .string (encM MKey.sk vB ([] : List (ByteArray × Bool)))))]) (Sub.table (by simp) (by simp)) ?_
  refine Chain.nil ?_
  refine AW.seq ?_
  refine AW.seqR ?_
  refine Chain.runK [] 3 fun K hK => ?_; simp; refine hK _ _ ?_; clear hK K
  refine Chain.sub (S' := mk 30 [] [(1, .d (.sl (a1.map cS))), (5, .mref 10), (11, .d (.sl (a0.map cS))), (12, .d (.lit (.int .i64 (a0.length : Int)))), (13, .d (.lit (.int .i64 0)))] [(10, some (.mp .string (encM MKey.sk vB ([] : List (ByteArray × Bool)))))]) (Sub.table (by simp) (by simp)) ?_
  refine Chain.nil ?_
  refine AW.lastN (fun (m17 : List (ByteArray × Bool)) => mk 30 [] [(1, .d (.sl (a1.map cS))), (5, .mref 10)] [(10, some (.mp .string (encM MKey.sk vB m17)))]) h ?_ ?_ <;> clear h
  · intro o h
    refine AW.block ?_
    refine AW.iter (fun ((m5, v6) : ((List (ByteArray × Bool)) × Int)) => mk 30 [] [(1, .d (.sl (a1.map cS))), (5, .mref 10), (11, .d (.sl (a0.map cS))), (12, .d (.lit (.int .i64 (a0.length : Int)))), (13, .d (.lit (.int .i64 v6)))] [(10, some (.mp .string (encM MKey.sk vB m5)))]) h (Sub.table (by simp) (by simp)) ?_
    clear h
    rintro ⟨m5, v6⟩ x h
    dsimp only at h ⊢
    refine AW.seqR ?_
    refine Chain.runK [] 1 fun K hK => ?_; simp; refine hK _ _ ?_; clear hK K
    refine Chain.sub (S' := mk 30 [] [(1, .d (.sl (a1.map cS))), (5, .mref 10), (11, .d (.sl (a0.map cS))), (12, .d (.lit (.int .i64 (a0.length : Int)))), (13, .d (.lit (.int .i64 v6))), (14, .d (.lit (.bool (decide (v6 < (a0.length : Int))))))] [(10, some (.mp .string (encM MKey.sk vB m5)))]) (Sub.table (by simp) (by simp)) ?_
    refine Chain.nil ?_
    refine AW.seq ?_
    replace h := isome h; rcases h with ⟨c18, h⟩ | ⟨c18, h⟩
    · have c18_ : decide (v6 < (a0.length : Int)) = true := decide_eq_true c18
      refine AW.condT (b := decide (v6 < (a0.length : Int))) rfl c18_ ?_
      refine AW.sub (Sub.bool 14 (b := decide (v6 < (a0.length : Int))) rfl c18_) ?_
      refine AW.sub (S' := mk 30 [] [(1, .d (.sl (a1.map cS))), (5, .mref 10), (11, .d (.sl (a0.map cS))), (12, .d (.lit (.int .i64 (a0.length : Int)))), (13, .d (.lit (.int .i64 v6))), (14, .d (.lit (.bool true)))] [(10, some (.mp .string (encM MKey.sk vB m5)))]) (by simp; exact Sub.table (by simp) (by simp)) ?_
      refine AW.skip ?_
      refine thenQ_normal ?_
      refine AW.seq ?_
      refine AW.block ?_
      refine AW.seqR ?_
      replace h := bsome h; obtain ⟨x19, hx19, h⟩ := h
      obtain ⟨k20, hx19k, hx19, hx19a, hx19b⟩ := idx_some hx19
      refine Chain.runK [] 3 fun K hK => ?_; simp [hx19, hx19k, hx19a]; refine hK _ _ ?_; clear hK K
      refine Chain.sub (S' := mk 30 [] [(1, .d (.sl (a1.map cS))), (5, .mref 10), (7, .d (.lit (.string x19))), (11, .d (.sl (a0.map cS))), (12, .d (.lit (.int .i64 (a0.length : Int)))), (13, .d (.lit (.int .i64 v6)))] [(10, some (.mp .string (encM MKey.sk vB m5)))]) (Sub.table (by simp) (by simp)) ?_
      refine Chain.nil ?_
      refine AW.region ?_
      refine Chain.runK [] 2 fun K hK => ?_; simp; refine hK _ _ ?_; clear hK K
      refine Chain.sub (S' := mk 30 [] [(1, .d (.sl (a1.map cS))), (5, .mref 10), (11, .d (.sl (a0.map cS))), (12, .d (.lit (.int .i64 (a0.length : Int)))), (13, .d (.lit (.int .i64 v6))), (17, .mref 10), (18, .d (.lit (.string x19)))] [(10, some (.mp .string (encM MKey.sk vB m5)))]) (Sub.table (by simp) (by simp)) ?_
      refine Chain.msetE (vf := vB) sk_inj m5 x19 true (by simp) (.inl rfl) ty117 rfl ty9 rfl rfl rfl rfl rfl rfl rfl ?_
      refine Chain.sub (S' := mk 30 [] [(1, .d (.sl (a1.map cS))), (5, .mref 10), (11, .d (.sl (a0.map cS))), (12, .d (.lit (.int .i64 (a0.length : Int)))), (13, .d (.lit (.int .i64 v6))), (17, .mref 10), (18, .d (.lit (.string x19)))] [(10, some (.mp .string (encM MKey.sk vB (mput m5 x19 true))))]) (by simp; exact Sub.table (by simp) (by simp)) ?_
      refine Chain.nil ?_
      refine blockQ.normal ?_
      refine thenQ_normal ?_
      refine AW.region ?_
      replace h := bsome h; obtain ⟨v21, hv21, h⟩ := h
      have hv21 := chkI_some hv21
      refine Chain.runK [] 2 fun K hK => ?_; simp [hv21]; refine hK _ _ ?_; clear hK K
      refine Chain.sub (S' := mk 30 [] [(1, .d (.sl (a1.map cS))), (5, .mref 10), (11, .d (.sl (a0.map cS))), (12, .d (.lit (.int .i64 (a0.length : Int)))), (13, .d (.lit (.int .i64 v21)))] [(10, some (.mp .string (encM MKey.sk vB (mput m5 x19 true))))]) (Sub.table (by simp) (by simp)) ?_
      refine Chain.nil ?_
      cases h
      refine PostI.next ?_
      exact (Sub.table (by simp) (by simp))
    · have c18_ : decide (v6 < (a0.length : Int)) = false := decide_eq_false c18
      refine AW.condF (b := decide (v6 < (a0.length : Int))) rfl c18_ ?_
      refine AW.sub (Sub.bool 14 (b := decide (v6 < (a0.length : Int))) rfl c18_) ?_
      refine AW.sub (S' := mk 30 [] [(1, .d (.sl (a1.map cS))), (5, .mref 10), (11, .d (.sl (a0.map cS))), (12, .d (.lit (.int .i64 (a0.length : Int)))), (13, .d (.lit (.int .i64 v6))), (14, .d (.lit (.bool false)))] [(10, some (.mp .string (encM MKey.sk vB m5)))]) (by simp; exact Sub.table (by simp) (by simp)) ?_
      refine AW.exit ?_
      cases h
      refine thenQ_pass (by simp) ?_
      refine PostI.out (by simp) ?_
      rintro rfl
      refine blockQ.hit ?_
      refine PostN.next ?_
      exact (Sub.table (by simp) (by simp))
  · rintro m17 h
    refine thenQ_normal ?_
    refine AW.seq ?_
    refine AW.seqR ?_
    refine Chain.runK [] 3 fun K hK => ?_; simp; refine hK _ _ ?_; clear hK K
    refine Chain.sub (S' := mk 30 [] [(5, .mref 10), (20, .d (.sl (a1.map cS))), (21, .d (.lit (.int .i64 (a1.length : Int)))), (22, .d (.lit (.int .i64 0)))] [(10, some (.mp .string (encM MKey.sk vB m17)))]) (Sub.table (by simp) (by simp)) ?_
    refine Chain.nil ?_
    refine AW.lastJ (fun (_ : Unit) => mk 30 [] [] []) h ?_ ?_ <;> clear h
    · intro o h
      refine AW.block ?_
      refine AW.iter (fun (v28 : Int) => mk 30 [] [(5, .mref 10), (20, .d (.sl (a1.map cS))), (21, .d (.lit (.int .i64 (a1.length : Int)))), (22, .d (.lit (.int .i64 v28)))] [(10, some (.mp .string (encM MKey.sk vB m17)))]) h (Sub.table (by simp) (by simp)) ?_
      clear h
      rintro v28 x h
      refine AW.seqR ?_
      refine Chain.runK [] 1 fun K hK => ?_; simp; refine hK _ _ ?_; clear hK K
      refine Chain.sub (S' := mk 30 [] [(5, .mref 10), (20, .d (.sl (a1.map cS))), (21, .d (.lit (.int .i64 (a1.length : Int)))), (22, .d (.lit (.int .i64 v28))), (23, .d (.lit (.bool (decide (v28 < (a1.length : Int))))))] [(10, some (.mp .string (encM MKey.sk vB m17)))]) (Sub.table (by simp) (by simp)) ?_
      refine Chain.nil ?_
      refine AW.seq ?_
      replace h := isome h; rcases h with ⟨c42, h⟩ | ⟨c42, h⟩
      · have c42_ : decide (v28 < (a1.length : Int)) = true := decide_eq_true c42
        refine AW.condT (b := decide (v28 < (a1.length : Int))) rfl c42_ ?_
        refine AW.sub (Sub.bool 23 (b := decide (v28 < (a1.length : Int))) rfl c42_) ?_
        refine AW.sub (S' := mk 30 [] [(5, .mref 10), (20, .d (.sl (a1.map cS))), (21, .d (.lit (.int .i64 (a1.length : Int)))), (22, .d (.lit (.int .i64 v28))), (23, .d (.lit (.bool true)))] [(10, some (.mp .string (encM MKey.sk vB m17)))]) (by simp; exact Sub.table (by simp) (by simp)) ?_
        refine AW.skip ?_
        refine thenQ_normal ?_
        refine AW.seq ?_
        refine AW.block ?_
        refine AW.seqR ?_
        replace h := bsome h; obtain ⟨x43, hx43, h⟩ := h
        obtain ⟨k44, hx43k, hx43, hx43a, hx43b⟩ := idx_some hx43
        refine Chain.runK [] 3 fun K hK => ?_; simp [hx43, hx43k, hx43a]; refine hK _ _ ?_; clear hK K
        refine Chain.sub (S' := mk 30 [] [(5, .mref 10), (9, .d (.lit (.string x43))), (20, .d (.sl (a1.map cS))), (21, .d (.lit (.int .i64 (a1.length : Int)))), (22, .d (.lit (.int .i64 v28)))] [(10, some (.mp .string (encM MKey.sk vB m17)))]) (Sub.table (by simp) (by simp)) ?_
        refine Chain.nil ?_
        refine AW.seqR ?_
        refine Chain.runK [] 2 fun K hK => ?_; simp; refine hK _ _ ?_; clear hK K
        refine Chain.sub (S' := mk 30 [] [(5, .mref 10), (20, .d (.sl (a1.map cS))), (21, .d (.lit (.int .i64 (a1.length : Int)))), (22, .d (.lit (.int .i64 v28))), (26, .mref 10), (27, .d (.lit (.string x43)))] [(10, some (.mp .string (encM MKey.sk vB m17)))]) (Sub.table (by simp) (by simp)) ?_
        replace h := lsome h; obtain ⟨v45, hv45, h⟩ := h
        refine Chain.lookE (vf := vB) sk_inj m17 x43 false (by simp) rfl ty117 rfl ty9 ty4 rfl rfl rfl rfl rfl rfl rfl ?_
        refine Chain.sub (S' := mk 30 [] [(5, .mref 10), (20, .d (.sl (a1.map cS))), (21, .d (.lit (.int .i64 (a1.length : Int)))), (22, .d (.lit (.int .i64 v28))), (26, .mref 10), (27, .d (.lit (.string x43))), (28, .d (.lit (.bool v45)))] [(10, some (.mp .string (encM MKey.sk vB m17)))]) (by simp [vI, vB, vS, hv45]; exact Sub.table (by simp) (by simp)) ?_
        refine Chain.nil ?_
        replace h := isome h; rcases h with ⟨c46, h⟩ | ⟨c46, h⟩
        · have c46_ : v45 = true := c46
          refine AW.condT (b := v45) rfl c46_ ?_
          refine AW.sub (Sub.bool 28 (b := v45) rfl c46_) ?_
          refine AW.sub (S' := mk 30 [] [(5, .mref 10), (20, .d (.sl (a1.map cS))), (21, .d (.lit (.int .i64 (a1.length : Int)))), (22, .d (.lit (.int .i64 v28))), (26, .mref 10), (27, .d (.lit (.string x43))), (28, .d (.lit (.bool true)))] [(10, some (.mp .string (encM MKey.sk vB m17)))]) (by simp; exact Sub.table (by simp) (by simp)) ?_
          refine AW.seqR ?_
          refine Chain.runK [] 1 fun K hK => ?_; simp; refine hK _ _ ?_; clear hK K
          refine Chain.sub (S' := mk 30 [] [(4, .d (.lit (.bool true)))] []) (Sub.table (by simp) (by simp)) ?_
          refine Chain.nil ?_
          refine AW.ret ?_
          cases h
          refine blockQ.ret ?_
          refine thenQ_pass (by simp) ?_
          refine PostI.out (by simp) ?_
          rintro rfl
          refine blockQ.ret ?_
          refine PostJ.out (by simp) ?_
          rintro rfl
          refine thenQ_pass (by simp) ?_
          exact FinC.ret (by simp) (by simp)
        · have c46_ : v45 = false := Bool.eq_false_iff.2 c46
          refine AW.condF (b := v45) rfl c46_ ?_
          refine AW.sub (Sub.bool 28 (b := v45) rfl c46_) ?_
          refine AW.sub (S' := mk 30 [] [(5, .mref 10), (20, .d (.sl (a1.map cS))), (21, .d (.lit (.int .i64 (a1.length : Int)))), (22, .d (.lit (.int .i64 v28))), (26, .mref 10), (27, .d (.lit (.string x43))), (28, .d (.lit (.bool false)))] [(10, some (.mp .string (encM MKey.sk vB m17)))]) (by simp; exact Sub.table (by simp) (by simp)) ?_
          refine AW.skip ?_
          refine blockQ.normal ?_
          refine thenQ_normal ?_
          refine AW.region ?_
          replace h := bsome h; obtain ⟨v47, hv47, h⟩ := h
          have hv47 := chkI_some hv47
          refine Chain.runK [] 2 fun K hK => ?_; simp [hv47]; refine hK _ _ ?_; clear hK K
          refine Chain.sub (S' := mk 30 [] [(5, .mref 10), (20, .d (.sl (a1.map cS))), (21, .d (.lit (.int .i64 (a1.length : Int)))), (22, .d (.lit (.int .i64 v47)))] [(10, some (.mp .string (encM MKey.sk vB m17)))]) (Sub.table (by simp) (by simp)) ?_
          refine Chain.nil ?_
          cases h
          refine PostI.next ?_
          exact (Sub.table (by simp) (by simp))
      · have c42_ : decide (v28 < (a1.length : Int)) = false := decide_eq_false c42
        refine AW.condF (b := decide (v28 < (a1.length : Int))) rfl c42_ ?_
        refine AW.sub (Sub.bool 23 (b := decide (v28 < (a1.length : Int))) rfl c42_) ?_
        refine AW.sub (S' := mk 30 [] [(5, .mref 10), (20, .d (.sl (a1.map cS))), (21, .d (.lit (.int .i64 (a1.length : Int)))), (22, .d (.lit (.int .i64 v28))), (23, .d (.lit (.bool false)))] [(10, some (.mp .string (encM MKey.sk vB m17)))]) (by simp; exact Sub.table (by simp) (by simp)) ?_
        refine AW.exit ?_
        cases h
        refine thenQ_pass (by simp) ?_
        refine PostI.out (by simp) ?_
        rintro rfl
        refine blockQ.hit ?_
        refine PostJ.next ?_
        exact (Sub.table (by simp) (by simp))
    · rintro ⟨⟩ h
      refine thenQ_normal ?_
      refine AW.seqR ?_
      refine Chain.runK [] 1 fun K hK => ?_; simp; refine hK _ _ ?_; clear hK K
      refine Chain.sub (S' := mk 30 [] [(4, .d (.lit (.bool false)))] []) (Sub.table (by simp) (by simp)) ?_
      refine Chain.nil ?_
      refine AW.ret ?_
      cases h
      exact FinC.ret (by simp) (by simp)

/-- (stemma/stemref5.Tx).AntidependsOn -/
def d40 (N : Nat) (a0 : S105) (a1 : S105) : Option Bool :=
  Option.bind (α := Bool) (
    (d68 N a0 a1).bind fun r5 =>
    if r5 = true then (
      (d69 N a1.Writes a0.Reads).bind fun r7 =>
      some r7
    ) else
    some false
  ) fun (v4 : Bool) =>
  some v4
set_option maxRecDepth 100000 in
set_option maxHeartbeats 4000000 in
theorem p40 (N : Nat) (a0 : S105) (a1 : S105) (r : Bool) (h : d40 N a0 a1 = some r) : FunC Try.prog 40 [.agg [.d (.lit (.int .i64 a0.Start)), .d (.lit (.int .i64 a0.Commit)), .d (.sl (a0.Reads.map cS)), .d (.sl (a0.Writes.map cS))], .agg [.d (.lit (.int .i64 a1.Start)), .d (.lit (.int .i64 a1.Commit)), .d (.sl (a1.Reads.map cS)), .d (.sl (a1.Writes.map cS))]] (.d (.lit (.bool r))) := by
  unfold d40 at h
  refine FunC.enter 15 [(0, .agg [.d (.lit (.int .i64 a0.Start)), .d (.lit (.int .i64 a0.Commit)), .d (.sl (a0.Reads.map cS)), .d (.sl (a0.Writes.map cS))]), (1, .agg [.d (.lit (.int .i64 a1.Start)), .d (.lit (.int .i64 a1.Commit)), .d (.sl (a1.Reads.map cS)), .d (.sl (a1.Writes.map cS))])] (by simp) Try.func40 rfl (of_decide_eq_true rfl) rfl rfl ?_
  refine AW.seqR ?_
  refine Chain.runK [] 3 fun K hK => ?_; simp; refine hK _ _ ?_; clear hK K
  refine Chain.sub (S' := mk 15 [] [(2, .ptr 2 0 0), (3, .ptr 3 0 0)] [(2, some (.box [.d (.lit (.int .i64 a0.Start)), .d (.lit (.int .i64 a0.Commit)), .d (.sl (a0.Reads.map cS)), .d (.sl (a0.Writes.map cS))])), (3, some (.box [.d (.lit (.int .i64 a1.Start)), .d (.lit (.int .i64 a1.Commit)), .d (.sl (a1.Reads.map cS)), .d (.sl (a1.Writes.map cS))]))]) (Sub.table (by simp) (by simp)) ?_
  refine Chain.nil ?_
  replace h := bsome h; obtain ⟨v4, hj, h⟩ := h
  refine AW.cutR (mk 15 [] [(4, .d (.lit (.bool v4)))] []) ?_ ?_
  · clear h; have h := hj; clear hj
    refine Chain.runK [] 2 fun K hK => ?_; simp; refine hK _ _ ?_; clear hK K
    refine Chain.sub (S' := mk 15 [] [(2, .ptr 2 0 0), (3, .ptr 3 0 0), (5, .agg [.d (.lit (.int .i64 a0.Start)), .d (.lit (.int .i64 a0.Commit)), .d (.sl (a0.Reads.map cS)), .d (.sl (a0.Writes.map cS))]), (6, .agg [.d (.lit (.int .i64 a1.Start)), .d (.lit (.int .i64 a1.Commit)), .d (.sl (a1.Reads.map cS)), .d (.sl (a1.Writes.map cS))])] [(2, some (.box [.d (.lit (.int .i64 a0.Start)), .d (.lit (.int .i64 a0.Commit)), .d (.sl (a0.Reads.map cS)), .d (.sl (a0.Writes.map cS))])), (3, some (.box [.d (.lit (.int .i64 a1.Start)), .d (.lit (.int .i64 a1.Commit)), .d (.sl (a1.Reads.map cS)), .d (.sl (a1.Writes.map cS))]))]) (Sub.table (by simp) (by simp)) ?_
    replace h := bsome h; obtain ⟨r5, hr5, h⟩ := h
    refine Chain.callL (d := 7) (p68 N a0 a1 r5 hr5) (by simp) rfl rfl (by simp <;> rfl) (by simp <;> rfl) ent68 (by simp <;> rfl) ?_
    refine Chain.sub (S' := mk 15 [] [(2, .ptr 2 0 0), (3, .ptr 3 0 0), (5, .agg [.d (.lit (.int .i64 a0.Start)), .d (.lit (.int .i64 a0.Commit)), .d (.sl (a0.Reads.map cS)), .d (.sl (a0.Writes.map cS))]), (6, .agg [.d (.lit (.int .i64 a1.Start)), .d (.lit (.int .i64 a1.Commit)), .d (.sl (a1.Reads.map cS)), .d (.sl (a1.Writes.map cS))]), (7, .d (.lit (.bool r5)))] [(2, some (.box [.d (.lit (.int .i64 a0.Start)), .d (.lit (.int .i64 a0.Commit)), .d (.sl (a0.Reads.map cS)), .d (.sl (a0.Writes.map cS))])), (3, some (.box [.d (.lit (.int .i64 a1.Start)), .d (.lit (.int .i64 a1.Commit)), .d (.sl (a1.Reads.map cS)), .d (.sl (a1.Writes.map cS))]))]) (by simp; exact Sub.table (by simp) (by simp)) ?_
    refine Chain.runK [] 1 fun K hK => ?_; simp; refine hK _ _ ?_; clear hK K
    refine Chain.sub (S' := mk 15 [] [(2, .ptr 2 0 0), (3, .ptr 3 0 0), (8, .d (.lit (.bool r5)))] [(2, some (.box [.d (.lit (.int .i64 a0.Start)), .d (.lit (.int .i64 a0.Commit)), .d (.sl (a0.Reads.map cS)), .d (.sl (a0.Writes.map cS))])), (3, some (.box [.d (.lit (.int .i64 a1.Start)), .d (.lit (.int .i64 a1.Commit)), .d (.sl (a1.Reads.map cS)), .d (.sl (a1.Writes.map cS))]))]) (Sub.table (by simp) (by simp)) ?_
    replace h := isome h; rcases h with ⟨c6, h⟩ | ⟨c6, h⟩
    · have c6_ : r5 = true := c6
      refine Chain.sub (Sub.bool 8 (b := r5) rfl c6_) ?_
      refine Chain.sub (S' := mk 15 [] [(2, .ptr 2 0 0), (3, .ptr 3 0 0), (8, .d (.lit (.bool true)))] [(2, some (.box [.d (.lit (.int .i64 a0.Start)), .d (.lit (.int .i64 a0.Commit)), .d (.sl (a0.Reads.map cS)), .d (.sl (a0.Writes.map cS))])), (3, some (.box [.d (.lit (.int .i64 a1.Start)), .d (.lit (.int .i64 a1.Commit)), .d (.sl (a1.Reads.map cS)), .d (.sl (a1.Writes.map cS))]))]) (by simp; exact Sub.table (by simp) (by simp)) ?_
      refine Chain.runK [] 4 fun K hK => ?_; simp; refine hK _ _ ?_; clear hK K
      refine Chain.sub (S' := mk 15 [] [(8, .d (.lit (.bool true))), (10, .d (.sl (a1.Writes.map cS))), (12, .d (.sl (a0.Reads.map cS)))] []) (Sub.table (by simp) (by simp)) ?_
      replace h := bsome h; obtain ⟨r7, hr7, h⟩ := h
      refine Chain.callL (d := 13) (p69 N a1.Writes a0.Reads r7 hr7) (by simp) rfl rfl (by simp <;> rfl) (by simp <;> rfl) ent69 (by simp <;> rfl) ?_
      refine Chain.sub (S' := mk 15 [] [(8, .d (.lit (.bool true))), (10, .d (.sl (a1.Writes.map cS))), (12, .d (.sl (a0.Reads.map cS))), (13, .d (.lit (.bool r7)))] []) (by simp; exact Sub.table (by simp) (by simp)) ?_
      refine Chain.runK [] 2 fun K hK => ?_; simp; refine hK _ _ ?_; clear hK K
      refine Chain.sub (S' := mk 15 [] [(4, .d (.lit (.bool r7)))] []) (Sub.table (by simp) (by simp)) ?_
      cases h
      exact Chain.nil (Sub.table (by simp) (by simp))
    · have c6_ : r5 = false := Bool.eq_false_iff.2 c6
      refine Chain.sub (Sub.bool 8 (b := r5) rfl c6_) ?_
      refine Chain.sub (S' := mk 15 [] [(2, .ptr 2 0 0), (3, .ptr 3 0 0), (8, .d (.lit (.bool false)))] [(2, some (.box [.d (.lit (.int .i64 a0.Start)), .d (.lit (.int .i64 a0.Commit)), .d (.sl (a0.Reads.map cS)), .d (.sl (a0.Writes.map cS))])), (3, some (.box [.d (.lit (.int .i64 a1.Start)), .d (.lit (.int .i64 a1.Commit)), .d (.sl (a1.Reads.map cS)), .d (.sl (a1.Writes.map cS))]))]) (by simp; exact Sub.table (by simp) (by simp)) ?_
      refine Chain.runK [] 7 fun K hK => ?_; simp; refine hK _ _ ?_; clear hK K
      refine Chain.sub (S' := mk 15 [] [(4, .d (.lit (.bool false)))] []) (Sub.table (by simp) (by simp)) ?_
      cases h
      exact Chain.nil (Sub.table (by simp) (by simp))
  · clear hj
    refine AW.ret ?_
    cases h
    exact FinC.ret (by simp) (by simp)

/-- (stemma/stemref5.Tx).MustPrecede -/
def d45 (N : Nat) (a0 : S105) (a1 : S105) : Option Bool :=
  (d40 N a0 a1).bind fun r1 =>
  if r1 = true then (
    some true
  ) else
  Option.bind (α := Bool) (
    if a0.Commit ≤ a1.Start then (
      (d69 N a0.Writes a1.Reads).bind fun r11 =>
      if r11 = true then (
        some true
      ) else
      (d69 N a0.Writes a1.Writes).bind fun r13 =>
      if r13 = true then (
        some true
      ) else
      (d69 N a0.Reads a1.Writes).bind fun r15 =>
      some r15
    ) else
    some false
  ) fun (v9 : Bool) =>
  some v9
set_option maxRecDepth 100000 in
set_option maxHeartbeats 4000000 in
theorem p45 (N : Nat) (a0 : S105) (a1 : S105) (r : Bool) (h : d45 N a0 a1 = some r) : FunC Try.prog 45 [.agg [.d (.lit (.int .i64 a0.Start)), .d (.lit (.int .i64 a0.Commit)), .d (.sl (a0.Reads.map cS)), .d (.sl (a0.Writes.map cS))], .agg [.d (.lit (.int .i64 a1.Start)), .d (.lit (.int .i64 a1.Commit)), .d (.sl (a1.Reads.map cS)), .d (.sl (a1.Writes.map cS))]] (.d (.lit (.bool r))) := by
  unfold d45 at h
  refine FunC.enter 34 [(0, .agg [.d (.lit (.int .i64 a0.Start)), .d (.lit (.int .i64 a0.Commit)), .d (.sl (a0.Reads.map cS)), .d (.sl (a0.Writes.map cS))]), (1, .agg [.d (.lit (.int .i64 a1.Start)), .d (.lit (.int .i64 a1.Commit)), .d (.sl (a1.Reads.map cS)), .d (.sl (a1.Writes.map cS))])] (by simp) Try.func45 rfl (of_decide_eq_true rfl) rfl rfl ?_
  refine AW.seqR ?_
  refine Chain.runK [] 3 fun K hK => ?_; simp; refine hK _ _ ?_; clear hK K
  refine Chain.sub (S' := mk 34 [] [(2, .ptr 2 0 0), (3, .ptr 3 0 0)] [(2, some (.box [.d (.lit (.int .i64 a0.Start)), .d (.lit (.int .i64 a0.Commit)), .d (.sl (a0.Reads.map cS)), .d (.sl (a0.Writes.map cS))])), (3, some (.box [.d (.lit (.int .i64 a1.Start)), .d (.lit (.int .i64 a1.Commit)), .d (.sl (a1.Reads.map cS)), .d (.sl (a1.Writes.map cS))]))]) (Sub.table (by simp) (by simp)) ?_
  refine Chain.nil ?_
  refine AW.seq ?_
  refine AW.seqR ?_
  refine Chain.runK [] 2 fun K hK => ?_; simp; refine hK _ _ ?_; clear hK K
  refine Chain.sub (S' := mk 34 [] [(2, .ptr 2 0 0), (3, .ptr 3 0 0), (5, .agg [.d (.lit (.int .i64 a0.Start)), .d (.lit (.int .i64 a0.Commit)), .d (.sl (a0.Reads.map cS)), .d (.sl (a0.Writes.map cS))]), (6, .agg [.d (.lit (.int .i64 a1.Start)), .d (.lit (.int .i64 a1.Commit)), .d (.sl (a1.Reads.map cS)), .d (.sl (a1.Writes.map cS))])] [(2, some (.box [.d (.lit (.int .i64 a0.Start)), .d (.lit (.int .i64 a0.Commit)), .d (.sl (a0.Reads.map cS)), .d (.sl (a0.Writes.map cS))])), (3, some (.box [.d (.lit (.int .i64 a1.Start)), .d (.lit (.int .i64 a1.Commit)), .d (.sl (a1.Reads.map cS)), .d (.sl (a1.Writes.map cS))]))]) (Sub.table (by simp) (by simp)) ?_
  replace h := bsome h; obtain ⟨r1, hr1, h⟩ := h
  refine Chain.callL (d := 7) (p40 N a0 a1 r1 hr1) (by simp) rfl rfl (by simp <;> rfl) (by simp <;> rfl) ent40 (by simp <;> rfl) ?_
  refine Chain.sub (S' := mk 34 [] [(2, .ptr 2 0 0), (3, .ptr 3 0 0), (5, .agg [.d (.lit (.int .i64 a0.Start)), .d (.lit (.int .i64 a0.Commit)), .d (.sl (a0.Reads.map cS)), .d (.sl (a0.Writes.map cS))]), (6, .agg [.d (.lit (.int .i64 a1.Start)), .d (.lit (.int .i64 a1.Commit)), .d (.sl (a1.Reads.map cS)), .d (.sl (a1.Writes.map cS))]), (7, .d (.lit (.bool r1)))] [(2, some (.box [.d (.lit (.int .i64 a0.Start)), .d (.lit (.int .i64 a0.Commit)), .d (.sl (a0.Reads.map cS)), .d (.sl (a0.Writes.map cS))])), (3, some (.box [.d (.lit (.int .i64 a1.Start)), .d (.lit (.int .i64 a1.Commit)), .d (.sl (a1.Reads.map cS)), .d (.sl (a1.Writes.map cS))]))]) (by simp; exact Sub.table (by simp) (by simp)) ?_
  refine Chain.nil ?_
  replace h := isome h; rcases h with ⟨c2, h⟩ | ⟨c2, h⟩
  · have c2_ : r1 = true := c2
    refine AW.condT (b := r1) rfl c2_ ?_
    refine AW.sub (Sub.bool 7 (b := r1) rfl c2_) ?_
    refine AW.sub (S' := mk 34 [] [(2, .ptr 2 0 0), (3, .ptr 3 0 0), (5, .agg [.d (.lit (.int .i64 a0.Start)), .d (.lit (.int .i64 a0.Commit)), .d (.sl (a0.Reads.map cS)), .d (.sl (a0.Writes.map cS))]), (6, .agg [.d (.lit (.int .i64 a1.Start)), .d (.lit (.int .i64 a1.Commit)), .d (.sl (a1.Reads.map cS)), .d (.sl (a1.Writes.map cS))]), (7, .d (.lit (.bool true)))] [(2, some (.box [.d (.lit (.int .i64 a0.Start)), .d (.lit (.int .i64 a0.Commit)), .d (.sl (a0.Reads.map cS)), .d (.sl (a0.Writes.map cS))])), (3, some (.box [.d (.lit (.int .i64 a1.Start)), .d (.lit (.int .i64 a1.Commit)), .d (.sl (a1.Reads.map cS)), .d (.sl (a1.Writes.map cS))]))]) (by simp; exact Sub.table (by simp) (by simp)) ?_
    refine AW.seqR ?_
    refine Chain.runK [] 1 fun K hK => ?_; simp; refine hK _ _ ?_; clear hK K
    refine Chain.sub (S' := mk 34 [] [(4, .d (.lit (.bool true)))] []) (Sub.table (by simp) (by simp)) ?_
    refine Chain.nil ?_
    refine AW.ret ?_
    cases h
    refine thenQ_pass (by simp) ?_
    exact FinC.ret (by simp) (by simp)
  · have c2_ : r1 = false := Bool.eq_false_iff.2 c2
    refine AW.condF (b := r1) rfl c2_ ?_
    refine AW.sub (Sub.bool 7 (b := r1) rfl c2_) ?_
    refine AW.sub (S' := mk 34 [] [(2, .ptr 2 0 0), (3, .ptr 3 0 0), (5, .agg [.d (.lit (.int .i64 a0.Start)), .d (.lit (.int .i64 a0.Commit)), .d (.sl (a0.Reads.map cS)), .d (.sl (a0.Writes.map cS))]), (6, .agg [.d (.lit (.int .i64 a1.Start)), .d (.lit (.int .i64 a1.Commit)), .d (.sl (a1.Reads.map cS)), .d (.sl (a1.Writes.map cS))]), (7, .d (.lit (.bool false)))] [(2, some (.box [.d (.lit (.int .i64 a0.Start)), .d (.lit (.int .i64 a0.Commit)), .d (.sl (a0.Reads.map cS)), .d (.sl (a0.Writes.map cS))])), (3, some (.box [.d (.lit (.int .i64 a1.Start)), .d (.lit (.int .i64 a1.Commit)), .d (.sl (a1.Reads.map cS)), .d (.sl (a1.Writes.map cS))]))]) (by simp; exact Sub.table (by simp) (by simp)) ?_
    refine AW.skip ?_
    refine thenQ_normal ?_
    replace h := bsome h; obtain ⟨v9, hj, h⟩ := h
    refine AW.cutR (mk 34 [] [(4, .d (.lit (.bool v9)))] []) ?_ ?_
    · clear h; have h := hj; clear hj
      refine Chain.runK [] 6 fun K hK => ?_; simp; refine hK _ _ ?_; clear hK K
      refine Chain.sub (S' := mk 34 [] [(2, .ptr 2 0 0), (3, .ptr 3 0 0), (13, .d (.lit (.bool (decide (a0.Commit ≤ a1.Start)))))] [(2, some (.box [.d (.lit (.int .i64 a0.Start)), .d (.lit (.int .i64 a0.Commit)), .d (.sl (a0.Reads.map cS)), .d (.sl (a0.Writes.map cS))])), (3, some (.box [.d (.lit (.int .i64 a1.Start)), .d (.lit (.int .i64 a1.Commit)), .d (.sl (a1.Reads.map cS)), .d (.sl (a1.Writes.map cS))]))]) (Sub.table (by simp) (by simp)) ?_
      replace h := isome h; rcases h with ⟨c10, h⟩ | ⟨c10, h⟩
      · have c10_ : decide (a0.Commit ≤ a1.Start) = true := decide_eq_true c10
        refine Chain.sub (Sub.bool 13 (b := decide (a0.Commit ≤ a1.Start)) rfl c10_) ?_
        refine Chain.sub (S' := mk 34 [] [(2, .ptr 2 0 0), (3, .ptr 3 0 0), (13, .d (.lit (.bool true)))] [(2, some (.box [.d (.lit (.int .i64 a0.Start)), .d (.lit (.int .i64 a0.Commit)), .d (.sl (a0.Reads.map cS)), .d (.sl (a0.Writes.map cS))])), (3, some (.box [.d (.lit (.int .i64 a1.Start)), .d (.lit (.int .i64 a1.Commit)), .d (.sl (a1.Reads.map cS)), .d (.sl (a1.Writes.map cS))]))]) (by simp; exact Sub.table (by simp) (by simp)) ?_
        refine Chain.runK [] 4 fun K hK => ?_; simp; refine hK _ _ ?_; clear hK K
        refine Chain.sub (S' := mk 34 [] [(2, .ptr 2 0 0), (3, .ptr 3 0 0), (13, .d (.lit (.bool true))), (15, .d (.sl (a0.Writes.map cS))), (17, .d (.sl (a1.Reads.map cS)))] [(2, some (.box [.d (.lit (.int .i64 a0.Start)), .d (.lit (.int .i64 a0.Commit)), .d (.sl (a0.Reads.map cS)), .d (.sl (a0.Writes.map cS))])), (3, some (.box [.d (.lit (.int .i64 a1.Start)), .d (.lit (.int .i64 a1.Commit)), .d (.sl (a1.Reads.map cS)), .d (.sl (a1.Writes.map cS))]))]) (Sub.table (by simp) (by simp)) ?_
        replace h := bsome h; obtain ⟨r11, hr11, h⟩ := h
        refine Chain.callL (d := 18) (p69 N a0.Writes a1.Reads r11 hr11) (by simp) rfl rfl (by simp <;> rfl) (by simp <;> rfl) ent69 (by simp <;> rfl) ?_
        refine Chain.sub (S' := mk 34 [] [(2, .ptr 2 0 0), (3, .ptr 3 0 0), (13, .d (.lit (.bool true))), (15, .d (.sl (a0.Writes.map cS))), (17, .d (.sl (a1.Reads.map cS))), (18, .d (.lit (.bool r11)))] [(2, some (.box [.d (.lit (.int .i64 a0.Start)), .d (.lit (.int .i64 a0.Commit)), .d (.sl (a0.Reads.map cS)), .d (.sl (a0.Writes.map cS))])), (3, some (.box [.d (.lit (.int .i64 a1.Start)), .d (.lit (.int .i64 a1.Commit)), .d (.sl (a1.Reads.map cS)), .d (.sl (a1.Writes.map cS))]))]) (by simp; exact Sub.table (by simp) (by simp)) ?_
        refine Chain.runK [] 1 fun K hK => ?_; simp; refine hK _ _ ?_; clear hK K
        refine Chain.sub (S' := mk 34 [] [(2, .ptr 2 0 0), (3, .ptr 3 0 0), (13, .d (.lit (.bool true))), (19, .d (.lit (.bool r11)))] [(2, some (.box [.d (.lit (.int .i64 a0.Start)), .d (.lit (.int .i64 a0.Commit)), .d (.sl (a0.Reads.map cS)), .d (.sl (a0.Writes.map cS))])), (3, some (.box [.d (.lit (.int .i64 a1.Start)), .d (.lit (.int .i64 a1.Commit)), .d (.sl (a1.Reads.map cS)), .d (.sl (a1.Writes.map cS))]))]) (Sub.table (by simp) (by simp)) ?_
        replace h := isome h; rcases h with ⟨c12, h⟩ | ⟨c12, h⟩
        · have c12_ : r11 = true := c12
          refine Chain.sub (Sub.bool 19 (b := r11) rfl c12_) ?_
          refine Chain.sub (S' := mk 34 [] [(2, .ptr 2 0 0), (3, .ptr 3 0 0), (13, .d (.lit (.bool true))), (19, .d (.lit (.bool true)))] [(2, some (.box [.d (.lit (.int .i64 a0.Start)), .d (.lit (.int .i64 a0.Commit)), .d (.sl (a0.Reads.map cS)), .d (.sl (a0.Writes.map cS))])), (3, some (.box [.d (.lit (.int .i64 a1.Start)), .d (.lit (.int .i64 a1.Commit)), .d (.sl (a1.Reads.map cS)), .d (.sl (a1.Writes.map cS))]))]) (by simp; exact Sub.table (by simp) (by simp)) ?_
          refine Chain.runK [] 15 fun K hK => ?_; simp; refine hK _ _ ?_; clear hK K
          refine Chain.sub (S' := mk 34 [] [(4, .d (.lit (.bool true)))] []) (Sub.table (by simp) (by simp)) ?_
          cases h
          exact Chain.nil (Sub.table (by simp) (by simp))
        · have c12_ : r11 = false := Bool.eq_false_iff.2 c12
          refine Chain.sub (Sub.bool 19 (b := r11) rfl c12_) ?_
          refine Chain.sub (S' := mk 34 [] [(2, .ptr 2 0 0), (3, .ptr 3 0 0), (13, .d (.lit (.bool true))), (19, .d (.lit (.bool false)))] [(2, some (.box [.d (.lit (.int .i64 a0.Start)), .d (.lit (.int .i64 a0.Commit)), .d (.sl (a0.Reads.map cS)), .d (.sl (a0.Writes.map cS))])), (3, some (.box [.d (.lit (.int .i64 a1.Start)), .d (.lit (.int .i64 a1.Commit)), .d (.sl (a1.Reads.map cS)), .d (.sl (a1.Writes.map cS))]))]) (by simp; exact Sub.table (by simp) (by simp)) ?_
          refine Chain.runK [] 4 fun K hK => ?_; simp; refine hK _ _ ?_; clear hK K
          refine Chain.sub (S' := mk 34 [] [(2, .ptr 2 0 0), (3, .ptr 3 0 0), (13, .d (.lit (.bool true))), (19, .d (.lit (.bool false))), (21, .d (.sl (a0.Writes.map cS))), (23, .d (.sl (a1.Writes.map cS)))] [(2, some (.box [.d (.lit (.int .i64 a0.Start)), .d (.lit (.int .i64 a0.Commit)), .d (.sl (a0.Reads.map cS)), .d (.sl (a0.Writes.map cS))])), (3, some (.box [.d (.lit (.int .i64 a1.Start)), .d (.lit (.int .i64 a1.Commit)), .d (.sl (a1.Reads.map cS)), .d (.sl (a1.Writes.map cS))]))]) (Sub.table (by simp) (by simp)) ?_
          replace h := bsome h; obtain ⟨r13, hr13, h⟩ := h
          refine Chain.callL (d := 24) (p69 N a0.Writes a1.Writes r13 hr13) (by simp) rfl rfl (by simp <;> rfl) (by simp <;> rfl) ent69 (by simp <;> rfl) ?_
          refine Chain.sub (S' := mk 34 [] [(2, .ptr 2 0 0), (3, .ptr 3 0 0), (13, .d (.lit (.bool true))), (19, .d (.lit (.bool false))), (21, .d (.sl (a0.Writes.map cS))), (23, .d (.sl (a1.Writes.map cS))), (24, .d (.lit (.bool r13)))] [(2, some (.box [.d (.lit (.int .i64 a0.Start)), .d (.lit (.int .i64 a0.Commit)), .d (.sl (a0.Reads.map cS)), .d (.sl (a0.Writes.map cS))])), (3, some (.box [.d (.lit (.int .i64 a1.Start)), .d (.lit (.int .i64 a1.Commit)), .d (.sl (a1.Reads.map cS)), .d (.sl (a1.Writes.map cS))]))]) (by simp; exact Sub.table (by simp) (by simp)) ?_
          refine Chain.runK [] 2 fun K hK => ?_; simp; refine hK _ _ ?_; clear hK K
          refine Chain.sub (S' := mk 34 [] [(2, .ptr 2 0 0), (3, .ptr 3 0 0), (13, .d (.lit (.bool true))), (26, .d (.lit (.bool r13)))] [(2, some (.box [.d (.lit (.int .i64 a0.Start)), .d (.lit (.int .i64 a0.Commit)), .d (.sl (a0.Reads.map cS)), .d (.sl (a0.Writes.map cS))])), (3, some (.box [.d (.lit (.int .i64 a1.Start)), .d (.lit (.int .i64 a1.Commit)), .d (.sl (a1.Reads.map cS)), .d (.sl (a1.Writes.map cS))]))]) (Sub.table (by simp) (by simp)) ?_
          replace h := isome h; rcases h with ⟨c14, h⟩ | ⟨c14, h⟩
          · have c14_ : r13 = true := c14
            refine Chain.sub (Sub.bool 26 (b := r13) rfl c14_) ?_
            refine Chain.sub (S' := mk 34 [] [(2, .ptr 2 0 0), (3, .ptr 3 0 0), (13, .d (.lit (.bool true))), (26, .d (.lit (.bool true)))] [(2, some (.box [.d (.lit (.int .i64 a0.Start)), .d (.lit (.int .i64 a0.Commit)), .d (.sl (a0.Reads.map cS)), .d (.sl (a0.Writes.map cS))])), (3, some (.box [.d (.lit (.int .i64 a1.Start)), .d (.lit (.int .i64 a1.Commit)), .d (.sl (a1.Reads.map cS)), .d (.sl (a1.Writes.map cS))]))]) (by simp; exact Sub.table (by simp) (by simp)) ?_
            refine Chain.runK [] 8 fun K hK => ?_; simp; refine hK _ _ ?_; clear hK K
            refine Chain.sub (S' := mk 34 [] [(4, .d (.lit (.bool true)))] []) (Sub.table (by simp) (by simp)) ?_
            cases h
            exact Chain.nil (Sub.table (by simp) (by simp))
          · have c14_ : r13 = false := Bool.eq_false_iff.2 c14
            refine Chain.sub (Sub.bool 26 (b := r13) rfl c14_) ?_
            refine Chain.sub (S' := mk 34 [] [(2, .ptr 2 0 0), (3, .ptr 3 0 0), (13, .d (.lit (.bool true))), (26, .d (.lit (.bool false)))] [(2, some (.box [.d (.lit (.int .i64 a0.Start)), .d (.lit (.int .i64 a0.Commit)), .d (.sl (a0.Reads.map cS)), .d (.sl (a0.Writes.map cS))])), (3, some (.box [.d (.lit (.int .i64 a1.Start)), .d (.lit (.int .i64 a1.Commit)), .d (.sl (a1.Reads.map cS)), .d (.sl (a1.Writes.map cS))]))]) (by simp; exact Sub.table (by simp) (by simp)) ?_
            refine Chain.runK [] 4 fun K hK => ?_; simp; refine hK _ _ ?_; clear hK K
            refine Chain.sub (S' := mk 34 [] [(13, .d (.lit (.bool true))), (26, .d (.lit (.bool false))), (28, .d (.sl (a0.Reads.map cS))), (30, .d (.sl (a1.Writes.map cS)))] []) (Sub.table (by simp) (by simp)) ?_
            replace h := bsome h; obtain ⟨r15, hr15, h⟩ := h
            refine Chain.callL (d := 31) (p69 N a0.Reads a1.Writes r15 hr15) (by simp) rfl rfl (by simp <;> rfl) (by simp <;> rfl) ent69 (by simp <;> rfl) ?_
            refine Chain.sub (S' := mk 34 [] [(13, .d (.lit (.bool true))), (26, .d (.lit (.bool false))), (28, .d (.sl (a0.Reads.map cS))), (30, .d (.sl (a1.Writes.map cS))), (31, .d (.lit (.bool r15)))] []) (by simp; exact Sub.table (by simp) (by simp)) ?_
            refine Chain.runK [] 3 fun K hK => ?_; simp; refine hK _ _ ?_; clear hK K
            refine Chain.sub (S' := mk 34 [] [(4, .d (.lit (.bool r15)))] []) (Sub.table (by simp) (by simp)) ?_
            cases h
            exact Chain.nil (Sub.table (by simp) (by simp))
      · have c10_ : decide (a0.Commit ≤ a1.Start) = false := decide_eq_false c10
        refine Chain.sub (Sub.bool 13 (b := decide (a0.Commit ≤ a1.Start)) rfl c10_) ?_
        refine Chain.sub (S' := mk 34 [] [(2, .ptr 2 0 0), (3, .ptr 3 0 0), (13, .d (.lit (.bool false)))] [(2, some (.box [.d (.lit (.int .i64 a0.Start)), .d (.lit (.int .i64 a0.Commit)), .d (.sl (a0.Reads.map cS)), .d (.sl (a0.Writes.map cS))])), (3, some (.box [.d (.lit (.int .i64 a1.Start)), .d (.lit (.int .i64 a1.Commit)), .d (.sl (a1.Reads.map cS)), .d (.sl (a1.Writes.map cS))]))]) (by simp; exact Sub.table (by simp) (by simp)) ?_
        refine Chain.runK [] 21 fun K hK => ?_; simp; refine hK _ _ ?_; clear hK K
        refine Chain.sub (S' := mk 34 [] [(4, .d (.lit (.bool false)))] []) (Sub.table (by simp) (by simp)) ?_
        cases h
        exact Chain.nil (Sub.table (by simp) (by simp))
    · clear hj
      refine AW.ret ?_
      cases h
      exact FinC.ret (by simp) (by simp)

end Go.Proofs.Ytabjbkdlacibjaa
