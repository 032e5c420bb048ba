/- Functions of the program as functional programs; the code computes them. -/
import Derived.Test.YtabjbkdlacibjaaSg1
namespace Go.Proofs.Ytabjbkdlacibjaa
open Go.Ab Go.Rp
attribute [-simp] List.all_eq_true Array.all_toList Array.all_eq_true

/-- stemma/ssi.writeConflict -/
def d66 (N : Nat) (a0 : (List S105)) (a1 : (List Bool)) (a2 : Int) : Option Bool :=
  bindO (β := Unit) (ρ := Bool) (
    iterN (σ := Int) (ρ := (Out Unit Bool)) (fun (v27 : Int) =>
      if v27 < a2 then (
        Option.bind (α := Bool) (
          (idx a1 v27).bind fun x94 =>
          if x94 = true then (
            (idx a0 v27).bind fun x97 =>
            (idx a0 a2).bind fun x98 =>
            (d87 N x97 x98).bind fun r100 =>
            if r100 = true then (
              (idx a0 v27).bind fun x102 =>
              (idx a0 a2).bind fun x103 =>
              (d88 N x102.Writes x103.Writes).bind fun r104 =>
              some r104
            ) else
            some false
          ) else
          some false
        ) fun (v93 : Bool) =>
        if v93 = true then (
          some (.inr (.ret true))
        ) else
        (chkI (v27 + 1)).bind fun v106 =>
        some (.inl v106)
      ) else
      some (.inr (.go ()))
    ) N 0
  ) fun (_ : Unit) =>
  some false
set_option maxRecDepth 100000 in
set_option maxHeartbeats 4000000 in
theorem p66 (N : Nat) (a0 : (List S105)) (a1 : (List Bool)) (a2 : Int) (r : Bool) (h : d66 N a0 a1 a2 = some r) : FunC Try.prog 66 [.d (.sl (a0.map cS105)), .d (.sl (a1.map cB)), .d (.lit (.int .i64 a2))] (.d (.lit (.bool r))) := by
  unfold d66 at h
  refine FunC.enter 41 [(0, .d (.sl (a0.map cS105))), (1, .d (.sl (a1.map cB))), (2, .d (.lit (.int .i64 a2)))] (by simp) Try.func66 rfl (of_decide_eq_true rfl) rfl rfl ?_
  refine AW.seqR ?_
  refine Chain.runK [] 1 fun K hK => ?_; simp; refine hK _ _ ?_; clear hK K
  refine Chain.sub (S' := mk 41 [] [(0, .d (.sl (a0.map cS105))), (1, .d (.sl (a1.map cB))), (2, .d (.lit (.int .i64 a2)))] []) (Sub.table (by simp) (by simp)) ?_
  refine Chain.nil ?_
  refine AW.seq ?_
  refine AW.seqR ?_
  refine Chain.runK [] 2 fun K hK => ?_; simp; refine hK _ _ ?_; clear hK K
  refine Chain.sub (S' := mk 41 [] [(0, .d (.sl (a0.map cS105))), (1, .d (.sl (a1.map cB))), (2, .d (.lit (.int .i64 a2))), (8, .d (.lit (.int .i64 a2))), (9, .d (.lit (.int .i64 0)))] []) (Sub.table (by simp) (by simp)) ?_
  refine Chain.nil ?_
  refine AW.lastJ (fun (_ : Unit) => mk 41 [] [] []) h ?_ ?_ <;> clear h
  · intro o h
    refine AW.block ?_
    refine AW.iter (fun (v27 : Int) => mk 41 [] [(0, .d (.sl (a0.map cS105))), (1, .d (.sl (a1.map cB))), (2, .d (.lit (.int .i64 a2))), (8, .d (.lit (.int .i64 a2))), (9, .d (.lit (.int .i64 v27)))] []) h (Sub.table (by simp) (by simp)) ?_
    clear h
    rintro v27 x h
    refine AW.seqR ?_
    refine Chain.runK [] 1 fun K hK => ?_; simp; refine hK _ _ ?_; clear hK K
    refine Chain.sub (S' := mk 41 [] [(0, .d (.sl (a0.map cS105))), (1, .d (.sl (a1.map cB))), (2, .d (.lit (.int .i64 a2))), (8, .d (.lit (.int .i64 a2))), (9, .d (.lit (.int .i64 v27))), (10, .d (.lit (.bool (decide (v27 < a2)))))] []) (Sub.table (by simp) (by simp)) ?_
    refine Chain.nil ?_
    refine AW.seq ?_
    replace h := isome h; rcases h with ⟨c81, h⟩ | ⟨c81, h⟩
    · have c81_ : decide (v27 < a2) = true := decide_eq_true c81
      refine AW.condT (b := decide (v27 < a2)) rfl c81_ ?_
      refine AW.sub (Sub.bool 10 (b := decide (v27 < a2)) rfl c81_) ?_
      refine AW.sub (S' := mk 41 [] [(0, .d (.sl (a0.map cS105))), (1, .d (.sl (a1.map cB))), (2, .d (.lit (.int .i64 a2))), (8, .d (.lit (.int .i64 a2))), (9, .d (.lit (.int .i64 v27))), (10, .d (.lit (.bool true)))] []) (by simp; exact Sub.table (by simp) (by simp)) ?_
      refine AW.skip ?_
      refine thenQ_normal ?_
      refine AW.seq ?_
      refine AW.block ?_
      refine AW.seqR ?_
      refine Chain.runK [] 2 fun K hK => ?_; simp; refine hK _ _ ?_; clear hK K
      refine Chain.sub (S' := mk 41 [] [(0, .d (.sl (a0.map cS105))), (1, .d (.sl (a1.map cB))), (2, .d (.lit (.int .i64 a2))), (7, .d (.lit (.int .i64 v27))), (8, .d (.lit (.int .i64 a2))), (9, .d (.lit (.int .i64 v27)))] []) (Sub.table (by simp) (by simp)) ?_
      refine Chain.nil ?_
      replace h := bsome h; obtain ⟨v93, hj, h⟩ := h
      refine AW.cutQ (by kernel_rfl) (by kernel_rfl) (mk 41 [] [(0, .d (.sl (a0.map cS105))), (1, .d (.sl (a1.map cB))), (2, .d (.lit (.int .i64 a2))), (8, .d (.lit (.int .i64 a2))), (9, .d (.lit (.int .i64 v27))), (39, .d (.lit (.bool v93)))] []) ?_ ?_
      · clear h; have h := hj; clear hj
        replace h := bsome h; obtain ⟨x94, hx94, h⟩ := h
        obtain ⟨k95, hx94k, hx94, hx94a, hx94b⟩ := idx_some hx94
        refine Chain.runQ 5 fun K hK => ?_; simp [hx94, hx94k, hx94a]; refine hK _ _ ?_; clear hK K
        refine Chain.sub (S' := mk 41 [] [(0, .d (.sl (a0.map cS105))), (1, .d (.sl (a1.map cB))), (2, .d (.lit (.int .i64 a2))), (7, .d (.lit (.int .i64 v27))), (8, .d (.lit (.int .i64 a2))), (9, .d (.lit (.int .i64 v27))), (16, .d (.lit (.bool x94)))] []) (Sub.table (by simp) (by simp)) ?_
        replace h := isome h; rcases h with ⟨c96, h⟩ | ⟨c96, h⟩
        · have c96_ : x94 = true := c96
          refine Chain.sub (Sub.bool 16 (b := x94) rfl c96_) ?_
          refine Chain.sub (S' := mk 41 [] [(0, .d (.sl (a0.map cS105))), (1, .d (.sl (a1.map cB))), (2, .d (.lit (.int .i64 a2))), (7, .d (.lit (.int .i64 v27))), (8, .d (.lit (.int .i64 a2))), (9, .d (.lit (.int .i64 v27))), (16, .d (.lit (.bool true)))] []) (by simp; exact Sub.table (by simp) (by simp)) ?_
          replace h := bsome h; obtain ⟨x97, hx97, h⟩ := h
          obtain ⟨hx97, hx97a, hx97b⟩ := idx_some2 hx97 hx94k
          replace h := bsome h; obtain ⟨x98, hx98, h⟩ := h
          obtain ⟨k99, hx98k, hx98, hx98a, hx98b⟩ := idx_some hx98
          refine Chain.runQ 8 fun K hK => ?_; simp [hx97, hx94k, hx97a, hx98, hx98k, hx98a]; refine hK _ _ ?_; clear hK K
          refine Chain.sub (S' := mk 41 [] [(0, .d (.sl (a0.map cS105))), (1, .d (.sl (a1.map cB))), (2, .d (.lit (.int .i64 a2))), (7, .d (.lit (.int .i64 v27))), (8, .d (.lit (.int .i64 a2))), (9, .d (.lit (.int .i64 v27))), (16, .d (.lit (.bool true))), (17, .d (.sl (a0.map cS105))), (18, .d (.lit (.int .i64 v27))), (19, .d (.pim [.lit (.int .i64 x97.Start), .lit (.int .i64 x97.Commit), .sl (x97.Reads.map cS), .sl (x97.Writes.map cS)])), (20, .agg [.d (.lit (.int .i64 x97.Start)), .d (.lit (.int .i64 x97.Commit)), .d (.sl (x97.Reads.map cS)), .d (.sl (x97.Writes.map cS))]), (21, .d (.sl (a0.map cS105))), (22, .d (.lit (.int .i64 a2))), (23, .d (.pim [.lit (.int .i64 x98.Start), .lit (.int .i64 x98.Commit), .sl (x98.Reads.map cS), .sl (x98.Writes.map cS)])), (24, .agg [.d (.lit (.int .i64 x98.Start)), .d (.lit (.int .i64 x98.Commit)), .d (.sl (x98.Reads.map cS)), .d (.sl (x98.Writes.map cS))])] []) (Sub.table (by simp) (by simp)) ?_
          replace h := bsome h; obtain ⟨r100, hr100, h⟩ := h
          refine Chain.callL (d := 25) (p87 N x97 x98 r100 hr100) (by simp) rfl rfl (by simp <;> rfl) (by simp <;> rfl) ent87 (by simp <;> rfl) ?_
          refine Chain.sub (S' := mk 41 [] [(0, .d (.sl (a0.map cS105))), (1, .d (.sl (a1.map cB))), (2, .d (.lit (.int .i64 a2))), (7, .d (.lit (.int .i64 v27))), (8, .d (.lit (.int .i64 a2))), (9, .d (.lit (.int .i64 v27))), (16, .d (.lit (.bool true))), (17, .d (.sl (a0.map cS105))), (18, .d (.lit (.int .i64 v27))), (19, .d (.pim [.lit (.int .i64 x97.Start), .lit (.int .i64 x97.Commit), .sl (x97.Reads.map cS), .sl (x97.Writes.map cS)])), (20, .agg [.d (.lit (.int .i64 x97.Start)), .d (.lit (.int .i64 x97.Commit)), .d (.sl (x97.Reads.map cS)), .d (.sl (x97.Writes.map cS))]), (21, .d (.sl (a0.map cS105))), (22, .d (.lit (.int .i64 a2))), (23, .d (.pim [.lit (.int .i64 x98.Start), .lit (.int .i64 x98.Commit), .sl (x98.Reads.map cS), .sl (x98.Writes.map cS)])), (24, .agg [.d (.lit (.int .i64 x98.Start)), .d (.lit (.int .i64 x98.Commit)), .d (.sl (x98.Reads.map cS)), .d (.sl (x98.Writes.map cS))]), (25, .d (.lit (.bool r100)))] []) (by simp; exact Sub.table (by simp) (by simp)) ?_
          refine Chain.runQ 2 fun K hK => ?_; simp; refine hK _ _ ?_; clear hK K
          refine Chain.sub (S' := mk 41 [] [(0, .d (.sl (a0.map cS105))), (1, .d (.sl (a1.map cB))), (2, .d (.lit (.int .i64 a2))), (7, .d (.lit (.int .i64 v27))), (8, .d (.lit (.int .i64 a2))), (9, .d (.lit (.int .i64 v27))), (17, .d (.sl (a0.map cS105))), (18, .d (.lit (.int .i64 v27))), (19, .d (.pim [.lit (.int .i64 x97.Start), .lit (.int .i64 x97.Commit), .sl (x97.Reads.map cS), .sl (x97.Writes.map cS)])), (20, .agg [.d (.lit (.int .i64 x97.Start)), .d (.lit (.int .i64 x97.Commit)), .d (.sl (x97.Reads.map cS)), .d (.sl (x97.Writes.map cS))]), (21, .d (.sl (a0.map cS105))), (22, .d (.lit (.int .i64 a2))), (23, .d (.pim [.lit (.int .i64 x98.Start), .lit (.int .i64 x98.Commit), .sl (x98.Reads.map cS), .sl (x98.Writes.map cS)])), (24, .agg [.d (.lit (.int .i64 x98.Start)), .d (.lit (.int .i64 x98.Commit)), .d (.sl (x98.Reads.map cS)), .d (.sl (x98.Writes.map cS))]), (25, .d (.lit (.bool r100))), (27, .d (.lit (.bool r100)))] []) (Sub.table (by simp) (by simp)) ?_
          replace h := isome h; rcases h with ⟨c101, h⟩ | ⟨c101, h⟩
          · have c101_ : r100 = true := c101
            refine Chain.sub (Sub.bool 25 (b := r100) rfl c101_) ?_
            refine Chain.sub (Sub.bool 27 (b := r100) rfl c101_) ?_
            refine Chain.sub (S' := mk 41 [] [(0, .d (.sl (a0.map cS105))), (1, .d (.sl (a1.map cB))), (2, .d (.lit (.int .i64 a2))), (7, .d (.lit (.int .i64 v27))), (8, .d (.lit (.int .i64 a2))), (9, .d (.lit (.int .i64 v27))), (17, .d (.sl (a0.map cS105))), (18, .d (.lit (.int .i64 v27))), (19, .d (.pim [.lit (.int .i64 x97.Start), .lit (.int .i64 x97.Commit), .sl (x97.Reads.map cS), .sl (x97.Writes.map cS)])), (20, .agg [.d (.lit (.int .i64 x97.Start)), .d (.lit (.int .i64 x97.Commit)), .d (.sl (x97.Reads.map cS)), .d (.sl (x97.Writes.map cS))]), (21, .d (.sl (a0.map cS105))), (22, .d (.lit (.int .i64 a2))), (23, .d (.pim [.lit (.int .i64 x98.Start), .lit (.int .i64 x98.Commit), .sl (x98.Reads.map cS), .sl (x98.Writes.map cS)])), (24, .agg [.d (.lit (.int .i64 x98.Start)), .d (.lit (.int .i64 x98.Commit)), .d (.sl (x98.Reads.map cS)), .d (.sl (x98.Writes.map cS))]), (25, .d (.lit (.bool true))), (27, .d (.lit (.bool true)))] []) (by simp; exact Sub.table (by simp) (by simp)) ?_
            replace h := bsome h; obtain ⟨x102, hx102, h⟩ := h
            obtain ⟨hx102, hx102a, hx102b⟩ := idx_some2 hx102 hx94k
            replace h := bsome h; obtain ⟨x103, hx103, h⟩ := h
            obtain ⟨hx103, hx103a, hx103b⟩ := idx_some2 hx103 hx98k
            refine Chain.runQ 10 fun K hK => ?_; simp [hx102, hx94k, hx102a, hx103, hx98k, hx103a]; refine hK _ _ ?_; clear hK K
            refine Chain.sub (S' := mk 41 [] [(0, .d (.sl (a0.map cS105))), (1, .d (.sl (a1.map cB))), (2, .d (.lit (.int .i64 a2))), (8, .d (.lit (.int .i64 a2))), (9, .d (.lit (.int .i64 v27))), (17, .d (.sl (a0.map cS105))), (18, .d (.lit (.int .i64 v27))), (19, .d (.pim [.lit (.int .i64 x97.Start), .lit (.int .i64 x97.Commit), .sl (x97.Reads.map cS), .sl (x97.Writes.map cS)])), (20, .agg [.d (.lit (.int .i64 x97.Start)), .d (.lit (.int .i64 x97.Commit)), .d (.sl (x97.Reads.map cS)), .d (.sl (x97.Writes.map cS))]), (21, .d (.sl (a0.map cS105))), (22, .d (.lit (.int .i64 a2))), (23, .d (.pim [.lit (.int .i64 x98.Start), .lit (.int .i64 x98.Commit), .sl (x98.Reads.map cS), .sl (x98.Writes.map cS)])), (24, .agg [.d (.lit (.int .i64 x98.Start)), .d (.lit (.int .i64 x98.Commit)), .d (.sl (x98.Reads.map cS)), .d (.sl (x98.Writes.map cS))]), (25, .d (.lit (.bool true))), (27, .d (.lit (.bool true))), (28, .d (.sl (a0.map cS105))), (29, .d (.lit (.int .i64 v27))), (30, .d (.pim [.lit (.int .i64 x102.Start), .lit (.int .i64 x102.Commit), .sl (x102.Reads.map cS), .sl (x102.Writes.map cS)])), (31, .d (.pim [.sl (x102.Writes.map cS)])), (32, .d (.sl (x102.Writes.map cS))), (33, .d (.sl (a0.map cS105))), (34, .d (.lit (.int .i64 a2))), (35, .d (.pim [.lit (.int .i64 x103.Start), .lit (.int .i64 x103.Commit), .sl (x103.Reads.map cS), .sl (x103.Writes.map cS)])), (36, .d (.pim [.sl (x103.Writes.map cS)])), (37, .d (.sl (x103.Writes.map cS)))] []) (Sub.table (by simp) (by simp)) ?_
            replace h := bsome h; obtain ⟨r104, hr104, h⟩ := h
            refine Chain.callL (d := 38) (p88 N x102.Writes x103.Writes r104 hr104) (by simp) rfl rfl (by simp <;> rfl) (by simp <;> rfl) ent88 (by simp <;> rfl) ?_
            refine Chain.sub (S' := mk 41 [] [(0, .d (.sl (a0.map cS105))), (1, .d (.sl (a1.map cB))), (2, .d (.lit (.int .i64 a2))), (8, .d (.lit (.int .i64 a2))), (9, .d (.lit (.int .i64 v27))), (17, .d (.sl (a0.map cS105))), (18, .d (.lit (.int .i64 v27))), (19, .d (.pim [.lit (.int .i64 x97.Start), .lit (.int .i64 x97.Commit), .sl (x97.Reads.map cS), .sl (x97.Writes.map cS)])), (20, .agg [.d (.lit (.int .i64 x97.Start)), .d (.lit (.int .i64 x97.Commit)), .d (.sl (x97.Reads.map cS)), .d (.sl (x97.Writes.map cS))]), (21, .d (.sl (a0.map cS105))), (22, .d (.lit (.int .i64 a2))), (23, .d (.pim [.lit (.int .i64 x98.Start), .lit (.int .i64 x98.Commit), .sl (x98.Reads.map cS), .sl (x98.Writes.map cS)])), (24, .agg [.d (.lit (.int .i64 x98.Start)), .d (.lit (.int .i64 x98.Commit)), .d (.sl (x98.Reads.map cS)), .d (.sl (x98.Writes.map cS))]), (25, .d (.lit (.bool true))), (27, .d (.lit (.bool true))), (28, .d (.sl (a0.map cS105))), (29, .d (.lit (.int .i64 v27))), (30, .d (.pim [.lit (.int .i64 x102.Start), .lit (.int .i64 x102.Commit), .sl (x102.Reads.map cS), .sl (x102.Writes.map cS)])), (31, .d (.pim [.sl (x102.Writes.map cS)])), (32, .d (.sl (x102.Writes.map cS))), (33, .d (.sl (a0.map cS105))), (34, .d (.lit (.int .i64 a2))), (35, .d (.pim [.lit (.int .i64 x103.Start), .lit (.int .i64 x103.Commit), .sl (x103.Reads.map cS), .sl (x103.Writes.map cS)])), (36, .d (.pim [.sl (x103.Writes.map cS)])), (37, .d (.sl (x103.Writes.map cS))), (38, .d (.lit (.bool r104)))] []) (by simp; exact Sub.table (by simp) (by simp)) ?_
            refine Chain.runQ 1 fun K hK => ?_; simp; refine hK _ _ ?_; clear hK K
            refine Chain.sub (S' := mk 41 [] [(0, .d (.sl (a0.map cS105))), (1, .d (.sl (a1.map cB))), (2, .d (.lit (.int .i64 a2))), (8, .d (.lit (.int .i64 a2))), (9, .d (.lit (.int .i64 v27))), (17, .d (.sl (a0.map cS105))), (18, .d (.lit (.int .i64 v27))), (19, .d (.pim [.lit (.int .i64 x97.Start), .lit (.int .i64 x97.Commit), .sl (x97.Reads.map cS), .sl (x97.Writes.map cS)])), (20, .agg [.d (.lit (.int .i64 x97.Start)), .d (.lit (.int .i64 x97.Commit)), .d (.sl (x97.Reads.map cS)), .d (.sl (x97.Writes.map cS))]), (21, .d (.sl (a0.map cS105))), (22, .d (.lit (.int .i64 a2))), (23, .d (.pim [.lit (.int .i64 x98.Start), .lit (.int .i64 x98.Commit), .sl (x98.Reads.map cS), .sl (x98.Writes.map cS)])), (24, .agg [.d (.lit (.int .i64 x98.Start)), .d (.lit (.int .i64 x98.Commit)), .d (.sl (x98.Reads.map cS)), .d (.sl (x98.Writes.map cS))]), (25, .d (.lit (.bool true))), (28, .d (.sl (a0.map cS105))), (29, .d (.lit (.int .i64 v27))), (30, .d (.pim [.lit (.int .i64 x102.Start), .lit (.int .i64 x102.Commit), .sl (x102.Reads.map cS), .sl (x102.Writes.map cS)])), (31, .d (.pim [.sl (x102.Writes.map cS)])), (32, .d (.sl (x102.Writes.map cS))), (33, .d (.sl (a0.map cS105))), (34, .d (.lit (.int .i64 a2))), (35, .d (.pim [.lit (.int .i64 x103.Start), .lit (.int .i64 x103.Commit), .sl (x103.Reads.map cS), .sl (x103.Writes.map cS)])), (36, .d (.pim [.sl (x103.Writes.map cS)])), (37, .d (.sl (x103.Writes.map cS))), (38, .d (.lit (.bool r104))), (39, .d (.lit (.bool r104)))] []) (Sub.table (by simp) (by simp)) ?_
            cases h
            exact Chain.nil (Sub.table (by simp) (by simp))
          · have c101_ : r100 = false := Bool.eq_false_iff.2 c101
            refine Chain.sub (Sub.bool 25 (b := r100) rfl c101_) ?_
            refine Chain.sub (Sub.bool 27 (b := r100) rfl c101_) ?_
            refine Chain.sub (S' := mk 41 [] [(0, .d (.sl (a0.map cS105))), (1, .d (.sl (a1.map cB))), (2, .d (.lit (.int .i64 a2))), (7, .d (.lit (.int .i64 v27))), (8, .d (.lit (.int .i64 a2))), (9, .d (.lit (.int .i64 v27))), (17, .d (.sl (a0.map cS105))), (18, .d (.lit (.int .i64 v27))), (19, .d (.pim [.lit (.int .i64 x97.Start), .lit (.int .i64 x97.Commit), .sl (x97.Reads.map cS), .sl (x97.Writes.map cS)])), (20, .agg [.d (.lit (.int .i64 x97.Start)), .d (.lit (.int .i64 x97.Commit)), .d (.sl (x97.Reads.map cS)), .d (.sl (x97.Writes.map cS))]), (21, .d (.sl (a0.map cS105))), (22, .d (.lit (.int .i64 a2))), (23, .d (.pim [.lit (.int .i64 x98.Start), .lit (.int .i64 x98.Commit), .sl (x98.Reads.map cS), .sl (x98.Writes.map cS)])), (24, .agg [.d (.lit (.int .i64 x98.Start)), .d (.lit (.int .i64 x98.Commit)), .d (.sl (x98.Reads.map cS)), .d (.sl (x98.Writes.map cS))]), (25, .d (.lit (.bool false))), (27, .d (.lit (.bool false)))] []) (by simp; exact Sub.table (by simp) (by simp)) ?_
            refine Chain.runQ 12 fun K hK => ?_; simp; refine hK _ _ ?_; clear hK K
            refine Chain.sub (S' := mk 41 [] [(0, .d (.sl (a0.map cS105))), (1, .d (.sl (a1.map cB))), (2, .d (.lit (.int .i64 a2))), (8, .d (.lit (.int .i64 a2))), (9, .d (.lit (.int .i64 v27))), (17, .d (.sl (a0.map cS105))), (18, .d (.lit (.int .i64 v27))), (19, .d (.pim [.lit (.int .i64 x97.Start), .lit (.int .i64 x97.Commit), .sl (x97.Reads.map cS), .sl (x97.Writes.map cS)])), (20, .agg [.d (.lit (.int .i64 x97.Start)), .d (.lit (.int .i64 x97.Commit)), .d (.sl (x97.Reads.map cS)), .d (.sl (x97.Writes.map cS))]), (21, .d (.sl (a0.map cS105))), (22, .d (.lit (.int .i64 a2))), (23, .d (.pim [.lit (.int .i64 x98.Start), .lit (.int .i64 x98.Commit), .sl (x98.Reads.map cS), .sl (x98.Writes.map cS)])), (24, .agg [.d (.lit (.int .i64 x98.Start)), .d (.lit (.int .i64 x98.Commit)), .d (.sl (x98.Reads.map cS)), .d (.sl (x98.Writes.map cS))]), (25, .d (.lit (.bool false))), (28, .tup []), (29, .tup []), (30, .tup []), (31, .tup []), (32, .tup []), (33, .tup []), (34, .tup []), (35, .tup []), (36, .tup []), (37, .tup []), (38, .tup []), (39, .d (.lit (.bool false)))] []) (Sub.table (by simp) (by simp)) ?_
            cases h
            exact Chain.nil (Sub.table (by simp) (by simp))
        · have c96_ : x94 = false := Bool.eq_false_iff.2 c96
          refine Chain.sub (Sub.bool 16 (b := x94) rfl c96_) ?_
          refine Chain.sub (S' := mk 41 [] [(0, .d (.sl (a0.map cS105))), (1, .d (.sl (a1.map cB))), (2, .d (.lit (.int .i64 a2))), (7, .d (.lit (.int .i64 v27))), (8, .d (.lit (.int .i64 a2))), (9, .d (.lit (.int .i64 v27))), (16, .d (.lit (.bool false)))] []) (by simp; exact Sub.table (by simp) (by simp)) ?_
          refine Chain.runQ 23 fun K hK => ?_; simp; refine hK _ _ ?_; clear hK K
          refine Chain.sub (S' := mk 41 [] [(0, .d (.sl (a0.map cS105))), (1, .d (.sl (a1.map cB))), (2, .d (.lit (.int .i64 a2))), (8, .d (.lit (.int .i64 a2))), (9, .d (.lit (.int .i64 v27))), (17, .tup []), (18, .tup []), (19, .tup []), (20, .tup []), (21, .tup []), (22, .tup []), (23, .tup []), (24, .tup []), (25, .tup []), (28, .tup []), (29, .tup []), (30, .tup []), (31, .tup []), (32, .tup []), (33, .tup []), (34, .tup []), (35, .tup []), (36, .tup []), (37, .tup []), (38, .tup []), (39, .d (.lit (.bool false)))] []) (Sub.table (by simp) (by simp)) ?_
          cases h
          exact Chain.nil (Sub.table (by simp) (by simp))
      · clear hj
        replace h := isome h; rcases h with ⟨c105, h⟩ | ⟨c105, h⟩
        · have c105_ : v93 = true := c105
          refine AW.condT (b := v93) rfl c105_ ?_
          refine AW.sub (Sub.bool 39 (b := v93) rfl c105_) ?_
          refine AW.sub (S' := mk 41 [] [(0, .d (.sl (a0.map cS105))), (1, .d (.sl (a1.map cB))), (2, .d (.lit (.int .i64 a2))), (8, .d (.lit (.int .i64 a2))), (9, .d (.lit (.int .i64 v27))), (39, .d (.lit (.bool true)))] []) (by simp; exact Sub.table (by simp) (by simp)) ?_
          refine AW.seqR ?_
          refine Chain.runK [] 1 fun K hK => ?_; simp; refine hK _ _ ?_; clear hK K
          refine Chain.sub (S' := mk 41 [] [(6, .d (.lit (.bool true)))] []) (Sub.table (by simp) (by simp)) ?_
          refine Chain.nil ?_
          refine AW.ret ?_
          cases h
          refine blockQ.ret ?_
          refine thenQ_pass (by simp) ?_
          refine PostI.out (by simp) ?_
          rintro rfl
          refine blockQ.ret ?_
          refine PostJ.out (by simp) ?_
          rintro rfl
          refine thenQ_pass (by simp) ?_
          exact FinC.ret (by simp) (by simp)
        · have c105_ : v93 = false := Bool.eq_false_iff.2 c105
          refine AW.condF (b := v93) rfl c105_ ?_
          refine AW.sub (Sub.bool 39 (b := v93) rfl c105_) ?_
          refine AW.sub (S' := mk 41 [] [(0, .d (.sl (a0.map cS105))), (1, .d (.sl (a1.map cB))), (2, .d (.lit (.int .i64 a2))), (8, .d (.lit (.int .i64 a2))), (9, .d (.lit (.int .i64 v27))), (39, .d (.lit (.bool false)))] []) (by simp; exact Sub.table (by simp) (by simp)) ?_
          refine AW.skip ?_
          refine blockQ.normal ?_
          refine thenQ_normal ?_
          refine AW.region ?_
          replace h := bsome h; obtain ⟨v106, hv106, h⟩ := h
          have hv106 := chkI_some hv106
          refine Chain.runK [] 2 fun K hK => ?_; simp [hv106]; refine hK _ _ ?_; clear hK K
          refine Chain.sub (S' := mk 41 [] [(0, .d (.sl (a0.map cS105))), (1, .d (.sl (a1.map cB))), (2, .d (.lit (.int .i64 a2))), (8, .d (.lit (.int .i64 a2))), (9, .d (.lit (.int .i64 v106)))] []) (Sub.table (by simp) (by simp)) ?_
          refine Chain.nil ?_
          cases h
          refine PostI.next ?_
          exact (Sub.table (by simp) (by simp))
    · have c81_ : decide (v27 < a2) = false := decide_eq_false c81
      refine AW.condF (b := decide (v27 < a2)) rfl c81_ ?_
      refine AW.sub (Sub.bool 10 (b := decide (v27 < a2)) rfl c81_) ?_
      refine AW.sub (S' := mk 41 [] [(0, .d (.sl (a0.map cS105))), (1, .d (.sl (a1.map cB))), (2, .d (.lit (.int .i64 a2))), (8, .d (.lit (.int .i64 a2))), (9, .d (.lit (.int .i64 v27))), (10, .d (.lit (.bool false)))] []) (by simp; exact Sub.table (by simp) (by simp)) ?_
      refine AW.exit ?_
      cases h
      refine thenQ_pass (by simp) ?_
      refine PostI.out (by simp) ?_
      rintro rfl
      refine blockQ.hit ?_
      refine PostJ.next ?_
      exact (Sub.table (by simp) (by simp))
  · rintro ⟨⟩ h
    refine thenQ_normal ?_
    refine AW.seqR ?_
    refine Chain.runK [] 1 fun K hK => ?_; simp; refine hK _ _ ?_; clear hK K
    refine Chain.sub (S' := mk 41 [] [(6, .d (.lit (.bool false)))] []) (Sub.table (by simp) (by simp)) ?_
    refine Chain.nil ?_
    refine AW.ret ?_
    cases h
    exact FinC.ret (by simp) (by simp)

/-- stemma/ssi.antidepends -/
def d65 (N : Nat) (a0 : S105) (a1 : S105) : Option Bool :=
  Option.bind (α := Bool) (
    (d87 N a0 a1).bind fun r5 =>
    if r5 = true then (
      (d88 N a0.Reads a1.Writes).bind fun r7 =>
      some r7
    ) else
    some false
  ) fun (v4 : Bool) =>
  some v4
set_option maxRecDepth 100000 in
set_option maxHeartbeats 4000000 in
theorem p65 (N : Nat) (a0 : S105) (a1 : S105) (r : Bool) (h : d65 N a0 a1 = some r) : FunC Try.prog 65 [.agg [.d (.lit (.int .i64 a0.Start)), .d (.lit (.int .i64 a0.Commit)), .d (.sl (a0.Reads.map cS)), .d (.sl (a0.Writes.map cS))], .agg [.d (.lit (.int .i64 a1.Start)), .d (.lit (.int .i64 a1.Commit)), .d (.sl (a1.Reads.map cS)), .d (.sl (a1.Writes.map cS))]] (.d (.lit (.bool r))) := by
  unfold d65 at h
  refine FunC.enter 15 [(0, .agg [.d (.lit (.int .i64 a0.Start)), .d (.lit (.int .i64 a0.Commit)), .d (.sl (a0.Reads.map cS)), .d (.sl (a0.Writes.map cS))]), (1, .agg [.d (.lit (.int .i64 a1.Start)), .d (.lit (.int .i64 a1.Commit)), .d (.sl (a1.Reads.map cS)), .d (.sl (a1.Writes.map cS))])] (by simp) Try.func65 rfl (of_decide_eq_true rfl) rfl rfl ?_
  refine AW.seqR ?_
  refine Chain.runK [] 3 fun K hK => ?_; simp; refine hK _ _ ?_; clear hK K
  refine Chain.sub (S' := mk 15 [] [(2, .ptr 2 0 0), (3, .ptr 3 0 0)] [(2, some (.box [.d (.lit (.int .i64 a0.Start)), .d (.lit (.int .i64 a0.Commit)), .d (.sl (a0.Reads.map cS)), .d (.sl (a0.Writes.map cS))])), (3, some (.box [.d (.lit (.int .i64 a1.Start)), .d (.lit (.int .i64 a1.Commit)), .d (.sl (a1.Reads.map cS)), .d (.sl (a1.Writes.map cS))]))]) (Sub.table (by simp) (by simp)) ?_
  refine Chain.nil ?_
  replace h := bsome h; obtain ⟨v4, hj, h⟩ := h
  refine AW.cutR (mk 15 [] [(4, .d (.lit (.bool v4)))] []) ?_ ?_
  · clear h; have h := hj; clear hj
    refine Chain.runK [] 2 fun K hK => ?_; simp; refine hK _ _ ?_; clear hK K
    refine Chain.sub (S' := mk 15 [] [(2, .ptr 2 0 0), (3, .ptr 3 0 0), (5, .agg [.d (.lit (.int .i64 a0.Start)), .d (.lit (.int .i64 a0.Commit)), .d (.sl (a0.Reads.map cS)), .d (.sl (a0.Writes.map cS))]), (6, .agg [.d (.lit (.int .i64 a1.Start)), .d (.lit (.int .i64 a1.Commit)), .d (.sl (a1.Reads.map cS)), .d (.sl (a1.Writes.map cS))])] [(2, some (.box [.d (.lit (.int .i64 a0.Start)), .d (.lit (.int .i64 a0.Commit)), .d (.sl (a0.Reads.map cS)), .d (.sl (a0.Writes.map cS))])), (3, some (.box [.d (.lit (.int .i64 a1.Start)), .d (.lit (.int .i64 a1.Commit)), .d (.sl (a1.Reads.map cS)), .d (.sl (a1.Writes.map cS))]))]) (Sub.table (by simp) (by simp)) ?_
    replace h := bsome h; obtain ⟨r5, hr5, h⟩ := h
    refine Chain.callL (d := 7) (p87 N a0 a1 r5 hr5) (by simp) rfl rfl (by simp <;> rfl) (by simp <;> rfl) ent87 (by simp <;> rfl) ?_
    refine Chain.sub (S' := mk 15 [] [(2, .ptr 2 0 0), (3, .ptr 3 0 0), (5, .agg [.d (.lit (.int .i64 a0.Start)), .d (.lit (.int .i64 a0.Commit)), .d (.sl (a0.Reads.map cS)), .d (.sl (a0.Writes.map cS))]), (6, .agg [.d (.lit (.int .i64 a1.Start)), .d (.lit (.int .i64 a1.Commit)), .d (.sl (a1.Reads.map cS)), .d (.sl (a1.Writes.map cS))]), (7, .d (.lit (.bool r5)))] [(2, some (.box [.d (.lit (.int .i64 a0.Start)), .d (.lit (.int .i64 a0.Commit)), .d (.sl (a0.Reads.map cS)), .d (.sl (a0.Writes.map cS))])), (3, some (.box [.d (.lit (.int .i64 a1.Start)), .d (.lit (.int .i64 a1.Commit)), .d (.sl (a1.Reads.map cS)), .d (.sl (a1.Writes.map cS))]))]) (by simp; exact Sub.table (by simp) (by simp)) ?_
    refine Chain.runK [] 1 fun K hK => ?_; simp; refine hK _ _ ?_; clear hK K
    refine Chain.sub (S' := mk 15 [] [(2, .ptr 2 0 0), (3, .ptr 3 0 0), (8, .d (.lit (.bool r5)))] [(2, some (.box [.d (.lit (.int .i64 a0.Start)), .d (.lit (.int .i64 a0.Commit)), .d (.sl (a0.Reads.map cS)), .d (.sl (a0.Writes.map cS))])), (3, some (.box [.d (.lit (.int .i64 a1.Start)), .d (.lit (.int .i64 a1.Commit)), .d (.sl (a1.Reads.map cS)), .d (.sl (a1.Writes.map cS))]))]) (Sub.table (by simp) (by simp)) ?_
    replace h := isome h; rcases h with ⟨c6, h⟩ | ⟨c6, h⟩
    · have c6_ : r5 = true := c6
      refine Chain.sub (Sub.bool 8 (b := r5) rfl c6_) ?_
      refine Chain.sub (S' := mk 15 [] [(2, .ptr 2 0 0), (3, .ptr 3 0 0), (8, .d (.lit (.bool true)))] [(2, some (.box [.d (.lit (.int .i64 a0.Start)), .d (.lit (.int .i64 a0.Commit)), .d (.sl (a0.Reads.map cS)), .d (.sl (a0.Writes.map cS))])), (3, some (.box [.d (.lit (.int .i64 a1.Start)), .d (.lit (.int .i64 a1.Commit)), .d (.sl (a1.Reads.map cS)), .d (.sl (a1.Writes.map cS))]))]) (by simp; exact Sub.table (by simp) (by simp)) ?_
      refine Chain.runK [] 4 fun K hK => ?_; simp; refine hK _ _ ?_; clear hK K
      refine Chain.sub (S' := mk 15 [] [(8, .d (.lit (.bool true))), (10, .d (.sl (a0.Reads.map cS))), (12, .d (.sl (a1.Writes.map cS)))] []) (Sub.table (by simp) (by simp)) ?_
      replace h := bsome h; obtain ⟨r7, hr7, h⟩ := h
      refine Chain.callL (d := 13) (p88 N a0.Reads a1.Writes r7 hr7) (by simp) rfl rfl (by simp <;> rfl) (by simp <;> rfl) ent88 (by simp <;> rfl) ?_
      refine Chain.sub (S' := mk 15 [] [(8, .d (.lit (.bool true))), (10, .d (.sl (a0.Reads.map cS))), (12, .d (.sl (a1.Writes.map cS))), (13, .d (.lit (.bool r7)))] []) (by simp; exact Sub.table (by simp) (by simp)) ?_
      refine Chain.runK [] 2 fun K hK => ?_; simp; refine hK _ _ ?_; clear hK K
      refine Chain.sub (S' := mk 15 [] [(4, .d (.lit (.bool r7)))] []) (Sub.table (by simp) (by simp)) ?_
      cases h
      exact Chain.nil (Sub.table (by simp) (by simp))
    · have c6_ : r5 = false := Bool.eq_false_iff.2 c6
      refine Chain.sub (Sub.bool 8 (b := r5) rfl c6_) ?_
      refine Chain.sub (S' := mk 15 [] [(2, .ptr 2 0 0), (3, .ptr 3 0 0), (8, .d (.lit (.bool false)))] [(2, some (.box [.d (.lit (.int .i64 a0.Start)), .d (.lit (.int .i64 a0.Commit)), .d (.sl (a0.Reads.map cS)), .d (.sl (a0.Writes.map cS))])), (3, some (.box [.d (.lit (.int .i64 a1.Start)), .d (.lit (.int .i64 a1.Commit)), .d (.sl (a1.Reads.map cS)), .d (.sl (a1.Writes.map cS))]))]) (by simp; exact Sub.table (by simp) (by simp)) ?_
      refine Chain.runK [] 7 fun K hK => ?_; simp; refine hK _ _ ?_; clear hK K
      refine Chain.sub (S' := mk 15 [] [(4, .d (.lit (.bool false)))] []) (Sub.table (by simp) (by simp)) ?_
      cases h
      exact Chain.nil (Sub.table (by simp) (by simp))
  · clear hj
    refine AW.ret ?_
    cases h
    exact FinC.ret (by simp) (by simp)

end Go.Proofs.Ytabjbkdlacibjaa
