/- Functions of the program as functional programs; the code computes them. -/
import Derived.Test.YtabjbkdlacibjaaSo2
namespace Go.Proofs.Ytabjbkdlacibjaa
open Go.Ab Go.Rp
attribute [-simp] List.all_eq_true Array.all_toList Array.all_eq_true

/-- stemma/serializability.ShortestCycle -/
def d29 (N : Nat) (a0 : (List S27)) : Option ((List Int) × Int) :=
  (d18 N a0).bind fun r1 =>
  if (r1 != 0) then (
    some (([] : List Int), r1)
  ) else
  (d56 N a0).bind fun r3 =>
  (lenL 400 (List.replicate 400 false)).bind fun _ =>
  (lenL 400 r3).bind fun _ =>
  Option.bind (α := List Int) (
    iterN (σ := ((List Int) × Int)) (ρ := List Int) (fun ((l16, v17) : ((List Int) × Int)) =>
      if v17 < 20 then (
        (lenL 400 r3).bind fun _ =>
        (d63 N r3 v17).bind fun r45 =>
        Option.bind (α := Bool) (
          if (r45.length : Int) > 0 then (
            if ((l16.length : Int) == 0) then (
              some true
            ) else
            some (decide ((r45.length : Int) < (l16.length : Int)))
          ) else
          some false
        ) fun (v48 : Bool) =>
        if v48 = true then (
          (chkI (v17 + 1)).bind fun v52 =>
          some (.inl (r45, v52))
        ) else
        (chkI (v17 + 1)).bind fun v53 =>
        some (.inl (l16, v53))
      ) else
      some (.inr l16)
    ) N (([] : List Int), 0)
  ) fun (l42 : List Int) =>
  if ((l42.length : Int) == 0) then (
    some (([] : List Int), 4)
  ) else
  some (l42, 0)
set_option maxRecDepth 100000 in
set_option maxHeartbeats 4000000 in
theorem p29 (N : Nat) (a0 : (List S27)) (r : ((List Int) × Int)) (h : d29 N a0 = some r) : FunC Try.prog 29 [.d (.sl (a0.map cS27))] (.tup [.d (.sl (r.1.map (cI .i64))), .d (.lit (.int .i64 r.2))]) := by
  unfold d29 at h
  refine FunC.enter 43 [(0, .d (.sl (a0.map cS27)))] (by simp) Try.func29 rfl (of_decide_eq_true rfl) rfl rfl ?_
  refine AW.seqR ?_
  refine Chain.runK [] 2 fun K hK => ?_; simp; refine hK _ _ ?_; clear hK K
  refine Chain.sub (S' := mk 43 [] [(0, .d (.sl (a0.map cS27)))] []) (Sub.table (by simp) (by simp)) ?_
  refine Chain.nil ?_
  refine AW.seq ?_
  refine AW.seqR ?_
  refine Chain.runK [] 1 fun K hK => ?_; simp; refine hK _ _ ?_; clear hK K
  refine Chain.sub (S' := mk 43 [] [(0, .d (.sl (a0.map cS27))), (9, .d (.sl (a0.map cS27)))] []) (Sub.table (by simp) (by simp)) ?_
  replace h := bsome h; obtain ⟨r1, hr1, h⟩ := h
  refine Chain.callL (d := 10) (p18 N a0 r1 hr1) (by simp) rfl rfl (by simp <;> rfl) (by simp <;> rfl) ent18 (by simp <;> rfl) ?_
  refine Chain.sub (S' := mk 43 [] [(0, .d (.sl (a0.map cS27))), (9, .d (.sl (a0.map cS27))), (10, .d (.lit (.int .i64 r1)))] []) (by simp; exact Sub.table (by simp) (by simp)) ?_
  refine Chain.runK [] 1 fun K hK => ?_; simp; refine hK _ _ ?_; clear hK K
  refine Chain.sub (S' := mk 43 [] [(0, .d (.sl (a0.map cS27))), (4, .d (.lit (.int .i64 r1)))] []) (Sub.table (by simp) (by simp)) ?_
  refine Chain.nil ?_
  refine AW.seqR ?_
  refine Chain.runK [] 2 fun K hK => ?_; simp; refine hK _ _ ?_; clear hK K
  refine Chain.sub (S' := mk 43 [] [(0, .d (.sl (a0.map cS27))), (4, .d (.lit (.int .i64 r1))), (12, .d (.lit (.bool (r1 != 0))))] []) (Sub.table (by simp) (by simp)) ?_
  refine Chain.nil ?_
  replace h := isome h; rcases h with ⟨c2, h⟩ | ⟨c2, h⟩
  · have c2_ : (r1 != 0) = true := c2
    refine AW.condT (b := (r1 != 0)) rfl c2_ ?_
    refine AW.sub (Sub.bool 12 (b := (r1 != 0)) rfl c2_) ?_
    refine AW.sub (S' := mk 43 [] [(0, .d (.sl (a0.map cS27))), (4, .d (.lit (.int .i64 r1))), (12, .d (.lit (.bool true)))] []) (by simp; exact Sub.table (by simp) (by simp)) ?_
    refine AW.seqR ?_
    refine Chain.runK [] 3 fun K hK => ?_; simp; refine hK _ _ ?_; clear hK K
    refine Chain.sub (S' := mk 43 [] [(2, .d (.lit (.slice none 0 0))), (3, .d (.lit (.int .i64 r1)))] []) (Sub.table (by simp) (by simp)) ?_
    refine Chain.nil ?_
    refine AW.sub (Sub.wk 2 rfl) ?_
    refine AW.sub (S' := mk 43 [] [(2, .d (.sl (([] : List Int).map (cI .i64)))), (3, .d (.lit (.int .i64 r1)))] []) (by simp; exact Sub.table (by simp) (by simp)) ?_
    refine AW.ret ?_
    cases h
    refine thenQ_pass (by simp) ?_
    exact FinC.ret (by simp) (by simp)
  · have c2_ : (r1 != 0) = false := Bool.eq_false_iff.2 c2
    refine AW.condF (b := (r1 != 0)) rfl c2_ ?_
    refine AW.sub (Sub.bool 12 (b := (r1 != 0)) rfl c2_) ?_
    refine AW.sub (S' := mk 43 [] [(0, .d (.sl (a0.map cS27))), (4, .d (.lit (.int .i64 r1))), (12, .d (.lit (.bool false)))] []) (by simp; exact Sub.table (by simp) (by simp)) ?_
    refine AW.skip ?_
    refine thenQ_normal ?_
    refine AW.seqR ?_
    refine Chain.runK [] 1 fun K hK => ?_; simp; refine hK _ _ ?_; clear hK K
    refine Chain.sub (S' := mk 43 [] [(14, .d (.sl (a0.map cS27)))] []) (Sub.table (by simp) (by simp)) ?_
    replace h := bsome h; obtain ⟨r3, hr3, h⟩ := h
    refine Chain.callC (d := 15) (p56 N a0 r3 hr3) (by simp) rfl rfl (by simp <;> rfl) (by simp <;> rfl) ent56 (by simp) (.inl ⟨by simp, by simp⟩) ?_
    refine Chain.sub (S' := mk 43 [] [(14, .d (.sl (a0.map cS27))), (15, .agg (r3.map vB))] []) (by simp; exact Sub.table (by simp) (by simp)) ?_
    refine Chain.runK [] 1 fun K hK => ?_; simp; refine hK _ _ ?_; clear hK K
    refine Chain.sub (S' := mk 43 [] [(5, .ptr 5 0 0), (15, .agg (r3.map vB))] [(5, some (.box ((List.replicate 400 false).map vB)))]) (Sub.table (by simp) (by simp)) ?_
    replace h := bsome h; obtain ⟨q4, gq4, h⟩ := h
    have hq4 := (lenL_some gq4).1
    replace h := bsome h; obtain ⟨q5, gq5, h⟩ := h
    have hq5 := (lenL_some gq5).1
    refine Chain.runK [] 1 fun K hK => ?_; simp [hq4, hq5]; refine hK _ _ ?_; clear hK K
    refine Chain.sub (S' := mk 43 [] [(5, .ptr 5 0 0)] [(5, some (.box (r3.map vB)))]) (Sub.table (by simp) (by simp)) ?_
    refine Chain.nil ?_
    refine AW.seqR ?_
    refine Chain.runK [] 1 fun K hK => ?_; simp; refine hK _ _ ?_; clear hK K
    refine Chain.sub (S' := mk 43 [] [(5, .ptr 5 0 0), (6, .d (.lit (.slice none 0 0)))] [(5, some (.box (r3.map vB)))]) (Sub.table (by simp) (by simp)) ?_
    refine Chain.nil ?_
    refine AW.seq ?_
    refine AW.seqR ?_
    refine Chain.runK [] 1 fun K hK => ?_; simp; refine hK _ _ ?_; clear hK K
    refine Chain.sub (S' := mk 43 [] [(5, .ptr 5 0 0), (6, .d (.lit (.slice none 0 0))), (16, .d (.lit (.int .i64 0)))] [(5, some (.box (r3.map vB)))]) (Sub.table (by simp) (by simp)) ?_
    refine Chain.nil ?_
    refine AW.lastN (fun (l42 : List Int) => mk 43 [] [(6, .d (.sl (l42.map (cI .i64))))] []) h ?_ ?_ <;> clear h
    · intro o h
      refine AW.block ?_
      refine AW.iter (fun ((l16, v17) : ((List Int) × Int)) => mk 43 [] [(5, .ptr 5 0 0), (6, .d (.sl (l16.map (cI .i64)))), (16, .d (.lit (.int .i64 v17)))] [(5, some (.box (r3.map vB)))]) h (Sub.trans (Sub.wk 6 rfl) (by simp; exact Sub.table (by simp) (by simp))) ?_
      clear h
      rintro ⟨l16, v17⟩ x h
      dsimp only at h ⊢
      refine AW.seqR ?_
      refine Chain.runK [] 1 fun K hK => ?_; simp; refine hK _ _ ?_; clear hK K
      refine Chain.sub (S' := mk 43 [] [(5, .ptr 5 0 0), (6, .d (.sl (l16.map (cI .i64)))), (16, .d (.lit (.int .i64 v17))), (17, .d (.lit (.bool (decide (v17 < 20)))))] [(5, some (.box (r3.map vB)))]) (Sub.table (by simp) (by simp)) ?_
      refine Chain.nil ?_
      refine AW.seq ?_
      replace h := isome h; rcases h with ⟨c43, h⟩ | ⟨c43, h⟩
      · have c43_ : decide (v17 < 20) = true := decide_eq_true c43
        refine AW.condT (b := decide (v17 < 20)) rfl c43_ ?_
        refine AW.sub (Sub.bool 17 (b := decide (v17 < 20)) rfl c43_) ?_
        refine AW.sub (S' := mk 43 [] [(5, .ptr 5 0 0), (6, .d (.sl (l16.map (cI .i64)))), (16, .d (.lit (.int .i64 v17))), (17, .d (.lit (.bool true)))] [(5, some (.box (r3.map vB)))]) (by simp; exact Sub.table (by simp) (by simp)) ?_
        refine AW.skip ?_
        refine thenQ_normal ?_
        refine AW.seq ?_
        refine AW.block ?_
        refine AW.seqR ?_
        refine Chain.runK [] 2 fun K hK => ?_; simp; refine hK _ _ ?_; clear hK K
        refine Chain.sub (S' := mk 43 [] [(5, .ptr 5 0 0), (6, .d (.sl (l16.map (cI .i64)))), (7, .d (.lit (.int .i64 v17))), (16, .d (.lit (.int .i64 v17)))] [(5, some (.box (r3.map vB)))]) (Sub.table (by simp) (by simp)) ?_
        refine Chain.nil ?_
        refine AW.seqR ?_
        replace h := bsome h; obtain ⟨q44, gq44, h⟩ := h
        have hq44 := (lenL_some gq44).1
        refine Chain.runK [] 2 fun K hK => ?_; simp [hq44]; refine hK _ _ ?_; clear hK K
        refine Chain.sub (S' := mk 43 [] [(5, .ptr 5 0 0), (6, .d (.sl (l16.map (cI .i64)))), (16, .d (.lit (.int .i64 v17))), (19, .agg (r3.map vB)), (20, .d (.lit (.int .i64 v17)))] [(5, some (.box (r3.map vB)))]) (Sub.table (by simp) (by simp)) ?_
        replace h := bsome h; obtain ⟨r45, hr45, h⟩ := h
        refine Chain.callC (d := 21) (p63 N r3 v17 r45 hr45) (by simp) rfl rfl (by simp <;> rfl) (by simp <;> rfl) ent63 (by simp) (.inl ⟨by simp, by simp⟩) ?_
        refine Chain.sub (S' := mk 43 [] [(5, .ptr 5 0 0), (6, .d (.sl (l16.map (cI .i64)))), (16, .d (.lit (.int .i64 v17))), (19, .agg (r3.map vB)), (20, .d (.lit (.int .i64 v17))), (21, .d (.sl (r45.map (cI .i64))))] [(5, some (.box (r3.map vB)))]) (by simp; exact Sub.table (by simp) (by simp)) ?_
        refine Chain.runK [] 1 fun K hK => ?_; simp; refine hK _ _ ?_; clear hK K
        refine Chain.sub (S' := mk 43 [] [(5, .ptr 5 0 0), (6, .d (.sl (l16.map (cI .i64)))), (8, .d (.sl (r45.map (cI .i64)))), (16, .d (.lit (.int .i64 v17)))] [(5, some (.box (r3.map vB)))]) (Sub.table (by simp) (by simp)) ?_
        refine Chain.nil ?_
        replace h := bsome h; obtain ⟨v48, hj, h⟩ := h
        refine AW.cutR (mk 43 [] [(5, .ptr 5 0 0), (6, .d (.sl (l16.map (cI .i64)))), (8, .d (.sl (r45.map (cI .i64)))), (16, .d (.lit (.int .i64 v17))), (36, .d (.lit (.bool v48)))] [(5, some (.box (r3.map vB)))]) ?_ ?_
        · clear h; have h := hj; clear hj
          refine Chain.runK [] 4 fun K hK => ?_; simp; refine hK _ _ ?_; clear hK K
          refine Chain.sub (S' := mk 43 [] [(5, .ptr 5 0 0), (6, .d (.sl (l16.map (cI .i64)))), (8, .d (.sl (r45.map (cI .i64)))), (16, .d (.lit (.int .i64 v17))), (25, .d (.lit (.bool (decide ((r45.length : Int) > 0)))))] [(5, some (.box (r3.map vB)))]) (Sub.table (by simp) (by simp)) ?_
          replace h := isome h; rcases h with ⟨c49, h⟩ | ⟨c49, h⟩
          · have c49_ : decide ((r45.length : Int) > 0) = true := decide_eq_true c49
            refine Chain.sub (Sub.bool 25 (b := decide ((r45.length : Int) > 0)) rfl c49_) ?_
            refine Chain.sub (S' := mk 43 [] [(5, .ptr 5 0 0), (6, .d (.sl (l16.map (cI .i64)))), (8, .d (.sl (r45.map (cI .i64)))), (16, .d (.lit (.int .i64 v17))), (25, .d (.lit (.bool true)))] [(5, some (.box (r3.map vB)))]) (by simp; exact Sub.table (by simp) (by simp)) ?_
            refine Chain.runK [] 4 fun K hK => ?_; simp; refine hK _ _ ?_; clear hK K
            refine Chain.sub (S' := mk 43 [] [(5, .ptr 5 0 0), (6, .d (.sl (l16.map (cI .i64)))), (8, .d (.sl (r45.map (cI .i64)))), (16, .d (.lit (.int .i64 v17))), (25, .d (.lit (.bool true))), (26, .d (.sl (l16.map (cI .i64)))), (27, .d (.lit (.int .i64 (l16.length : Int)))), (28, .d (.lit (.bool ((l16.length : Int) == 0)))), (29, .d (.lit (.bool ((l16.length : Int) == 0))))] [(5, some (.box (r3.map vB)))]) (Sub.table (by simp) (by simp)) ?_
            replace h := isome h; rcases h with ⟨c50, h⟩ | ⟨c50, h⟩
            · have c50_ : ((l16.length : Int) == 0) = true := c50
              refine Chain.sub (Sub.bool 28 (b := ((l16.length : Int) == 0)) rfl c50_) ?_
              refine Chain.sub (Sub.bool 29 (b := ((l16.length : Int) == 0)) rfl c50_) ?_
              refine Chain.sub (S' := mk 43 [] [(5, .ptr 5 0 0), (6, .d (.sl (l16.map (cI .i64)))), (8, .d (.sl (r45.map (cI .i64)))), (16, .d (.lit (.int .i64 v17))), (25, .d (.lit (.bool true))), (26, .d (.sl (l16.map (cI .i64)))), (27, .d (.lit (.int .i64 (l16.length : Int)))), (28, .d (.lit (.bool true))), (29, .d (.lit (.bool true)))] [(5, some (.box (r3.map vB)))]) (by simp; exact Sub.table (by simp) (by simp)) ?_
              refine Chain.runK [] 7 fun K hK => ?_; simp; refine hK _ _ ?_; clear hK K
              refine Chain.sub (S' := mk 43 [] [(5, .ptr 5 0 0), (6, .d (.sl (l16.map (cI .i64)))), (8, .d (.sl (r45.map (cI .i64)))), (16, .d (.lit (.int .i64 v17))), (26, .d (.sl (l16.map (cI .i64)))), (27, .d (.lit (.int .i64 (l16.length : Int)))), (28, .d (.lit (.bool true))), (29, .d (.lit (.bool true))), (30, .tup []), (31, .tup []), (32, .tup []), (33, .tup []), (34, .tup []), (35, .d (.lit (.bool true))), (36, .d (.lit (.bool true)))] [(5, some (.box (r3.map vB)))]) (Sub.table (by simp) (by simp)) ?_
              cases h
              exact Chain.nil (Sub.table (by simp) (by simp))
            · have c50_ : ((l16.length : Int) == 0) = false := Bool.eq_false_iff.2 c50
              refine Chain.sub (Sub.bool 28 (b := ((l16.length : Int) == 0)) rfl c50_) ?_
              refine Chain.sub (Sub.bool 29 (b := ((l16.length : Int) == 0)) rfl c50_) ?_
              refine Chain.sub (S' := mk 43 [] [(5, .ptr 5 0 0), (6, .d (.sl (l16.map (cI .i64)))), (8, .d (.sl (r45.map (cI .i64)))), (16, .d (.lit (.int .i64 v17))), (25, .d (.lit (.bool true))), (26, .d (.sl (l16.map (cI .i64)))), (27, .d (.lit (.int .i64 (l16.length : Int)))), (28, .d (.lit (.bool false))), (29, .d (.lit (.bool false)))] [(5, some (.box (r3.map vB)))]) (by simp; exact Sub.table (by simp) (by simp)) ?_
              refine Chain.runK [] 7 fun K hK => ?_; simp; refine hK _ _ ?_; clear hK K
              refine Chain.sub (S' := mk 43 [] [(5, .ptr 5 0 0), (6, .d (.sl (l16.map (cI .i64)))), (8, .d (.sl (r45.map (cI .i64)))), (16, .d (.lit (.int .i64 v17))), (26, .d (.sl (l16.map (cI .i64)))), (27, .d (.lit (.int .i64 (l16.length : Int)))), (28, .d (.lit (.bool false))), (29, .d (.lit (.bool false))), (30, .d (.sl (r45.map (cI .i64)))), (31, .d (.lit (.int .i64 (r45.length : Int)))), (32, .d (.sl (l16.map (cI .i64)))), (33, .d (.lit (.int .i64 (l16.length : Int)))), (34, .d (.lit (.bool (decide ((r45.length : Int) < (l16.length : Int)))))), (35, .d (.lit (.bool (decide ((r45.length : Int) < (l16.length : Int)))))), (36, .d (.lit (.bool (decide ((r45.length : Int) < (l16.length : Int))))))] [(5, some (.box (r3.map vB)))]) (Sub.table (by simp) (by simp)) ?_
              cases h
              exact Chain.nil (Sub.table (by simp) (by simp))
          · have c49_ : decide ((r45.length : Int) > 0) = false := decide_eq_false c49
            refine Chain.sub (Sub.bool 25 (b := decide ((r45.length : Int) > 0)) rfl c49_) ?_
            refine Chain.sub (S' := mk 43 [] [(5, .ptr 5 0 0), (6, .d (.sl (l16.map (cI .i64)))), (8, .d (.sl (r45.map (cI .i64)))), (16, .d (.lit (.int .i64 v17))), (25, .d (.lit (.bool false)))] [(5, some (.box (r3.map vB)))]) (by simp; exact Sub.table (by simp) (by simp)) ?_
            refine Chain.runK [] 11 fun K hK => ?_; simp; refine hK _ _ ?_; clear hK K
            refine Chain.sub (S' := mk 43 [] [(5, .ptr 5 0 0), (6, .d (.sl (l16.map (cI .i64)))), (8, .d (.sl (r45.map (cI .i64)))), (16, .d (.lit (.int .i64 v17))), (26, .tup []), (27, .tup []), (28, .tup []), (29, .tup []), (30, .tup []), (31, .tup []), (32, .tup []), (33, .tup []), (34, .tup []), (35, .tup []), (36, .d (.lit (.bool false)))] [(5, some (.box (r3.map vB)))]) (Sub.table (by simp) (by simp)) ?_
            cases h
            exact Chain.nil (Sub.table (by simp) (by simp))
        · clear hj
          replace h := isome h; rcases h with ⟨c51, h⟩ | ⟨c51, h⟩
          · have c51_ : v48 = true := c51
            refine AW.condT (b := v48) rfl c51_ ?_
            refine AW.sub (Sub.bool 36 (b := v48) rfl c51_) ?_
            refine AW.sub (S' := mk 43 [] [(5, .ptr 5 0 0), (6, .d (.sl (l16.map (cI .i64)))), (8, .d (.sl (r45.map (cI .i64)))), (16, .d (.lit (.int .i64 v17))), (36, .d (.lit (.bool true)))] [(5, some (.box (r3.map vB)))]) (by simp; exact Sub.table (by simp) (by simp)) ?_
            refine AW.region ?_
            refine Chain.runK [] 2 fun K hK => ?_; simp; refine hK _ _ ?_; clear hK K
            refine Chain.sub (S' := mk 43 [] [(5, .ptr 5 0 0), (6, .d (.sl (r45.map (cI .i64)))), (16, .d (.lit (.int .i64 v17)))] [(5, some (.box (r3.map vB)))]) (Sub.table (by simp) (by simp)) ?_
            refine Chain.nil ?_
            refine blockQ.normal ?_
            refine thenQ_normal ?_
            refine AW.region ?_
            replace h := bsome h; obtain ⟨v52, hv52, h⟩ := h
            have hv52 := chkI_some hv52
            refine Chain.runK [] 2 fun K hK => ?_; simp [hv52]; refine hK _ _ ?_; clear hK K
            refine Chain.sub (S' := mk 43 [] [(5, .ptr 5 0 0), (6, .d (.sl (r45.map (cI .i64)))), (16, .d (.lit (.int .i64 v52)))] [(5, some (.box (r3.map vB)))]) (Sub.table (by simp) (by simp)) ?_
            refine Chain.nil ?_
            cases h
            refine PostI.next ?_
            exact (Sub.table (by simp) (by simp))
          · have c51_ : v48 = false := Bool.eq_false_iff.2 c51
            refine AW.condF (b := v48) rfl c51_ ?_
            refine AW.sub (Sub.bool 36 (b := v48) rfl c51_) ?_
            refine AW.sub (S' := mk 43 [] [(5, .ptr 5 0 0), (6, .d (.sl (l16.map (cI .i64)))), (8, .d (.sl (r45.map (cI .i64)))), (16, .d (.lit (.int .i64 v17))), (36, .d (.lit (.bool false)))] [(5, some (.box (r3.map vB)))]) (by simp; exact Sub.table (by simp) (by simp)) ?_
            refine AW.skip ?_
            refine blockQ.normal ?_
            refine thenQ_normal ?_
            refine AW.region ?_
            replace h := bsome h; obtain ⟨v53, hv53, h⟩ := h
            have hv53 := chkI_some hv53
            refine Chain.runK [] 2 fun K hK => ?_; simp [hv53]; refine hK _ _ ?_; clear hK K
            refine Chain.sub (S' := mk 43 [] [(5, .ptr 5 0 0), (6, .d (.sl (l16.map (cI .i64)))), (16, .d (.lit (.int .i64 v53)))] [(5, some (.box (r3.map vB)))]) (Sub.table (by simp) (by simp)) ?_
            refine Chain.nil ?_
            cases h
            refine PostI.next ?_
            exact (Sub.table (by simp) (by simp))
      · have c43_ : decide (v17 < 20) = false := decide_eq_false c43
        refine AW.condF (b := decide (v17 < 20)) rfl c43_ ?_
        refine AW.sub (Sub.bool 17 (b := decide (v17 < 20)) rfl c43_) ?_
        refine AW.sub (S' := mk 43 [] [(5, .ptr 5 0 0), (6, .d (.sl (l16.map (cI .i64)))), (16, .d (.lit (.int .i64 v17))), (17, .d (.lit (.bool false)))] [(5, some (.box (r3.map vB)))]) (by simp; exact Sub.table (by simp) (by simp)) ?_
        refine AW.exit ?_
        cases h
        refine thenQ_pass (by simp) ?_
        refine PostI.out (by simp) ?_
        rintro rfl
        refine blockQ.hit ?_
        refine PostN.next ?_
        exact (Sub.table (by simp) (by simp))
    · rintro l42 h
      refine thenQ_normal ?_
      refine AW.seq ?_
      refine AW.seqR ?_
      refine Chain.runK [] 3 fun K hK => ?_; simp; refine hK _ _ ?_; clear hK K
      refine Chain.sub (S' := mk 43 [] [(6, .d (.sl (l42.map (cI .i64)))), (41, .d (.lit (.bool ((l42.length : Int) == 0))))] []) (Sub.table (by simp) (by simp)) ?_
      refine Chain.nil ?_
      replace h := isome h; rcases h with ⟨c54, h⟩ | ⟨c54, h⟩
      · have c54_ : ((l42.length : Int) == 0) = true := c54
        refine AW.condT (b := ((l42.length : Int) == 0)) rfl c54_ ?_
        refine AW.sub (Sub.bool 41 (b := ((l42.length : Int) == 0)) rfl c54_) ?_
        refine AW.sub (S' := mk 43 [] [(6, .d (.sl (l42.map (cI .i64)))), (41, .d (.lit (.bool true)))] []) (by simp; exact Sub.table (by simp) (by simp)) ?_
        refine AW.seqR ?_
        refine Chain.runK [] 2 fun K hK => ?_; simp; refine hK _ _ ?_; clear hK K
        refine Chain.sub (S' := mk 43 [] [(2, .d (.lit (.slice none 0 0))), (3, .d (.lit (.int .i64 4)))] []) (Sub.table (by simp) (by simp)) ?_
        refine Chain.nil ?_
        refine AW.sub (Sub.wk 2 rfl) ?_
        refine AW.sub (S' := mk 43 [] [(2, .d (.sl (([] : List Int).map (cI .i64)))), (3, .d (.lit (.int .i64 4)))] []) (by simp; exact Sub.table (by simp) (by simp)) ?_
        refine AW.ret ?_
        cases h
        refine thenQ_pass (by simp) ?_
        exact FinC.ret (by simp) (by simp)
      · have c54_ : ((l42.length : Int) == 0) = false := Bool.eq_false_iff.2 c54
        refine AW.condF (b := ((l42.length : Int) == 0)) rfl c54_ ?_
        refine AW.sub (Sub.bool 41 (b := ((l42.length : Int) == 0)) rfl c54_) ?_
        refine AW.sub (S' := mk 43 [] [(6, .d (.sl (l42.map (cI .i64)))), (41, .d (.lit (.bool false)))] []) (by simp; exact Sub.table (by simp) (by simp)) ?_
        refine AW.skip ?_
        refine thenQ_normal ?_
        refine AW.seqR ?_
        refine Chain.runK [] 3 fun K hK => ?_; simp; refine hK _ _ ?_; clear hK K
        refine Chain.sub (S' := mk 43 [] [(2, .d (.sl (l42.map (cI .i64)))), (3, .d (.lit (.int .i64 0)))] []) (Sub.table (by simp) (by simp)) ?_
        refine Chain.nil ?_
        refine AW.ret ?_
        cases h
        exact FinC.ret (by simp) (by simp)

/-- slices.Equal[[]int,int] -/
def d22 (N : Nat) (a0 : (List Int)) (a1 : (List Int)) : Option Bool :=
  if ((a0.length : Int) != (a1.length : Int)) then (
    some false
  ) else
  bindO (β := Unit) (ρ := Bool) (
    iterN (σ := Int) (ρ := (Out Unit Bool)) (fun (v8 : Int) =>
      if v8 < (a0.length : Int) then (
        (idx a0 v8).bind fun x23 =>
        (idx a1 v8).bind fun x25 =>
        if (x23 != x25) then (
          some (.inr (.ret false))
        ) else
        (chkI (v8 + 1)).bind fun v27 =>
        some (.inl v27)
      ) else
      some (.inr (.go ()))
    ) N 0
  ) fun (_ : Unit) =>
  some true
set_option maxRecDepth 100000 in
set_option maxHeartbeats 4000000 in
theorem p22 (N : Nat) (a0 : (List Int)) (a1 : (List Int)) (r : Bool) (h : d22 N a0 a1 = some r) : FunC Try.prog 22 [.d (.sl (a0.map (cI .i64))), .d (.sl (a1.map (cI .i64)))] (.d (.lit (.bool r))) := by
  unfold d22 at h
  refine FunC.enter 26 [(0, .d (.sl (a0.map (cI .i64)))), (1, .d (.sl (a1.map (cI .i64))))] (by simp) Try.func22 rfl (of_decide_eq_true rfl) rfl rfl ?_
  refine AW.seqR ?_
  refine Chain.runK [] 1 fun K hK => ?_; simp; refine hK _ _ ?_; clear hK K
  refine Chain.sub (S' := mk 26 [] [(0, .d (.sl (a0.map (cI .i64)))), (1, .d (.sl (a1.map (cI .i64))))] []) (Sub.table (by simp) (by simp)) ?_
  refine Chain.nil ?_
  refine AW.seq ?_
  refine AW.seqR ?_
  refine Chain.runK [] 5 fun K hK => ?_; simp; refine hK _ _ ?_; clear hK K
  refine Chain.sub (S' := mk 26 [] [(0, .d (.sl (a0.map (cI .i64)))), (1, .d (.sl (a1.map (cI .i64)))), (10, .d (.lit (.bool ((a0.length : Int) != (a1.length : Int)))))] []) (Sub.table (by simp) (by simp)) ?_
  refine Chain.nil ?_
  replace h := isome h; rcases h with ⟨c1, h⟩ | ⟨c1, h⟩
  · have c1_ : ((a0.length : Int) != (a1.length : Int)) = true := c1
    refine AW.condT (b := ((a0.length : Int) != (a1.length : Int))) rfl c1_ ?_
    refine AW.sub (Sub.bool 10 (b := ((a0.length : Int) != (a1.length : Int))) rfl c1_) ?_
    refine AW.sub (S' := mk 26 [] [(0, .d (.sl (a0.map (cI .i64)))), (1, .d (.sl (a1.map (cI .i64)))), (10, .d (.lit (.bool true)))] []) (by simp; exact Sub.table (by simp) (by simp)) ?_
    refine AW.seqR ?_
    refine Chain.runK [] 1 fun K hK => ?_; simp; refine hK _ _ ?_; clear hK K
    refine Chain.sub (S' := mk 26 [] [(4, .d (.lit (.bool false)))] []) (Sub.table (by simp) (by simp)) ?_
    refine Chain.nil ?_
    refine AW.ret ?_
    cases h
    refine thenQ_pass (by simp) ?_
    exact FinC.ret (by simp) (by simp)
  · have c1_ : ((a0.length : Int) != (a1.length : Int)) = false := Bool.eq_false_iff.2 c1
    refine AW.condF (b := ((a0.length : Int) != (a1.length : Int))) rfl c1_ ?_
    refine AW.sub (Sub.bool 10 (b := ((a0.length : Int) != (a1.length : Int))) rfl c1_) ?_
    refine AW.sub (S' := mk 26 [] [(0, .d (.sl (a0.map (cI .i64)))), (1, .d (.sl (a1.map (cI .i64)))), (10, .d (.lit (.bool false)))] []) (by simp; exact Sub.table (by simp) (by simp)) ?_
    refine AW.skip ?_
    refine thenQ_normal ?_
    refine AW.seq ?_
    refine AW.seqR ?_
    refine Chain.runK [] 3 fun K hK => ?_; simp; refine hK _ _ ?_; clear hK K
    refine Chain.sub (S' := mk 26 [] [(0, .d (.sl (a0.map (cI .i64)))), (1, .d (.sl (a1.map (cI .i64)))), (12, .d (.lit (.int .i64 (a0.length : Int)))), (13, .d (.lit (.int .i64 0)))] []) (Sub.table (by simp) (by simp)) ?_
    refine Chain.nil ?_
    refine AW.lastJ (fun (_ : Unit) => mk 26 [] [] []) h ?_ ?_ <;> clear h
    · intro o h
      refine AW.block ?_
      refine AW.iter (fun (v8 : Int) => mk 26 [] [(0, .d (.sl (a0.map (cI .i64)))), (1, .d (.sl (a1.map (cI .i64)))), (12, .d (.lit (.int .i64 (a0.length : Int)))), (13, .d (.lit (.int .i64 v8)))] []) h (Sub.table (by simp) (by simp)) ?_
      clear h
      rintro v8 x h
      refine AW.seqR ?_
      refine Chain.runK [] 1 fun K hK => ?_; simp; refine hK _ _ ?_; clear hK K
      refine Chain.sub (S' := mk 26 [] [(0, .d (.sl (a0.map (cI .i64)))), (1, .d (.sl (a1.map (cI .i64)))), (12, .d (.lit (.int .i64 (a0.length : Int)))), (13, .d (.lit (.int .i64 v8))), (14, .d (.lit (.bool (decide (v8 < (a0.length : Int))))))] []) (Sub.table (by simp) (by simp)) ?_
      refine Chain.nil ?_
      refine AW.seq ?_
      replace h := isome h; rcases h with ⟨c22, h⟩ | ⟨c22, h⟩
      · have c22_ : decide (v8 < (a0.length : Int)) = true := decide_eq_true c22
        refine AW.condT (b := decide (v8 < (a0.length : Int))) rfl c22_ ?_
        refine AW.sub (Sub.bool 14 (b := decide (v8 < (a0.length : Int))) rfl c22_) ?_
        refine AW.sub (S' := mk 26 [] [(0, .d (.sl (a0.map (cI .i64)))), (1, .d (.sl (a1.map (cI .i64)))), (12, .d (.lit (.int .i64 (a0.length : Int)))), (13, .d (.lit (.int .i64 v8))), (14, .d (.lit (.bool true)))] []) (by simp; exact Sub.table (by simp) (by simp)) ?_
        refine AW.skip ?_
        refine thenQ_normal ?_
        refine AW.seq ?_
        refine AW.block ?_
        refine AW.seqR ?_
        refine Chain.runK [] 2 fun K hK => ?_; simp; refine hK _ _ ?_; clear hK K
        refine Chain.sub (S' := mk 26 [] [(0, .d (.sl (a0.map (cI .i64)))), (1, .d (.sl (a1.map (cI .i64)))), (5, .d (.lit (.int .i64 v8))), (12, .d (.lit (.int .i64 (a0.length : Int)))), (13, .d (.lit (.int .i64 v8)))] []) (Sub.table (by simp) (by simp)) ?_
        refine Chain.nil ?_
        refine AW.seqQ (by kernel_rfl) (by kernel_rfl) ?_
        replace h := bsome h; obtain ⟨x23, hx23, h⟩ := h
        obtain ⟨k24, hx23k, hx23, hx23a, hx23b⟩ := idx_some hx23
        replace h := bsome h; obtain ⟨x25, hx25, h⟩ := h
        obtain ⟨hx25, hx25a, hx25b⟩ := idx_some2 hx25 hx23k
        refine Chain.runQ 9 fun K hK => ?_; simp [hx23, hx23k, hx23a, hx25, hx23k, hx25a]; refine hK _ _ ?_; clear hK K
        refine Chain.sub (S' := mk 26 [] [(0, .d (.sl (a0.map (cI .i64)))), (1, .d (.sl (a1.map (cI .i64)))), (12, .d (.lit (.int .i64 (a0.length : Int)))), (13, .d (.lit (.int .i64 v8))), (24, .d (.lit (.bool (x23 != x25))))] []) (Sub.table (by simp) (by simp)) ?_
        refine Chain.nil ?_
        replace h := isome h; rcases h with ⟨c26, h⟩ | ⟨c26, h⟩
        · have c26_ : (x23 != x25) = true := c26
          refine AW.condT (b := (x23 != x25)) rfl c26_ ?_
          refine AW.sub (Sub.bool 24 (b := (x23 != x25)) rfl c26_) ?_
          refine AW.sub (S' := mk 26 [] [(0, .d (.sl (a0.map (cI .i64)))), (1, .d (.sl (a1.map (cI .i64)))), (12, .d (.lit (.int .i64 (a0.length : Int)))), (13, .d (.lit (.int .i64 v8))), (24, .d (.lit (.bool true)))] []) (by simp; exact Sub.table (by simp) (by simp)) ?_
          refine AW.seqR ?_
          refine Chain.runK [] 1 fun K hK => ?_; simp; refine hK _ _ ?_; clear hK K
          refine Chain.sub (S' := mk 26 [] [(4, .d (.lit (.bool false)))] []) (Sub.table (by simp) (by simp)) ?_
          refine Chain.nil ?_
          refine AW.ret ?_
          cases h
          refine blockQ.ret ?_
          refine thenQ_pass (by simp) ?_
          refine PostI.out (by simp) ?_
          rintro rfl
          refine blockQ.ret ?_
          refine PostJ.out (by simp) ?_
          rintro rfl
          refine thenQ_pass (by simp) ?_
          exact FinC.ret (by simp) (by simp)
        · have c26_ : (x23 != x25) = false := Bool.eq_false_iff.2 c26
          refine AW.condF (b := (x23 != x25)) rfl c26_ ?_
          refine AW.sub (Sub.bool 24 (b := (x23 != x25)) rfl c26_) ?_
          refine AW.sub (S' := mk 26 [] [(0, .d (.sl (a0.map (cI .i64)))), (1, .d (.sl (a1.map (cI .i64)))), (12, .d (.lit (.int .i64 (a0.length : Int)))), (13, .d (.lit (.int .i64 v8))), (24, .d (.lit (.bool false)))] []) (by simp; exact Sub.table (by simp) (by simp)) ?_
          refine AW.skip ?_
          refine blockQ.normal ?_
          refine thenQ_normal ?_
          refine AW.region ?_
          replace h := bsome h; obtain ⟨v27, hv27, h⟩ := h
          have hv27 := chkI_some hv27
          refine Chain.runK [] 2 fun K hK => ?_; simp [hv27]; refine hK _ _ ?_; clear hK K
          refine Chain.sub (S' := mk 26 [] [(0, .d (.sl (a0.map (cI .i64)))), (1, .d (.sl (a1.map (cI .i64)))), (12, .d (.lit (.int .i64 (a0.length : Int)))), (13, .d (.lit (.int .i64 v27)))] []) (Sub.table (by simp) (by simp)) ?_
          refine Chain.nil ?_
          cases h
          refine PostI.next ?_
          exact (Sub.table (by simp) (by simp))
      · have c22_ : decide (v8 < (a0.length : Int)) = false := decide_eq_false c22
        refine AW.condF (b := decide (v8 < (a0.length : Int))) rfl c22_ ?_
        refine AW.sub (Sub.bool 14 (b := decide (v8 < (a0.length : Int))) rfl c22_) ?_
        refine AW.sub (S' := mk 26 [] [(0, .d (.sl (a0.map (cI .i64)))), (1, .d (.sl (a1.map (cI .i64)))), (12, .d (.lit (.int .i64 (a0.length : Int)))), (13, .d (.lit (.int .i64 v8))), (14, .d (.lit (.bool false)))] []) (by simp; exact Sub.table (by simp) (by simp)) ?_
        refine AW.exit ?_
        cases h
        refine thenQ_pass (by simp) ?_
        refine PostI.out (by simp) ?_
        rintro rfl
        refine blockQ.hit ?_
        refine PostJ.next ?_
        exact (Sub.table (by simp) (by simp))
    · rintro ⟨⟩ h
      refine thenQ_normal ?_
      refine AW.seqR ?_
      refine Chain.runK [] 1 fun K hK => ?_; simp; refine hK _ _ ?_; clear hK K
      refine Chain.sub (S' := mk 26 [] [(4, .d (.lit (.bool true)))] []) (Sub.table (by simp) (by simp)) ?_
      refine Chain.nil ?_
      refine AW.ret ?_
      cases h
      exact FinC.ret (by simp) (by simp)

/-- stemma/stemlaw5.findsCycle -/
def d15 (N : Nat)  : Option Bool :=
  (d29 N ([(S27.mk 4 1 (ByteArray.mk #[120])), (S27.mk 2 2 (ByteArray.mk #[120])), (S27.mk 4 2 (ByteArray.mk #[120]))] : List S27)).bind fun r1 =>
  Option.bind (α := Bool) (
    if (r1.2 == 0) then (
      (d22 N r1.1 ([2, 4] : List Int)).bind fun r6 =>
      some r6
    ) else
    some false
  ) fun (v4 : Bool) =>
  some v4
set_option maxRecDepth 100000 in
set_option maxHeartbeats 4000000 in
theorem p15 (N : Nat)  (r : Bool) (h : d15 N  = some r) : FunC Try.prog 15 [] (.d (.lit (.bool r))) := by
  unfold d15 at h
  refine FunC.enter 18 [] (by simp) Try.func15 rfl (of_decide_eq_true rfl) rfl rfl ?_
  refine AW.seqR ?_
  refine Chain.runK [] 1 fun K hK => ?_; simp; refine hK _ _ ?_; clear hK K
  refine Chain.sub (S' := mk 18 [] [] []) (Sub.table (by simp) (by simp)) ?_
  refine Chain.nil ?_
  refine AW.seqR ?_
  refine Chain.runK [] 4 fun K hK => ?_; simp; refine hK _ _ ?_; clear hK K
  refine Chain.sub (S' := mk 18 [] [(7, .ref 7 0 (([(S27.mk 4 1 (ByteArray.mk #[120])), (S27.mk 2 2 (ByteArray.mk #[120])), (S27.mk 4 2 (ByteArray.mk #[120]))] : List S27).length))] [(7, some (.arr 27 3 (([(S27.mk 4 1 (ByteArray.mk #[120])), (S27.mk 2 2 (ByteArray.mk #[120])), (S27.mk 4 2 (ByteArray.mk #[120]))] : List S27).map cS27)))]) (Sub.table (by simp) (by simp)) ?_
  refine Chain.sub (Sub.freeze 7 rfl) ?_
  refine Chain.sub (S' := mk 18 [] [(7, .d (.sl (([(S27.mk 4 1 (ByteArray.mk #[120])), (S27.mk 2 2 (ByteArray.mk #[120])), (S27.mk 4 2 (ByteArray.mk #[120]))] : List S27).map cS27)))] []) (by simp; exact Sub.table (by simp) (by simp)) ?_
  replace h := bsome h; obtain ⟨r1, hr1, h⟩ := h
  refine Chain.callC (d := 8) (p29 N ([(S27.mk 4 1 (ByteArray.mk #[120])), (S27.mk 2 2 (ByteArray.mk #[120])), (S27.mk 4 2 (ByteArray.mk #[120]))] : List S27) r1 hr1) (by simp) rfl rfl (by simp <;> rfl) (by simp <;> rfl) ent29 (by simp) (.inl ⟨by simp, by simp⟩) ?_
  refine Chain.sub (S' := mk 18 [] [(7, .d (.sl (([(S27.mk 4 1 (ByteArray.mk #[120])), (S27.mk 2 2 (ByteArray.mk #[120])), (S27.mk 4 2 (ByteArray.mk #[120]))] : List S27).map cS27))), (8, .tup [.d (.sl (r1.1.map (cI .i64))), .d (.lit (.int .i64 r1.2))])] []) (by simp; exact Sub.table (by simp) (by simp)) ?_
  refine Chain.runK [] 5 fun K hK => ?_; simp; refine hK _ _ ?_; clear hK K
  refine Chain.sub (S' := mk 18 [] [(1, .d (.sl (r1.1.map (cI .i64)))), (2, .d (.lit (.int .i64 r1.2)))] []) (Sub.table (by simp) (by simp)) ?_
  refine Chain.nil ?_
  replace h := bsome h; obtain ⟨v4, hj, h⟩ := h
  refine AW.cutR (mk 18 [] [(0, .d (.lit (.bool v4)))] []) ?_ ?_
  · clear h; have h := hj; clear hj
    refine Chain.runK [] 3 fun K hK => ?_; simp; refine hK _ _ ?_; clear hK K
    refine Chain.sub (S' := mk 18 [] [(1, .d (.sl (r1.1.map (cI .i64)))), (13, .d (.lit (.bool (r1.2 == 0))))] []) (Sub.table (by simp) (by simp)) ?_
    replace h := isome h; rcases h with ⟨c5, h⟩ | ⟨c5, h⟩
    · have c5_ : (r1.2 == 0) = true := c5
      refine Chain.sub (Sub.bool 13 (b := (r1.2 == 0)) rfl c5_) ?_
      refine Chain.sub (S' := mk 18 [] [(1, .d (.sl (r1.1.map (cI .i64)))), (13, .d (.lit (.bool true)))] []) (by simp; exact Sub.table (by simp) (by simp)) ?_
      refine Chain.runK [] 2 fun K hK => ?_; simp; refine hK _ _ ?_; clear hK K
      refine Chain.sub (S' := mk 18 [] [(13, .d (.lit (.bool true))), (14, .d (.sl (r1.1.map (cI .i64)))), (15, .ref 15 0 (([2, 4] : List Int).length))] [(15, some (.arr 3 1 (([2, 4] : List Int).map (cI .i64))))]) (Sub.table (by simp) (by simp)) ?_
      replace h := bsome h; obtain ⟨r6, hr6, h⟩ := h
      refine Chain.callL (d := 16) (p22 N r1.1 ([2, 4] : List Int) r6 hr6) (by simp) rfl rfl (by simp <;> rfl) (by simp <;> rfl) ent22 (by simp <;> rfl) ?_
      refine Chain.sub (S' := mk 18 [] [(13, .d (.lit (.bool true))), (14, .d (.sl (r1.1.map (cI .i64)))), (15, .ref 15 0 (([2, 4] : List Int).length)), (16, .d (.lit (.bool r6)))] [(15, some (.arr 3 1 (([2, 4] : List Int).map (cI .i64))))]) (by simp; exact Sub.table (by simp) (by simp)) ?_
      refine Chain.runK [] 2 fun K hK => ?_; simp; refine hK _ _ ?_; clear hK K
      refine Chain.sub (S' := mk 18 [] [(0, .d (.lit (.bool r6)))] []) (Sub.table (by simp) (by simp)) ?_
      cases h
      exact Chain.nil (Sub.table (by simp) (by simp))
    · have c5_ : (r1.2 == 0) = false := Bool.eq_false_iff.2 c5
      refine Chain.sub (Sub.bool 13 (b := (r1.2 == 0)) rfl c5_) ?_
      refine Chain.sub (S' := mk 18 [] [(1, .d (.sl (r1.1.map (cI .i64)))), (13, .d (.lit (.bool false)))] []) (by simp; exact Sub.table (by simp) (by simp)) ?_
      refine Chain.runK [] 5 fun K hK => ?_; simp; refine hK _ _ ?_; clear hK K
      refine Chain.sub (S' := mk 18 [] [(0, .d (.lit (.bool false)))] []) (Sub.table (by simp) (by simp)) ?_
      cases h
      exact Chain.nil (Sub.table (by simp) (by simp))
  · clear hj
    refine AW.ret ?_
    cases h
    exact FinC.ret (by simp) (by simp)

/-- stemma/stemlaw5.operations -/
def d11 (N : Nat) (a0 : (List S27)) : Option (List S27) :=
  Option.bind (α := List S27) (
    iterN (σ := ((List S27) × Int)) (ρ := List S27) (fun ((l6, v7) : ((List S27) × Int)) =>
      if v7 < (a0.length : Int) then (
        (idx a0 v7).bind fun x22 =>
        (appL 32 l6 [x22]).bind fun l24 =>
        (chkI (v7 + 1)).bind fun v25 =>
        some (.inl ((l6 ++ [x22]), v25))
      ) else
      some (.inr l6)
    ) N (([] : List S27), 0)
  ) fun (l20 : List S27) =>
  some l20
set_option maxRecDepth 100000 in
set_option maxHeartbeats 4000000 in
theorem p11 (N : Nat) (a0 : (List S27)) (r : (List S27)) (h : d11 N a0 = some r) : FunC Try.prog 11 [.d (.sl (a0.map cS27))] (.d (.sl (r.map cS27))) := by
  unfold d11 at h
  refine FunC.enter 24 [(0, .d (.sl (a0.map cS27)))] (by simp) Try.func11 rfl (of_decide_eq_true rfl) rfl rfl ?_
  refine AW.seqR ?_
  refine Chain.runK [] 1 fun K hK => ?_; simp; refine hK _ _ ?_; clear hK K
  refine Chain.sub (S' := mk 24 [] [(0, .d (.sl (a0.map cS27)))] []) (Sub.table (by simp) (by simp)) ?_
  refine Chain.nil ?_
  refine AW.seqR ?_
  refine Chain.runK [] 1 fun K hK => ?_; simp; refine hK _ _ ?_; clear hK K
  refine Chain.sub (S' := mk 24 [] [(0, .d (.sl (a0.map cS27))), (3, .d (.lit (.slice none 0 0)))] []) (Sub.table (by simp) (by simp)) ?_
  refine Chain.nil ?_
  refine AW.seq ?_
  refine AW.seqR ?_
  refine Chain.runK [] 3 fun K hK => ?_; simp; refine hK _ _ ?_; clear hK K
  refine Chain.sub (S' := mk 24 [] [(3, .d (.lit (.slice none 0 0))), (6, .d (.sl (a0.map cS27))), (7, .d (.lit (.int .i64 (a0.length : Int)))), (8, .d (.lit (.int .i64 0)))] []) (Sub.table (by simp) (by simp)) ?_
  refine Chain.nil ?_
  refine AW.lastN (fun (l20 : List S27) => mk 24 [] [(3, .ref 21 0 l20.length)] [(21, some (.arr 27 3 (l20.map cS27)))]) h ?_ ?_ <;> clear h
  · intro o h
    refine AW.block ?_
    refine AW.iter (fun ((l6, v7) : ((List S27) × Int)) => mk 24 [] [(3, .ref 21 0 l6.length), (6, .d (.sl (a0.map cS27))), (7, .d (.lit (.int .i64 (a0.length : Int)))), (8, .d (.lit (.int .i64 v7)))] [(21, some (.arr 27 3 (l6.map cS27)))]) h (Sub.trans (Sub.nilOwn (t := 3) (id := 21) (T := 27) (n := 3) rfl rfl (by decide)) (by simp; exact Sub.table (by simp) (by simp))) ?_
    clear h
    rintro ⟨l6, v7⟩ x h
    dsimp only at h ⊢
    refine AW.seqR ?_
    refine Chain.runK [] 1 fun K hK => ?_; simp; refine hK _ _ ?_; clear hK K
    refine Chain.sub (S' := mk 24 [] [(3, .ref 21 0 l6.length), (6, .d (.sl (a0.map cS27))), (7, .d (.lit (.int .i64 (a0.length : Int)))), (8, .d (.lit (.int .i64 v7))), (9, .d (.lit (.bool (decide (v7 < (a0.length : Int))))))] [(21, some (.arr 27 3 (l6.map cS27)))]) (Sub.table (by simp) (by simp)) ?_
    refine Chain.nil ?_
    refine AW.seq ?_
    replace h := isome h; rcases h with ⟨c21, h⟩ | ⟨c21, h⟩
    · have c21_ : decide (v7 < (a0.length : Int)) = true := decide_eq_true c21
      refine AW.condT (b := decide (v7 < (a0.length : Int))) rfl c21_ ?_
      refine AW.sub (Sub.bool 9 (b := decide (v7 < (a0.length : Int))) rfl c21_) ?_
      refine AW.sub (S' := mk 24 [] [(3, .ref 21 0 l6.length), (6, .d (.sl (a0.map cS27))), (7, .d (.lit (.int .i64 (a0.length : Int)))), (8, .d (.lit (.int .i64 v7))), (9, .d (.lit (.bool true)))] [(21, some (.arr 27 3 (l6.map cS27)))]) (by simp; exact Sub.table (by simp) (by simp)) ?_
      refine AW.skip ?_
      refine thenQ_normal ?_
      refine AW.seq ?_
      refine AW.block ?_
      refine AW.seqR ?_
      replace h := bsome h; obtain ⟨x22, hx22, h⟩ := h
      obtain ⟨k23, hx22k, hx22, hx22a, hx22b⟩ := idx_some hx22
      refine Chain.runK [] 4 fun K hK => ?_; simp [hx22, hx22k, hx22a]; refine hK _ _ ?_; clear hK K
      refine Chain.sub (S' := mk 24 [] [(3, .ref 21 0 l6.length), (5, .ptr 5 0 0), (6, .d (.sl (a0.map cS27))), (7, .d (.lit (.int .i64 (a0.length : Int)))), (8, .d (.lit (.int .i64 v7)))] [(5, some (.box [.d (.lit (.int .i64 x22.Tx)), .d (.lit (.int .i64 x22.Kind)), .d (.lit (.string x22.Key))])), (21, some (.arr 27 3 (l6.map cS27)))]) (Sub.table (by simp) (by simp)) ?_
      refine Chain.nil ?_
      refine AW.region ?_
      replace h := bsome h; obtain ⟨l24, hl24, h⟩ := h
      obtain ⟨hl24a, hl24⟩ := appL_some hl24
      subst hl24
      try simp only [List.length_append, List.length_cons, List.length_nil, Nat.zero_add] at hl24a
      refine Chain.runK [20] 11 fun K hK => ?_; simp [hl24a]; refine hK _ _ ?_; clear hK K
      refine Chain.sub (S' := mk 24 [] [(3, .ref 21 0 ((l6 ++ [x22]).length)), (6, .d (.sl (a0.map cS27))), (7, .d (.lit (.int .i64 (a0.length : Int)))), (8, .d (.lit (.int .i64 v7)))] [(21, some (.arr 27 3 ((l6 ++ [x22]).map cS27)))]) (Sub.table (by simp) (by simp)) ?_
      refine Chain.nil ?_
      refine blockQ.normal ?_
      refine thenQ_normal ?_
      refine AW.region ?_
      replace h := bsome h; obtain ⟨v25, hv25, h⟩ := h
      have hv25 := chkI_some hv25
      refine Chain.runK [] 2 fun K hK => ?_; simp [hv25]; refine hK _ _ ?_; clear hK K
      refine Chain.sub (S' := mk 24 [] [(3, .ref 21 0 ((l6 ++ [x22]).length)), (6, .d (.sl (a0.map cS27))), (7, .d (.lit (.int .i64 (a0.length : Int)))), (8, .d (.lit (.int .i64 v25)))] [(21, some (.arr 27 3 ((l6 ++ [x22]).map cS27)))]) (Sub.table (by simp) (by simp)) ?_
      refine Chain.nil ?_
      cases h
      refine PostI.next ?_
      exact (Sub.table (by simp) (by simp))
    · have c21_ : decide (v7 < (a0.length : Int)) = false := decide_eq_false c21
      refine AW.condF (b := decide (v7 < (a0.length : Int))) rfl c21_ ?_
      refine AW.sub (Sub.bool 9 (b := decide (v7 < (a0.length : Int))) rfl c21_) ?_
      refine AW.sub (S' := mk 24 [] [(3, .ref 21 0 l6.length), (6, .d (.sl (a0.map cS27))), (7, .d (.lit (.int .i64 (a0.length : Int)))), (8, .d (.lit (.int .i64 v7))), (9, .d (.lit (.bool false)))] [(21, some (.arr 27 3 (l6.map cS27)))]) (by simp; exact Sub.table (by simp) (by simp)) ?_
      refine AW.exit ?_
      cases h
      refine thenQ_pass (by simp) ?_
      refine PostI.out (by simp) ?_
      rintro rfl
      refine blockQ.hit ?_
      refine PostN.next ?_
      exact (Sub.table (by simp) (by simp))
  · rintro l20 h
    refine thenQ_normal ?_
    refine AW.seqR ?_
    refine Chain.runK [] 2 fun K hK => ?_; simp; refine hK _ _ ?_; clear hK K
    refine Chain.sub (S' := mk 24 [] [(2, .ref 21 0 l20.length)] [(21, some (.arr 27 3 (l20.map cS27)))]) (Sub.table (by simp) (by simp)) ?_
    refine Chain.nil ?_
    refine AW.sub (Sub.freeze 21 rfl) ?_
    refine AW.sub (S' := mk 24 [] [(2, .d (.sl (l20.map cS27)))] []) (by simp; exact Sub.table (by simp) (by simp)) ?_
    refine AW.ret ?_
    cases h
    exact FinC.ret (by simp) (by simp)

/-- stemma/serializability.transactions$1 -/
def d85 (N : Nat) (a0 : S27) (a1 : Int) : Option Bool :=
  some (a0.Tx == a1)
set_option maxRecDepth 100000 in
set_option maxHeartbeats 4000000 in
theorem p85 (N : Nat) (a0 : S27) (a1 : Int) (r : Bool) (h : d85 N a0 a1 = some r) : FunC Try.prog 85 [.agg [.d (.lit (.int .i64 a0.Tx)), .d (.lit (.int .i64 a0.Kind)), .d (.lit (.string a0.Key))], .d (.pim [.lit (.int .i64 a1)])] (.d (.lit (.bool r))) := by
  unfold d85 at h
  refine FunC.enter 8 [(0, .agg [.d (.lit (.int .i64 a0.Tx)), .d (.lit (.int .i64 a0.Kind)), .d (.lit (.string a0.Key))]), (1, .d (.pim [.lit (.int .i64 a1)]))] (by simp) Try.func85 rfl (of_decide_eq_true rfl) rfl rfl ?_
  refine AW.seqR ?_
  refine Chain.runK [] 2 fun K hK => ?_; simp; refine hK _ _ ?_; clear hK K
  refine Chain.sub (S' := mk 8 [] [(1, .d (.pim [.lit (.int .i64 a1)])), (2, .ptr 2 0 0)] [(2, some (.box [.d (.lit (.int .i64 a0.Tx)), .d (.lit (.int .i64 a0.Kind)), .d (.lit (.string a0.Key))]))]) (Sub.table (by simp) (by simp)) ?_
  refine Chain.nil ?_
  refine AW.seqR ?_
  refine Chain.runK [] 5 fun K hK => ?_; simp; refine hK _ _ ?_; clear hK K
  refine Chain.sub (S' := mk 8 [] [(3, .d (.lit (.bool (a0.Tx == a1))))] []) (Sub.table (by simp) (by simp)) ?_
  refine Chain.nil ?_
  refine AW.ret ?_
  cases h
  exact FinC.ret (by simp) (by simp)

/-- slices.IndexFunc[[]stemma/serializability.Operation,stemma/serializability.Operation] -/
def d92 (N : Nat) (a0 : (List S27)) (p1 : S27 → Option Bool) : Option Int :=
  bindO (β := Unit) (ρ := Int) (
    iterN (σ := Int) (ρ := (Out Unit Int)) (fun (v7 : Int) =>
      if v7 < (a0.length : Int) then (
        (idx a0 v7).bind fun x22 =>
        (p1 x22).bind fun r24 =>
        if r24 = true then (
          some (.inr (.ret v7))
        ) else
        (chkI (v7 + 1)).bind fun v26 =>
        some (.inl v26)
      ) else
      some (.inr (.go ()))
    ) N 0
  ) fun (_ : Unit) =>
  some (-1)
set_option maxRecDepth 100000 in
set_option maxHeartbeats 4000000 in
theorem p92 (N : Nat) (a0 : (List S27)) (g1 : Nat) (cs1 : List D) (p1 : S27 → Option Bool) (ent_1 : Rp.Enters Try.prog g1) (hp1 : ∀ a0 r, p1 a0 = some r → FunC Try.prog g1 ([.agg [.d (.lit (.int .i64 a0.Tx)), .d (.lit (.int .i64 a0.Kind)), .d (.lit (.string a0.Key))]] ++ cs1.map .d) (.d (.lit (.bool r)))) (r : Int) (h : d92 N a0 p1 = some r) : FunC Try.prog 92 [.d (.sl (a0.map cS27)), .fn (.func g1) (cs1.map .d)] (.d (.lit (.int .i64 r))) := by
  unfold d92 at h
  refine FunC.enter 19 [(0, .d (.sl (a0.map cS27))), (1, .fn (.func g1) (cs1.map .d))] (by simp) Try.func92 rfl (of_decide_eq_true rfl) rfl rfl ?_
  refine AW.seqR ?_
  refine Chain.runK [] 1 fun K hK => ?_; simp; refine hK _ _ ?_; clear hK K
  refine Chain.sub (S' := mk 19 [] [(0, .d (.sl (a0.map cS27))), (1, .fn (.func g1) (cs1.map .d))] []) (Sub.table (by simp) (by simp)) ?_
  refine Chain.nil ?_
  refine AW.seq ?_
  refine AW.seqR ?_
  refine Chain.runK [] 3 fun K hK => ?_; simp; refine hK _ _ ?_; clear hK K
  refine Chain.sub (S' := mk 19 [] [(0, .d (.sl (a0.map cS27))), (1, .fn (.func g1) (cs1.map .d)), (7, .d (.lit (.int .i64 (a0.length : Int)))), (8, .d (.lit (.int .i64 0)))] []) (Sub.table (by simp) (by simp)) ?_
  refine Chain.nil ?_
  refine AW.lastJ (fun (_ : Unit) => mk 19 [] [] []) h ?_ ?_ <;> clear h
  · intro o h
    refine AW.block ?_
    refine AW.iter (fun (v7 : Int) => mk 19 [] [(0, .d (.sl (a0.map cS27))), (1, .fn (.func g1) (cs1.map .d)), (7, .d (.lit (.int .i64 (a0.length : Int)))), (8, .d (.lit (.int .i64 v7)))] []) h (Sub.table (by simp) (by simp)) ?_
    clear h
    rintro v7 x h
    refine AW.seqR ?_
    refine Chain.runK [] 1 fun K hK => ?_; simp; refine hK _ _ ?_; clear hK K
    refine Chain.sub (S' := mk 19 [] [(0, .d (.sl (a0.map cS27))), (1, .fn (.func g1) (cs1.map .d)), (7, .d (.lit (.int .i64 (a0.length : Int)))), (8, .d (.lit (.int .i64 v7))), (9, .d (.lit (.bool (decide (v7 < (a0.length : Int))))))] []) (Sub.table (by simp) (by simp)) ?_
    refine Chain.nil ?_
    refine AW.seq ?_
    replace h := isome h; rcases h with ⟨c21, h⟩ | ⟨c21, h⟩
    · have c21_ : decide (v7 < (a0.length : Int)) = true := decide_eq_true c21
      refine AW.condT (b := decide (v7 < (a0.length : Int))) rfl c21_ ?_
      refine AW.sub (Sub.bool 9 (b := decide (v7 < (a0.length : Int))) rfl c21_) ?_
      refine AW.sub (S' := mk 19 [] [(0, .d (.sl (a0.map cS27))), (1, .fn (.func g1) (cs1.map .d)), (7, .d (.lit (.int .i64 (a0.length : Int)))), (8, .d (.lit (.int .i64 v7))), (9, .d (.lit (.bool true)))] []) (by simp; exact Sub.table (by simp) (by simp)) ?_
      refine AW.skip ?_
      refine thenQ_normal ?_
      refine AW.seq ?_
      refine AW.block ?_
      refine AW.seqR ?_
      refine Chain.runK [] 2 fun K hK => ?_; simp; refine hK _ _ ?_; clear hK K
      refine Chain.sub (S' := mk 19 [] [(0, .d (.sl (a0.map cS27))), (1, .fn (.func g1) (cs1.map .d)), (5, .d (.lit (.int .i64 v7))), (7, .d (.lit (.int .i64 (a0.length : Int)))), (8, .d (.lit (.int .i64 v7)))] []) (Sub.table (by simp) (by simp)) ?_
      refine Chain.nil ?_
      refine AW.seqR ?_
      replace h := bsome h; obtain ⟨x22, hx22, h⟩ := h
      obtain ⟨k23, hx22k, hx22, hx22a, hx22b⟩ := idx_some hx22
      refine Chain.runK [] 5 fun K hK => ?_; simp [hx22, hx22k, hx22a]; refine hK _ _ ?_; clear hK K
      refine Chain.sub (S' := mk 19 [] [(0, .d (.sl (a0.map cS27))), (1, .fn (.func g1) (cs1.map .d)), (5, .d (.lit (.int .i64 v7))), (7, .d (.lit (.int .i64 (a0.length : Int)))), (8, .d (.lit (.int .i64 v7))), (11, .fn (.func g1) (cs1.map .d)), (15, .agg [.d (.lit (.int .i64 x22.Tx)), .d (.lit (.int .i64 x22.Kind)), .d (.lit (.string x22.Key))])] []) (Sub.table (by simp) (by simp)) ?_
      replace h := bsome h; obtain ⟨r24, hr24, h⟩ := h
      refine Chain.callL (d := 16) (hp1 x22 r24 hr24) (by simp) rfl rfl (by simp <;> rfl) (by simp <;> rfl) ent_1 (by simp <;> rfl) ?_
      refine Chain.sub (S' := mk 19 [] [(0, .d (.sl (a0.map cS27))), (1, .fn (.func g1) (cs1.map .d)), (5, .d (.lit (.int .i64 v7))), (7, .d (.lit (.int .i64 (a0.length : Int)))), (8, .d (.lit (.int .i64 v7))), (11, .fn (.func g1) (cs1.map .d)), (15, .agg [.d (.lit (.int .i64 x22.Tx)), .d (.lit (.int .i64 x22.Kind)), .d (.lit (.string x22.Key))]), (16, .d (.lit (.bool r24)))] []) (by simp; exact Sub.table (by simp) (by simp)) ?_
      refine Chain.nil ?_
      replace h := isome h; rcases h with ⟨c25, h⟩ | ⟨c25, h⟩
      · have c25_ : r24 = true := c25
        refine AW.condT (b := r24) rfl c25_ ?_
        refine AW.sub (Sub.bool 16 (b := r24) rfl c25_) ?_
        refine AW.sub (S' := mk 19 [] [(0, .d (.sl (a0.map cS27))), (1, .fn (.func g1) (cs1.map .d)), (5, .d (.lit (.int .i64 v7))), (7, .d (.lit (.int .i64 (a0.length : Int)))), (8, .d (.lit (.int .i64 v7))), (11, .fn (.func g1) (cs1.map .d)), (15, .agg [.d (.lit (.int .i64 x22.Tx)), .d (.lit (.int .i64 x22.Kind)), .d (.lit (.string x22.Key))]), (16, .d (.lit (.bool true)))] []) (by simp; exact Sub.table (by simp) (by simp)) ?_
        refine AW.seqR ?_
        refine Chain.runK [] 2 fun K hK => ?_; simp; refine hK _ _ ?_; clear hK K
        refine Chain.sub (S' := mk 19 [] [(4, .d (.lit (.int .i64 v7)))] []) (Sub.table (by simp) (by simp)) ?_
        refine Chain.nil ?_
        refine AW.ret ?_
        cases h
        refine blockQ.ret ?_
        refine thenQ_pass (by simp) ?_
        refine PostI.out (by simp) ?_
        rintro rfl
        refine blockQ.ret ?_
        refine PostJ.out (by simp) ?_
        rintro rfl
        refine thenQ_pass (by simp) ?_
        exact FinC.ret (by simp) (by simp)
      · have c25_ : r24 = false := Bool.eq_false_iff.2 c25
        refine AW.condF (b := r24) rfl c25_ ?_
        refine AW.sub (Sub.bool 16 (b := r24) rfl c25_) ?_
        refine AW.sub (S' := mk 19 [] [(0, .d (.sl (a0.map cS27))), (1, .fn (.func g1) (cs1.map .d)), (5, .d (.lit (.int .i64 v7))), (7, .d (.lit (.int .i64 (a0.length : Int)))), (8, .d (.lit (.int .i64 v7))), (11, .fn (.func g1) (cs1.map .d)), (15, .agg [.d (.lit (.int .i64 x22.Tx)), .d (.lit (.int .i64 x22.Kind)), .d (.lit (.string x22.Key))]), (16, .d (.lit (.bool false)))] []) (by simp; exact Sub.table (by simp) (by simp)) ?_
        refine AW.skip ?_
        refine blockQ.normal ?_
        refine thenQ_normal ?_
        refine AW.region ?_
        replace h := bsome h; obtain ⟨v26, hv26, h⟩ := h
        have hv26 := chkI_some hv26
        refine Chain.runK [] 2 fun K hK => ?_; simp [hv26]; refine hK _ _ ?_; clear hK K
        refine Chain.sub (S' := mk 19 [] [(0, .d (.sl (a0.map cS27))), (1, .fn (.func g1) (cs1.map .d)), (7, .d (.lit (.int .i64 (a0.length : Int)))), (8, .d (.lit (.int .i64 v26)))] []) (Sub.table (by simp) (by simp)) ?_
        refine Chain.nil ?_
        cases h
        refine PostI.next ?_
        exact (Sub.table (by simp) (by simp))
    · have c21_ : decide (v7 < (a0.length : Int)) = false := decide_eq_false c21
      refine AW.condF (b := decide (v7 < (a0.length : Int))) rfl c21_ ?_
      refine AW.sub (Sub.bool 9 (b := decide (v7 < (a0.length : Int))) rfl c21_) ?_
      refine AW.sub (S' := mk 19 [] [(0, .d (.sl (a0.map cS27))), (1, .fn (.func g1) (cs1.map .d)), (7, .d (.lit (.int .i64 (a0.length : Int)))), (8, .d (.lit (.int .i64 v7))), (9, .d (.lit (.bool false)))] []) (by simp; exact Sub.table (by simp) (by simp)) ?_
      refine AW.exit ?_
      cases h
      refine thenQ_pass (by simp) ?_
      refine PostI.out (by simp) ?_
      rintro rfl
      refine blockQ.hit ?_
      refine PostJ.next ?_
      exact (Sub.table (by simp) (by simp))
  · rintro ⟨⟩ h
    refine thenQ_normal ?_
    refine AW.seqR ?_
    refine Chain.runK [] 1 fun K hK => ?_; simp; refine hK _ _ ?_; clear hK K
    refine Chain.sub (S' := mk 19 [] [(4, .d (.lit (.int .i64 (-1))))] []) (Sub.table (by simp) (by simp)) ?_
    refine Chain.nil ?_
    refine AW.ret ?_
    cases h
    exact FinC.ret (by simp) (by simp)

/-- slices.ContainsFunc[[]stemma/serializability.Operation,stemma/serializability.Operation] -/
def d81 (N : Nat) (a0 : (List S27)) (p1 : S27 → Option Bool) : Option Bool :=
  (d92 N a0 p1).bind fun r1 =>
  some (decide (r1 ≥ 0))
set_option maxRecDepth 100000 in
set_option maxHeartbeats 4000000 in
theorem p81 (N : Nat) (a0 : (List S27)) (g1 : Nat) (cs1 : List D) (p1 : S27 → Option Bool) (ent_1 : Rp.Enters Try.prog g1) (hp1 : ∀ a0 r, p1 a0 = some r → FunC Try.prog g1 ([.agg [.d (.lit (.int .i64 a0.Tx)), .d (.lit (.int .i64 a0.Kind)), .d (.lit (.string a0.Key))]] ++ cs1.map .d) (.d (.lit (.bool r)))) (r : Bool) (h : d81 N a0 p1 = some r) : FunC Try.prog 81 [.d (.sl (a0.map cS27)), .fn (.func g1) (cs1.map .d)] (.d (.lit (.bool r))) := by
  unfold d81 at h
  refine FunC.enter 9 [(0, .d (.sl (a0.map cS27))), (1, .fn (.func g1) (cs1.map .d))] (by simp) Try.func81 rfl (of_decide_eq_true rfl) rfl rfl ?_
  refine AW.seqR ?_
  refine Chain.runK [] 1 fun K hK => ?_; simp; refine hK _ _ ?_; clear hK K
  refine Chain.sub (S' := mk 9 [] [(0, .d (.sl (a0.map cS27))), (1, .fn (.func g1) (cs1.map .d))] []) (Sub.table (by simp) (by simp)) ?_
  refine Chain.nil ?_
  refine AW.seqR ?_
  refine Chain.runK [] 2 fun K hK => ?_; simp; refine hK _ _ ?_; clear hK K
  refine Chain.sub (S' := mk 9 [] [(5, .d (.sl (a0.map cS27))), (6, .fn (.func g1) (cs1.map .d))] []) (Sub.table (by simp) (by simp)) ?_
  replace h := bsome h; obtain ⟨r1, hr1, h⟩ := h
  refine Chain.callL (d := 7) (p92 N a0 g1 cs1 p1 ent_1 hp1 r1 hr1) (by simp) rfl rfl (by simp <;> rfl) (by simp <;> rfl) ent92 (by simp <;> rfl) ?_
  refine Chain.sub (S' := mk 9 [] [(5, .d (.sl (a0.map cS27))), (6, .fn (.func g1) (cs1.map .d)), (7, .d (.lit (.int .i64 r1)))] []) (by simp; exact Sub.table (by simp) (by simp)) ?_
  refine Chain.runK [] 2 fun K hK => ?_; simp; refine hK _ _ ?_; clear hK K
  refine Chain.sub (S' := mk 9 [] [(4, .d (.lit (.bool (decide (r1 ≥ 0)))))] []) (Sub.table (by simp) (by simp)) ?_
  refine Chain.nil ?_
  refine AW.ret ?_
  cases h
  exact FinC.ret (by simp) (by simp)

/-- stemma/serializability.transactions -/
def d55 (N : Nat) (a0 : (List S27)) : Option (List Int) :=
  Option.bind (α := List Int) (
    iterN (σ := ((List Int) × Int)) (ρ := List Int) (fun ((l7, v8) : ((List Int) × Int)) =>
      if v8 < 20 then (
        (d81 N a0 (fun b0 => d85 N b0 v8)).bind fun r25 =>
        if r25 = true then (
          (appL 8 l7 [v8]).bind fun l27 =>
          (chkI (v8 + 1)).bind fun v28 =>
          some (.inl ((l7 ++ [v8]), v28))
        ) else
        (chkI (v8 + 1)).bind fun v29 =>
        some (.inl (l7, v29))
      ) else
      some (.inr l7)
    ) N (([] : List Int), 0)
  ) fun (l23 : List Int) =>
  some l23
set_option maxRecDepth 100000 in
set_option maxHeartbeats 4000000 in
theorem p55 (N : Nat) (a0 : (List S27)) (r : (List Int)) (h : d55 N a0 = some r) : FunO Try.prog 55 [.d (.sl (a0.map cS27))] (.ref 0 0 r.length) (.arr 3 1 (r.map (cI .i64))) := by
  unfold d55 at h
  refine FunO.enter 17 [(0, .d (.sl (a0.map cS27)))] Try.func55 rfl (of_decide_eq_true rfl) rfl rfl ?_
  refine AW.seqR ?_
  refine Chain.runK [] 1 fun K hK => ?_; simp; refine hK _ _ ?_; clear hK K
  refine Chain.sub (S' := mk 17 [] [(0, .d (.sl (a0.map cS27)))] []) (Sub.table (by simp) (by simp)) ?_
  refine Chain.nil ?_
  refine AW.seqR ?_
  refine Chain.runK [] 1 fun K hK => ?_; simp; refine hK _ _ ?_; clear hK K
  refine Chain.sub (S' := mk 17 [] [(0, .d (.sl (a0.map cS27))), (3, .d (.lit (.slice none 0 0)))] []) (Sub.table (by simp) (by simp)) ?_
  refine Chain.nil ?_
  refine AW.seq ?_
  refine AW.seqR ?_
  refine Chain.runK [] 1 fun K hK => ?_; simp; refine hK _ _ ?_; clear hK K
  refine Chain.sub (S' := mk 17 [] [(0, .d (.sl (a0.map cS27))), (3, .d (.lit (.slice none 0 0))), (5, .d (.lit (.int .i64 0)))] []) (Sub.table (by simp) (by simp)) ?_
  refine Chain.nil ?_
  refine AW.lastN (fun (l23 : List Int) => mk 17 [] [(3, .ref 14 0 l23.length)] [(14, some (.arr 3 1 (l23.map (cI .i64))))]) h ?_ ?_ <;> clear h
  · intro o h
    refine AW.block ?_
    refine AW.iter (fun ((l7, v8) : ((List Int) × Int)) => mk 17 [] [(0, .d (.sl (a0.map cS27))), (3, .ref 14 0 l7.length), (5, .d (.lit (.int .i64 v8)))] [(14, some (.arr 3 1 (l7.map (cI .i64))))]) h (Sub.trans (Sub.nilOwn (t := 3) (id := 14) (T := 3) (n := 1) rfl rfl (by decide)) (by simp; exact Sub.table (by simp) (by simp))) ?_
    clear h
    rintro ⟨l7, v8⟩ x h
    dsimp only at h ⊢
    refine AW.seqR ?_
    refine Chain.runK [] 1 fun K hK => ?_; simp; refine hK _ _ ?_; clear hK K
    refine Chain.sub (S' := mk 17 [] [(0, .d (.sl (a0.map cS27))), (3, .ref 14 0 l7.length), (5, .d (.lit (.int .i64 v8))), (6, .d (.lit (.bool (decide (v8 < 20)))))] [(14, some (.arr 3 1 (l7.map (cI .i64))))]) (Sub.table (by simp) (by simp)) ?_
    refine Chain.nil ?_
    refine AW.seq ?_
    replace h := isome h; rcases h with ⟨c24, h⟩ | ⟨c24, h⟩
    · have c24_ : decide (v8 < 20) = true := decide_eq_true c24
      refine AW.condT (b := decide (v8 < 20)) rfl c24_ ?_
      refine AW.sub (Sub.bool 6 (b := decide (v8 < 20)) rfl c24_) ?_
      refine AW.sub (S' := mk 17 [] [(0, .d (.sl (a0.map cS27))), (3, .ref 14 0 l7.length), (5, .d (.lit (.int .i64 v8))), (6, .d (.lit (.bool true)))] [(14, some (.arr 3 1 (l7.map (cI .i64))))]) (by simp; exact Sub.table (by simp) (by simp)) ?_
      refine AW.skip ?_
      refine thenQ_normal ?_
      refine AW.seq ?_
      refine AW.block ?_
      refine AW.seqR ?_
      refine Chain.runK [] 3 fun K hK => ?_; simp; refine hK _ _ ?_; clear hK K
      refine Chain.sub (S' := mk 17 [] [(0, .d (.sl (a0.map cS27))), (3, .ref 14 0 l7.length), (4, .ptr 4 0 0), (5, .d (.lit (.int .i64 v8)))] [(4, some (.box [.d (.lit (.int .i64 v8))])), (14, some (.arr 3 1 (l7.map (cI .i64))))]) (Sub.table (by simp) (by simp)) ?_
      refine Chain.nil ?_
      refine AW.seqR ?_
      refine Chain.runK [] 2 fun K hK => ?_; simp; refine hK _ _ ?_; clear hK K
      refine Chain.sub (S' := mk 17 [] [(0, .d (.sl (a0.map cS27))), (3, .ref 14 0 l7.length), (4, .ptr 4 0 0), (5, .d (.lit (.int .i64 v8))), (8, .d (.sl (a0.map cS27))), (9, .fn (.func 85) [.ptr 4 0 0])] [(4, some (.box [.d (.lit (.int .i64 v8))])), (14, some (.arr 3 1 (l7.map (cI .i64))))]) (Sub.table (by simp) (by simp)) ?_
      replace h := bsome h; obtain ⟨r25, hr25, h⟩ := h
      refine Chain.callL (d := 10) (p81 N a0 85 [.pim [.lit (.int .i64 v8)]] (fun b0 => d85 N b0 v8) ent85 (fun b0 r h => p85 N b0 v8 r h) r25 hr25) (by simp) rfl rfl (by simp <;> rfl) (by simp <;> rfl) ent81 (by simp <;> rfl) ?_
      refine Chain.sub (S' := mk 17 [] [(0, .d (.sl (a0.map cS27))), (3, .ref 14 0 l7.length), (4, .ptr 4 0 0), (5, .d (.lit (.int .i64 v8))), (8, .d (.sl (a0.map cS27))), (9, .fn (.func 85) [.ptr 4 0 0]), (10, .d (.lit (.bool r25)))] [(4, some (.box [.d (.lit (.int .i64 v8))])), (14, some (.arr 3 1 (l7.map (cI .i64))))]) (by simp; exact Sub.table (by simp) (by simp)) ?_
      refine Chain.nil ?_
      replace h := isome h; rcases h with ⟨c26, h⟩ | ⟨c26, h⟩
      · have c26_ : r25 = true := c26
        refine AW.condT (b := r25) rfl c26_ ?_
        refine AW.sub (Sub.bool 10 (b := r25) rfl c26_) ?_
        refine AW.sub (S' := mk 17 [] [(0, .d (.sl (a0.map cS27))), (3, .ref 14 0 l7.length), (4, .ptr 4 0 0), (5, .d (.lit (.int .i64 v8))), (8, .d (.sl (a0.map cS27))), (9, .fn (.func 85) [.ptr 4 0 0]), (10, .d (.lit (.bool true)))] [(4, some (.box [.d (.lit (.int .i64 v8))])), (14, some (.arr 3 1 (l7.map (cI .i64))))]) (by simp; exact Sub.table (by simp) (by simp)) ?_
        refine AW.region ?_
        replace h := bsome h; obtain ⟨l27, hl27, h⟩ := h
        obtain ⟨hl27a, hl27⟩ := appL_some hl27
        subst hl27
        try simp only [List.length_append, List.length_cons, List.length_nil, Nat.zero_add] at hl27a
        refine Chain.runK [13] 5 fun K hK => ?_; simp [hl27a]; refine hK _ _ ?_; clear hK K
        refine Chain.sub (S' := mk 17 [] [(0, .d (.sl (a0.map cS27))), (3, .ref 14 0 ((l7 ++ [v8]).length)), (5, .d (.lit (.int .i64 v8)))] [(14, some (.arr 3 1 ((l7 ++ [v8]).map (cI .i64))))]) (Sub.table (by simp) (by simp)) ?_
        refine Chain.nil ?_
        refine blockQ.normal ?_
        refine thenQ_normal ?_
        refine AW.region ?_
        replace h := bsome h; obtain ⟨v28, hv28, h⟩ := h
        have hv28 := chkI_some hv28
        refine Chain.runK [] 2 fun K hK => ?_; simp [hv28]; refine hK _ _ ?_; clear hK K
        refine Chain.sub (S' := mk 17 [] [(0, .d (.sl (a0.map cS27))), (3, .ref 14 0 ((l7 ++ [v8]).length)), (5, .d (.lit (.int .i64 v28)))] [(14, some (.arr 3 1 ((l7 ++ [v8]).map (cI .i64))))]) (Sub.table (by simp) (by simp)) ?_
        refine Chain.nil ?_
        cases h
        refine PostI.next ?_
        exact (Sub.table (by simp) (by simp))
      · have c26_ : r25 = false := Bool.eq_false_iff.2 c26
        refine AW.condF (b := r25) rfl c26_ ?_
        refine AW.sub (Sub.bool 10 (b := r25) rfl c26_) ?_
        refine AW.sub (S' := mk 17 [] [(0, .d (.sl (a0.map cS27))), (3, .ref 14 0 l7.length), (4, .ptr 4 0 0), (5, .d (.lit (.int .i64 v8))), (8, .d (.sl (a0.map cS27))), (9, .fn (.func 85) [.ptr 4 0 0]), (10, .d (.lit (.bool false)))] [(4, some (.box [.d (.lit (.int .i64 v8))])), (14, some (.arr 3 1 (l7.map (cI .i64))))]) (by simp; exact Sub.table (by simp) (by simp)) ?_
        refine AW.skip ?_
        refine blockQ.normal ?_
        refine thenQ_normal ?_
        refine AW.region ?_
        replace h := bsome h; obtain ⟨v29, hv29, h⟩ := h
        have hv29 := chkI_some hv29
        refine Chain.runK [] 2 fun K hK => ?_; simp [hv29]; refine hK _ _ ?_; clear hK K
        refine Chain.sub (S' := mk 17 [] [(0, .d (.sl (a0.map cS27))), (3, .ref 14 0 l7.length), (5, .d (.lit (.int .i64 v29)))] [(14, some (.arr 3 1 (l7.map (cI .i64))))]) (Sub.table (by simp) (by simp)) ?_
        refine Chain.nil ?_
        cases h
        refine PostI.next ?_
        exact (Sub.table (by simp) (by simp))
    · have c24_ : decide (v8 < 20) = false := decide_eq_false c24
      refine AW.condF (b := decide (v8 < 20)) rfl c24_ ?_
      refine AW.sub (Sub.bool 6 (b := decide (v8 < 20)) rfl c24_) ?_
      refine AW.sub (S' := mk 17 [] [(0, .d (.sl (a0.map cS27))), (3, .ref 14 0 l7.length), (5, .d (.lit (.int .i64 v8))), (6, .d (.lit (.bool false)))] [(14, some (.arr 3 1 (l7.map (cI .i64))))]) (by simp; exact Sub.table (by simp) (by simp)) ?_
      refine AW.exit ?_
      cases h
      refine thenQ_pass (by simp) ?_
      refine PostI.out (by simp) ?_
      rintro rfl
      refine blockQ.hit ?_
      refine PostN.next ?_
      exact (Sub.table (by simp) (by simp))
  · rintro l23 h
    refine thenQ_normal ?_
    refine AW.seqR ?_
    refine Chain.runK [] 2 fun K hK => ?_; simp; refine hK _ _ ?_; clear hK K
    refine Chain.sub (S' := mk 17 [] [(2, .ref 14 0 l23.length)] [(14, some (.arr 3 1 (l23.map (cI .i64))))]) (Sub.table (by simp) (by simp)) ?_
    refine Chain.nil ?_
    refine AW.ret ?_
    obtain rfl := Option.some.inj h
    exact FinO.ret (.ref 14 0 l23.length) 14 (by simp) (by simp) (by simp) (by simp) rfl

/-- stemma/serializability.SerialOrder$1$1 -/
def d61 (N : Nat) (a0 : Int) (a1 : (List Bool)) (a2 : Int) : Option Bool :=
  (arrI a0 20).bind fun k1 =>
  (arrI a2 20).bind fun k2 =>
  (a1[k1 * 20 + k2]?).bind fun x3 =>
  some x3
set_option maxRecDepth 100000 in
set_option maxHeartbeats 4000000 in
theorem p61 (N : Nat) (a0 : Int) (a1 : (List Bool)) (a2 : Int) (r : Bool) (h : d61 N a0 a1 a2 = some r) : FunC Try.prog 61 [.d (.lit (.int .i64 a0)), .d (.pim (a1.map dB)), .d (.pim [.lit (.int .i64 a2)])] (.d (.lit (.bool r))) := by
  unfold d61 at h
  refine FunC.enter 10 [(0, .d (.lit (.int .i64 a0))), (1, .d (.pim (a1.map dB))), (2, .d (.pim [.lit (.int .i64 a2)]))] (by simp) Try.func61 rfl (of_decide_eq_true rfl) rfl rfl ?_
  refine AW.seqR ?_
  refine Chain.runK [] 1 fun K hK => ?_; simp; refine hK _ _ ?_; clear hK K
  refine Chain.sub (S' := mk 10 [] [(0, .d (.lit (.int .i64 a0))), (1, .d (.pim (a1.map dB))), (2, .d (.pim [.lit (.int .i64 a2)]))] []) (Sub.table (by simp) (by simp)) ?_
  refine Chain.nil ?_
  refine AW.seqQ (by kernel_rfl) (by kernel_rfl) ?_
  replace h := bsome h; obtain ⟨k1, gk1, h⟩ := h
  obtain ⟨hk1, hk1a, hk1b, hk1c⟩ := arrI_some gk1
  have hk1b : a0 < 20 := hk1b
  replace h := bsome h; obtain ⟨k2, gk2, h⟩ := h
  obtain ⟨hk2, hk2a, hk2b, hk2c⟩ := arrI_some gk2
  have hk2b : a2 < 20 := hk2b
  replace h := bsome h; obtain ⟨x3, hx3, h⟩ := h
  refine Chain.runQ 6 fun K hK => ?_; simp [hk1, hk1a, hk1b, hk2, hk2a, hk2b, hx3]; refine hK _ _ ?_; clear hK K
  refine Chain.sub (S' := mk 10 [] [(4, .d (.lit (.bool x3)))] []) (Sub.table (by simp) (by simp)) ?_
  refine Chain.nil ?_
  refine AW.ret ?_
  cases h
  exact FinC.ret (by simp) (by simp)

end Go.Proofs.Ytabjbkdlacibjaa
