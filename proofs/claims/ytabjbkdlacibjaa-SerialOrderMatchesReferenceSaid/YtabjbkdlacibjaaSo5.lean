/- Functions of the program as functional programs; the code computes them. -/
import Derived.Test.YtabjbkdlacibjaaSo4
namespace Go.Proofs.Ytabjbkdlacibjaa
open Go.Ab Go.Rp
attribute [-simp] List.all_eq_true Array.all_toList Array.all_eq_true

/-- (stemma/stemref5.Op).Conflicts -/
def d21 (N : Nat) (a0 : S27) (a1 : S27) : Option Bool :=
  Option.bind (α := Bool) (
    if decide (a0.Key = a1.Key) = true then (
      if (a0.Tx != a1.Tx) then (
        (chkI (a0.Kind + a1.Kind)).bind fun v7 =>
        some (decide (v7 > 2))
      ) else
      some false
    ) else
    some false
  ) fun (v4 : Bool) =>
  some v4
set_option maxRecDepth 100000 in
set_option maxHeartbeats 4000000 in
theorem p21 (N : Nat) (a0 : S27) (a1 : S27) (r : Bool) (h : d21 N a0 a1 = some r) : FunC Try.prog 21 [.agg [.d (.lit (.int .i64 a0.Tx)), .d (.lit (.int .i64 a0.Kind)), .d (.lit (.string a0.Key))], .agg [.d (.lit (.int .i64 a1.Tx)), .d (.lit (.int .i64 a1.Kind)), .d (.lit (.string a1.Key))]] (.d (.lit (.bool r))) := by
  unfold d21 at h
  refine FunC.enter 25 [(0, .agg [.d (.lit (.int .i64 a0.Tx)), .d (.lit (.int .i64 a0.Kind)), .d (.lit (.string a0.Key))]), (1, .agg [.d (.lit (.int .i64 a1.Tx)), .d (.lit (.int .i64 a1.Kind)), .d (.lit (.string a1.Key))])] (by simp) Try.func21 rfl (of_decide_eq_true rfl) rfl rfl ?_
  refine AW.seqR ?_
  refine Chain.runK [] 3 fun K hK => ?_; simp; refine hK _ _ ?_; clear hK K
  refine Chain.sub (S' := mk 25 [] [(2, .ptr 2 0 0), (3, .ptr 3 0 0)] [(2, some (.box [.d (.lit (.int .i64 a0.Tx)), .d (.lit (.int .i64 a0.Kind)), .d (.lit (.string a0.Key))])), (3, some (.box [.d (.lit (.int .i64 a1.Tx)), .d (.lit (.int .i64 a1.Kind)), .d (.lit (.string a1.Key))]))]) (Sub.table (by simp) (by simp)) ?_
  refine Chain.nil ?_
  replace h := bsome h; obtain ⟨v4, hj, h⟩ := h
  refine AW.cutR (mk 25 [] [(4, .d (.lit (.bool v4)))] []) ?_ ?_
  · clear h; have h := hj; clear hj
    refine Chain.runK [] 6 fun K hK => ?_; simp; refine hK _ _ ?_; clear hK K
    refine Chain.sub (S' := mk 25 [] [(2, .ptr 2 0 0), (3, .ptr 3 0 0), (10, .d (.lit (.bool (decide (a0.Key = a1.Key)))))] [(2, some (.box [.d (.lit (.int .i64 a0.Tx)), .d (.lit (.int .i64 a0.Kind)), .d (.lit (.string a0.Key))])), (3, some (.box [.d (.lit (.int .i64 a1.Tx)), .d (.lit (.int .i64 a1.Kind)), .d (.lit (.string a1.Key))]))]) (Sub.table (by simp) (by simp)) ?_
    replace h := isome h; rcases h with ⟨c5, h⟩ | ⟨c5, h⟩
    · have c5_ : decide (a0.Key = a1.Key) = true := c5
      refine Chain.sub (Sub.bool 10 (b := decide (a0.Key = a1.Key)) rfl c5_) ?_
      refine Chain.sub (S' := mk 25 [] [(2, .ptr 2 0 0), (3, .ptr 3 0 0), (10, .d (.lit (.bool true)))] [(2, some (.box [.d (.lit (.int .i64 a0.Tx)), .d (.lit (.int .i64 a0.Kind)), .d (.lit (.string a0.Key))])), (3, some (.box [.d (.lit (.int .i64 a1.Tx)), .d (.lit (.int .i64 a1.Kind)), .d (.lit (.string a1.Key))]))]) (by simp; exact Sub.table (by simp) (by simp)) ?_
      refine Chain.runK [] 7 fun K hK => ?_; simp; refine hK _ _ ?_; clear hK K
      refine Chain.sub (S' := mk 25 [] [(2, .ptr 2 0 0), (3, .ptr 3 0 0), (17, .d (.lit (.bool (a0.Tx != a1.Tx))))] [(2, some (.box [.d (.lit (.int .i64 a0.Tx)), .d (.lit (.int .i64 a0.Kind)), .d (.lit (.string a0.Key))])), (3, some (.box [.d (.lit (.int .i64 a1.Tx)), .d (.lit (.int .i64 a1.Kind)), .d (.lit (.string a1.Key))]))]) (Sub.table (by simp) (by simp)) ?_
      replace h := isome h; rcases h with ⟨c6, h⟩ | ⟨c6, h⟩
      · have c6_ : (a0.Tx != a1.Tx) = true := c6
        refine Chain.sub (Sub.bool 17 (b := (a0.Tx != a1.Tx)) rfl c6_) ?_
        refine Chain.sub (S' := mk 25 [] [(2, .ptr 2 0 0), (3, .ptr 3 0 0), (17, .d (.lit (.bool true)))] [(2, some (.box [.d (.lit (.int .i64 a0.Tx)), .d (.lit (.int .i64 a0.Kind)), .d (.lit (.string a0.Key))])), (3, some (.box [.d (.lit (.int .i64 a1.Tx)), .d (.lit (.int .i64 a1.Kind)), .d (.lit (.string a1.Key))]))]) (by simp; exact Sub.table (by simp) (by simp)) ?_
        replace h := bsome h; obtain ⟨v7, hv7, h⟩ := h
        have hv7 := chkI_some hv7
        refine Chain.runK [] 8 fun K hK => ?_; simp [hv7]; refine hK _ _ ?_; clear hK K
        refine Chain.sub (S' := mk 25 [] [(4, .d (.lit (.bool (decide (v7 > 2)))))] []) (Sub.table (by simp) (by simp)) ?_
        cases h
        exact Chain.nil (Sub.table (by simp) (by simp))
      · have c6_ : (a0.Tx != a1.Tx) = false := Bool.eq_false_iff.2 c6
        refine Chain.sub (Sub.bool 17 (b := (a0.Tx != a1.Tx)) rfl c6_) ?_
        refine Chain.sub (S' := mk 25 [] [(2, .ptr 2 0 0), (3, .ptr 3 0 0), (17, .d (.lit (.bool false)))] [(2, some (.box [.d (.lit (.int .i64 a0.Tx)), .d (.lit (.int .i64 a0.Kind)), .d (.lit (.string a0.Key))])), (3, some (.box [.d (.lit (.int .i64 a1.Tx)), .d (.lit (.int .i64 a1.Kind)), .d (.lit (.string a1.Key))]))]) (by simp; exact Sub.table (by simp) (by simp)) ?_
        refine Chain.runK [] 8 fun K hK => ?_; simp; refine hK _ _ ?_; clear hK K
        refine Chain.sub (S' := mk 25 [] [(4, .d (.lit (.bool false)))] []) (Sub.table (by simp) (by simp)) ?_
        cases h
        exact Chain.nil (Sub.table (by simp) (by simp))
    · have c5_ : decide (a0.Key = a1.Key) = false := Bool.eq_false_iff.2 c5
      refine Chain.sub (Sub.bool 10 (b := decide (a0.Key = a1.Key)) rfl c5_) ?_
      refine Chain.sub (S' := mk 25 [] [(2, .ptr 2 0 0), (3, .ptr 3 0 0), (10, .d (.lit (.bool false)))] [(2, some (.box [.d (.lit (.int .i64 a0.Tx)), .d (.lit (.int .i64 a0.Kind)), .d (.lit (.string a0.Key))])), (3, some (.box [.d (.lit (.int .i64 a1.Tx)), .d (.lit (.int .i64 a1.Kind)), .d (.lit (.string a1.Key))]))]) (by simp; exact Sub.table (by simp) (by simp)) ?_
      refine Chain.runK [] 15 fun K hK => ?_; simp; refine hK _ _ ?_; clear hK K
      refine Chain.sub (S' := mk 25 [] [(4, .d (.lit (.bool false)))] []) (Sub.table (by simp) (by simp)) ?_
      cases h
      exact Chain.nil (Sub.table (by simp) (by simp))
  · clear hj
    refine AW.ret ?_
    cases h
    exact FinC.ret (by simp) (by simp)

/-- stemma/stemref5.Precedes -/
def d19 (N : Nat) (a0 : (List S27)) (a1 : Int) (a2 : Int) : Option Bool :=
  bindO (β := Unit) (ρ := Bool) (
    iterN (σ := Int) (ρ := (Out Unit Bool)) (fun (v94 : Int) =>
      if v94 < (a0.length : Int) then (
        (chkI (v94 + 1)).bind fun v283 =>
        bindO (β := Unit) (ρ := (Int ⊕ (Out Unit Bool))) (
          iterN (σ := Int) (ρ := (Out Unit (Int ⊕ (Out Unit Bool)))) (fun (v306 : Int) =>
            if v306 < (a0.length : Int) then (
              Option.bind (α := Bool) (
                (idx a0 v94).bind fun x363 =>
                if (x363.Tx == a1) then (
                  (idx a0 v306).bind fun x366 =>
                  if (x366.Tx == a2) then (
                    (idx a0 v94).bind fun x369 =>
                    (idx a0 v306).bind fun x370 =>
                    (d21 N x369 x370).bind fun r371 =>
                    some r371
                  ) else
                  some false
                ) else
                some false
              ) fun (v362 : Bool) =>
              if v362 = true then (
                some (.inr (.ret (.inr (.ret true))))
              ) else
              (chkI (v306 + 1)).bind fun v373 =>
              some (.inl v373)
            ) else
            some (.inr (.go ()))
          ) N v283
        ) fun (_ : Unit) =>
        (chkI (v94 + 1)).bind fun v374 =>
        some (.inl v374)
      ) else
      some (.inr (.go ()))
    ) N 0
  ) fun (_ : Unit) =>
  some false
set_option maxRecDepth 100000 in
set_option maxHeartbeats 4000000 in
theorem p19 (N : Nat) (a0 : (List S27)) (a1 : Int) (a2 : Int) (r : Bool) (h : d19 N a0 a1 a2 = some r) : FunC Try.prog 19 [.d (.sl (a0.map cS27)), .d (.lit (.int .i64 a1)), .d (.lit (.int .i64 a2))] (.d (.lit (.bool r))) := by
  unfold d19 at h
  refine FunC.enter 50 [(0, .d (.sl (a0.map cS27))), (1, .d (.lit (.int .i64 a1))), (2, .d (.lit (.int .i64 a2)))] (by simp) Try.func19 rfl (of_decide_eq_true rfl) rfl rfl ?_
  refine AW.seqR ?_
  refine Chain.runK [] 1 fun K hK => ?_; simp; refine hK _ _ ?_; clear hK K
  refine Chain.sub (S' := mk 50 [] [(0, .d (.sl (a0.map cS27))), (1, .d (.lit (.int .i64 a1))), (2, .d (.lit (.int .i64 a2)))] []) (Sub.table (by simp) (by simp)) ?_
  refine Chain.nil ?_
  refine AW.seq ?_
  refine AW.seqR ?_
  refine Chain.runK [] 3 fun K hK => ?_; simp; refine hK _ _ ?_; clear hK K
  refine Chain.sub (S' := mk 50 [] [(0, .d (.sl (a0.map cS27))), (1, .d (.lit (.int .i64 a1))), (2, .d (.lit (.int .i64 a2))), (10, .d (.lit (.int .i64 (a0.length : Int)))), (11, .d (.lit (.int .i64 0)))] []) (Sub.table (by simp) (by simp)) ?_
  refine Chain.nil ?_
  refine AW.lastJ (fun (_ : Unit) => mk 50 [] [] []) h ?_ ?_ <;> clear h
  · intro o h
    refine AW.block ?_
    refine AW.iter (fun (v94 : Int) => mk 50 [] [(0, .d (.sl (a0.map cS27))), (1, .d (.lit (.int .i64 a1))), (2, .d (.lit (.int .i64 a2))), (10, .d (.lit (.int .i64 (a0.length : Int)))), (11, .d (.lit (.int .i64 v94)))] []) h (Sub.table (by simp) (by simp)) ?_
    clear h
    rintro v94 x h
    refine AW.seqR ?_
    refine Chain.runK [] 1 fun K hK => ?_; simp; refine hK _ _ ?_; clear hK K
    refine Chain.sub (S' := mk 50 [] [(0, .d (.sl (a0.map cS27))), (1, .d (.lit (.int .i64 a1))), (2, .d (.lit (.int .i64 a2))), (10, .d (.lit (.int .i64 (a0.length : Int)))), (11, .d (.lit (.int .i64 v94))), (12, .d (.lit (.bool (decide (v94 < (a0.length : Int))))))] []) (Sub.table (by simp) (by simp)) ?_
    refine Chain.nil ?_
    refine AW.seq ?_
    replace h := isome h; rcases h with ⟨c282, h⟩ | ⟨c282, h⟩
    · have c282_ : decide (v94 < (a0.length : Int)) = true := decide_eq_true c282
      refine AW.condT (b := decide (v94 < (a0.length : Int))) rfl c282_ ?_
      refine AW.sub (Sub.bool 12 (b := decide (v94 < (a0.length : Int))) rfl c282_) ?_
      refine AW.sub (S' := mk 50 [] [(0, .d (.sl (a0.map cS27))), (1, .d (.lit (.int .i64 a1))), (2, .d (.lit (.int .i64 a2))), (10, .d (.lit (.int .i64 (a0.length : Int)))), (11, .d (.lit (.int .i64 v94))), (12, .d (.lit (.bool true)))] []) (by simp; exact Sub.table (by simp) (by simp)) ?_
      refine AW.skip ?_
      refine thenQ_normal ?_
      refine AW.seq ?_
      refine AW.block ?_
      refine AW.seqR ?_
      refine Chain.runK [] 2 fun K hK => ?_; simp; refine hK _ _ ?_; clear hK K
      refine Chain.sub (S' := mk 50 [] [(0, .d (.sl (a0.map cS27))), (1, .d (.lit (.int .i64 a1))), (2, .d (.lit (.int .i64 a2))), (7, .d (.lit (.int .i64 v94))), (10, .d (.lit (.int .i64 (a0.length : Int)))), (11, .d (.lit (.int .i64 v94)))] []) (Sub.table (by simp) (by simp)) ?_
      refine Chain.nil ?_
      refine AW.seqR ?_
      replace h := bsome h; obtain ⟨v283, hv283, h⟩ := h
      have hv283 := chkI_some hv283
      refine Chain.runK [] 3 fun K hK => ?_; simp [hv283]; refine hK _ _ ?_; clear hK K
      refine Chain.sub (S' := mk 50 [] [(0, .d (.sl (a0.map cS27))), (1, .d (.lit (.int .i64 a1))), (2, .d (.lit (.int .i64 a2))), (7, .d (.lit (.int .i64 v94))), (8, .d (.lit (.int .i64 v283))), (10, .d (.lit (.int .i64 (a0.length : Int)))), (11, .d (.lit (.int .i64 v94)))] []) (Sub.table (by simp) (by simp)) ?_
      refine Chain.nil ?_
      refine AW.lastJ (fun (_ : Unit) => mk 50 [] [(0, .d (.sl (a0.map cS27))), (1, .d (.lit (.int .i64 a1))), (2, .d (.lit (.int .i64 a2))), (10, .d (.lit (.int .i64 (a0.length : Int)))), (11, .d (.lit (.int .i64 v94)))] []) h ?_ ?_ <;> clear h
      · intro o h
        refine AW.block ?_
        refine AW.iter (fun (v306 : Int) => mk 50 [] [(0, .d (.sl (a0.map cS27))), (1, .d (.lit (.int .i64 a1))), (2, .d (.lit (.int .i64 a2))), (7, .d (.lit (.int .i64 v94))), (8, .d (.lit (.int .i64 v306))), (10, .d (.lit (.int .i64 (a0.length : Int)))), (11, .d (.lit (.int .i64 v94)))] []) h (Sub.table (by simp) (by simp)) ?_
        clear h
        rintro v306 x h
        refine AW.seq ?_
        refine AW.seqR ?_
        refine Chain.runK [] 4 fun K hK => ?_; simp; refine hK _ _ ?_; clear hK K
        refine Chain.sub (S' := mk 50 [] [(0, .d (.sl (a0.map cS27))), (1, .d (.lit (.int .i64 a1))), (2, .d (.lit (.int .i64 a2))), (7, .d (.lit (.int .i64 v94))), (8, .d (.lit (.int .i64 v306))), (10, .d (.lit (.int .i64 (a0.length : Int)))), (11, .d (.lit (.int .i64 v94))), (19, .d (.lit (.bool (decide (v306 < (a0.length : Int))))))] []) (Sub.table (by simp) (by simp)) ?_
        refine Chain.nil ?_
        replace h := isome h; rcases h with ⟨c352, h⟩ | ⟨c352, h⟩
        · have c352_ : decide (v306 < (a0.length : Int)) = true := decide_eq_true c352
          refine AW.condT (b := decide (v306 < (a0.length : Int))) rfl c352_ ?_
          refine AW.sub (Sub.bool 19 (b := decide (v306 < (a0.length : Int))) rfl c352_) ?_
          refine AW.sub (S' := mk 50 [] [(0, .d (.sl (a0.map cS27))), (1, .d (.lit (.int .i64 a1))), (2, .d (.lit (.int .i64 a2))), (7, .d (.lit (.int .i64 v94))), (8, .d (.lit (.int .i64 v306))), (10, .d (.lit (.int .i64 (a0.length : Int)))), (11, .d (.lit (.int .i64 v94))), (19, .d (.lit (.bool true)))] []) (by simp; exact Sub.table (by simp) (by simp)) ?_
          refine AW.skip ?_
          refine thenQ_normal ?_
          refine AW.seq ?_
          refine AW.block ?_
          replace h := bsome h; obtain ⟨v362, hj, h⟩ := h
          refine AW.cutQ (by kernel_rfl) (by kernel_rfl) (mk 50 [] [(0, .d (.sl (a0.map cS27))), (1, .d (.lit (.int .i64 a1))), (2, .d (.lit (.int .i64 a2))), (7, .d (.lit (.int .i64 v94))), (8, .d (.lit (.int .i64 v306))), (10, .d (.lit (.int .i64 (a0.length : Int)))), (11, .d (.lit (.int .i64 v94))), (48, .d (.lit (.bool v362)))] []) ?_ ?_
          · clear h; have h := hj; clear hj
            replace h := bsome h; obtain ⟨x363, hx363, h⟩ := h
            obtain ⟨k364, hx363k, hx363, hx363a, hx363b⟩ := idx_some hx363
            refine Chain.runQ 8 fun K hK => ?_; simp [hx363, hx363k, hx363a]; refine hK _ _ ?_; clear hK K
            refine Chain.sub (S' := mk 50 [] [(0, .d (.sl (a0.map cS27))), (1, .d (.lit (.int .i64 a1))), (2, .d (.lit (.int .i64 a2))), (7, .d (.lit (.int .i64 v94))), (8, .d (.lit (.int .i64 v306))), (10, .d (.lit (.int .i64 (a0.length : Int)))), (11, .d (.lit (.int .i64 v94))), (29, .d (.lit (.bool (x363.Tx == a1))))] []) (Sub.table (by simp) (by simp)) ?_
            replace h := isome h; rcases h with ⟨c365, h⟩ | ⟨c365, h⟩
            · have c365_ : (x363.Tx == a1) = true := c365
              refine Chain.sub (Sub.bool 29 (b := (x363.Tx == a1)) rfl c365_) ?_
              refine Chain.sub (S' := mk 50 [] [(0, .d (.sl (a0.map cS27))), (1, .d (.lit (.int .i64 a1))), (2, .d (.lit (.int .i64 a2))), (7, .d (.lit (.int .i64 v94))), (8, .d (.lit (.int .i64 v306))), (10, .d (.lit (.int .i64 (a0.length : Int)))), (11, .d (.lit (.int .i64 v94))), (29, .d (.lit (.bool true)))] []) (by simp; exact Sub.table (by simp) (by simp)) ?_
              replace h := bsome h; obtain ⟨x366, hx366, h⟩ := h
              obtain ⟨k367, hx366k, hx366, hx366a, hx366b⟩ := idx_some hx366
              refine Chain.runQ 9 fun K hK => ?_; simp [hx366, hx366k, hx366a]; refine hK _ _ ?_; clear hK K
              refine Chain.sub (S' := mk 50 [] [(0, .d (.sl (a0.map cS27))), (1, .d (.lit (.int .i64 a1))), (2, .d (.lit (.int .i64 a2))), (7, .d (.lit (.int .i64 v94))), (8, .d (.lit (.int .i64 v306))), (10, .d (.lit (.int .i64 (a0.length : Int)))), (11, .d (.lit (.int .i64 v94))), (30, .d (.sl (a0.map cS27))), (31, .d (.lit (.int .i64 v306))), (32, .d (.pim [.lit (.int .i64 x366.Tx), .lit (.int .i64 x366.Kind), .lit (.string x366.Key)])), (33, .d (.pim [.lit (.int .i64 x366.Tx), .lit (.int .i64 x366.Kind), .lit (.string x366.Key)])), (34, .d (.lit (.int .i64 x366.Tx))), (35, .d (.lit (.int .i64 a2))), (36, .d (.lit (.bool (x366.Tx == a2)))), (38, .d (.lit (.bool (x366.Tx == a2))))] []) (Sub.table (by simp) (by simp)) ?_
              replace h := isome h; rcases h with ⟨c368, h⟩ | ⟨c368, h⟩
              · have c368_ : (x366.Tx == a2) = true := c368
                refine Chain.sub (Sub.bool 36 (b := (x366.Tx == a2)) rfl c368_) ?_
                refine Chain.sub (Sub.bool 38 (b := (x366.Tx == a2)) rfl c368_) ?_
                refine Chain.sub (S' := mk 50 [] [(0, .d (.sl (a0.map cS27))), (1, .d (.lit (.int .i64 a1))), (2, .d (.lit (.int .i64 a2))), (7, .d (.lit (.int .i64 v94))), (8, .d (.lit (.int .i64 v306))), (10, .d (.lit (.int .i64 (a0.length : Int)))), (11, .d (.lit (.int .i64 v94))), (30, .d (.sl (a0.map cS27))), (31, .d (.lit (.int .i64 v306))), (32, .d (.pim [.lit (.int .i64 x366.Tx), .lit (.int .i64 x366.Kind), .lit (.string x366.Key)])), (33, .d (.pim [.lit (.int .i64 x366.Tx), .lit (.int .i64 x366.Kind), .lit (.string x366.Key)])), (34, .d (.lit (.int .i64 x366.Tx))), (35, .d (.lit (.int .i64 a2))), (36, .d (.lit (.bool true))), (38, .d (.lit (.bool true)))] []) (by simp; exact Sub.table (by simp) (by simp)) ?_
                replace h := bsome h; obtain ⟨x369, hx369, h⟩ := h
                obtain ⟨hx369, hx369a, hx369b⟩ := idx_some2 hx369 hx363k
                replace h := bsome h; obtain ⟨x370, hx370, h⟩ := h
                obtain ⟨hx370, hx370a, hx370b⟩ := idx_some2 hx370 hx366k
                refine Chain.runQ 8 fun K hK => ?_; simp [hx369, hx363k, hx369a, hx370, hx366k, hx370a]; refine hK _ _ ?_; clear hK K
                refine Chain.sub (S' := mk 50 [] [(0, .d (.sl (a0.map cS27))), (1, .d (.lit (.int .i64 a1))), (2, .d (.lit (.int .i64 a2))), (7, .d (.lit (.int .i64 v94))), (8, .d (.lit (.int .i64 v306))), (10, .d (.lit (.int .i64 (a0.length : Int)))), (11, .d (.lit (.int .i64 v94))), (30, .d (.sl (a0.map cS27))), (31, .d (.lit (.int .i64 v306))), (32, .d (.pim [.lit (.int .i64 x366.Tx), .lit (.int .i64 x366.Kind), .lit (.string x366.Key)])), (33, .d (.pim [.lit (.int .i64 x366.Tx), .lit (.int .i64 x366.Kind), .lit (.string x366.Key)])), (34, .d (.lit (.int .i64 x366.Tx))), (35, .d (.lit (.int .i64 a2))), (36, .d (.lit (.bool true))), (38, .d (.lit (.bool true))), (39, .d (.sl (a0.map cS27))), (40, .d (.lit (.int .i64 v94))), (41, .d (.pim [.lit (.int .i64 x369.Tx), .lit (.int .i64 x369.Kind), .lit (.string x369.Key)])), (42, .agg [.d (.lit (.int .i64 x369.Tx)), .d (.lit (.int .i64 x369.Kind)), .d (.lit (.string x369.Key))]), (43, .d (.sl (a0.map cS27))), (44, .d (.lit (.int .i64 v306))), (45, .d (.pim [.lit (.int .i64 x370.Tx), .lit (.int .i64 x370.Kind), .lit (.string x370.Key)])), (46, .agg [.d (.lit (.int .i64 x370.Tx)), .d (.lit (.int .i64 x370.Kind)), .d (.lit (.string x370.Key))])] []) (Sub.table (by simp) (by simp)) ?_
                replace h := bsome h; obtain ⟨r371, hr371, h⟩ := h
                refine Chain.callL (d := 47) (p21 N x369 x370 r371 hr371) (by simp) rfl rfl (by simp <;> rfl) (by simp <;> rfl) ent21 (by simp <;> rfl) ?_
                refine Chain.sub (S' := mk 50 [] [(0, .d (.sl (a0.map cS27))), (1, .d (.lit (.int .i64 a1))), (2, .d (.lit (.int .i64 a2))), (7, .d (.lit (.int .i64 v94))), (8, .d (.lit (.int .i64 v306))), (10, .d (.lit (.int .i64 (a0.length : Int)))), (11, .d (.lit (.int .i64 v94))), (30, .d (.sl (a0.map cS27))), (31, .d (.lit (.int .i64 v306))), (32, .d (.pim [.lit (.int .i64 x366.Tx), .lit (.int .i64 x366.Kind), .lit (.string x366.Key)])), (33, .d (.pim [.lit (.int .i64 x366.Tx), .lit (.int .i64 x366.Kind), .lit (.string x366.Key)])), (34, .d (.lit (.int .i64 x366.Tx))), (35, .d (.lit (.int .i64 a2))), (36, .d (.lit (.bool true))), (38, .d (.lit (.bool true))), (39, .d (.sl (a0.map cS27))), (40, .d (.lit (.int .i64 v94))), (41, .d (.pim [.lit (.int .i64 x369.Tx), .lit (.int .i64 x369.Kind), .lit (.string x369.Key)])), (42, .agg [.d (.lit (.int .i64 x369.Tx)), .d (.lit (.int .i64 x369.Kind)), .d (.lit (.string x369.Key))]), (43, .d (.sl (a0.map cS27))), (44, .d (.lit (.int .i64 v306))), (45, .d (.pim [.lit (.int .i64 x370.Tx), .lit (.int .i64 x370.Kind), .lit (.string x370.Key)])), (46, .agg [.d (.lit (.int .i64 x370.Tx)), .d (.lit (.int .i64 x370.Kind)), .d (.lit (.string x370.Key))]), (47, .d (.lit (.bool r371)))] []) (by simp; exact Sub.table (by simp) (by simp)) ?_
                refine Chain.runQ 1 fun K hK => ?_; simp; refine hK _ _ ?_; clear hK K
                refine Chain.sub (S' := mk 50 [] [(0, .d (.sl (a0.map cS27))), (1, .d (.lit (.int .i64 a1))), (2, .d (.lit (.int .i64 a2))), (7, .d (.lit (.int .i64 v94))), (8, .d (.lit (.int .i64 v306))), (10, .d (.lit (.int .i64 (a0.length : Int)))), (11, .d (.lit (.int .i64 v94))), (30, .d (.sl (a0.map cS27))), (31, .d (.lit (.int .i64 v306))), (32, .d (.pim [.lit (.int .i64 x366.Tx), .lit (.int .i64 x366.Kind), .lit (.string x366.Key)])), (33, .d (.pim [.lit (.int .i64 x366.Tx), .lit (.int .i64 x366.Kind), .lit (.string x366.Key)])), (34, .d (.lit (.int .i64 x366.Tx))), (35, .d (.lit (.int .i64 a2))), (36, .d (.lit (.bool true))), (39, .d (.sl (a0.map cS27))), (40, .d (.lit (.int .i64 v94))), (41, .d (.pim [.lit (.int .i64 x369.Tx), .lit (.int .i64 x369.Kind), .lit (.string x369.Key)])), (42, .agg [.d (.lit (.int .i64 x369.Tx)), .d (.lit (.int .i64 x369.Kind)), .d (.lit (.string x369.Key))]), (43, .d (.sl (a0.map cS27))), (44, .d (.lit (.int .i64 v306))), (45, .d (.pim [.lit (.int .i64 x370.Tx), .lit (.int .i64 x370.Kind), .lit (.string x370.Key)])), (46, .agg [.d (.lit (.int .i64 x370.Tx)), .d (.lit (.int .i64 x370.Kind)), .d (.lit (.string x370.Key))]), (47, .d (.lit (.bool r371))), (48, .d (.lit (.bool r371)))] []) (Sub.table (by simp) (by simp)) ?_
                cases h
                exact Chain.nil (Sub.table (by simp) (by simp))
              · have c368_ : (x366.Tx == a2) = false := Bool.eq_false_iff.2 c368
                refine Chain.sub (Sub.bool 36 (b := (x366.Tx == a2)) rfl c368_) ?_
                refine Chain.sub (Sub.bool 38 (b := (x366.Tx == a2)) rfl c368_) ?_
                refine Chain.sub (S' := mk 50 [] [(0, .d (.sl (a0.map cS27))), (1, .d (.lit (.int .i64 a1))), (2, .d (.lit (.int .i64 a2))), (7, .d (.lit (.int .i64 v94))), (8, .d (.lit (.int .i64 v306))), (10, .d (.lit (.int .i64 (a0.length : Int)))), (11, .d (.lit (.int .i64 v94))), (30, .d (.sl (a0.map cS27))), (31, .d (.lit (.int .i64 v306))), (32, .d (.pim [.lit (.int .i64 x366.Tx), .lit (.int .i64 x366.Kind), .lit (.string x366.Key)])), (33, .d (.pim [.lit (.int .i64 x366.Tx), .lit (.int .i64 x366.Kind), .lit (.string x366.Key)])), (34, .d (.lit (.int .i64 x366.Tx))), (35, .d (.lit (.int .i64 a2))), (36, .d (.lit (.bool false))), (38, .d (.lit (.bool false)))] []) (by simp; exact Sub.table (by simp) (by simp)) ?_
                refine Chain.runQ 10 fun K hK => ?_; simp; refine hK _ _ ?_; clear hK K
                refine Chain.sub (S' := mk 50 [] [(0, .d (.sl (a0.map cS27))), (1, .d (.lit (.int .i64 a1))), (2, .d (.lit (.int .i64 a2))), (7, .d (.lit (.int .i64 v94))), (8, .d (.lit (.int .i64 v306))), (10, .d (.lit (.int .i64 (a0.length : Int)))), (11, .d (.lit (.int .i64 v94))), (30, .d (.sl (a0.map cS27))), (31, .d (.lit (.int .i64 v306))), (32, .d (.pim [.lit (.int .i64 x366.Tx), .lit (.int .i64 x366.Kind), .lit (.string x366.Key)])), (33, .d (.pim [.lit (.int .i64 x366.Tx), .lit (.int .i64 x366.Kind), .lit (.string x366.Key)])), (34, .d (.lit (.int .i64 x366.Tx))), (35, .d (.lit (.int .i64 a2))), (36, .d (.lit (.bool false))), (39, .tup []), (40, .tup []), (41, .tup []), (42, .tup []), (43, .tup []), (44, .tup []), (45, .tup []), (46, .tup []), (47, .tup []), (48, .d (.lit (.bool false)))] []) (Sub.table (by simp) (by simp)) ?_
                cases h
                exact Chain.nil (Sub.table (by simp) (by simp))
            · have c365_ : (x363.Tx == a1) = false := Bool.eq_false_iff.2 c365
              refine Chain.sub (Sub.bool 29 (b := (x363.Tx == a1)) rfl c365_) ?_
              refine Chain.sub (S' := mk 50 [] [(0, .d (.sl (a0.map cS27))), (1, .d (.lit (.int .i64 a1))), (2, .d (.lit (.int .i64 a2))), (7, .d (.lit (.int .i64 v94))), (8, .d (.lit (.int .i64 v306))), (10, .d (.lit (.int .i64 (a0.length : Int)))), (11, .d (.lit (.int .i64 v94))), (29, .d (.lit (.bool false)))] []) (by simp; exact Sub.table (by simp) (by simp)) ?_
              refine Chain.runQ 19 fun K hK => ?_; simp; refine hK _ _ ?_; clear hK K
              refine Chain.sub (S' := mk 50 [] [(0, .d (.sl (a0.map cS27))), (1, .d (.lit (.int .i64 a1))), (2, .d (.lit (.int .i64 a2))), (7, .d (.lit (.int .i64 v94))), (8, .d (.lit (.int .i64 v306))), (10, .d (.lit (.int .i64 (a0.length : Int)))), (11, .d (.lit (.int .i64 v94))), (30, .tup []), (31, .tup []), (32, .tup []), (33, .tup []), (34, .tup []), (35, .tup []), (36, .tup []), (39, .tup []), (40, .tup []), (41, .tup []), (42, .tup []), (43, .tup []), (44, .tup []), (45, .tup []), (46, .tup []), (47, .tup []), (48, .d (.lit (.bool false)))] []) (Sub.table (by simp) (by simp)) ?_
              cases h
              exact Chain.nil (Sub.table (by simp) (by simp))
          · clear hj
            replace h := isome h; rcases h with ⟨c372, h⟩ | ⟨c372, h⟩
            · have c372_ : v362 = true := c372
              refine AW.condT (b := v362) rfl c372_ ?_
              refine AW.sub (Sub.bool 48 (b := v362) rfl c372_) ?_
              refine AW.sub (S' := mk 50 [] [(0, .d (.sl (a0.map cS27))), (1, .d (.lit (.int .i64 a1))), (2, .d (.lit (.int .i64 a2))), (7, .d (.lit (.int .i64 v94))), (8, .d (.lit (.int .i64 v306))), (10, .d (.lit (.int .i64 (a0.length : Int)))), (11, .d (.lit (.int .i64 v94))), (48, .d (.lit (.bool true)))] []) (by simp; exact Sub.table (by simp) (by simp)) ?_
              refine AW.seqR ?_
              refine Chain.runK [] 1 fun K hK => ?_; simp; refine hK _ _ ?_; clear hK K
              refine Chain.sub (S' := mk 50 [] [(6, .d (.lit (.bool true)))] []) (Sub.table (by simp) (by simp)) ?_
              refine Chain.nil ?_
              refine AW.ret ?_
              cases h
              refine blockQ.ret ?_
              refine thenQ_pass (by simp) ?_
              refine PostI.out (by simp) ?_
              rintro rfl
              refine blockQ.ret ?_
              refine PostJ.out (by simp) ?_
              rintro rfl
              refine blockQ.ret ?_
              refine thenQ_pass (by simp) ?_
              refine PostI.out (by simp) ?_
              rintro rfl
              refine blockQ.ret ?_
              refine PostJ.out (by simp) ?_
              rintro rfl
              refine thenQ_pass (by simp) ?_
              exact FinC.ret (by simp) (by simp)
            · have c372_ : v362 = false := Bool.eq_false_iff.2 c372
              refine AW.condF (b := v362) rfl c372_ ?_
              refine AW.sub (Sub.bool 48 (b := v362) rfl c372_) ?_
              refine AW.sub (S' := mk 50 [] [(0, .d (.sl (a0.map cS27))), (1, .d (.lit (.int .i64 a1))), (2, .d (.lit (.int .i64 a2))), (7, .d (.lit (.int .i64 v94))), (8, .d (.lit (.int .i64 v306))), (10, .d (.lit (.int .i64 (a0.length : Int)))), (11, .d (.lit (.int .i64 v94))), (48, .d (.lit (.bool false)))] []) (by simp; exact Sub.table (by simp) (by simp)) ?_
              refine AW.skip ?_
              refine blockQ.normal ?_
              refine thenQ_normal ?_
              refine AW.region ?_
              replace h := bsome h; obtain ⟨v373, hv373, h⟩ := h
              have hv373 := chkI_some hv373
              refine Chain.runK [] 3 fun K hK => ?_; simp [hv373]; refine hK _ _ ?_; clear hK K
              refine Chain.sub (S' := mk 50 [] [(0, .d (.sl (a0.map cS27))), (1, .d (.lit (.int .i64 a1))), (2, .d (.lit (.int .i64 a2))), (7, .d (.lit (.int .i64 v94))), (8, .d (.lit (.int .i64 v373))), (10, .d (.lit (.int .i64 (a0.length : Int)))), (11, .d (.lit (.int .i64 v94)))] []) (Sub.table (by simp) (by simp)) ?_
              refine Chain.nil ?_
              cases h
              refine PostI.next ?_
              exact (Sub.table (by simp) (by simp))
        · have c352_ : decide (v306 < (a0.length : Int)) = false := decide_eq_false c352
          refine AW.condF (b := decide (v306 < (a0.length : Int))) rfl c352_ ?_
          refine AW.sub (Sub.bool 19 (b := decide (v306 < (a0.length : Int))) rfl c352_) ?_
          refine AW.sub (S' := mk 50 [] [(0, .d (.sl (a0.map cS27))), (1, .d (.lit (.int .i64 a1))), (2, .d (.lit (.int .i64 a2))), (7, .d (.lit (.int .i64 v94))), (8, .d (.lit (.int .i64 v306))), (10, .d (.lit (.int .i64 (a0.length : Int)))), (11, .d (.lit (.int .i64 v94))), (19, .d (.lit (.bool false)))] []) (by simp; exact Sub.table (by simp) (by simp)) ?_
          refine AW.exit ?_
          cases h
          refine thenQ_pass (by simp) ?_
          refine PostI.out (by simp) ?_
          rintro rfl
          refine blockQ.hit ?_
          refine PostJ.next ?_
          exact (Sub.table (by simp) (by simp))
      · rintro ⟨⟩ h
        refine blockQ.normal ?_
        refine thenQ_normal ?_
        refine AW.region ?_
        replace h := bsome h; obtain ⟨v374, hv374, h⟩ := h
        have hv374 := chkI_some hv374
        refine Chain.runK [] 2 fun K hK => ?_; simp [hv374]; refine hK _ _ ?_; clear hK K
        refine Chain.sub (S' := mk 50 [] [(0, .d (.sl (a0.map cS27))), (1, .d (.lit (.int .i64 a1))), (2, .d (.lit (.int .i64 a2))), (10, .d (.lit (.int .i64 (a0.length : Int)))), (11, .d (.lit (.int .i64 v374)))] []) (Sub.table (by simp) (by simp)) ?_
        refine Chain.nil ?_
        cases h
        refine PostI.next ?_
        exact (Sub.table (by simp) (by simp))
    · have c282_ : decide (v94 < (a0.length : Int)) = false := decide_eq_false c282
      refine AW.condF (b := decide (v94 < (a0.length : Int))) rfl c282_ ?_
      refine AW.sub (Sub.bool 12 (b := decide (v94 < (a0.length : Int))) rfl c282_) ?_
      refine AW.sub (S' := mk 50 [] [(0, .d (.sl (a0.map cS27))), (1, .d (.lit (.int .i64 a1))), (2, .d (.lit (.int .i64 a2))), (10, .d (.lit (.int .i64 (a0.length : Int)))), (11, .d (.lit (.int .i64 v94))), (12, .d (.lit (.bool false)))] []) (by simp; exact Sub.table (by simp) (by simp)) ?_
      refine AW.exit ?_
      cases h
      refine thenQ_pass (by simp) ?_
      refine PostI.out (by simp) ?_
      rintro rfl
      refine blockQ.hit ?_
      refine PostJ.next ?_
      exact (Sub.table (by simp) (by simp))
  · rintro ⟨⟩ h
    refine thenQ_normal ?_
    refine AW.seqR ?_
    refine Chain.runK [] 1 fun K hK => ?_; simp; refine hK _ _ ?_; clear hK K
    refine Chain.sub (S' := mk 50 [] [(6, .d (.lit (.bool false)))] []) (Sub.table (by simp) (by simp)) ?_
    refine Chain.nil ?_
    refine AW.ret ?_
    cases h
    exact FinC.ret (by simp) (by simp)

/-- stemma/stemlaw5.SerialOrderMatchesReference$1 -/
def d30 (N : Nat) (a0 : Int) (a1 : Int) (a2 : (List S27)) : Option Bool :=
  (d19 N a2 a0 a1).bind fun r1 =>
  some r1
set_option maxRecDepth 100000 in
set_option maxHeartbeats 4000000 in
theorem p30 (N : Nat) (a0 : Int) (a1 : Int) (a2 : (List S27)) (r : Bool) (h : d30 N a0 a1 a2 = some r) : FunC Try.prog 30 [.d (.lit (.int .i64 a0)), .d (.lit (.int .i64 a1)), .d (.pim [.sl (a2.map cS27)])] (.d (.lit (.bool r))) := by
  unfold d30 at h
  refine FunC.enter 10 [(0, .d (.lit (.int .i64 a0))), (1, .d (.lit (.int .i64 a1))), (2, .d (.pim [.sl (a2.map cS27)]))] (by simp) Try.func30 rfl (of_decide_eq_true rfl) rfl rfl ?_
  refine AW.seqR ?_
  refine Chain.runK [] 1 fun K hK => ?_; simp; refine hK _ _ ?_; clear hK K
  refine Chain.sub (S' := mk 10 [] [(0, .d (.lit (.int .i64 a0))), (1, .d (.lit (.int .i64 a1))), (2, .d (.pim [.sl (a2.map cS27)]))] []) (Sub.table (by simp) (by simp)) ?_
  refine Chain.nil ?_
  refine AW.seqR ?_
  refine Chain.runK [] 3 fun K hK => ?_; simp; refine hK _ _ ?_; clear hK K
  refine Chain.sub (S' := mk 10 [] [(6, .d (.sl (a2.map cS27))), (7, .d (.lit (.int .i64 a0))), (8, .d (.lit (.int .i64 a1)))] []) (Sub.table (by simp) (by simp)) ?_
  replace h := bsome h; obtain ⟨r1, hr1, h⟩ := h
  refine Chain.callL (d := 9) (p19 N a2 a0 a1 r1 hr1) (by simp) rfl rfl (by simp <;> rfl) (by simp <;> rfl) ent19 (by simp <;> rfl) ?_
  refine Chain.sub (S' := mk 10 [] [(6, .d (.sl (a2.map cS27))), (7, .d (.lit (.int .i64 a0))), (8, .d (.lit (.int .i64 a1))), (9, .d (.lit (.bool r1)))] []) (by simp; exact Sub.table (by simp) (by simp)) ?_
  refine Chain.runK [] 1 fun K hK => ?_; simp; refine hK _ _ ?_; clear hK K
  refine Chain.sub (S' := mk 10 [] [(5, .d (.lit (.bool r1)))] []) (Sub.table (by simp) (by simp)) ?_
  refine Chain.nil ?_
  refine AW.ret ?_
  cases h
  exact FinC.ret (by simp) (by simp)

/-- slices.Clone[[]int,int] -/
def d64 (_ : Nat) (a0 : (List Int)) : Option (List Int) := if a0.length * 8 ≤ Rp.reach then some a0 else none
theorem p64 (N : Nat) (a0 : (List Int)) (r : (List Int)) (h : d64 N a0 = some r) : FunC Try.prog 64 [.d (.sl (a0.map (cI .i64)))] (.d (.sl (r.map (cI .i64)))) := by
  obtain ⟨hz, h⟩ := gsome h
  cases h
  refine FunC.enter 8 [(0, .d (.sl (a0.map (cI .i64))))] (by simp) Try.func64 rfl (of_decide_eq_true rfl) rfl rfl ?_
  refine AW.goR [] 1 fun K hK => ?_; simp; refine hK _ ?_; clear hK K
  refine AW.seq ?_
  refine AW.seqR ?_
  refine Chain.runK [] 1 fun K hK => ?_; simp; refine hK _ _ ?_; clear hK K
  refine Chain.eqNilE (es := a0.map (cI .i64)) (by simp) rfl ty35 rfl (by simp) (by simp) fun b hb => ?_
  refine Chain.nil ?_
  cases b with
  | true =>
    have he : a0 = [] := by
      cases a0 with
      | nil => rfl
      | cons x xs => exact absurd (hb (by simp)) (by simp)
    subst he
    refine AW.condK fun K1 K2 k1 k2 => ?_; simp; refine k1 ?_; clear k1 k2 K1 K2
    refine AW.goR [] 1 fun K hK => ?_; simp; refine hK _ ?_; clear hK K
    refine AW.sub (Sub.wk 2 rfl) ?_
    refine AW.sub (S' := mk 8 [] [(2, .d (.sl []))] []) (by simp; exact Sub.table (by simp) (by simp)) ?_
    refine AW.ret ?_
    exact thenQ_pass (by simp) (FinC.ret (by simp) (by simp))
  | false =>
    refine AW.condK fun K1 K2 k1 k2 => ?_; simp; refine k2 ?_; clear k1 k2 K1 K2
    refine AW.skip ?_
    refine thenQ_normal ?_
    refine AW.goR [] 4 fun K hK => ?_; simp [hz]; refine hK _ ?_; clear hK K
    refine AW.sub (S' := mk 8 [] [(2, .ref 5 0 a0.length)] [(5, some (.arr 3 1 (a0.map (cI .i64))))]) (Sub.table (by simp) (by simp)) ?_
    refine AW.sub (Sub.freeze 5 rfl) ?_
    refine AW.sub (S' := mk 8 [] [(2, .d (.sl (a0.map (cI .i64))))] []) (by simp; exact Sub.table (by simp) (by simp)) ?_
    refine AW.ret ?_
    exact FinC.ret (by simp) (by simp)

end Go.Proofs.Ytabjbkdlacibjaa
