/- Functions of the program as functional programs; the code computes them. -/
import Derived.Test.YtabjbkdlacibjaaSg7
namespace Go.Proofs.Ytabjbkdlacibjaa
open Go.Ab Go.Rp
attribute [-simp] List.all_eq_true Array.all_toList Array.all_eq_true

/-- stemma/stemlaw5.SSIGraphMatchesReference -/
def d8 (N : Nat) (a0 : (List S105)) (a1 : (List Bool)) : Option Bool :=
  (d33 N ).bind fun r1 =>
  if (!r1) = true then (
    some false
  ) else
  (d34 N a0).bind fun r3 =>
  (d43 N r3 a1).bind fun r4 =>
  (d34 N a0).bind fun r5 =>
  (d44 N r5 a1).bind fun r6 =>
  (d37 N a0).bind fun r7 =>
  Option.bind (α := Bool) (
    if (r7 == 0) then (
      some ((a1.length : Int) != (a0.length : Int))
    ) else
    some false
  ) fun (v9 : Bool) =>
  Option.bind (α := Int) (
    if v9 = true then (
      some 3
    ) else
    some r7
  ) fun (v12 : Int) =>
  if (v12 != 0) then (
    Option.bind (α := Bool) (
      if (r4.2 == v12) then (
        if (r6.2 == v12) then (
          if ((r4.1.length : Int) == 0) then (
            some ((r6.1.length : Int) == 0)
          ) else
          some false
        ) else
        some false
      ) else
      some false
    ) fun (v18 : Bool) =>
    some v18
  ) else
  Option.bind (α := ((List S43) × (List Int))) (
    iterN (σ := ((List S43) × (List Int) × Int)) (ρ := ((List S43) × (List Int))) (fun ((l136, l137, v138) : ((List S43) × (List Int) × Int)) =>
      if v138 < (a0.length : Int) then (
        Option.bind (α := List S43) (
          iterN (σ := ((List S43) × Int)) (ρ := List S43) (fun ((l403, v404) : ((List S43) × Int)) =>
            if v404 < (a0.length : Int) then (
              Option.bind (α := Bool) (
                if (v138 != v404) then (
                  (idx a1 v138).bind fun x473 =>
                  if x473 = true then (
                    (idx a1 v404).bind fun x476 =>
                    if x476 = true then (
                      (idx a0 v138).bind fun x479 =>
                      (idx a0 v404).bind fun x480 =>
                      (d45 N x479 x480).bind fun r481 =>
                      some r481
                    ) else
                    some false
                  ) else
                  some false
                ) else
                some false
              ) fun (v471 : Bool) =>
              if v471 = true then (
                (appL 16 l403 [(S43.mk v138 v404)]).bind fun l483 =>
                (chkI (v404 + 1)).bind fun v484 =>
                some (.inl ((l403 ++ [(S43.mk v138 v404)]), v484))
              ) else
              (chkI (v404 + 1)).bind fun v485 =>
              some (.inl (l403, v485))
            ) else
            some (.inr l403)
          ) N (l136, 0)
        ) fun (l459 : List S43) =>
        (idx a1 v138).bind fun x486 =>
        if x486 = true then (
          (appL 8 l137 [v138]).bind fun l489 =>
          (chkI (v138 + 1)).bind fun v490 =>
          some (.inl (l459, (l137 ++ [v138]), v490))
        ) else
        (chkI (v138 + 1)).bind fun v491 =>
        some (.inl (l459, l137, v491))
      ) else
      some (.inr (l136, l137))
    ) N (([] : List S43), ([] : List Int), 0)
  ) fun ((l374, l375) : ((List S43) × (List Int))) =>
  Option.bind (α := Bool) (
    if (r4.2 != 0) then (
      some true
    ) else
    (d24 N r4.1 l374).bind fun r496 =>
    some (!r496)
  ) fun (v494 : Bool) =>
  if v494 = true then (
    some false
  ) else
  (d31 N l375 (fun b0 b1 => d46 N b0 b1 a0)).bind fun r498 =>
  if (!r498.2) = true then (
    Option.bind (α := Bool) (
      if (r6.2 == 14) then (
        some ((r6.1.length : Int) == 0)
      ) else
      some false
    ) fun (v501 : Bool) =>
    some v501
  ) else
  Option.bind (α := Bool) (
    if (r6.2 == 0) then (
      (d22 N r6.1 r498.1).bind fun r507 =>
      some r507
    ) else
    some false
  ) fun (v505 : Bool) =>
  some v505
set_option maxRecDepth 100000 in
set_option maxHeartbeats 4000000 in
theorem p8 (N : Nat) (a0 : (List S105)) (a1 : (List Bool)) (r : Bool) (h : d8 N a0 a1 = some r) : FunC Try.prog 8 [.d (.sl (a0.map cS105)), .d (.sl (a1.map cB))] (.d (.lit (.bool r))) := by
  unfold d8 at h
  refine FunC.enter 145 [(0, .d (.sl (a0.map cS105))), (1, .d (.sl (a1.map cB)))] (by simp) Try.func8 rfl (of_decide_eq_true rfl) rfl rfl ?_
  refine AW.seqR ?_
  refine Chain.runK [] 2 fun K hK => ?_; simp; refine hK _ _ ?_; clear hK K
  refine Chain.sub (S' := mk 145 [] [(1, .d (.sl (a1.map cB))), (2, .ptr 2 0 0)] [(2, some (.box [.d (.sl (a0.map cS105))]))]) (Sub.table (by simp) (by simp)) ?_
  refine Chain.nil ?_
  refine AW.seq ?_
  refine AW.seqR ?_
  replace h := bsome h; obtain ⟨r1, hr1, h⟩ := h
  refine Chain.callL (d := 16) (p33 N  r1 hr1) (by simp) rfl rfl (by simp <;> rfl) (by simp <;> rfl) ent33 (by simp <;> rfl) ?_
  refine Chain.sub (S' := mk 145 [] [(1, .d (.sl (a1.map cB))), (2, .ptr 2 0 0), (16, .d (.lit (.bool r1)))] [(2, some (.box [.d (.sl (a0.map cS105))]))]) (by simp; exact Sub.table (by simp) (by simp)) ?_
  refine Chain.runK [] 1 fun K hK => ?_; simp; refine hK _ _ ?_; clear hK K
  refine Chain.sub (S' := mk 145 [] [(1, .d (.sl (a1.map cB))), (2, .ptr 2 0 0), (17, .d (.lit (.bool (!r1))))] [(2, some (.box [.d (.sl (a0.map cS105))]))]) (Sub.table (by simp) (by simp)) ?_
  refine Chain.nil ?_
  replace h := isome h; rcases h with ⟨c2, h⟩ | ⟨c2, h⟩
  · have c2_ : (!r1) = true := c2
    refine AW.condT (b := (!r1)) rfl c2_ ?_
    refine AW.sub (Sub.bool 17 (b := (!r1)) rfl c2_) ?_
    refine AW.sub (S' := mk 145 [] [(1, .d (.sl (a1.map cB))), (2, .ptr 2 0 0), (17, .d (.lit (.bool true)))] [(2, some (.box [.d (.sl (a0.map cS105))]))]) (by simp; exact Sub.table (by simp) (by simp)) ?_
    refine AW.seqR ?_
    refine Chain.runK [] 1 fun K hK => ?_; simp; refine hK _ _ ?_; clear hK K
    refine Chain.sub (S' := mk 145 [] [(4, .d (.lit (.bool false)))] []) (Sub.table (by simp) (by simp)) ?_
    refine Chain.nil ?_
    refine AW.ret ?_
    cases h
    refine thenQ_pass (by simp) ?_
    exact FinC.ret (by simp) (by simp)
  · have c2_ : (!r1) = false := Bool.eq_false_iff.2 c2
    refine AW.condF (b := (!r1)) rfl c2_ ?_
    refine AW.sub (Sub.bool 17 (b := (!r1)) rfl c2_) ?_
    refine AW.sub (S' := mk 145 [] [(1, .d (.sl (a1.map cB))), (2, .ptr 2 0 0), (17, .d (.lit (.bool false)))] [(2, some (.box [.d (.sl (a0.map cS105))]))]) (by simp; exact Sub.table (by simp) (by simp)) ?_
    refine AW.skip ?_
    refine thenQ_normal ?_
    refine AW.seqR ?_
    refine Chain.runK [] 1 fun K hK => ?_; simp; refine hK _ _ ?_; clear hK K
    refine Chain.sub (S' := mk 145 [] [(1, .d (.sl (a1.map cB))), (2, .ptr 2 0 0), (19, .d (.sl (a0.map cS105)))] [(2, some (.box [.d (.sl (a0.map cS105))]))]) (Sub.table (by simp) (by simp)) ?_
    replace h := bsome h; obtain ⟨r3, hr3, h⟩ := h
    refine Chain.callC (d := 20) (p34 N a0 r3 hr3) (by simp) rfl rfl (by simp <;> rfl) (by simp <;> rfl) ent34 (by simp) (.inl ⟨by simp, by simp⟩) ?_
    refine Chain.sub (S' := mk 145 [] [(1, .d (.sl (a1.map cB))), (2, .ptr 2 0 0), (19, .d (.sl (a0.map cS105))), (20, .d (.sl (r3.map cS105)))] [(2, some (.box [.d (.sl (a0.map cS105))]))]) (by simp; exact Sub.table (by simp) (by simp)) ?_
    refine Chain.runK [] 1 fun K hK => ?_; simp; refine hK _ _ ?_; clear hK K
    refine Chain.sub (S' := mk 145 [] [(1, .d (.sl (a1.map cB))), (2, .ptr 2 0 0), (20, .d (.sl (r3.map cS105))), (21, .d (.sl (a1.map cB)))] [(2, some (.box [.d (.sl (a0.map cS105))]))]) (Sub.table (by simp) (by simp)) ?_
    replace h := bsome h; obtain ⟨r4, hr4, h⟩ := h
    refine Chain.callC (d := 22) (p43 N r3 a1 r4 hr4) (by simp) rfl rfl (by simp <;> rfl) (by simp <;> rfl) ent43 (by simp) (.inl ⟨by simp, by simp⟩) ?_
    refine Chain.sub (S' := mk 145 [] [(1, .d (.sl (a1.map cB))), (2, .ptr 2 0 0), (20, .d (.sl (r3.map cS105))), (21, .d (.sl (a1.map cB))), (22, .tup [.d (.sl (r4.1.map cS43)), .d (.lit (.int .i64 r4.2))])] [(2, some (.box [.d (.sl (a0.map cS105))]))]) (by simp; exact Sub.table (by simp) (by simp)) ?_
    refine Chain.runK [] 5 fun K hK => ?_; simp; refine hK _ _ ?_; clear hK K
    refine Chain.sub (S' := mk 145 [] [(1, .d (.sl (a1.map cB))), (2, .ptr 2 0 0), (5, .d (.sl (r4.1.map cS43))), (6, .d (.lit (.int .i64 r4.2)))] [(2, some (.box [.d (.sl (a0.map cS105))]))]) (Sub.table (by simp) (by simp)) ?_
    refine Chain.nil ?_
    refine AW.seqR ?_
    refine Chain.runK [] 1 fun K hK => ?_; simp; refine hK _ _ ?_; clear hK K
    refine Chain.sub (S' := mk 145 [] [(1, .d (.sl (a1.map cB))), (2, .ptr 2 0 0), (5, .d (.sl (r4.1.map cS43))), (6, .d (.lit (.int .i64 r4.2))), (26, .d (.sl (a0.map cS105)))] [(2, some (.box [.d (.sl (a0.map cS105))]))]) (Sub.table (by simp) (by simp)) ?_
    replace h := bsome h; obtain ⟨r5, hr5, h⟩ := h
    refine Chain.callC (d := 27) (p34 N a0 r5 hr5) (by simp) rfl rfl (by simp <;> rfl) (by simp <;> rfl) ent34 (by simp) (.inl ⟨by simp, by simp⟩) ?_
    refine Chain.sub (S' := mk 145 [] [(1, .d (.sl (a1.map cB))), (2, .ptr 2 0 0), (5, .d (.sl (r4.1.map cS43))), (6, .d (.lit (.int .i64 r4.2))), (26, .d (.sl (a0.map cS105))), (27, .d (.sl (r5.map cS105)))] [(2, some (.box [.d (.sl (a0.map cS105))]))]) (by simp; exact Sub.table (by simp) (by simp)) ?_
    refine Chain.runK [] 1 fun K hK => ?_; simp; refine hK _ _ ?_; clear hK K
    refine Chain.sub (S' := mk 145 [] [(1, .d (.sl (a1.map cB))), (2, .ptr 2 0 0), (5, .d (.sl (r4.1.map cS43))), (6, .d (.lit (.int .i64 r4.2))), (27, .d (.sl (r5.map cS105))), (28, .d (.sl (a1.map cB)))] [(2, some (.box [.d (.sl (a0.map cS105))]))]) (Sub.table (by simp) (by simp)) ?_
    replace h := bsome h; obtain ⟨r6, hr6, h⟩ := h
    refine Chain.callC (d := 29) (p44 N r5 a1 r6 hr6) (by simp) rfl rfl (by simp <;> rfl) (by simp <;> rfl) ent44 (by simp) (.inl ⟨by simp, by simp⟩) ?_
    refine Chain.sub (S' := mk 145 [] [(1, .d (.sl (a1.map cB))), (2, .ptr 2 0 0), (5, .d (.sl (r4.1.map cS43))), (6, .d (.lit (.int .i64 r4.2))), (27, .d (.sl (r5.map cS105))), (28, .d (.sl (a1.map cB))), (29, .tup [.d (.sl (r6.1.map (cI .i64))), .d (.lit (.int .i64 r6.2))])] [(2, some (.box [.d (.sl (a0.map cS105))]))]) (by simp; exact Sub.table (by simp) (by simp)) ?_
    refine Chain.runK [] 5 fun K hK => ?_; simp; refine hK _ _ ?_; clear hK K
    refine Chain.sub (S' := mk 145 [] [(1, .d (.sl (a1.map cB))), (2, .ptr 2 0 0), (5, .d (.sl (r4.1.map cS43))), (6, .d (.lit (.int .i64 r4.2))), (7, .d (.sl (r6.1.map (cI .i64)))), (8, .d (.lit (.int .i64 r6.2)))] [(2, some (.box [.d (.sl (a0.map cS105))]))]) (Sub.table (by simp) (by simp)) ?_
    refine Chain.nil ?_
    refine AW.seqR ?_
    refine Chain.runK [] 1 fun K hK => ?_; simp; refine hK _ _ ?_; clear hK K
    refine Chain.sub (S' := mk 145 [] [(1, .d (.sl (a1.map cB))), (2, .ptr 2 0 0), (5, .d (.sl (r4.1.map cS43))), (6, .d (.lit (.int .i64 r4.2))), (7, .d (.sl (r6.1.map (cI .i64)))), (8, .d (.lit (.int .i64 r6.2))), (32, .d (.sl (a0.map cS105)))] [(2, some (.box [.d (.sl (a0.map cS105))]))]) (Sub.table (by simp) (by simp)) ?_
    replace h := bsome h; obtain ⟨r7, hr7, h⟩ := h
    refine Chain.callL (d := 33) (p37 N a0 r7 hr7) (by simp) rfl rfl (by simp <;> rfl) (by simp <;> rfl) ent37 (by simp <;> rfl) ?_
    refine Chain.sub (S' := mk 145 [] [(1, .d (.sl (a1.map cB))), (2, .ptr 2 0 0), (5, .d (.sl (r4.1.map cS43))), (6, .d (.lit (.int .i64 r4.2))), (7, .d (.sl (r6.1.map (cI .i64)))), (8, .d (.lit (.int .i64 r6.2))), (32, .d (.sl (a0.map cS105))), (33, .d (.lit (.int .i64 r7)))] [(2, some (.box [.d (.sl (a0.map cS105))]))]) (by simp; exact Sub.table (by simp) (by simp)) ?_
    refine Chain.runK [] 1 fun K hK => ?_; simp; refine hK _ _ ?_; clear hK K
    refine Chain.sub (S' := mk 145 [] [(1, .d (.sl (a1.map cB))), (2, .ptr 2 0 0), (5, .d (.sl (r4.1.map cS43))), (6, .d (.lit (.int .i64 r4.2))), (7, .d (.sl (r6.1.map (cI .i64)))), (8, .d (.lit (.int .i64 r6.2))), (9, .d (.lit (.int .i64 r7)))] [(2, some (.box [.d (.sl (a0.map cS105))]))]) (Sub.table (by simp) (by simp)) ?_
    refine Chain.nil ?_
    refine AW.seq ?_
    replace h := bsome h; obtain ⟨v9, hj, h⟩ := h
    refine AW.cutR (mk 145 [] [(1, .d (.sl (a1.map cB))), (2, .ptr 2 0 0), (5, .d (.sl (r4.1.map cS43))), (6, .d (.lit (.int .i64 r4.2))), (7, .d (.sl (r6.1.map (cI .i64)))), (8, .d (.lit (.int .i64 r6.2))), (9, .d (.lit (.int .i64 r7))), (42, .d (.lit (.bool v9)))] [(2, some (.box [.d (.sl (a0.map cS105))]))]) ?_ ?_
    · clear h; have h := hj; clear hj
      refine Chain.runK [] 3 fun K hK => ?_; simp; refine hK _ _ ?_; clear hK K
      refine Chain.sub (S' := mk 145 [] [(1, .d (.sl (a1.map cB))), (2, .ptr 2 0 0), (5, .d (.sl (r4.1.map cS43))), (6, .d (.lit (.int .i64 r4.2))), (7, .d (.sl (r6.1.map (cI .i64)))), (8, .d (.lit (.int .i64 r6.2))), (9, .d (.lit (.int .i64 r7))), (36, .d (.lit (.bool (r7 == 0))))] [(2, some (.box [.d (.sl (a0.map cS105))]))]) (Sub.table (by simp) (by simp)) ?_
      replace h := isome h; rcases h with ⟨c10, h⟩ | ⟨c10, h⟩
      · have c10_ : (r7 == 0) = true := c10
        refine Chain.sub (Sub.bool 36 (b := (r7 == 0)) rfl c10_) ?_
        refine Chain.sub (S' := mk 145 [] [(1, .d (.sl (a1.map cB))), (2, .ptr 2 0 0), (5, .d (.sl (r4.1.map cS43))), (6, .d (.lit (.int .i64 r4.2))), (7, .d (.sl (r6.1.map (cI .i64)))), (8, .d (.lit (.int .i64 r6.2))), (9, .d (.lit (.int .i64 r7))), (36, .d (.lit (.bool true)))] [(2, some (.box [.d (.sl (a0.map cS105))]))]) (by simp; exact Sub.table (by simp) (by simp)) ?_
        refine Chain.runK [] 6 fun K hK => ?_; simp; refine hK _ _ ?_; clear hK K
        refine Chain.sub (S' := mk 145 [] [(1, .d (.sl (a1.map cB))), (2, .ptr 2 0 0), (5, .d (.sl (r4.1.map cS43))), (6, .d (.lit (.int .i64 r4.2))), (7, .d (.sl (r6.1.map (cI .i64)))), (8, .d (.lit (.int .i64 r6.2))), (9, .d (.lit (.int .i64 r7))), (42, .d (.lit (.bool ((a1.length : Int) != (a0.length : Int)))))] [(2, some (.box [.d (.sl (a0.map cS105))]))]) (Sub.table (by simp) (by simp)) ?_
        cases h
        exact Chain.nil (Sub.table (by simp) (by simp))
      · have c10_ : (r7 == 0) = false := Bool.eq_false_iff.2 c10
        refine Chain.sub (Sub.bool 36 (b := (r7 == 0)) rfl c10_) ?_
        refine Chain.sub (S' := mk 145 [] [(1, .d (.sl (a1.map cB))), (2, .ptr 2 0 0), (5, .d (.sl (r4.1.map cS43))), (6, .d (.lit (.int .i64 r4.2))), (7, .d (.sl (r6.1.map (cI .i64)))), (8, .d (.lit (.int .i64 r6.2))), (9, .d (.lit (.int .i64 r7))), (36, .d (.lit (.bool false)))] [(2, some (.box [.d (.sl (a0.map cS105))]))]) (by simp; exact Sub.table (by simp) (by simp)) ?_
        refine Chain.runK [] 6 fun K hK => ?_; simp; refine hK _ _ ?_; clear hK K
        refine Chain.sub (S' := mk 145 [] [(1, .d (.sl (a1.map cB))), (2, .ptr 2 0 0), (5, .d (.sl (r4.1.map cS43))), (6, .d (.lit (.int .i64 r4.2))), (7, .d (.sl (r6.1.map (cI .i64)))), (8, .d (.lit (.int .i64 r6.2))), (9, .d (.lit (.int .i64 r7))), (42, .d (.lit (.bool false)))] [(2, some (.box [.d (.sl (a0.map cS105))]))]) (Sub.table (by simp) (by simp)) ?_
        cases h
        exact Chain.nil (Sub.table (by simp) (by simp))
    · clear hj
      refine AW.lastN (fun (v12 : Int) => mk 145 [] [(1, .d (.sl (a1.map cB))), (2, .ptr 2 0 0), (5, .d (.sl (r4.1.map cS43))), (6, .d (.lit (.int .i64 r4.2))), (7, .d (.sl (r6.1.map (cI .i64)))), (8, .d (.lit (.int .i64 r6.2))), (9, .d (.lit (.int .i64 v12)))] [(2, some (.box [.d (.sl (a0.map cS105))]))]) h ?_ ?_ <;> clear h
      · intro o h
        replace h := isome h; rcases h with ⟨c13, h⟩ | ⟨c13, h⟩
        · have c13_ : v9 = true := c13
          refine AW.condT (b := v9) rfl c13_ ?_
          refine AW.sub (Sub.bool 42 (b := v9) rfl c13_) ?_
          refine AW.sub (S' := mk 145 [] [(1, .d (.sl (a1.map cB))), (2, .ptr 2 0 0), (5, .d (.sl (r4.1.map cS43))), (6, .d (.lit (.int .i64 r4.2))), (7, .d (.sl (r6.1.map (cI .i64)))), (8, .d (.lit (.int .i64 r6.2))), (9, .d (.lit (.int .i64 r7))), (42, .d (.lit (.bool true)))] [(2, some (.box [.d (.sl (a0.map cS105))]))]) (by simp; exact Sub.table (by simp) (by simp)) ?_
          refine AW.region ?_
          refine Chain.runK [] 1 fun K hK => ?_; simp; refine hK _ _ ?_; clear hK K
          refine Chain.sub (S' := mk 145 [] [(1, .d (.sl (a1.map cB))), (2, .ptr 2 0 0), (5, .d (.sl (r4.1.map cS43))), (6, .d (.lit (.int .i64 r4.2))), (7, .d (.sl (r6.1.map (cI .i64)))), (8, .d (.lit (.int .i64 r6.2))), (9, .d (.lit (.int .i64 3)))] [(2, some (.box [.d (.sl (a0.map cS105))]))]) (Sub.table (by simp) (by simp)) ?_
          refine Chain.nil ?_
          cases h
          refine PostN.next ?_
          exact (Sub.table (by simp) (by simp))
        · have c13_ : v9 = false := Bool.eq_false_iff.2 c13
          refine AW.condF (b := v9) rfl c13_ ?_
          refine AW.sub (Sub.bool 42 (b := v9) rfl c13_) ?_
          refine AW.sub (S' := mk 145 [] [(1, .d (.sl (a1.map cB))), (2, .ptr 2 0 0), (5, .d (.sl (r4.1.map cS43))), (6, .d (.lit (.int .i64 r4.2))), (7, .d (.sl (r6.1.map (cI .i64)))), (8, .d (.lit (.int .i64 r6.2))), (9, .d (.lit (.int .i64 r7))), (42, .d (.lit (.bool false)))] [(2, some (.box [.d (.sl (a0.map cS105))]))]) (by simp; exact Sub.table (by simp) (by simp)) ?_
          refine AW.skip ?_
          cases h
          refine PostN.next ?_
          exact (Sub.table (by simp) (by simp))
      · rintro v12 h
        refine thenQ_normal ?_
        refine AW.seq ?_
        refine AW.seqR ?_
        refine Chain.runK [] 2 fun K hK => ?_; simp; refine hK _ _ ?_; clear hK K
        refine Chain.sub (S' := mk 145 [] [(1, .d (.sl (a1.map cB))), (2, .ptr 2 0 0), (5, .d (.sl (r4.1.map cS43))), (6, .d (.lit (.int .i64 r4.2))), (7, .d (.sl (r6.1.map (cI .i64)))), (8, .d (.lit (.int .i64 r6.2))), (9, .d (.lit (.int .i64 v12))), (44, .d (.lit (.bool (v12 != 0))))] [(2, some (.box [.d (.sl (a0.map cS105))]))]) (Sub.table (by simp) (by simp)) ?_
        refine Chain.nil ?_
        replace h := isome h; rcases h with ⟨c14, h⟩ | ⟨c14, h⟩
        · have c14_ : (v12 != 0) = true := c14
          refine AW.condT (b := (v12 != 0)) rfl c14_ ?_
          refine AW.sub (Sub.bool 44 (b := (v12 != 0)) rfl c14_) ?_
          refine AW.sub (S' := mk 145 [] [(1, .d (.sl (a1.map cB))), (2, .ptr 2 0 0), (5, .d (.sl (r4.1.map cS43))), (6, .d (.lit (.int .i64 r4.2))), (7, .d (.sl (r6.1.map (cI .i64)))), (8, .d (.lit (.int .i64 r6.2))), (9, .d (.lit (.int .i64 v12))), (44, .d (.lit (.bool true)))] [(2, some (.box [.d (.sl (a0.map cS105))]))]) (by simp; exact Sub.table (by simp) (by simp)) ?_
          replace h := bsome h; obtain ⟨v18, hj, h⟩ := h
          refine AW.cutR (mk 145 [] [(4, .d (.lit (.bool v18)))] []) ?_ ?_
          · clear h; have h := hj; clear hj
            refine Chain.runK [] 4 fun K hK => ?_; simp; refine hK _ _ ?_; clear hK K
            refine Chain.sub (S' := mk 145 [] [(5, .d (.sl (r4.1.map cS43))), (7, .d (.sl (r6.1.map (cI .i64)))), (8, .d (.lit (.int .i64 r6.2))), (9, .d (.lit (.int .i64 v12))), (48, .d (.lit (.bool (r4.2 == v12))))] []) (Sub.table (by simp) (by simp)) ?_
            replace h := isome h; rcases h with ⟨c19, h⟩ | ⟨c19, h⟩
            · have c19_ : (r4.2 == v12) = true := c19
              refine Chain.sub (Sub.bool 48 (b := (r4.2 == v12)) rfl c19_) ?_
              refine Chain.sub (S' := mk 145 [] [(5, .d (.sl (r4.1.map cS43))), (7, .d (.sl (r6.1.map (cI .i64)))), (8, .d (.lit (.int .i64 r6.2))), (9, .d (.lit (.int .i64 v12))), (48, .d (.lit (.bool true)))] []) (by simp; exact Sub.table (by simp) (by simp)) ?_
              refine Chain.runK [] 5 fun K hK => ?_; simp; refine hK _ _ ?_; clear hK K
              refine Chain.sub (S' := mk 145 [] [(5, .d (.sl (r4.1.map cS43))), (7, .d (.sl (r6.1.map (cI .i64)))), (53, .d (.lit (.bool (r6.2 == v12))))] []) (Sub.table (by simp) (by simp)) ?_
              replace h := isome h; rcases h with ⟨c20, h⟩ | ⟨c20, h⟩
              · have c20_ : (r6.2 == v12) = true := c20
                refine Chain.sub (Sub.bool 53 (b := (r6.2 == v12)) rfl c20_) ?_
                refine Chain.sub (S' := mk 145 [] [(5, .d (.sl (r4.1.map cS43))), (7, .d (.sl (r6.1.map (cI .i64)))), (53, .d (.lit (.bool true)))] []) (by simp; exact Sub.table (by simp) (by simp)) ?_
                refine Chain.runK [] 5 fun K hK => ?_; simp; refine hK _ _ ?_; clear hK K
                refine Chain.sub (S' := mk 145 [] [(7, .d (.sl (r6.1.map (cI .i64)))), (58, .d (.lit (.bool ((r4.1.length : Int) == 0))))] []) (Sub.table (by simp) (by simp)) ?_
                replace h := isome h; rcases h with ⟨c21, h⟩ | ⟨c21, h⟩
                · have c21_ : ((r4.1.length : Int) == 0) = true := c21
                  refine Chain.sub (Sub.bool 58 (b := ((r4.1.length : Int) == 0)) rfl c21_) ?_
                  refine Chain.sub (S' := mk 145 [] [(7, .d (.sl (r6.1.map (cI .i64)))), (58, .d (.lit (.bool true)))] []) (by simp; exact Sub.table (by simp) (by simp)) ?_
                  refine Chain.runK [] 5 fun K hK => ?_; simp; refine hK _ _ ?_; clear hK K
                  refine Chain.sub (S' := mk 145 [] [(4, .d (.lit (.bool ((r6.1.length : Int) == 0))))] []) (Sub.table (by simp) (by simp)) ?_
                  cases h
                  exact Chain.nil (Sub.table (by simp) (by simp))
                · have c21_ : ((r4.1.length : Int) == 0) = false := Bool.eq_false_iff.2 c21
                  refine Chain.sub (Sub.bool 58 (b := ((r4.1.length : Int) == 0)) rfl c21_) ?_
                  refine Chain.sub (S' := mk 145 [] [(7, .d (.sl (r6.1.map (cI .i64)))), (58, .d (.lit (.bool false)))] []) (by simp; exact Sub.table (by simp) (by simp)) ?_
                  refine Chain.runK [] 5 fun K hK => ?_; simp; refine hK _ _ ?_; clear hK K
                  refine Chain.sub (S' := mk 145 [] [(4, .d (.lit (.bool false)))] []) (Sub.table (by simp) (by simp)) ?_
                  cases h
                  exact Chain.nil (Sub.table (by simp) (by simp))
              · have c20_ : (r6.2 == v12) = false := Bool.eq_false_iff.2 c20
                refine Chain.sub (Sub.bool 53 (b := (r6.2 == v12)) rfl c20_) ?_
                refine Chain.sub (S' := mk 145 [] [(5, .d (.sl (r4.1.map cS43))), (7, .d (.sl (r6.1.map (cI .i64)))), (53, .d (.lit (.bool false)))] []) (by simp; exact Sub.table (by simp) (by simp)) ?_
                refine Chain.runK [] 10 fun K hK => ?_; simp; refine hK _ _ ?_; clear hK K
                refine Chain.sub (S' := mk 145 [] [(4, .d (.lit (.bool false)))] []) (Sub.table (by simp) (by simp)) ?_
                cases h
                exact Chain.nil (Sub.table (by simp) (by simp))
            · have c19_ : (r4.2 == v12) = false := Bool.eq_false_iff.2 c19
              refine Chain.sub (Sub.bool 48 (b := (r4.2 == v12)) rfl c19_) ?_
              refine Chain.sub (S' := mk 145 [] [(5, .d (.sl (r4.1.map cS43))), (7, .d (.sl (r6.1.map (cI .i64)))), (8, .d (.lit (.int .i64 r6.2))), (9, .d (.lit (.int .i64 v12))), (48, .d (.lit (.bool false)))] []) (by simp; exact Sub.table (by simp) (by simp)) ?_
              refine Chain.runK [] 15 fun K hK => ?_; simp; refine hK _ _ ?_; clear hK K
              refine Chain.sub (S' := mk 145 [] [(4, .d (.lit (.bool false)))] []) (Sub.table (by simp) (by simp)) ?_
              cases h
              exact Chain.nil (Sub.table (by simp) (by simp))
          · clear hj
            refine AW.ret ?_
            cases h
            refine thenQ_pass (by simp) ?_
            exact FinC.ret (by simp) (by simp)
        · have c14_ : (v12 != 0) = false := Bool.eq_false_iff.2 c14
          refine AW.condF (b := (v12 != 0)) rfl c14_ ?_
          refine AW.sub (Sub.bool 44 (b := (v12 != 0)) rfl c14_) ?_
          refine AW.sub (S' := mk 145 [] [(1, .d (.sl (a1.map cB))), (2, .ptr 2 0 0), (5, .d (.sl (r4.1.map cS43))), (6, .d (.lit (.int .i64 r4.2))), (7, .d (.sl (r6.1.map (cI .i64)))), (8, .d (.lit (.int .i64 r6.2))), (9, .d (.lit (.int .i64 v12))), (44, .d (.lit (.bool false)))] [(2, some (.box [.d (.sl (a0.map cS105))]))]) (by simp; exact Sub.table (by simp) (by simp)) ?_
          refine AW.skip ?_
          refine thenQ_normal ?_
          refine AW.seqR ?_
          refine Chain.runK [] 1 fun K hK => ?_; simp; refine hK _ _ ?_; clear hK K
          refine Chain.sub (S' := mk 145 [] [(1, .d (.sl (a1.map cB))), (2, .ptr 2 0 0), (5, .d (.sl (r4.1.map cS43))), (6, .d (.lit (.int .i64 r4.2))), (7, .d (.sl (r6.1.map (cI .i64)))), (8, .d (.lit (.int .i64 r6.2))), (10, .d (.lit (.slice none 0 0)))] [(2, some (.box [.d (.sl (a0.map cS105))]))]) (Sub.table (by simp) (by simp)) ?_
          refine Chain.nil ?_
          refine AW.seqR ?_
          refine Chain.runK [] 1 fun K hK => ?_; simp; refine hK _ _ ?_; clear hK K
          refine Chain.sub (S' := mk 145 [] [(1, .d (.sl (a1.map cB))), (2, .ptr 2 0 0), (5, .d (.sl (r4.1.map cS43))), (6, .d (.lit (.int .i64 r4.2))), (7, .d (.sl (r6.1.map (cI .i64)))), (8, .d (.lit (.int .i64 r6.2))), (10, .d (.lit (.slice none 0 0))), (11, .d (.lit (.slice none 0 0)))] [(2, some (.box [.d (.sl (a0.map cS105))]))]) (Sub.table (by simp) (by simp)) ?_
          refine Chain.nil ?_
          refine AW.seq ?_
          refine AW.seqR ?_
          refine Chain.runK [] 3 fun K hK => ?_; simp; refine hK _ _ ?_; clear hK K
          refine Chain.sub (S' := mk 145 [] [(1, .d (.sl (a1.map cB))), (2, .ptr 2 0 0), (5, .d (.sl (r4.1.map cS43))), (6, .d (.lit (.int .i64 r4.2))), (7, .d (.sl (r6.1.map (cI .i64)))), (8, .d (.lit (.int .i64 r6.2))), (10, .d (.lit (.slice none 0 0))), (11, .d (.lit (.slice none 0 0))), (64, .d (.lit (.int .i64 (a0.length : Int)))), (65, .d (.lit (.int .i64 0)))] [(2, some (.box [.d (.sl (a0.map cS105))]))]) (Sub.table (by simp) (by simp)) ?_
          refine Chain.nil ?_
          refine AW.lastN (fun ((l374, l375) : ((List S43) × (List Int))) => mk 145 [] [(2, .ptr 2 0 0), (5, .d (.sl (r4.1.map cS43))), (6, .d (.lit (.int .i64 r4.2))), (7, .d (.sl (r6.1.map (cI .i64)))), (8, .d (.lit (.int .i64 r6.2))), (10, .ref 104 0 l374.length), (11, .ref 113 0 l375.length)] [(2, some (.box [.d (.sl (a0.map cS105))])), (104, some (.arr 43 2 (l374.map cS43))), (113, some (.arr 3 1 (l375.map (cI .i64))))]) h ?_ ?_ <;> clear h
          · intro o h
            refine AW.block ?_
            refine AW.iter (fun ((l136, l137, v138) : ((List S43) × (List Int) × Int)) => mk 145 [] [(1, .d (.sl (a1.map cB))), (2, .ptr 2 0 0), (5, .d (.sl (r4.1.map cS43))), (6, .d (.lit (.int .i64 r4.2))), (7, .d (.sl (r6.1.map (cI .i64)))), (8, .d (.lit (.int .i64 r6.2))), (10, .ref 104 0 l136.length), (11, .ref 113 0 l137.length), (64, .d (.lit (.int .i64 (a0.length : Int)))), (65, .d (.lit (.int .i64 v138)))] [(2, some (.box [.d (.sl (a0.map cS105))])), (104, some (.arr 43 2 (l136.map cS43))), (113, some (.arr 3 1 (l137.map (cI .i64))))]) h (Sub.trans (Sub.nilOwn (t := 10) (id := 104) (T := 43) (n := 2) rfl rfl (by decide)) (by simp; exact (Sub.trans (Sub.nilOwn (t := 11) (id := 113) (T := 3) (n := 1) rfl rfl (by decide)) (by simp; exact Sub.table (by simp) (by simp))))) ?_
            clear h
            rintro ⟨l136, l137, v138⟩ x h
            dsimp only at h ⊢
            refine AW.seqR ?_
            refine Chain.runK [] 1 fun K hK => ?_; simp; refine hK _ _ ?_; clear hK K
            refine Chain.sub (S' := mk 145 [] [(1, .d (.sl (a1.map cB))), (2, .ptr 2 0 0), (5, .d (.sl (r4.1.map cS43))), (6, .d (.lit (.int .i64 r4.2))), (7, .d (.sl (r6.1.map (cI .i64)))), (8, .d (.lit (.int .i64 r6.2))), (10, .ref 104 0 l136.length), (11, .ref 113 0 l137.length), (64, .d (.lit (.int .i64 (a0.length : Int)))), (65, .d (.lit (.int .i64 v138))), (66, .d (.lit (.bool (decide (v138 < (a0.length : Int))))))] [(2, some (.box [.d (.sl (a0.map cS105))])), (104, some (.arr 43 2 (l136.map cS43))), (113, some (.arr 3 1 (l137.map (cI .i64))))]) (Sub.table (by simp) (by simp)) ?_
            refine Chain.nil ?_
            refine AW.seq ?_
            replace h := isome h; rcases h with ⟨c376, h⟩ | ⟨c376, h⟩
            · have c376_ : decide (v138 < (a0.length : Int)) = true := decide_eq_true c376
              refine AW.condT (b := decide (v138 < (a0.length : Int))) rfl c376_ ?_
              refine AW.sub (Sub.bool 66 (b := decide (v138 < (a0.length : Int))) rfl c376_) ?_
              refine AW.sub (S' := mk 145 [] [(1, .d (.sl (a1.map cB))), (2, .ptr 2 0 0), (5, .d (.sl (r4.1.map cS43))), (6, .d (.lit (.int .i64 r4.2))), (7, .d (.sl (r6.1.map (cI .i64)))), (8, .d (.lit (.int .i64 r6.2))), (10, .ref 104 0 l136.length), (11, .ref 113 0 l137.length), (64, .d (.lit (.int .i64 (a0.length : Int)))), (65, .d (.lit (.int .i64 v138))), (66, .d (.lit (.bool true)))] [(2, some (.box [.d (.sl (a0.map cS105))])), (104, some (.arr 43 2 (l136.map cS43))), (113, some (.arr 3 1 (l137.map (cI .i64))))]) (by simp; exact Sub.table (by simp) (by simp)) ?_
              refine AW.skip ?_
              refine thenQ_normal ?_
              refine AW.seq ?_
              refine AW.block ?_
              refine AW.seqR ?_
              refine Chain.runK [] 2 fun K hK => ?_; simp; refine hK _ _ ?_; clear hK K
              refine Chain.sub (S' := mk 145 [] [(1, .d (.sl (a1.map cB))), (2, .ptr 2 0 0), (5, .d (.sl (r4.1.map cS43))), (6, .d (.lit (.int .i64 r4.2))), (7, .d (.sl (r6.1.map (cI .i64)))), (8, .d (.lit (.int .i64 r6.2))), (10, .ref 104 0 l136.length), (11, .ref 113 0 l137.length), (12, .d (.lit (.int .i64 v138))), (64, .d (.lit (.int .i64 (a0.length : Int)))), (65, .d (.lit (.int .i64 v138)))] [(2, some (.box [.d (.sl (a0.map cS105))])), (104, some (.arr 43 2 (l136.map cS43))), (113, some (.arr 3 1 (l137.map (cI .i64))))]) (Sub.table (by simp) (by simp)) ?_
              refine Chain.nil ?_
              refine AW.seq ?_
              refine AW.seqR ?_
              refine Chain.runK [] 3 fun K hK => ?_; simp; refine hK _ _ ?_; clear hK K
              refine Chain.sub (S' := mk 145 [] [(1, .d (.sl (a1.map cB))), (2, .ptr 2 0 0), (5, .d (.sl (r4.1.map cS43))), (6, .d (.lit (.int .i64 r4.2))), (7, .d (.sl (r6.1.map (cI .i64)))), (8, .d (.lit (.int .i64 r6.2))), (10, .ref 104 0 l136.length), (11, .ref 113 0 l137.length), (12, .d (.lit (.int .i64 v138))), (64, .d (.lit (.int .i64 (a0.length : Int)))), (65, .d (.lit (.int .i64 v138))), (69, .d (.lit (.int .i64 (a0.length : Int)))), (70, .d (.lit (.int .i64 0)))] [(2, some (.box [.d (.sl (a0.map cS105))])), (104, some (.arr 43 2 (l136.map cS43))), (113, some (.arr 3 1 (l137.map (cI .i64))))]) (Sub.table (by simp) (by simp)) ?_
              refine Chain.nil ?_
              refine AW.lastN (fun (l459 : List S43) => mk 145 [] [(1, .d (.sl (a1.map cB))), (2, .ptr 2 0 0), (5, .d (.sl (r4.1.map cS43))), (6, .d (.lit (.int .i64 r4.2))), (7, .d (.sl (r6.1.map (cI .i64)))), (8, .d (.lit (.int .i64 r6.2))), (10, .ref 104 0 l459.length), (11, .ref 113 0 l137.length), (12, .d (.lit (.int .i64 v138))), (64, .d (.lit (.int .i64 (a0.length : Int)))), (65, .d (.lit (.int .i64 v138)))] [(2, some (.box [.d (.sl (a0.map cS105))])), (104, some (.arr 43 2 (l459.map cS43))), (113, some (.arr 3 1 (l137.map (cI .i64))))]) h ?_ ?_ <;> clear h
              · intro o h
                refine AW.block ?_
                refine AW.iter (fun ((l403, v404) : ((List S43) × Int)) => mk 145 [] [(1, .d (.sl (a1.map cB))), (2, .ptr 2 0 0), (5, .d (.sl (r4.1.map cS43))), (6, .d (.lit (.int .i64 r4.2))), (7, .d (.sl (r6.1.map (cI .i64)))), (8, .d (.lit (.int .i64 r6.2))), (10, .ref 104 0 l403.length), (11, .ref 113 0 l137.length), (12, .d (.lit (.int .i64 v138))), (64, .d (.lit (.int .i64 (a0.length : Int)))), (65, .d (.lit (.int .i64 v138))), (69, .d (.lit (.int .i64 (a0.length : Int)))), (70, .d (.lit (.int .i64 v404)))] [(2, some (.box [.d (.sl (a0.map cS105))])), (104, some (.arr 43 2 (l403.map cS43))), (113, some (.arr 3 1 (l137.map (cI .i64))))]) h (Sub.table (by simp) (by simp)) ?_
                clear h
                rintro ⟨l403, v404⟩ x h
                dsimp only at h ⊢
                refine AW.seqR ?_
                refine Chain.runK [] 1 fun K hK => ?_; simp; refine hK _ _ ?_; clear hK K
                refine Chain.sub (S' := mk 145 [] [(1, .d (.sl (a1.map cB))), (2, .ptr 2 0 0), (5, .d (.sl (r4.1.map cS43))), (6, .d (.lit (.int .i64 r4.2))), (7, .d (.sl (r6.1.map (cI .i64)))), (8, .d (.lit (.int .i64 r6.2))), (10, .ref 104 0 l403.length), (11, .ref 113 0 l137.length), (12, .d (.lit (.int .i64 v138))), (64, .d (.lit (.int .i64 (a0.length : Int)))), (65, .d (.lit (.int .i64 v138))), (69, .d (.lit (.int .i64 (a0.length : Int)))), (70, .d (.lit (.int .i64 v404))), (71, .d (.lit (.bool (decide (v404 < (a0.length : Int))))))] [(2, some (.box [.d (.sl (a0.map cS105))])), (104, some (.arr 43 2 (l403.map cS43))), (113, some (.arr 3 1 (l137.map (cI .i64))))]) (Sub.table (by simp) (by simp)) ?_
                refine Chain.nil ?_
                refine AW.seq ?_
                replace h := isome h; rcases h with ⟨c460, h⟩ | ⟨c460, h⟩
                · have c460_ : decide (v404 < (a0.length : Int)) = true := decide_eq_true c460
                  refine AW.condT (b := decide (v404 < (a0.length : Int))) rfl c460_ ?_
                  refine AW.sub (Sub.bool 71 (b := decide (v404 < (a0.length : Int))) rfl c460_) ?_
                  refine AW.sub (S' := mk 145 [] [(1, .d (.sl (a1.map cB))), (2, .ptr 2 0 0), (5, .d (.sl (r4.1.map cS43))), (6, .d (.lit (.int .i64 r4.2))), (7, .d (.sl (r6.1.map (cI .i64)))), (8, .d (.lit (.int .i64 r6.2))), (10, .ref 104 0 l403.length), (11, .ref 113 0 l137.length), (12, .d (.lit (.int .i64 v138))), (64, .d (.lit (.int .i64 (a0.length : Int)))), (65, .d (.lit (.int .i64 v138))), (69, .d (.lit (.int .i64 (a0.length : Int)))), (70, .d (.lit (.int .i64 v404))), (71, .d (.lit (.bool true)))] [(2, some (.box [.d (.sl (a0.map cS105))])), (104, some (.arr 43 2 (l403.map cS43))), (113, some (.arr 3 1 (l137.map (cI .i64))))]) (by simp; exact Sub.table (by simp) (by simp)) ?_
                  refine AW.skip ?_
                  refine thenQ_normal ?_
                  refine AW.seq ?_
                  refine AW.block ?_
                  refine AW.seqR ?_
                  refine Chain.runK [] 2 fun K hK => ?_; simp; refine hK _ _ ?_; clear hK K
                  refine Chain.sub (S' := mk 145 [] [(1, .d (.sl (a1.map cB))), (2, .ptr 2 0 0), (5, .d (.sl (r4.1.map cS43))), (6, .d (.lit (.int .i64 r4.2))), (7, .d (.sl (r6.1.map (cI .i64)))), (8, .d (.lit (.int .i64 r6.2))), (10, .ref 104 0 l403.length), (11, .ref 113 0 l137.length), (12, .d (.lit (.int .i64 v138))), (13, .d (.lit (.int .i64 v404))), (64, .d (.lit (.int .i64 (a0.length : Int)))), (65, .d (.lit (.int .i64 v138))), (69, .d (.lit (.int .i64 (a0.length : Int)))), (70, .d (.lit (.int .i64 v404)))] [(2, some (.box [.d (.sl (a0.map cS105))])), (104, some (.arr 43 2 (l403.map cS43))), (113, some (.arr 3 1 (l137.map (cI .i64))))]) (Sub.table (by simp) (by simp)) ?_
                  refine Chain.nil ?_
                  replace h := bsome h; obtain ⟨v471, hj, h⟩ := h
                  refine AW.cutQ (by kernel_rfl) (by kernel_rfl) (mk 145 [] [(1, .d (.sl (a1.map cB))), (2, .ptr 2 0 0), (5, .d (.sl (r4.1.map cS43))), (6, .d (.lit (.int .i64 r4.2))), (7, .d (.sl (r6.1.map (cI .i64)))), (8, .d (.lit (.int .i64 r6.2))), (10, .ref 104 0 l403.length), (11, .ref 113 0 l137.length), (12, .d (.lit (.int .i64 v138))), (13, .d (.lit (.int .i64 v404))), (64, .d (.lit (.int .i64 (a0.length : Int)))), (65, .d (.lit (.int .i64 v138))), (69, .d (.lit (.int .i64 (a0.length : Int)))), (70, .d (.lit (.int .i64 v404))), (98, .d (.lit (.bool v471)))] [(2, some (.box [.d (.sl (a0.map cS105))])), (104, some (.arr 43 2 (l403.map cS43))), (113, some (.arr 3 1 (l137.map (cI .i64))))]) ?_ ?_
                  · clear h; have h := hj; clear hj
                    refine Chain.runQ 4 fun K hK => ?_; simp; refine hK _ _ ?_; clear hK K
                    refine Chain.sub (S' := mk 145 [] [(1, .d (.sl (a1.map cB))), (2, .ptr 2 0 0), (5, .d (.sl (r4.1.map cS43))), (6, .d (.lit (.int .i64 r4.2))), (7, .d (.sl (r6.1.map (cI .i64)))), (8, .d (.lit (.int .i64 r6.2))), (10, .ref 104 0 l403.length), (11, .ref 113 0 l137.length), (12, .d (.lit (.int .i64 v138))), (13, .d (.lit (.int .i64 v404))), (64, .d (.lit (.int .i64 (a0.length : Int)))), (65, .d (.lit (.int .i64 v138))), (69, .d (.lit (.int .i64 (a0.length : Int)))), (70, .d (.lit (.int .i64 v404))), (76, .d (.lit (.bool (v138 != v404))))] [(2, some (.box [.d (.sl (a0.map cS105))])), (104, some (.arr 43 2 (l403.map cS43))), (113, some (.arr 3 1 (l137.map (cI .i64))))]) (Sub.table (by simp) (by simp)) ?_
                    replace h := isome h; rcases h with ⟨c472, h⟩ | ⟨c472, h⟩
                    · have c472_ : (v138 != v404) = true := c472
                      refine Chain.sub (Sub.bool 76 (b := (v138 != v404)) rfl c472_) ?_
                      refine Chain.sub (S' := mk 145 [] [(1, .d (.sl (a1.map cB))), (2, .ptr 2 0 0), (5, .d (.sl (r4.1.map cS43))), (6, .d (.lit (.int .i64 r4.2))), (7, .d (.sl (r6.1.map (cI .i64)))), (8, .d (.lit (.int .i64 r6.2))), (10, .ref 104 0 l403.length), (11, .ref 113 0 l137.length), (12, .d (.lit (.int .i64 v138))), (13, .d (.lit (.int .i64 v404))), (64, .d (.lit (.int .i64 (a0.length : Int)))), (65, .d (.lit (.int .i64 v138))), (69, .d (.lit (.int .i64 (a0.length : Int)))), (70, .d (.lit (.int .i64 v404))), (76, .d (.lit (.bool true)))] [(2, some (.box [.d (.sl (a0.map cS105))])), (104, some (.arr 43 2 (l403.map cS43))), (113, some (.arr 3 1 (l137.map (cI .i64))))]) (by simp; exact Sub.table (by simp) (by simp)) ?_
                      replace h := bsome h; obtain ⟨x473, hx473, h⟩ := h
                      obtain ⟨k474, hx473k, hx473, hx473a, hx473b⟩ := idx_some hx473
                      refine Chain.runQ 6 fun K hK => ?_; simp [hx473, hx473k, hx473a]; refine hK _ _ ?_; clear hK K
                      refine Chain.sub (S' := mk 145 [] [(1, .d (.sl (a1.map cB))), (2, .ptr 2 0 0), (5, .d (.sl (r4.1.map cS43))), (6, .d (.lit (.int .i64 r4.2))), (7, .d (.sl (r6.1.map (cI .i64)))), (8, .d (.lit (.int .i64 r6.2))), (10, .ref 104 0 l403.length), (11, .ref 113 0 l137.length), (12, .d (.lit (.int .i64 v138))), (13, .d (.lit (.int .i64 v404))), (64, .d (.lit (.int .i64 (a0.length : Int)))), (65, .d (.lit (.int .i64 v138))), (69, .d (.lit (.int .i64 (a0.length : Int)))), (70, .d (.lit (.int .i64 v404))), (77, .d (.sl (a1.map cB))), (78, .d (.lit (.int .i64 v138))), (79, .d (.pim [.lit (.bool x473)])), (80, .d (.lit (.bool x473))), (82, .d (.lit (.bool x473)))] [(2, some (.box [.d (.sl (a0.map cS105))])), (104, some (.arr 43 2 (l403.map cS43))), (113, some (.arr 3 1 (l137.map (cI .i64))))]) (Sub.table (by simp) (by simp)) ?_
                      replace h := isome h; rcases h with ⟨c475, h⟩ | ⟨c475, h⟩
                      · have c475_ : x473 = true := c475
                        refine Chain.sub (Sub.bool 80 (b := x473) rfl c475_) ?_
                        refine Chain.sub (Sub.bool 82 (b := x473) rfl c475_) ?_
                        refine Chain.sub (S' := mk 145 [] [(1, .d (.sl (a1.map cB))), (2, .ptr 2 0 0), (5, .d (.sl (r4.1.map cS43))), (6, .d (.lit (.int .i64 r4.2))), (7, .d (.sl (r6.1.map (cI .i64)))), (8, .d (.lit (.int .i64 r6.2))), (10, .ref 104 0 l403.length), (11, .ref 113 0 l137.length), (12, .d (.lit (.int .i64 v138))), (13, .d (.lit (.int .i64 v404))), (64, .d (.lit (.int .i64 (a0.length : Int)))), (65, .d (.lit (.int .i64 v138))), (69, .d (.lit (.int .i64 (a0.length : Int)))), (70, .d (.lit (.int .i64 v404))), (77, .d (.sl (a1.map cB))), (78, .d (.lit (.int .i64 v138))), (79, .d (.pim [.lit (.bool x473)])), (80, .d (.lit (.bool true))), (82, .d (.lit (.bool true)))] [(2, some (.box [.d (.sl (a0.map cS105))])), (104, some (.arr 43 2 (l403.map cS43))), (113, some (.arr 3 1 (l137.map (cI .i64))))]) (by simp; exact Sub.table (by simp) (by simp)) ?_
                        replace h := bsome h; obtain ⟨x476, hx476, h⟩ := h
                        obtain ⟨k477, hx476k, hx476, hx476a, hx476b⟩ := idx_some hx476
                        refine Chain.runQ 6 fun K hK => ?_; simp [hx476, hx476k, hx476a]; refine hK _ _ ?_; clear hK K
                        refine Chain.sub (S' := mk 145 [] [(1, .d (.sl (a1.map cB))), (2, .ptr 2 0 0), (5, .d (.sl (r4.1.map cS43))), (6, .d (.lit (.int .i64 r4.2))), (7, .d (.sl (r6.1.map (cI .i64)))), (8, .d (.lit (.int .i64 r6.2))), (10, .ref 104 0 l403.length), (11, .ref 113 0 l137.length), (12, .d (.lit (.int .i64 v138))), (13, .d (.lit (.int .i64 v404))), (64, .d (.lit (.int .i64 (a0.length : Int)))), (65, .d (.lit (.int .i64 v138))), (69, .d (.lit (.int .i64 (a0.length : Int)))), (70, .d (.lit (.int .i64 v404))), (77, .d (.sl (a1.map cB))), (78, .d (.lit (.int .i64 v138))), (79, .d (.pim [.lit (.bool x473)])), (80, .d (.lit (.bool true))), (83, .d (.sl (a1.map cB))), (84, .d (.lit (.int .i64 v404))), (85, .d (.pim [.lit (.bool x476)])), (86, .d (.lit (.bool x476))), (88, .d (.lit (.bool x476)))] [(2, some (.box [.d (.sl (a0.map cS105))])), (104, some (.arr 43 2 (l403.map cS43))), (113, some (.arr 3 1 (l137.map (cI .i64))))]) (Sub.table (by simp) (by simp)) ?_
                        replace h := isome h; rcases h with ⟨c478, h⟩ | ⟨c478, h⟩
                        · have c478_ : x476 = true := c478
                          refine Chain.sub (Sub.bool 86 (b := x476) rfl c478_) ?_
                          refine Chain.sub (Sub.bool 88 (b := x476) rfl c478_) ?_
                          refine Chain.sub (S' := mk 145 [] [(1, .d (.sl (a1.map cB))), (2, .ptr 2 0 0), (5, .d (.sl (r4.1.map cS43))), (6, .d (.lit (.int .i64 r4.2))), (7, .d (.sl (r6.1.map (cI .i64)))), (8, .d (.lit (.int .i64 r6.2))), (10, .ref 104 0 l403.length), (11, .ref 113 0 l137.length), (12, .d (.lit (.int .i64 v138))), (13, .d (.lit (.int .i64 v404))), (64, .d (.lit (.int .i64 (a0.length : Int)))), (65, .d (.lit (.int .i64 v138))), (69, .d (.lit (.int .i64 (a0.length : Int)))), (70, .d (.lit (.int .i64 v404))), (77, .d (.sl (a1.map cB))), (78, .d (.lit (.int .i64 v138))), (79, .d (.pim [.lit (.bool x473)])), (80, .d (.lit (.bool true))), (83, .d (.sl (a1.map cB))), (84, .d (.lit (.int .i64 v404))), (85, .d (.pim [.lit (.bool x476)])), (86, .d (.lit (.bool true))), (88, .d (.lit (.bool true)))] [(2, some (.box [.d (.sl (a0.map cS105))])), (104, some (.arr 43 2 (l403.map cS43))), (113, some (.arr 3 1 (l137.map (cI .i64))))]) (by simp; exact Sub.table (by simp) (by simp)) ?_
                          replace h := bsome h; obtain ⟨x479, hx479, h⟩ := h
                          obtain ⟨hx479, hx479a, hx479b⟩ := idx_some2 hx479 hx473k
                          replace h := bsome h; obtain ⟨x480, hx480, h⟩ := h
                          obtain ⟨hx480, hx480a, hx480b⟩ := idx_some2 hx480 hx476k
                          refine Chain.runQ 8 fun K hK => ?_; simp [hx479, hx473k, hx479a, hx480, hx476k, hx480a]; refine hK _ _ ?_; clear hK K
                          refine Chain.sub (S' := mk 145 [] [(1, .d (.sl (a1.map cB))), (2, .ptr 2 0 0), (5, .d (.sl (r4.1.map cS43))), (6, .d (.lit (.int .i64 r4.2))), (7, .d (.sl (r6.1.map (cI .i64)))), (8, .d (.lit (.int .i64 r6.2))), (10, .ref 104 0 l403.length), (11, .ref 113 0 l137.length), (12, .d (.lit (.int .i64 v138))), (13, .d (.lit (.int .i64 v404))), (64, .d (.lit (.int .i64 (a0.length : Int)))), (65, .d (.lit (.int .i64 v138))), (69, .d (.lit (.int .i64 (a0.length : Int)))), (70, .d (.lit (.int .i64 v404))), (77, .d (.sl (a1.map cB))), (78, .d (.lit (.int .i64 v138))), (79, .d (.pim [.lit (.bool x473)])), (80, .d (.lit (.bool true))), (83, .d (.sl (a1.map cB))), (84, .d (.lit (.int .i64 v404))), (85, .d (.pim [.lit (.bool x476)])), (86, .d (.lit (.bool true))), (88, .d (.lit (.bool true))), (89, .d (.sl (a0.map cS105))), (90, .d (.lit (.int .i64 v138))), (91, .d (.pim [.lit (.int .i64 x479.Start), .lit (.int .i64 x479.Commit), .sl (x479.Reads.map cS), .sl (x479.Writes.map cS)])), (92, .agg [.d (.lit (.int .i64 x479.Start)), .d (.lit (.int .i64 x479.Commit)), .d (.sl (x479.Reads.map cS)), .d (.sl (x479.Writes.map cS))]), (93, .d (.sl (a0.map cS105))), (94, .d (.lit (.int .i64 v404))), (95, .d (.pim [.lit (.int .i64 x480.Start), .lit (.int .i64 x480.Commit), .sl (x480.Reads.map cS), .sl (x480.Writes.map cS)])), (96, .agg [.d (.lit (.int .i64 x480.Start)), .d (.lit (.int .i64 x480.Commit)), .d (.sl (x480.Reads.map cS)), .d (.sl (x480.Writes.map cS))])] [(2, some (.box [.d (.sl (a0.map cS105))])), (104, some (.arr 43 2 (l403.map cS43))), (113, some (.arr 3 1 (l137.map (cI .i64))))]) (Sub.table (by simp) (by simp)) ?_
                          replace h := bsome h; obtain ⟨r481, hr481, h⟩ := h
                          refine Chain.callL (d := 97) (p45 N x479 x480 r481 hr481) (by simp) rfl rfl (by simp <;> rfl) (by simp <;> rfl) ent45 (by simp <;> rfl) ?_
                          refine Chain.sub (S' := mk 145 [] [(1, .d (.sl (a1.map cB))), (2, .ptr 2 0 0), (5, .d (.sl (r4.1.map cS43))), (6, .d (.lit (.int .i64 r4.2))), (7, .d (.sl (r6.1.map (cI .i64)))), (8, .d (.lit (.int .i64 r6.2))), (10, .ref 104 0 l403.length), (11, .ref 113 0 l137.length), (12, .d (.lit (.int .i64 v138))), (13, .d (.lit (.int .i64 v404))), (64, .d (.lit (.int .i64 (a0.length : Int)))), (65, .d (.lit (.int .i64 v138))), (69, .d (.lit (.int .i64 (a0.length : Int)))), (70, .d (.lit (.int .i64 v404))), (77, .d (.sl (a1.map cB))), (78, .d (.lit (.int .i64 v138))), (79, .d (.pim [.lit (.bool x473)])), (80, .d (.lit (.bool true))), (83, .d (.sl (a1.map cB))), (84, .d (.lit (.int .i64 v404))), (85, .d (.pim [.lit (.bool x476)])), (86, .d (.lit (.bool true))), (88, .d (.lit (.bool true))), (89, .d (.sl (a0.map cS105))), (90, .d (.lit (.int .i64 v138))), (91, .d (.pim [.lit (.int .i64 x479.Start), .lit (.int .i64 x479.Commit), .sl (x479.Reads.map cS), .sl (x479.Writes.map cS)])), (92, .agg [.d (.lit (.int .i64 x479.Start)), .d (.lit (.int .i64 x479.Commit)), .d (.sl (x479.Reads.map cS)), .d (.sl (x479.Writes.map cS))]), (93, .d (.sl (a0.map cS105))), (94, .d (.lit (.int .i64 v404))), (95, .d (.pim [.lit (.int .i64 x480.Start), .lit (.int .i64 x480.Commit), .sl (x480.Reads.map cS), .sl (x480.Writes.map cS)])), (96, .agg [.d (.lit (.int .i64 x480.Start)), .d (.lit (.int .i64 x480.Commit)), .d (.sl (x480.Reads.map cS)), .d (.sl (x480.Writes.map cS))]), (97, .d (.lit (.bool r481)))] [(2, some (.box [.d (.sl (a0.map cS105))])), (104, some (.arr 43 2 (l403.map cS43))), (113, some (.arr 3 1 (l137.map (cI .i64))))]) (by simp; exact Sub.table (by simp) (by simp)) ?_
                          refine Chain.runQ 1 fun K hK => ?_; simp; refine hK _ _ ?_; clear hK K
                          refine Chain.sub (S' := mk 145 [] [(1, .d (.sl (a1.map cB))), (2, .ptr 2 0 0), (5, .d (.sl (r4.1.map cS43))), (6, .d (.lit (.int .i64 r4.2))), (7, .d (.sl (r6.1.map (cI .i64)))), (8, .d (.lit (.int .i64 r6.2))), (10, .ref 104 0 l403.length), (11, .ref 113 0 l137.length), (12, .d (.lit (.int .i64 v138))), (13, .d (.lit (.int .i64 v404))), (64, .d (.lit (.int .i64 (a0.length : Int)))), (65, .d (.lit (.int .i64 v138))), (69, .d (.lit (.int .i64 (a0.length : Int)))), (70, .d (.lit (.int .i64 v404))), (77, .d (.sl (a1.map cB))), (78, .d (.lit (.int .i64 v138))), (79, .d (.pim [.lit (.bool x473)])), (80, .d (.lit (.bool true))), (83, .d (.sl (a1.map cB))), (84, .d (.lit (.int .i64 v404))), (85, .d (.pim [.lit (.bool x476)])), (86, .d (.lit (.bool true))), (89, .d (.sl (a0.map cS105))), (90, .d (.lit (.int .i64 v138))), (91, .d (.pim [.lit (.int .i64 x479.Start), .lit (.int .i64 x479.Commit), .sl (x479.Reads.map cS), .sl (x479.Writes.map cS)])), (92, .agg [.d (.lit (.int .i64 x479.Start)), .d (.lit (.int .i64 x479.Commit)), .d (.sl (x479.Reads.map cS)), .d (.sl (x479.Writes.map cS))]), (93, .d (.sl (a0.map cS105))), (94, .d (.lit (.int .i64 v404))), (95, .d (.pim [.lit (.int .i64 x480.Start), .lit (.int .i64 x480.Commit), .sl (x480.Reads.map cS), .sl (x480.Writes.map cS)])), (96, .agg [.d (.lit (.int .i64 x480.Start)), .d (.lit (.int .i64 x480.Commit)), .d (.sl (x480.Reads.map cS)), .d (.sl (x480.Writes.map cS))]), (97, .d (.lit (.bool r481))), (98, .d (.lit (.bool r481)))] [(2, some (.box [.d (.sl (a0.map cS105))])), (104, some (.arr 43 2 (l403.map cS43))), (113, some (.arr 3 1 (l137.map (cI .i64))))]) (Sub.table (by simp) (by simp)) ?_
                          cases h
                          exact Chain.nil (Sub.table (by simp) (by simp))
                        · have c478_ : x476 = false := Bool.eq_false_iff.2 c478
                          refine Chain.sub (Sub.bool 86 (b := x476) rfl c478_) ?_
                          refine Chain.sub (Sub.bool 88 (b := x476) rfl c478_) ?_
                          refine Chain.sub (S' := mk 145 [] [(1, .d (.sl (a1.map cB))), (2, .ptr 2 0 0), (5, .d (.sl (r4.1.map cS43))), (6, .d (.lit (.int .i64 r4.2))), (7, .d (.sl (r6.1.map (cI .i64)))), (8, .d (.lit (.int .i64 r6.2))), (10, .ref 104 0 l403.length), (11, .ref 113 0 l137.length), (12, .d (.lit (.int .i64 v138))), (13, .d (.lit (.int .i64 v404))), (64, .d (.lit (.int .i64 (a0.length : Int)))), (65, .d (.lit (.int .i64 v138))), (69, .d (.lit (.int .i64 (a0.length : Int)))), (70, .d (.lit (.int .i64 v404))), (77, .d (.sl (a1.map cB))), (78, .d (.lit (.int .i64 v138))), (79, .d (.pim [.lit (.bool x473)])), (80, .d (.lit (.bool true))), (83, .d (.sl (a1.map cB))), (84, .d (.lit (.int .i64 v404))), (85, .d (.pim [.lit (.bool x476)])), (86, .d (.lit (.bool false))), (88, .d (.lit (.bool false)))] [(2, some (.box [.d (.sl (a0.map cS105))])), (104, some (.arr 43 2 (l403.map cS43))), (113, some (.arr 3 1 (l137.map (cI .i64))))]) (by simp; exact Sub.table (by simp) (by simp)) ?_
                          refine Chain.runQ 10 fun K hK => ?_; simp; refine hK _ _ ?_; clear hK K
                          refine Chain.sub (S' := mk 145 [] [(1, .d (.sl (a1.map cB))), (2, .ptr 2 0 0), (5, .d (.sl (r4.1.map cS43))), (6, .d (.lit (.int .i64 r4.2))), (7, .d (.sl (r6.1.map (cI .i64)))), (8, .d (.lit (.int .i64 r6.2))), (10, .ref 104 0 l403.length), (11, .ref 113 0 l137.length), (12, .d (.lit (.int .i64 v138))), (13, .d (.lit (.int .i64 v404))), (64, .d (.lit (.int .i64 (a0.length : Int)))), (65, .d (.lit (.int .i64 v138))), (69, .d (.lit (.int .i64 (a0.length : Int)))), (70, .d (.lit (.int .i64 v404))), (77, .d (.sl (a1.map cB))), (78, .d (.lit (.int .i64 v138))), (79, .d (.pim [.lit (.bool x473)])), (80, .d (.lit (.bool true))), (83, .d (.sl (a1.map cB))), (84, .d (.lit (.int .i64 v404))), (85, .d (.pim [.lit (.bool x476)])), (86, .d (.lit (.bool false))), (89, .tup []), (90, .tup []), (91, .tup []), (92, .tup []), (93, .tup []), (94, .tup []), (95, .tup []), (96, .tup []), (97, .tup []), (98, .d (.lit (.bool false)))] [(2, some (.box [.d (.sl (a0.map cS105))])), (104, some (.arr 43 2 (l403.map cS43))), (113, some (.arr 3 1 (l137.map (cI .i64))))]) (Sub.table (by simp) (by simp)) ?_
                          cases h
                          exact Chain.nil (Sub.table (by simp) (by simp))
                      · have c475_ : x473 = false := Bool.eq_false_iff.2 c475
                        refine Chain.sub (Sub.bool 80 (b := x473) rfl c475_) ?_
                        refine Chain.sub (Sub.bool 82 (b := x473) rfl c475_) ?_
                        refine Chain.sub (S' := mk 145 [] [(1, .d (.sl (a1.map cB))), (2, .ptr 2 0 0), (5, .d (.sl (r4.1.map cS43))), (6, .d (.lit (.int .i64 r4.2))), (7, .d (.sl (r6.1.map (cI .i64)))), (8, .d (.lit (.int .i64 r6.2))), (10, .ref 104 0 l403.length), (11, .ref 113 0 l137.length), (12, .d (.lit (.int .i64 v138))), (13, .d (.lit (.int .i64 v404))), (64, .d (.lit (.int .i64 (a0.length : Int)))), (65, .d (.lit (.int .i64 v138))), (69, .d (.lit (.int .i64 (a0.length : Int)))), (70, .d (.lit (.int .i64 v404))), (77, .d (.sl (a1.map cB))), (78, .d (.lit (.int .i64 v138))), (79, .d (.pim [.lit (.bool x473)])), (80, .d (.lit (.bool false))), (82, .d (.lit (.bool false)))] [(2, some (.box [.d (.sl (a0.map cS105))])), (104, some (.arr 43 2 (l403.map cS43))), (113, some (.arr 3 1 (l137.map (cI .i64))))]) (by simp; exact Sub.table (by simp) (by simp)) ?_
                        refine Chain.runQ 16 fun K hK => ?_; simp; refine hK _ _ ?_; clear hK K
                        refine Chain.sub (S' := mk 145 [] [(1, .d (.sl (a1.map cB))), (2, .ptr 2 0 0), (5, .d (.sl (r4.1.map cS43))), (6, .d (.lit (.int .i64 r4.2))), (7, .d (.sl (r6.1.map (cI .i64)))), (8, .d (.lit (.int .i64 r6.2))), (10, .ref 104 0 l403.length), (11, .ref 113 0 l137.length), (12, .d (.lit (.int .i64 v138))), (13, .d (.lit (.int .i64 v404))), (64, .d (.lit (.int .i64 (a0.length : Int)))), (65, .d (.lit (.int .i64 v138))), (69, .d (.lit (.int .i64 (a0.length : Int)))), (70, .d (.lit (.int .i64 v404))), (77, .d (.sl (a1.map cB))), (78, .d (.lit (.int .i64 v138))), (79, .d (.pim [.lit (.bool x473)])), (80, .d (.lit (.bool false))), (83, .tup []), (84, .tup []), (85, .tup []), (86, .tup []), (89, .tup []), (90, .tup []), (91, .tup []), (92, .tup []), (93, .tup []), (94, .tup []), (95, .tup []), (96, .tup []), (97, .tup []), (98, .d (.lit (.bool false)))] [(2, some (.box [.d (.sl (a0.map cS105))])), (104, some (.arr 43 2 (l403.map cS43))), (113, some (.arr 3 1 (l137.map (cI .i64))))]) (Sub.table (by simp) (by simp)) ?_
                        cases h
                        exact Chain.nil (Sub.table (by simp) (by simp))
                    · have c472_ : (v138 != v404) = false := Bool.eq_false_iff.2 c472
                      refine Chain.sub (Sub.bool 76 (b := (v138 != v404)) rfl c472_) ?_
                      refine Chain.sub (S' := mk 145 [] [(1, .d (.sl (a1.map cB))), (2, .ptr 2 0 0), (5, .d (.sl (r4.1.map cS43))), (6, .d (.lit (.int .i64 r4.2))), (7, .d (.sl (r6.1.map (cI .i64)))), (8, .d (.lit (.int .i64 r6.2))), (10, .ref 104 0 l403.length), (11, .ref 113 0 l137.length), (12, .d (.lit (.int .i64 v138))), (13, .d (.lit (.int .i64 v404))), (64, .d (.lit (.int .i64 (a0.length : Int)))), (65, .d (.lit (.int .i64 v138))), (69, .d (.lit (.int .i64 (a0.length : Int)))), (70, .d (.lit (.int .i64 v404))), (76, .d (.lit (.bool false)))] [(2, some (.box [.d (.sl (a0.map cS105))])), (104, some (.arr 43 2 (l403.map cS43))), (113, some (.arr 3 1 (l137.map (cI .i64))))]) (by simp; exact Sub.table (by simp) (by simp)) ?_
                      refine Chain.runQ 22 fun K hK => ?_; simp; refine hK _ _ ?_; clear hK K
                      refine Chain.sub (S' := mk 145 [] [(1, .d (.sl (a1.map cB))), (2, .ptr 2 0 0), (5, .d (.sl (r4.1.map cS43))), (6, .d (.lit (.int .i64 r4.2))), (7, .d (.sl (r6.1.map (cI .i64)))), (8, .d (.lit (.int .i64 r6.2))), (10, .ref 104 0 l403.length), (11, .ref 113 0 l137.length), (12, .d (.lit (.int .i64 v138))), (13, .d (.lit (.int .i64 v404))), (64, .d (.lit (.int .i64 (a0.length : Int)))), (65, .d (.lit (.int .i64 v138))), (69, .d (.lit (.int .i64 (a0.length : Int)))), (70, .d (.lit (.int .i64 v404))), (77, .tup []), (78, .tup []), (79, .tup []), (80, .tup []), (83, .tup []), (84, .tup []), (85, .tup []), (86, .tup []), (89, .tup []), (90, .tup []), (91, .tup []), (92, .tup []), (93, .tup []), (94, .tup []), (95, .tup []), (96, .tup []), (97, .tup []), (98, .d (.lit (.bool false)))] [(2, some (.box [.d (.sl (a0.map cS105))])), (104, some (.arr 43 2 (l403.map cS43))), (113, some (.arr 3 1 (l137.map (cI .i64))))]) (Sub.table (by simp) (by simp)) ?_
                      cases h
                      exact Chain.nil (Sub.table (by simp) (by simp))
                  · clear hj
                    replace h := isome h; rcases h with ⟨c482, h⟩ | ⟨c482, h⟩
                    · have c482_ : v471 = true := c482
                      refine AW.condT (b := v471) rfl c482_ ?_
                      refine AW.sub (Sub.bool 98 (b := v471) rfl c482_) ?_
                      refine AW.sub (S' := mk 145 [] [(1, .d (.sl (a1.map cB))), (2, .ptr 2 0 0), (5, .d (.sl (r4.1.map cS43))), (6, .d (.lit (.int .i64 r4.2))), (7, .d (.sl (r6.1.map (cI .i64)))), (8, .d (.lit (.int .i64 r6.2))), (10, .ref 104 0 l403.length), (11, .ref 113 0 l137.length), (12, .d (.lit (.int .i64 v138))), (13, .d (.lit (.int .i64 v404))), (64, .d (.lit (.int .i64 (a0.length : Int)))), (65, .d (.lit (.int .i64 v138))), (69, .d (.lit (.int .i64 (a0.length : Int)))), (70, .d (.lit (.int .i64 v404))), (98, .d (.lit (.bool true)))] [(2, some (.box [.d (.sl (a0.map cS105))])), (104, some (.arr 43 2 (l403.map cS43))), (113, some (.arr 3 1 (l137.map (cI .i64))))]) (by simp; exact Sub.table (by simp) (by simp)) ?_
                      refine AW.region ?_
                      replace h := bsome h; obtain ⟨l483, hl483, h⟩ := h
                      obtain ⟨hl483a, hl483⟩ := appL_some hl483
                      subst hl483
                      try simp only [List.length_append, List.length_cons, List.length_nil, Nat.zero_add] at hl483a
                      refine Chain.runK [103] 7 fun K hK => ?_; simp [hl483a]; refine hK _ _ ?_; clear hK K
                      refine Chain.sub (S' := mk 145 [] [(1, .d (.sl (a1.map cB))), (2, .ptr 2 0 0), (5, .d (.sl (r4.1.map cS43))), (6, .d (.lit (.int .i64 r4.2))), (7, .d (.sl (r6.1.map (cI .i64)))), (8, .d (.lit (.int .i64 r6.2))), (10, .ref 104 0 ((l403 ++ [(S43.mk v138 v404)]).length)), (11, .ref 113 0 l137.length), (12, .d (.lit (.int .i64 v138))), (64, .d (.lit (.int .i64 (a0.length : Int)))), (65, .d (.lit (.int .i64 v138))), (69, .d (.lit (.int .i64 (a0.length : Int)))), (70, .d (.lit (.int .i64 v404)))] [(2, some (.box [.d (.sl (a0.map cS105))])), (104, some (.arr 43 2 ((l403 ++ [(S43.mk v138 v404)]).map cS43))), (113, some (.arr 3 1 (l137.map (cI .i64))))]) (Sub.table (by simp) (by simp)) ?_
                      refine Chain.nil ?_
                      refine blockQ.normal ?_
                      refine thenQ_normal ?_
                      refine AW.region ?_
                      replace h := bsome h; obtain ⟨v484, hv484, h⟩ := h
                      have hv484 := chkI_some hv484
                      refine Chain.runK [] 2 fun K hK => ?_; simp [hv484]; refine hK _ _ ?_; clear hK K
                      refine Chain.sub (S' := mk 145 [] [(1, .d (.sl (a1.map cB))), (2, .ptr 2 0 0), (5, .d (.sl (r4.1.map cS43))), (6, .d (.lit (.int .i64 r4.2))), (7, .d (.sl (r6.1.map (cI .i64)))), (8, .d (.lit (.int .i64 r6.2))), (10, .ref 104 0 ((l403 ++ [(S43.mk v138 v404)]).length)), (11, .ref 113 0 l137.length), (12, .d (.lit (.int .i64 v138))), (64, .d (.lit (.int .i64 (a0.length : Int)))), (65, .d (.lit (.int .i64 v138))), (69, .d (.lit (.int .i64 (a0.length : Int)))), (70, .d (.lit (.int .i64 v484)))] [(2, some (.box [.d (.sl (a0.map cS105))])), (104, some (.arr 43 2 ((l403 ++ [(S43.mk v138 v404)]).map cS43))), (113, some (.arr 3 1 (l137.map (cI .i64))))]) (Sub.table (by simp) (by simp)) ?_
                      refine Chain.nil ?_
                      cases h
                      refine PostI.next ?_
                      exact (Sub.table (by simp) (by simp))
                    · have c482_ : v471 = false := Bool.eq_false_iff.2 c482
                      refine AW.condF (b := v471) rfl c482_ ?_
                      refine AW.sub (Sub.bool 98 (b := v471) rfl c482_) ?_
                      refine AW.sub (S' := mk 145 [] [(1, .d (.sl (a1.map cB))), (2, .ptr 2 0 0), (5, .d (.sl (r4.1.map cS43))), (6, .d (.lit (.int .i64 r4.2))), (7, .d (.sl (r6.1.map (cI .i64)))), (8, .d (.lit (.int .i64 r6.2))), (10, .ref 104 0 l403.length), (11, .ref 113 0 l137.length), (12, .d (.lit (.int .i64 v138))), (13, .d (.lit (.int .i64 v404))), (64, .d (.lit (.int .i64 (a0.length : Int)))), (65, .d (.lit (.int .i64 v138))), (69, .d (.lit (.int .i64 (a0.length : Int)))), (70, .d (.lit (.int .i64 v404))), (98, .d (.lit (.bool false)))] [(2, some (.box [.d (.sl (a0.map cS105))])), (104, some (.arr 43 2 (l403.map cS43))), (113, some (.arr 3 1 (l137.map (cI .i64))))]) (by simp; exact Sub.table (by simp) (by simp)) ?_
                      refine AW.skip ?_
                      refine blockQ.normal ?_
                      refine thenQ_normal ?_
                      refine AW.region ?_
                      replace h := bsome h; obtain ⟨v485, hv485, h⟩ := h
                      have hv485 := chkI_some hv485
                      refine Chain.runK [] 2 fun K hK => ?_; simp [hv485]; refine hK _ _ ?_; clear hK K
                      refine Chain.sub (S' := mk 145 [] [(1, .d (.sl (a1.map cB))), (2, .ptr 2 0 0), (5, .d (.sl (r4.1.map cS43))), (6, .d (.lit (.int .i64 r4.2))), (7, .d (.sl (r6.1.map (cI .i64)))), (8, .d (.lit (.int .i64 r6.2))), (10, .ref 104 0 l403.length), (11, .ref 113 0 l137.length), (12, .d (.lit (.int .i64 v138))), (64, .d (.lit (.int .i64 (a0.length : Int)))), (65, .d (.lit (.int .i64 v138))), (69, .d (.lit (.int .i64 (a0.length : Int)))), (70, .d (.lit (.int .i64 v485)))] [(2, some (.box [.d (.sl (a0.map cS105))])), (104, some (.arr 43 2 (l403.map cS43))), (113, some (.arr 3 1 (l137.map (cI .i64))))]) (Sub.table (by simp) (by simp)) ?_
                      refine Chain.nil ?_
                      cases h
                      refine PostI.next ?_
                      exact (Sub.table (by simp) (by simp))
                · have c460_ : decide (v404 < (a0.length : Int)) = false := decide_eq_false c460
                  refine AW.condF (b := decide (v404 < (a0.length : Int))) rfl c460_ ?_
                  refine AW.sub (Sub.bool 71 (b := decide (v404 < (a0.length : Int))) rfl c460_) ?_
                  refine AW.sub (S' := mk 145 [] [(1, .d (.sl (a1.map cB))), (2, .ptr 2 0 0), (5, .d (.sl (r4.1.map cS43))), (6, .d (.lit (.int .i64 r4.2))), (7, .d (.sl (r6.1.map (cI .i64)))), (8, .d (.lit (.int .i64 r6.2))), (10, .ref 104 0 l403.length), (11, .ref 113 0 l137.length), (12, .d (.lit (.int .i64 v138))), (64, .d (.lit (.int .i64 (a0.length : Int)))), (65, .d (.lit (.int .i64 v138))), (69, .d (.lit (.int .i64 (a0.length : Int)))), (70, .d (.lit (.int .i64 v404))), (71, .d (.lit (.bool false)))] [(2, some (.box [.d (.sl (a0.map cS105))])), (104, some (.arr 43 2 (l403.map cS43))), (113, some (.arr 3 1 (l137.map (cI .i64))))]) (by simp; exact Sub.table (by simp) (by simp)) ?_
                  refine AW.exit ?_
                  cases h
                  refine thenQ_pass (by simp) ?_
                  refine PostI.out (by simp) ?_
                  rintro rfl
                  refine blockQ.hit ?_
                  refine PostN.next ?_
                  exact (Sub.table (by simp) (by simp))
              · rintro l459 h
                refine thenQ_normal ?_
                refine AW.seqR ?_
                replace h := bsome h; obtain ⟨x486, hx486, h⟩ := h
                obtain ⟨k487, hx486k, hx486, hx486a, hx486b⟩ := idx_some hx486
                refine Chain.runK [] 4 fun K hK => ?_; simp [hx486, hx486k, hx486a]; refine hK _ _ ?_; clear hK K
                refine Chain.sub (S' := mk 145 [] [(1, .d (.sl (a1.map cB))), (2, .ptr 2 0 0), (5, .d (.sl (r4.1.map cS43))), (6, .d (.lit (.int .i64 r4.2))), (7, .d (.sl (r6.1.map (cI .i64)))), (8, .d (.lit (.int .i64 r6.2))), (10, .ref 104 0 l459.length), (11, .ref 113 0 l137.length), (12, .d (.lit (.int .i64 v138))), (64, .d (.lit (.int .i64 (a0.length : Int)))), (65, .d (.lit (.int .i64 v138))), (109, .d (.lit (.bool x486)))] [(2, some (.box [.d (.sl (a0.map cS105))])), (104, some (.arr 43 2 (l459.map cS43))), (113, some (.arr 3 1 (l137.map (cI .i64))))]) (Sub.table (by simp) (by simp)) ?_
                refine Chain.nil ?_
                replace h := isome h; rcases h with ⟨c488, h⟩ | ⟨c488, h⟩
                · have c488_ : x486 = true := c488
                  refine AW.condT (b := x486) rfl c488_ ?_
                  refine AW.sub (Sub.bool 109 (b := x486) rfl c488_) ?_
                  refine AW.sub (S' := mk 145 [] [(1, .d (.sl (a1.map cB))), (2, .ptr 2 0 0), (5, .d (.sl (r4.1.map cS43))), (6, .d (.lit (.int .i64 r4.2))), (7, .d (.sl (r6.1.map (cI .i64)))), (8, .d (.lit (.int .i64 r6.2))), (10, .ref 104 0 l459.length), (11, .ref 113 0 l137.length), (12, .d (.lit (.int .i64 v138))), (64, .d (.lit (.int .i64 (a0.length : Int)))), (65, .d (.lit (.int .i64 v138))), (109, .d (.lit (.bool true)))] [(2, some (.box [.d (.sl (a0.map cS105))])), (104, some (.arr 43 2 (l459.map cS43))), (113, some (.arr 3 1 (l137.map (cI .i64))))]) (by simp; exact Sub.table (by simp) (by simp)) ?_
                  refine AW.region ?_
                  replace h := bsome h; obtain ⟨l489, hl489, h⟩ := h
                  obtain ⟨hl489a, hl489⟩ := appL_some hl489
                  subst hl489
                  try simp only [List.length_append, List.length_cons, List.length_nil, Nat.zero_add] at hl489a
                  refine Chain.runK [112] 5 fun K hK => ?_; simp [hl489a]; refine hK _ _ ?_; clear hK K
                  refine Chain.sub (S' := mk 145 [] [(1, .d (.sl (a1.map cB))), (2, .ptr 2 0 0), (5, .d (.sl (r4.1.map cS43))), (6, .d (.lit (.int .i64 r4.2))), (7, .d (.sl (r6.1.map (cI .i64)))), (8, .d (.lit (.int .i64 r6.2))), (10, .ref 104 0 l459.length), (11, .ref 113 0 ((l137 ++ [v138]).length)), (64, .d (.lit (.int .i64 (a0.length : Int)))), (65, .d (.lit (.int .i64 v138)))] [(2, some (.box [.d (.sl (a0.map cS105))])), (104, some (.arr 43 2 (l459.map cS43))), (113, some (.arr 3 1 ((l137 ++ [v138]).map (cI .i64))))]) (Sub.table (by simp) (by simp)) ?_
                  refine Chain.nil ?_
                  refine blockQ.normal ?_
                  refine thenQ_normal ?_
                  refine AW.region ?_
                  replace h := bsome h; obtain ⟨v490, hv490, h⟩ := h
                  have hv490 := chkI_some hv490
                  refine Chain.runK [] 2 fun K hK => ?_; simp [hv490]; refine hK _ _ ?_; clear hK K
                  refine Chain.sub (S' := mk 145 [] [(1, .d (.sl (a1.map cB))), (2, .ptr 2 0 0), (5, .d (.sl (r4.1.map cS43))), (6, .d (.lit (.int .i64 r4.2))), (7, .d (.sl (r6.1.map (cI .i64)))), (8, .d (.lit (.int .i64 r6.2))), (10, .ref 104 0 l459.length), (11, .ref 113 0 ((l137 ++ [v138]).length)), (64, .d (.lit (.int .i64 (a0.length : Int)))), (65, .d (.lit (.int .i64 v490)))] [(2, some (.box [.d (.sl (a0.map cS105))])), (104, some (.arr 43 2 (l459.map cS43))), (113, some (.arr 3 1 ((l137 ++ [v138]).map (cI .i64))))]) (Sub.table (by simp) (by simp)) ?_
                  refine Chain.nil ?_
                  cases h
                  refine PostI.next ?_
                  exact (Sub.table (by simp) (by simp))
                · have c488_ : x486 = false := Bool.eq_false_iff.2 c488
                  refine AW.condF (b := x486) rfl c488_ ?_
                  refine AW.sub (Sub.bool 109 (b := x486) rfl c488_) ?_
                  refine AW.sub (S' := mk 145 [] [(1, .d (.sl (a1.map cB))), (2, .ptr 2 0 0), (5, .d (.sl (r4.1.map cS43))), (6, .d (.lit (.int .i64 r4.2))), (7, .d (.sl (r6.1.map (cI .i64)))), (8, .d (.lit (.int .i64 r6.2))), (10, .ref 104 0 l459.length), (11, .ref 113 0 l137.length), (12, .d (.lit (.int .i64 v138))), (64, .d (.lit (.int .i64 (a0.length : Int)))), (65, .d (.lit (.int .i64 v138))), (109, .d (.lit (.bool false)))] [(2, some (.box [.d (.sl (a0.map cS105))])), (104, some (.arr 43 2 (l459.map cS43))), (113, some (.arr 3 1 (l137.map (cI .i64))))]) (by simp; exact Sub.table (by simp) (by simp)) ?_
                  refine AW.skip ?_
                  refine blockQ.normal ?_
                  refine thenQ_normal ?_
                  refine AW.region ?_
                  replace h := bsome h; obtain ⟨v491, hv491, h⟩ := h
                  have hv491 := chkI_some hv491
                  refine Chain.runK [] 2 fun K hK => ?_; simp [hv491]; refine hK _ _ ?_; clear hK K
                  refine Chain.sub (S' := mk 145 [] [(1, .d (.sl (a1.map cB))), (2, .ptr 2 0 0), (5, .d (.sl (r4.1.map cS43))), (6, .d (.lit (.int .i64 r4.2))), (7, .d (.sl (r6.1.map (cI .i64)))), (8, .d (.lit (.int .i64 r6.2))), (10, .ref 104 0 l459.length), (11, .ref 113 0 l137.length), (64, .d (.lit (.int .i64 (a0.length : Int)))), (65, .d (.lit (.int .i64 v491)))] [(2, some (.box [.d (.sl (a0.map cS105))])), (104, some (.arr 43 2 (l459.map cS43))), (113, some (.arr 3 1 (l137.map (cI .i64))))]) (Sub.table (by simp) (by simp)) ?_
                  refine Chain.nil ?_
                  cases h
                  refine PostI.next ?_
                  exact (Sub.table (by simp) (by simp))
            · have c376_ : decide (v138 < (a0.length : Int)) = false := decide_eq_false c376
              refine AW.condF (b := decide (v138 < (a0.length : Int))) rfl c376_ ?_
              refine AW.sub (Sub.bool 66 (b := decide (v138 < (a0.length : Int))) rfl c376_) ?_
              refine AW.sub (S' := mk 145 [] [(1, .d (.sl (a1.map cB))), (2, .ptr 2 0 0), (5, .d (.sl (r4.1.map cS43))), (6, .d (.lit (.int .i64 r4.2))), (7, .d (.sl (r6.1.map (cI .i64)))), (8, .d (.lit (.int .i64 r6.2))), (10, .ref 104 0 l136.length), (11, .ref 113 0 l137.length), (64, .d (.lit (.int .i64 (a0.length : Int)))), (65, .d (.lit (.int .i64 v138))), (66, .d (.lit (.bool false)))] [(2, some (.box [.d (.sl (a0.map cS105))])), (104, some (.arr 43 2 (l136.map cS43))), (113, some (.arr 3 1 (l137.map (cI .i64))))]) (by simp; exact Sub.table (by simp) (by simp)) ?_
              refine AW.exit ?_
              cases h
              refine thenQ_pass (by simp) ?_
              refine PostI.out (by simp) ?_
              rintro rfl
              refine blockQ.hit ?_
              refine PostN.next ?_
              exact (Sub.table (by simp) (by simp))
          · rintro ⟨l374, l375⟩ h
            dsimp only at h ⊢
            refine thenQ_normal ?_
            refine AW.seq ?_
            replace h := bsome h; obtain ⟨v494, hj, h⟩ := h
            refine AW.cutR (mk 145 [] [(2, .ptr 2 0 0), (7, .d (.sl (r6.1.map (cI .i64)))), (8, .d (.lit (.int .i64 r6.2))), (11, .ref 113 0 l375.length), (122, .d (.lit (.bool v494)))] [(2, some (.box [.d (.sl (a0.map cS105))])), (113, some (.arr 3 1 (l375.map (cI .i64))))]) ?_ ?_
            · clear h; have h := hj; clear hj
              refine Chain.runK [] 3 fun K hK => ?_; simp; refine hK _ _ ?_; clear hK K
              refine Chain.sub (S' := mk 145 [] [(2, .ptr 2 0 0), (5, .d (.sl (r4.1.map cS43))), (7, .d (.sl (r6.1.map (cI .i64)))), (8, .d (.lit (.int .i64 r6.2))), (10, .ref 104 0 l374.length), (11, .ref 113 0 l375.length), (117, .d (.lit (.bool (r4.2 != 0))))] [(2, some (.box [.d (.sl (a0.map cS105))])), (104, some (.arr 43 2 (l374.map cS43))), (113, some (.arr 3 1 (l375.map (cI .i64))))]) (Sub.table (by simp) (by simp)) ?_
              replace h := isome h; rcases h with ⟨c495, h⟩ | ⟨c495, h⟩
              · have c495_ : (r4.2 != 0) = true := c495
                refine Chain.sub (Sub.bool 117 (b := (r4.2 != 0)) rfl c495_) ?_
                refine Chain.sub (S' := mk 145 [] [(2, .ptr 2 0 0), (5, .d (.sl (r4.1.map cS43))), (7, .d (.sl (r6.1.map (cI .i64)))), (8, .d (.lit (.int .i64 r6.2))), (10, .ref 104 0 l374.length), (11, .ref 113 0 l375.length), (117, .d (.lit (.bool true)))] [(2, some (.box [.d (.sl (a0.map cS105))])), (104, some (.arr 43 2 (l374.map cS43))), (113, some (.arr 3 1 (l375.map (cI .i64))))]) (by simp; exact Sub.table (by simp) (by simp)) ?_
                refine Chain.runK [] 5 fun K hK => ?_; simp; refine hK _ _ ?_; clear hK K
                refine Chain.sub (S' := mk 145 [] [(2, .ptr 2 0 0), (7, .d (.sl (r6.1.map (cI .i64)))), (8, .d (.lit (.int .i64 r6.2))), (11, .ref 113 0 l375.length), (122, .d (.lit (.bool true)))] [(2, some (.box [.d (.sl (a0.map cS105))])), (113, some (.arr 3 1 (l375.map (cI .i64))))]) (Sub.table (by simp) (by simp)) ?_
                cases h
                exact Chain.nil (Sub.table (by simp) (by simp))
              · have c495_ : (r4.2 != 0) = false := Bool.eq_false_iff.2 c495
                refine Chain.sub (Sub.bool 117 (b := (r4.2 != 0)) rfl c495_) ?_
                refine Chain.sub (S' := mk 145 [] [(2, .ptr 2 0 0), (5, .d (.sl (r4.1.map cS43))), (7, .d (.sl (r6.1.map (cI .i64)))), (8, .d (.lit (.int .i64 r6.2))), (10, .ref 104 0 l374.length), (11, .ref 113 0 l375.length), (117, .d (.lit (.bool false)))] [(2, some (.box [.d (.sl (a0.map cS105))])), (104, some (.arr 43 2 (l374.map cS43))), (113, some (.arr 3 1 (l375.map (cI .i64))))]) (by simp; exact Sub.table (by simp) (by simp)) ?_
                refine Chain.runK [] 2 fun K hK => ?_; simp; refine hK _ _ ?_; clear hK K
                refine Chain.sub (S' := mk 145 [] [(2, .ptr 2 0 0), (7, .d (.sl (r6.1.map (cI .i64)))), (8, .d (.lit (.int .i64 r6.2))), (11, .ref 113 0 l375.length), (117, .d (.lit (.bool false))), (118, .d (.sl (r4.1.map cS43))), (119, .ref 104 0 l374.length)] [(2, some (.box [.d (.sl (a0.map cS105))])), (104, some (.arr 43 2 (l374.map cS43))), (113, some (.arr 3 1 (l375.map (cI .i64))))]) (Sub.table (by simp) (by simp)) ?_
                replace h := bsome h; obtain ⟨r496, hr496, h⟩ := h
                refine Chain.callL (d := 120) (p24 N r4.1 l374 r496 hr496) (by simp) rfl rfl (by simp <;> rfl) (by simp <;> rfl) ent24 (by simp <;> rfl) ?_
                refine Chain.sub (S' := mk 145 [] [(2, .ptr 2 0 0), (7, .d (.sl (r6.1.map (cI .i64)))), (8, .d (.lit (.int .i64 r6.2))), (11, .ref 113 0 l375.length), (117, .d (.lit (.bool false))), (118, .d (.sl (r4.1.map cS43))), (119, .ref 104 0 l374.length), (120, .d (.lit (.bool r496)))] [(2, some (.box [.d (.sl (a0.map cS105))])), (104, some (.arr 43 2 (l374.map cS43))), (113, some (.arr 3 1 (l375.map (cI .i64))))]) (by simp; exact Sub.table (by simp) (by simp)) ?_
                refine Chain.runK [] 2 fun K hK => ?_; simp; refine hK _ _ ?_; clear hK K
                refine Chain.sub (S' := mk 145 [] [(2, .ptr 2 0 0), (7, .d (.sl (r6.1.map (cI .i64)))), (8, .d (.lit (.int .i64 r6.2))), (11, .ref 113 0 l375.length), (122, .d (.lit (.bool (!r496))))] [(2, some (.box [.d (.sl (a0.map cS105))])), (113, some (.arr 3 1 (l375.map (cI .i64))))]) (Sub.table (by simp) (by simp)) ?_
                cases h
                exact Chain.nil (Sub.table (by simp) (by simp))
            · clear hj
              replace h := isome h; rcases h with ⟨c497, h⟩ | ⟨c497, h⟩
              · have c497_ : v494 = true := c497
                refine AW.condT (b := v494) rfl c497_ ?_
                refine AW.sub (Sub.bool 122 (b := v494) rfl c497_) ?_
                refine AW.sub (S' := mk 145 [] [(2, .ptr 2 0 0), (7, .d (.sl (r6.1.map (cI .i64)))), (8, .d (.lit (.int .i64 r6.2))), (11, .ref 113 0 l375.length), (122, .d (.lit (.bool true)))] [(2, some (.box [.d (.sl (a0.map cS105))])), (113, some (.arr 3 1 (l375.map (cI .i64))))]) (by simp; exact Sub.table (by simp) (by simp)) ?_
                refine AW.seqR ?_
                refine Chain.runK [] 1 fun K hK => ?_; simp; refine hK _ _ ?_; clear hK K
                refine Chain.sub (S' := mk 145 [] [(4, .d (.lit (.bool false)))] []) (Sub.table (by simp) (by simp)) ?_
                refine Chain.nil ?_
                refine AW.ret ?_
                cases h
                refine thenQ_pass (by simp) ?_
                exact FinC.ret (by simp) (by simp)
              · have c497_ : v494 = false := Bool.eq_false_iff.2 c497
                refine AW.condF (b := v494) rfl c497_ ?_
                refine AW.sub (Sub.bool 122 (b := v494) rfl c497_) ?_
                refine AW.sub (S' := mk 145 [] [(2, .ptr 2 0 0), (7, .d (.sl (r6.1.map (cI .i64)))), (8, .d (.lit (.int .i64 r6.2))), (11, .ref 113 0 l375.length), (122, .d (.lit (.bool false)))] [(2, some (.box [.d (.sl (a0.map cS105))])), (113, some (.arr 3 1 (l375.map (cI .i64))))]) (by simp; exact Sub.table (by simp) (by simp)) ?_
                refine AW.skip ?_
                refine thenQ_normal ?_
                refine AW.seqR ?_
                refine Chain.runK [] 2 fun K hK => ?_; simp; refine hK _ _ ?_; clear hK K
                refine Chain.sub (S' := mk 145 [] [(7, .d (.sl (r6.1.map (cI .i64)))), (8, .d (.lit (.int .i64 r6.2))), (124, .ref 113 0 l375.length), (125, .fn (.func 46) [.ptr 2 0 0])] [(2, some (.box [.d (.sl (a0.map cS105))])), (113, some (.arr 3 1 (l375.map (cI .i64))))]) (Sub.table (by simp) (by simp)) ?_
                refine Chain.sub (Sub.freeze 113 rfl) ?_
                refine Chain.sub (S' := mk 145 [] [(7, .d (.sl (r6.1.map (cI .i64)))), (8, .d (.lit (.int .i64 r6.2))), (124, .d (.sl (l375.map (cI .i64)))), (125, .fn (.func 46) [.ptr 2 0 0])] [(2, some (.box [.d (.sl (a0.map cS105))]))]) (by simp; exact Sub.table (by simp) (by simp)) ?_
                refine Chain.sub (Sub.freezeBox 2 [.sl (a0.map cS105)] rfl) ?_
                refine Chain.sub (S' := mk 145 [] [(7, .d (.sl (r6.1.map (cI .i64)))), (8, .d (.lit (.int .i64 r6.2))), (124, .d (.sl (l375.map (cI .i64)))), (125, .fn (.func 46) [.d (.pim [.sl (a0.map cS105)])])] []) (by simp; exact Sub.table (by simp) (by simp)) ?_
                replace h := bsome h; obtain ⟨r498, hr498, h⟩ := h
                refine Chain.callC (d := 126) (p31 N l375 46 [.pim [.sl (a0.map cS105)]] (fun b0 b1 => d46 N b0 b1 a0) ent46 (fun b0 b1 r h => p46 N b0 b1 a0 r h) r498 hr498) (by simp) rfl rfl (by simp <;> rfl) (by simp <;> rfl) ent31 (by simp) (.inl ⟨by simp, by simp⟩) ?_
                refine Chain.sub (S' := mk 145 [] [(7, .d (.sl (r6.1.map (cI .i64)))), (8, .d (.lit (.int .i64 r6.2))), (124, .d (.sl (l375.map (cI .i64)))), (125, .fn (.func 46) [.d (.pim [.sl (a0.map cS105)])]), (126, .tup [.d (.sl (r498.1.map (cI .i64))), .d (.lit (.bool r498.2))])] []) (by simp; exact Sub.table (by simp) (by simp)) ?_
                refine Chain.runK [] 5 fun K hK => ?_; simp; refine hK _ _ ?_; clear hK K
                refine Chain.sub (S' := mk 145 [] [(7, .d (.sl (r6.1.map (cI .i64)))), (8, .d (.lit (.int .i64 r6.2))), (14, .d (.sl (r498.1.map (cI .i64)))), (15, .d (.lit (.bool r498.2)))] []) (Sub.table (by simp) (by simp)) ?_
                refine Chain.nil ?_
                refine AW.seq ?_
                refine AW.seqR ?_
                refine Chain.runK [] 2 fun K hK => ?_; simp; refine hK _ _ ?_; clear hK K
                refine Chain.sub (S' := mk 145 [] [(7, .d (.sl (r6.1.map (cI .i64)))), (8, .d (.lit (.int .i64 r6.2))), (14, .d (.sl (r498.1.map (cI .i64)))), (130, .d (.lit (.bool (!r498.2))))] []) (Sub.table (by simp) (by simp)) ?_
                refine Chain.nil ?_
                replace h := isome h; rcases h with ⟨c499, h⟩ | ⟨c499, h⟩
                · have c499_ : (!r498.2) = true := c499
                  refine AW.condT (b := (!r498.2)) rfl c499_ ?_
                  refine AW.sub (Sub.bool 130 (b := (!r498.2)) rfl c499_) ?_
                  refine AW.sub (S' := mk 145 [] [(7, .d (.sl (r6.1.map (cI .i64)))), (8, .d (.lit (.int .i64 r6.2))), (14, .d (.sl (r498.1.map (cI .i64)))), (130, .d (.lit (.bool true)))] []) (by simp; exact Sub.table (by simp) (by simp)) ?_
                  replace h := bsome h; obtain ⟨v501, hj, h⟩ := h
                  refine AW.cutR (mk 145 [] [(4, .d (.lit (.bool v501)))] []) ?_ ?_
                  · clear h; have h := hj; clear hj
                    refine Chain.runK [] 3 fun K hK => ?_; simp; refine hK _ _ ?_; clear hK K
                    refine Chain.sub (S' := mk 145 [] [(7, .d (.sl (r6.1.map (cI .i64)))), (133, .d (.lit (.bool (r6.2 == 14))))] []) (Sub.table (by simp) (by simp)) ?_
                    replace h := isome h; rcases h with ⟨c502, h⟩ | ⟨c502, h⟩
                    · have c502_ : (r6.2 == 14) = true := c502
                      refine Chain.sub (Sub.bool 133 (b := (r6.2 == 14)) rfl c502_) ?_
                      refine Chain.sub (S' := mk 145 [] [(7, .d (.sl (r6.1.map (cI .i64)))), (133, .d (.lit (.bool true)))] []) (by simp; exact Sub.table (by simp) (by simp)) ?_
                      refine Chain.runK [] 5 fun K hK => ?_; simp; refine hK _ _ ?_; clear hK K
                      refine Chain.sub (S' := mk 145 [] [(4, .d (.lit (.bool ((r6.1.length : Int) == 0))))] []) (Sub.table (by simp) (by simp)) ?_
                      cases h
                      exact Chain.nil (Sub.table (by simp) (by simp))
                    · have c502_ : (r6.2 == 14) = false := Bool.eq_false_iff.2 c502
                      refine Chain.sub (Sub.bool 133 (b := (r6.2 == 14)) rfl c502_) ?_
                      refine Chain.sub (S' := mk 145 [] [(7, .d (.sl (r6.1.map (cI .i64)))), (133, .d (.lit (.bool false)))] []) (by simp; exact Sub.table (by simp) (by simp)) ?_
                      refine Chain.runK [] 5 fun K hK => ?_; simp; refine hK _ _ ?_; clear hK K
                      refine Chain.sub (S' := mk 145 [] [(4, .d (.lit (.bool false)))] []) (Sub.table (by simp) (by simp)) ?_
                      cases h
                      exact Chain.nil (Sub.table (by simp) (by simp))
                  · clear hj
                    refine AW.ret ?_
                    cases h
                    refine thenQ_pass (by simp) ?_
                    exact FinC.ret (by simp) (by simp)
                · have c499_ : (!r498.2) = false := Bool.eq_false_iff.2 c499
                  refine AW.condF (b := (!r498.2)) rfl c499_ ?_
                  refine AW.sub (Sub.bool 130 (b := (!r498.2)) rfl c499_) ?_
                  refine AW.sub (S' := mk 145 [] [(7, .d (.sl (r6.1.map (cI .i64)))), (8, .d (.lit (.int .i64 r6.2))), (14, .d (.sl (r498.1.map (cI .i64)))), (130, .d (.lit (.bool false)))] []) (by simp; exact Sub.table (by simp) (by simp)) ?_
                  refine AW.skip ?_
                  refine thenQ_normal ?_
                  replace h := bsome h; obtain ⟨v505, hj, h⟩ := h
                  refine AW.cutR (mk 145 [] [(4, .d (.lit (.bool v505)))] []) ?_ ?_
                  · clear h; have h := hj; clear hj
                    refine Chain.runK [] 3 fun K hK => ?_; simp; refine hK _ _ ?_; clear hK K
                    refine Chain.sub (S' := mk 145 [] [(7, .d (.sl (r6.1.map (cI .i64)))), (14, .d (.sl (r498.1.map (cI .i64)))), (140, .d (.lit (.bool (r6.2 == 0))))] []) (Sub.table (by simp) (by simp)) ?_
                    replace h := isome h; rcases h with ⟨c506, h⟩ | ⟨c506, h⟩
                    · have c506_ : (r6.2 == 0) = true := c506
                      refine Chain.sub (Sub.bool 140 (b := (r6.2 == 0)) rfl c506_) ?_
                      refine Chain.sub (S' := mk 145 [] [(7, .d (.sl (r6.1.map (cI .i64)))), (14, .d (.sl (r498.1.map (cI .i64)))), (140, .d (.lit (.bool true)))] []) (by simp; exact Sub.table (by simp) (by simp)) ?_
                      refine Chain.runK [] 2 fun K hK => ?_; simp; refine hK _ _ ?_; clear hK K
                      refine Chain.sub (S' := mk 145 [] [(140, .d (.lit (.bool true))), (141, .d (.sl (r6.1.map (cI .i64)))), (142, .d (.sl (r498.1.map (cI .i64))))] []) (Sub.table (by simp) (by simp)) ?_
                      replace h := bsome h; obtain ⟨r507, hr507, h⟩ := h
                      refine Chain.callL (d := 143) (p22 N r6.1 r498.1 r507 hr507) (by simp) rfl rfl (by simp <;> rfl) (by simp <;> rfl) ent22 (by simp <;> rfl) ?_
                      refine Chain.sub (S' := mk 145 [] [(140, .d (.lit (.bool true))), (141, .d (.sl (r6.1.map (cI .i64)))), (142, .d (.sl (r498.1.map (cI .i64)))), (143, .d (.lit (.bool r507)))] []) (by simp; exact Sub.table (by simp) (by simp)) ?_
                      refine Chain.runK [] 2 fun K hK => ?_; simp; refine hK _ _ ?_; clear hK K
                      refine Chain.sub (S' := mk 145 [] [(4, .d (.lit (.bool r507)))] []) (Sub.table (by simp) (by simp)) ?_
                      cases h
                      exact Chain.nil (Sub.table (by simp) (by simp))
                    · have c506_ : (r6.2 == 0) = false := Bool.eq_false_iff.2 c506
                      refine Chain.sub (Sub.bool 140 (b := (r6.2 == 0)) rfl c506_) ?_
                      refine Chain.sub (S' := mk 145 [] [(7, .d (.sl (r6.1.map (cI .i64)))), (14, .d (.sl (r498.1.map (cI .i64)))), (140, .d (.lit (.bool false)))] []) (by simp; exact Sub.table (by simp) (by simp)) ?_
                      refine Chain.runK [] 5 fun K hK => ?_; simp; refine hK _ _ ?_; clear hK K
                      refine Chain.sub (S' := mk 145 [] [(4, .d (.lit (.bool false)))] []) (Sub.table (by simp) (by simp)) ?_
                      cases h
                      exact Chain.nil (Sub.table (by simp) (by simp))
                  · clear hj
                    refine AW.ret ?_
                    cases h
                    exact FinC.ret (by simp) (by simp)

end Go.Proofs.Ytabjbkdlacibjaa
