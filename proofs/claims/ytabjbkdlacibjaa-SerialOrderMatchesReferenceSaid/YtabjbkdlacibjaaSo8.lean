/- Functions of the program as functional programs; the code computes them. -/
import Derived.Test.YtabjbkdlacibjaaSo7
namespace Go.Proofs.Ytabjbkdlacibjaa
open Go.Ab Go.Rp
attribute [-simp] List.all_eq_true Array.all_toList Array.all_eq_true

/-- stemma/stemlaw5.SerialOrderMatchesReference -/
def d6 (N : Nat) (a0 : (List S27)) : Option Bool :=
  (d15 N ).bind fun r1 =>
  if (!r1) = true then (
    some false
  ) else
  (d11 N a0).bind fun r3 =>
  (d28 N r3).bind fun r4 =>
  (d11 N a0).bind fun r5 =>
  (d29 N r5).bind fun r6 =>
  (d12 N a0).bind fun r7 =>
  if (r7 != 0) then (
    Option.bind (α := Bool) (
      if (r4.2 == r7) then (
        if (r6.2 == r7) then (
          if ((r4.1.length : Int) == 0) then (
            some ((r6.1.length : Int) == 0)
          ) else
          some false
        ) else
        some false
      ) else
      some false
    ) fun (v12 : Bool) =>
    some v12
  ) else
  (d23 N a0).bind fun r16 =>
  (d31 N r16 (fun b0 b1 => d30 N b0 b1 a0)).bind fun r17 =>
  if r17.2 = true then (
    Option.bind (α := Bool) (
      if (r4.2 == 0) then (
        (d22 N r4.1 r17.1).bind fun r25 =>
        if r25 = true then (
          if (r6.2 == 4) then (
            some ((r6.1.length : Int) == 0)
          ) else
          some false
        ) else
        some false
      ) else
      some false
    ) fun (v23 : Bool) =>
    some v23
  ) else
  Option.bind (α := List Int) (
    iterN (σ := ((List Int) × Int)) (ρ := List Int) (fun ((l62, v63) : ((List Int) × Int)) =>
      Option.bind (α := Bool) (
        if v63 ≤ (r16.length : Int) then (
          some ((l62.length : Int) == 0)
        ) else
        some false
      ) fun (v136 : Bool) =>
      if v136 = true then (
        Option.bind (α := List Int) (
          iterN (σ := ((List Int) × Int)) (ρ := List Int) (fun ((l145, v146) : ((List Int) × Int)) =>
            if v146 < (r16.length : Int) then (
              (idx r16 v146).bind fun x163 =>
              (d32 N r16 (fun b0 b1 => d30 N b0 b1 a0) ([x163] : List Int) v63).bind fun r165 =>
              if (r165.length : Int) > 0 then (
                some (.inr r165)
              ) else
              (chkI (v146 + 1)).bind fun v167 =>
              some (.inl (r165, v167))
            ) else
            some (.inr l145)
          ) N (l62, 0)
        ) fun (l161 : List Int) =>
        (chkI (v63 + 1)).bind fun v168 =>
        some (.inl (l161, v168))
      ) else
      some (.inr l62)
    ) N (([] : List Int), 2)
  ) fun (l134 : List Int) =>
  Option.bind (α := Bool) (
    if (r4.2 == 14) then (
      if ((r4.1.length : Int) == 0) then (
        if (r6.2 == 0) then (
          (d22 N r6.1 l134).bind fun r177 =>
          some r177
        ) else
        some false
      ) else
      some false
    ) else
    some false
  ) fun (v173 : Bool) =>
  some v173
set_option maxRecDepth 100000 in
set_option maxHeartbeats 4000000 in
theorem p6 (N : Nat) (a0 : (List S27)) (r : Bool) (h : d6 N a0 = some r) : FunC Try.prog 6 [.d (.sl (a0.map cS27))] (.d (.lit (.bool r))) := by
  unfold d6 at h
  refine FunC.enter 121 [(0, .d (.sl (a0.map cS27)))] (by simp) Try.func6 rfl (of_decide_eq_true rfl) rfl rfl ?_
  refine AW.seqR ?_
  refine Chain.runK [] 2 fun K hK => ?_; simp; refine hK _ _ ?_; clear hK K
  refine Chain.sub (S' := mk 121 [] [(1, .ptr 1 0 0)] [(1, some (.box [.d (.sl (a0.map cS27))]))]) (Sub.table (by simp) (by simp)) ?_
  refine Chain.nil ?_
  refine AW.seq ?_
  refine AW.seqR ?_
  replace h := bsome h; obtain ⟨r1, hr1, h⟩ := h
  refine Chain.callL (d := 16) (p15 N  r1 hr1) (by simp) rfl rfl (by simp <;> rfl) (by simp <;> rfl) ent15 (by simp <;> rfl) ?_
  refine Chain.sub (S' := mk 121 [] [(1, .ptr 1 0 0), (16, .d (.lit (.bool r1)))] [(1, some (.box [.d (.sl (a0.map cS27))]))]) (by simp; exact Sub.table (by simp) (by simp)) ?_
  refine Chain.runK [] 1 fun K hK => ?_; simp; refine hK _ _ ?_; clear hK K
  refine Chain.sub (S' := mk 121 [] [(1, .ptr 1 0 0), (17, .d (.lit (.bool (!r1))))] [(1, some (.box [.d (.sl (a0.map cS27))]))]) (Sub.table (by simp) (by simp)) ?_
  refine Chain.nil ?_
  replace h := isome h; rcases h with ⟨c2, h⟩ | ⟨c2, h⟩
  · have c2_ : (!r1) = true := c2
    refine AW.condT (b := (!r1)) rfl c2_ ?_
    refine AW.sub (Sub.bool 17 (b := (!r1)) rfl c2_) ?_
    refine AW.sub (S' := mk 121 [] [(1, .ptr 1 0 0), (17, .d (.lit (.bool true)))] [(1, some (.box [.d (.sl (a0.map cS27))]))]) (by simp; exact Sub.table (by simp) (by simp)) ?_
    refine AW.seqR ?_
    refine Chain.runK [] 1 fun K hK => ?_; simp; refine hK _ _ ?_; clear hK K
    refine Chain.sub (S' := mk 121 [] [(2, .d (.lit (.bool false)))] []) (Sub.table (by simp) (by simp)) ?_
    refine Chain.nil ?_
    refine AW.ret ?_
    cases h
    refine thenQ_pass (by simp) ?_
    exact FinC.ret (by simp) (by simp)
  · have c2_ : (!r1) = false := Bool.eq_false_iff.2 c2
    refine AW.condF (b := (!r1)) rfl c2_ ?_
    refine AW.sub (Sub.bool 17 (b := (!r1)) rfl c2_) ?_
    refine AW.sub (S' := mk 121 [] [(1, .ptr 1 0 0), (17, .d (.lit (.bool false)))] [(1, some (.box [.d (.sl (a0.map cS27))]))]) (by simp; exact Sub.table (by simp) (by simp)) ?_
    refine AW.skip ?_
    refine thenQ_normal ?_
    refine AW.seqR ?_
    refine Chain.runK [] 1 fun K hK => ?_; simp; refine hK _ _ ?_; clear hK K
    refine Chain.sub (S' := mk 121 [] [(1, .ptr 1 0 0), (19, .d (.sl (a0.map cS27)))] [(1, some (.box [.d (.sl (a0.map cS27))]))]) (Sub.table (by simp) (by simp)) ?_
    replace h := bsome h; obtain ⟨r3, hr3, h⟩ := h
    refine Chain.callC (d := 20) (p11 N a0 r3 hr3) (by simp) rfl rfl (by simp <;> rfl) (by simp <;> rfl) ent11 (by simp) (.inl ⟨by simp, by simp⟩) ?_
    refine Chain.sub (S' := mk 121 [] [(1, .ptr 1 0 0), (19, .d (.sl (a0.map cS27))), (20, .d (.sl (r3.map cS27)))] [(1, some (.box [.d (.sl (a0.map cS27))]))]) (by simp; exact Sub.table (by simp) (by simp)) ?_
    replace h := bsome h; obtain ⟨r4, hr4, h⟩ := h
    refine Chain.callC (d := 21) (p28 N r3 r4 hr4) (by simp) rfl rfl (by simp <;> rfl) (by simp <;> rfl) ent28 (by simp) (.inl ⟨by simp, by simp⟩) ?_
    refine Chain.sub (S' := mk 121 [] [(1, .ptr 1 0 0), (19, .d (.sl (a0.map cS27))), (20, .d (.sl (r3.map cS27))), (21, .tup [.d (.sl (r4.1.map (cI .i64))), .d (.lit (.int .i64 r4.2))])] [(1, some (.box [.d (.sl (a0.map cS27))]))]) (by simp; exact Sub.table (by simp) (by simp)) ?_
    refine Chain.runK [] 5 fun K hK => ?_; simp; refine hK _ _ ?_; clear hK K
    refine Chain.sub (S' := mk 121 [] [(1, .ptr 1 0 0), (3, .d (.sl (r4.1.map (cI .i64)))), (4, .d (.lit (.int .i64 r4.2)))] [(1, some (.box [.d (.sl (a0.map cS27))]))]) (Sub.table (by simp) (by simp)) ?_
    refine Chain.nil ?_
    refine AW.seqR ?_
    refine Chain.runK [] 1 fun K hK => ?_; simp; refine hK _ _ ?_; clear hK K
    refine Chain.sub (S' := mk 121 [] [(1, .ptr 1 0 0), (3, .d (.sl (r4.1.map (cI .i64)))), (4, .d (.lit (.int .i64 r4.2))), (25, .d (.sl (a0.map cS27)))] [(1, some (.box [.d (.sl (a0.map cS27))]))]) (Sub.table (by simp) (by simp)) ?_
    replace h := bsome h; obtain ⟨r5, hr5, h⟩ := h
    refine Chain.callC (d := 26) (p11 N a0 r5 hr5) (by simp) rfl rfl (by simp <;> rfl) (by simp <;> rfl) ent11 (by simp) (.inl ⟨by simp, by simp⟩) ?_
    refine Chain.sub (S' := mk 121 [] [(1, .ptr 1 0 0), (3, .d (.sl (r4.1.map (cI .i64)))), (4, .d (.lit (.int .i64 r4.2))), (25, .d (.sl (a0.map cS27))), (26, .d (.sl (r5.map cS27)))] [(1, some (.box [.d (.sl (a0.map cS27))]))]) (by simp; exact Sub.table (by simp) (by simp)) ?_
    replace h := bsome h; obtain ⟨r6, hr6, h⟩ := h
    refine Chain.callC (d := 27) (p29 N r5 r6 hr6) (by simp) rfl rfl (by simp <;> rfl) (by simp <;> rfl) ent29 (by simp) (.inl ⟨by simp, by simp⟩) ?_
    refine Chain.sub (S' := mk 121 [] [(1, .ptr 1 0 0), (3, .d (.sl (r4.1.map (cI .i64)))), (4, .d (.lit (.int .i64 r4.2))), (25, .d (.sl (a0.map cS27))), (26, .d (.sl (r5.map cS27))), (27, .tup [.d (.sl (r6.1.map (cI .i64))), .d (.lit (.int .i64 r6.2))])] [(1, some (.box [.d (.sl (a0.map cS27))]))]) (by simp; exact Sub.table (by simp) (by simp)) ?_
    refine Chain.runK [] 5 fun K hK => ?_; simp; refine hK _ _ ?_; clear hK K
    refine Chain.sub (S' := mk 121 [] [(1, .ptr 1 0 0), (3, .d (.sl (r4.1.map (cI .i64)))), (4, .d (.lit (.int .i64 r4.2))), (5, .d (.sl (r6.1.map (cI .i64)))), (6, .d (.lit (.int .i64 r6.2)))] [(1, some (.box [.d (.sl (a0.map cS27))]))]) (Sub.table (by simp) (by simp)) ?_
    refine Chain.nil ?_
    refine AW.seq ?_
    refine AW.seqR ?_
    refine Chain.runK [] 1 fun K hK => ?_; simp; refine hK _ _ ?_; clear hK K
    refine Chain.sub (S' := mk 121 [] [(1, .ptr 1 0 0), (3, .d (.sl (r4.1.map (cI .i64)))), (4, .d (.lit (.int .i64 r4.2))), (5, .d (.sl (r6.1.map (cI .i64)))), (6, .d (.lit (.int .i64 r6.2))), (30, .d (.sl (a0.map cS27)))] [(1, some (.box [.d (.sl (a0.map cS27))]))]) (Sub.table (by simp) (by simp)) ?_
    replace h := bsome h; obtain ⟨r7, hr7, h⟩ := h
    refine Chain.callL (d := 31) (p12 N a0 r7 hr7) (by simp) rfl rfl (by simp <;> rfl) (by simp <;> rfl) ent12 (by simp <;> rfl) ?_
    refine Chain.sub (S' := mk 121 [] [(1, .ptr 1 0 0), (3, .d (.sl (r4.1.map (cI .i64)))), (4, .d (.lit (.int .i64 r4.2))), (5, .d (.sl (r6.1.map (cI .i64)))), (6, .d (.lit (.int .i64 r6.2))), (30, .d (.sl (a0.map cS27))), (31, .d (.lit (.int .i64 r7)))] [(1, some (.box [.d (.sl (a0.map cS27))]))]) (by simp; exact Sub.table (by simp) (by simp)) ?_
    refine Chain.runK [] 1 fun K hK => ?_; simp; refine hK _ _ ?_; clear hK K
    refine Chain.sub (S' := mk 121 [] [(1, .ptr 1 0 0), (3, .d (.sl (r4.1.map (cI .i64)))), (4, .d (.lit (.int .i64 r4.2))), (5, .d (.sl (r6.1.map (cI .i64)))), (6, .d (.lit (.int .i64 r6.2))), (7, .d (.lit (.int .i64 r7)))] [(1, some (.box [.d (.sl (a0.map cS27))]))]) (Sub.table (by simp) (by simp)) ?_
    refine Chain.nil ?_
    refine AW.seqR ?_
    refine Chain.runK [] 2 fun K hK => ?_; simp; refine hK _ _ ?_; clear hK K
    refine Chain.sub (S' := mk 121 [] [(1, .ptr 1 0 0), (3, .d (.sl (r4.1.map (cI .i64)))), (4, .d (.lit (.int .i64 r4.2))), (5, .d (.sl (r6.1.map (cI .i64)))), (6, .d (.lit (.int .i64 r6.2))), (7, .d (.lit (.int .i64 r7))), (33, .d (.lit (.bool (r7 != 0))))] [(1, some (.box [.d (.sl (a0.map cS27))]))]) (Sub.table (by simp) (by simp)) ?_
    refine Chain.nil ?_
    replace h := isome h; rcases h with ⟨c8, h⟩ | ⟨c8, h⟩
    · have c8_ : (r7 != 0) = true := c8
      refine AW.condT (b := (r7 != 0)) rfl c8_ ?_
      refine AW.sub (Sub.bool 33 (b := (r7 != 0)) rfl c8_) ?_
      refine AW.sub (S' := mk 121 [] [(1, .ptr 1 0 0), (3, .d (.sl (r4.1.map (cI .i64)))), (4, .d (.lit (.int .i64 r4.2))), (5, .d (.sl (r6.1.map (cI .i64)))), (6, .d (.lit (.int .i64 r6.2))), (7, .d (.lit (.int .i64 r7))), (33, .d (.lit (.bool true)))] [(1, some (.box [.d (.sl (a0.map cS27))]))]) (by simp; exact Sub.table (by simp) (by simp)) ?_
      replace h := bsome h; obtain ⟨v12, hj, h⟩ := h
      refine AW.cutR (mk 121 [] [(2, .d (.lit (.bool v12)))] []) ?_ ?_
      · clear h; have h := hj; clear hj
        refine Chain.runK [] 4 fun K hK => ?_; simp; refine hK _ _ ?_; clear hK K
        refine Chain.sub (S' := mk 121 [] [(3, .d (.sl (r4.1.map (cI .i64)))), (5, .d (.sl (r6.1.map (cI .i64)))), (6, .d (.lit (.int .i64 r6.2))), (7, .d (.lit (.int .i64 r7))), (37, .d (.lit (.bool (r4.2 == r7))))] []) (Sub.table (by simp) (by simp)) ?_
        replace h := isome h; rcases h with ⟨c13, h⟩ | ⟨c13, h⟩
        · have c13_ : (r4.2 == r7) = true := c13
          refine Chain.sub (Sub.bool 37 (b := (r4.2 == r7)) rfl c13_) ?_
          refine Chain.sub (S' := mk 121 [] [(3, .d (.sl (r4.1.map (cI .i64)))), (5, .d (.sl (r6.1.map (cI .i64)))), (6, .d (.lit (.int .i64 r6.2))), (7, .d (.lit (.int .i64 r7))), (37, .d (.lit (.bool true)))] []) (by simp; exact Sub.table (by simp) (by simp)) ?_
          refine Chain.runK [] 5 fun K hK => ?_; simp; refine hK _ _ ?_; clear hK K
          refine Chain.sub (S' := mk 121 [] [(3, .d (.sl (r4.1.map (cI .i64)))), (5, .d (.sl (r6.1.map (cI .i64)))), (42, .d (.lit (.bool (r6.2 == r7))))] []) (Sub.table (by simp) (by simp)) ?_
          replace h := isome h; rcases h with ⟨c14, h⟩ | ⟨c14, h⟩
          · have c14_ : (r6.2 == r7) = true := c14
            refine Chain.sub (Sub.bool 42 (b := (r6.2 == r7)) rfl c14_) ?_
            refine Chain.sub (S' := mk 121 [] [(3, .d (.sl (r4.1.map (cI .i64)))), (5, .d (.sl (r6.1.map (cI .i64)))), (42, .d (.lit (.bool true)))] []) (by simp; exact Sub.table (by simp) (by simp)) ?_
            refine Chain.runK [] 5 fun K hK => ?_; simp; refine hK _ _ ?_; clear hK K
            refine Chain.sub (S' := mk 121 [] [(5, .d (.sl (r6.1.map (cI .i64)))), (47, .d (.lit (.bool ((r4.1.length : Int) == 0))))] []) (Sub.table (by simp) (by simp)) ?_
            replace h := isome h; rcases h with ⟨c15, h⟩ | ⟨c15, h⟩
            · have c15_ : ((r4.1.length : Int) == 0) = true := c15
              refine Chain.sub (Sub.bool 47 (b := ((r4.1.length : Int) == 0)) rfl c15_) ?_
              refine Chain.sub (S' := mk 121 [] [(5, .d (.sl (r6.1.map (cI .i64)))), (47, .d (.lit (.bool true)))] []) (by simp; exact Sub.table (by simp) (by simp)) ?_
              refine Chain.runK [] 5 fun K hK => ?_; simp; refine hK _ _ ?_; clear hK K
              refine Chain.sub (S' := mk 121 [] [(2, .d (.lit (.bool ((r6.1.length : Int) == 0))))] []) (Sub.table (by simp) (by simp)) ?_
              cases h
              exact Chain.nil (Sub.table (by simp) (by simp))
            · have c15_ : ((r4.1.length : Int) == 0) = false := Bool.eq_false_iff.2 c15
              refine Chain.sub (Sub.bool 47 (b := ((r4.1.length : Int) == 0)) rfl c15_) ?_
              refine Chain.sub (S' := mk 121 [] [(5, .d (.sl (r6.1.map (cI .i64)))), (47, .d (.lit (.bool false)))] []) (by simp; exact Sub.table (by simp) (by simp)) ?_
              refine Chain.runK [] 5 fun K hK => ?_; simp; refine hK _ _ ?_; clear hK K
              refine Chain.sub (S' := mk 121 [] [(2, .d (.lit (.bool false)))] []) (Sub.table (by simp) (by simp)) ?_
              cases h
              exact Chain.nil (Sub.table (by simp) (by simp))
          · have c14_ : (r6.2 == r7) = false := Bool.eq_false_iff.2 c14
            refine Chain.sub (Sub.bool 42 (b := (r6.2 == r7)) rfl c14_) ?_
            refine Chain.sub (S' := mk 121 [] [(3, .d (.sl (r4.1.map (cI .i64)))), (5, .d (.sl (r6.1.map (cI .i64)))), (42, .d (.lit (.bool false)))] []) (by simp; exact Sub.table (by simp) (by simp)) ?_
            refine Chain.runK [] 10 fun K hK => ?_; simp; refine hK _ _ ?_; clear hK K
            refine Chain.sub (S' := mk 121 [] [(2, .d (.lit (.bool false)))] []) (Sub.table (by simp) (by simp)) ?_
            cases h
            exact Chain.nil (Sub.table (by simp) (by simp))
        · have c13_ : (r4.2 == r7) = false := Bool.eq_false_iff.2 c13
          refine Chain.sub (Sub.bool 37 (b := (r4.2 == r7)) rfl c13_) ?_
          refine Chain.sub (S' := mk 121 [] [(3, .d (.sl (r4.1.map (cI .i64)))), (5, .d (.sl (r6.1.map (cI .i64)))), (6, .d (.lit (.int .i64 r6.2))), (7, .d (.lit (.int .i64 r7))), (37, .d (.lit (.bool false)))] []) (by simp; exact Sub.table (by simp) (by simp)) ?_
          refine Chain.runK [] 15 fun K hK => ?_; simp; refine hK _ _ ?_; clear hK K
          refine Chain.sub (S' := mk 121 [] [(2, .d (.lit (.bool false)))] []) (Sub.table (by simp) (by simp)) ?_
          cases h
          exact Chain.nil (Sub.table (by simp) (by simp))
      · clear hj
        refine AW.ret ?_
        cases h
        refine thenQ_pass (by simp) ?_
        exact FinC.ret (by simp) (by simp)
    · have c8_ : (r7 != 0) = false := Bool.eq_false_iff.2 c8
      refine AW.condF (b := (r7 != 0)) rfl c8_ ?_
      refine AW.sub (Sub.bool 33 (b := (r7 != 0)) rfl c8_) ?_
      refine AW.sub (S' := mk 121 [] [(1, .ptr 1 0 0), (3, .d (.sl (r4.1.map (cI .i64)))), (4, .d (.lit (.int .i64 r4.2))), (5, .d (.sl (r6.1.map (cI .i64)))), (6, .d (.lit (.int .i64 r6.2))), (7, .d (.lit (.int .i64 r7))), (33, .d (.lit (.bool false)))] [(1, some (.box [.d (.sl (a0.map cS27))]))]) (by simp; exact Sub.table (by simp) (by simp)) ?_
      refine AW.skip ?_
      refine thenQ_normal ?_
      refine AW.seqR ?_
      refine Chain.runK [] 1 fun K hK => ?_; simp; refine hK _ _ ?_; clear hK K
      refine Chain.sub (S' := mk 121 [] [(1, .ptr 1 0 0), (3, .d (.sl (r4.1.map (cI .i64)))), (4, .d (.lit (.int .i64 r4.2))), (5, .d (.sl (r6.1.map (cI .i64)))), (6, .d (.lit (.int .i64 r6.2))), (52, .d (.sl (a0.map cS27)))] [(1, some (.box [.d (.sl (a0.map cS27))]))]) (Sub.table (by simp) (by simp)) ?_
      replace h := bsome h; obtain ⟨r16, hr16, h⟩ := h
      refine Chain.callC (d := 53) (p23 N a0 r16 hr16) (by simp) rfl rfl (by simp <;> rfl) (by simp <;> rfl) ent23 (by simp) (.inl ⟨by simp, by simp⟩) ?_
      refine Chain.sub (S' := mk 121 [] [(1, .ptr 1 0 0), (3, .d (.sl (r4.1.map (cI .i64)))), (4, .d (.lit (.int .i64 r4.2))), (5, .d (.sl (r6.1.map (cI .i64)))), (6, .d (.lit (.int .i64 r6.2))), (52, .d (.sl (a0.map cS27))), (53, .d (.sl (r16.map (cI .i64))))] [(1, some (.box [.d (.sl (a0.map cS27))]))]) (by simp; exact Sub.table (by simp) (by simp)) ?_
      refine Chain.runK [] 1 fun K hK => ?_; simp; refine hK _ _ ?_; clear hK K
      refine Chain.sub (S' := mk 121 [] [(1, .ptr 1 0 0), (3, .d (.sl (r4.1.map (cI .i64)))), (4, .d (.lit (.int .i64 r4.2))), (5, .d (.sl (r6.1.map (cI .i64)))), (6, .d (.lit (.int .i64 r6.2))), (8, .d (.sl (r16.map (cI .i64))))] [(1, some (.box [.d (.sl (a0.map cS27))]))]) (Sub.table (by simp) (by simp)) ?_
      refine Chain.nil ?_
      refine AW.seqR ?_
      refine Chain.runK [] 2 fun K hK => ?_; simp; refine hK _ _ ?_; clear hK K
      refine Chain.sub (S' := mk 121 [] [(3, .d (.sl (r4.1.map (cI .i64)))), (4, .d (.lit (.int .i64 r4.2))), (5, .d (.sl (r6.1.map (cI .i64)))), (6, .d (.lit (.int .i64 r6.2))), (8, .d (.sl (r16.map (cI .i64)))), (9, .fn (.func 30) [.ptr 1 0 0])] [(1, some (.box [.d (.sl (a0.map cS27))]))]) (Sub.table (by simp) (by simp)) ?_
      refine Chain.nil ?_
      refine AW.seq ?_
      refine AW.seqR ?_
      refine Chain.runK [] 2 fun K hK => ?_; simp; refine hK _ _ ?_; clear hK K
      refine Chain.sub (S' := mk 121 [] [(3, .d (.sl (r4.1.map (cI .i64)))), (4, .d (.lit (.int .i64 r4.2))), (5, .d (.sl (r6.1.map (cI .i64)))), (6, .d (.lit (.int .i64 r6.2))), (8, .d (.sl (r16.map (cI .i64)))), (9, .fn (.func 30) [.ptr 1 0 0]), (56, .d (.sl (r16.map (cI .i64)))), (57, .fn (.func 30) [.ptr 1 0 0])] [(1, some (.box [.d (.sl (a0.map cS27))]))]) (Sub.table (by simp) (by simp)) ?_
      refine Chain.sub (Sub.freezeBox 1 [.sl (a0.map cS27)] rfl) ?_
      refine Chain.sub (S' := mk 121 [] [(3, .d (.sl (r4.1.map (cI .i64)))), (4, .d (.lit (.int .i64 r4.2))), (5, .d (.sl (r6.1.map (cI .i64)))), (6, .d (.lit (.int .i64 r6.2))), (8, .d (.sl (r16.map (cI .i64)))), (9, .fn (.func 30) [.d (.pim [.sl (a0.map cS27)])]), (56, .d (.sl (r16.map (cI .i64)))), (57, .fn (.func 30) [.d (.pim [.sl (a0.map cS27)])])] []) (by simp; exact Sub.table (by simp) (by simp)) ?_
      replace h := bsome h; obtain ⟨r17, hr17, h⟩ := h
      refine Chain.callC (d := 58) (p31 N r16 30 [.pim [.sl (a0.map cS27)]] (fun b0 b1 => d30 N b0 b1 a0) ent30 (fun b0 b1 r h => p30 N b0 b1 a0 r h) r17 hr17) (by simp) rfl rfl (by simp <;> rfl) (by simp <;> rfl) ent31 (by simp) (.inl ⟨by simp, by simp⟩) ?_
      refine Chain.sub (S' := mk 121 [] [(3, .d (.sl (r4.1.map (cI .i64)))), (4, .d (.lit (.int .i64 r4.2))), (5, .d (.sl (r6.1.map (cI .i64)))), (6, .d (.lit (.int .i64 r6.2))), (8, .d (.sl (r16.map (cI .i64)))), (9, .fn (.func 30) [.d (.pim [.sl (a0.map cS27)])]), (56, .d (.sl (r16.map (cI .i64)))), (57, .fn (.func 30) [.d (.pim [.sl (a0.map cS27)])]), (58, .tup [.d (.sl (r17.1.map (cI .i64))), .d (.lit (.bool r17.2))])] []) (by simp; exact Sub.table (by simp) (by simp)) ?_
      refine Chain.runK [] 5 fun K hK => ?_; simp; refine hK _ _ ?_; clear hK K
      refine Chain.sub (S' := mk 121 [] [(3, .d (.sl (r4.1.map (cI .i64)))), (4, .d (.lit (.int .i64 r4.2))), (5, .d (.sl (r6.1.map (cI .i64)))), (6, .d (.lit (.int .i64 r6.2))), (8, .d (.sl (r16.map (cI .i64)))), (9, .fn (.func 30) [.d (.pim [.sl (a0.map cS27)])]), (10, .d (.sl (r17.1.map (cI .i64)))), (11, .d (.lit (.bool r17.2)))] []) (Sub.table (by simp) (by simp)) ?_
      refine Chain.nil ?_
      refine AW.seqR ?_
      refine Chain.runK [] 1 fun K hK => ?_; simp; refine hK _ _ ?_; clear hK K
      refine Chain.sub (S' := mk 121 [] [(3, .d (.sl (r4.1.map (cI .i64)))), (4, .d (.lit (.int .i64 r4.2))), (5, .d (.sl (r6.1.map (cI .i64)))), (6, .d (.lit (.int .i64 r6.2))), (8, .d (.sl (r16.map (cI .i64)))), (9, .fn (.func 30) [.d (.pim [.sl (a0.map cS27)])]), (10, .d (.sl (r17.1.map (cI .i64)))), (61, .d (.lit (.bool r17.2)))] []) (Sub.table (by simp) (by simp)) ?_
      refine Chain.nil ?_
      replace h := isome h; rcases h with ⟨c18, h⟩ | ⟨c18, h⟩
      · have c18_ : r17.2 = true := c18
        refine AW.condT (b := r17.2) rfl c18_ ?_
        refine AW.sub (Sub.bool 61 (b := r17.2) rfl c18_) ?_
        refine AW.sub (S' := mk 121 [] [(3, .d (.sl (r4.1.map (cI .i64)))), (4, .d (.lit (.int .i64 r4.2))), (5, .d (.sl (r6.1.map (cI .i64)))), (6, .d (.lit (.int .i64 r6.2))), (8, .d (.sl (r16.map (cI .i64)))), (9, .fn (.func 30) [.d (.pim [.sl (a0.map cS27)])]), (10, .d (.sl (r17.1.map (cI .i64)))), (61, .d (.lit (.bool true)))] []) (by simp; exact Sub.table (by simp) (by simp)) ?_
        replace h := bsome h; obtain ⟨v23, hj, h⟩ := h
        refine AW.cutR (mk 121 [] [(2, .d (.lit (.bool v23)))] []) ?_ ?_
        · clear h; have h := hj; clear hj
          refine Chain.runK [] 3 fun K hK => ?_; simp; refine hK _ _ ?_; clear hK K
          refine Chain.sub (S' := mk 121 [] [(3, .d (.sl (r4.1.map (cI .i64)))), (5, .d (.sl (r6.1.map (cI .i64)))), (6, .d (.lit (.int .i64 r6.2))), (10, .d (.sl (r17.1.map (cI .i64)))), (64, .d (.lit (.bool (r4.2 == 0))))] []) (Sub.table (by simp) (by simp)) ?_
          replace h := isome h; rcases h with ⟨c24, h⟩ | ⟨c24, h⟩
          · have c24_ : (r4.2 == 0) = true := c24
            refine Chain.sub (Sub.bool 64 (b := (r4.2 == 0)) rfl c24_) ?_
            refine Chain.sub (S' := mk 121 [] [(3, .d (.sl (r4.1.map (cI .i64)))), (5, .d (.sl (r6.1.map (cI .i64)))), (6, .d (.lit (.int .i64 r6.2))), (10, .d (.sl (r17.1.map (cI .i64)))), (64, .d (.lit (.bool true)))] []) (by simp; exact Sub.table (by simp) (by simp)) ?_
            refine Chain.runK [] 2 fun K hK => ?_; simp; refine hK _ _ ?_; clear hK K
            refine Chain.sub (S' := mk 121 [] [(5, .d (.sl (r6.1.map (cI .i64)))), (6, .d (.lit (.int .i64 r6.2))), (64, .d (.lit (.bool true))), (65, .d (.sl (r4.1.map (cI .i64)))), (66, .d (.sl (r17.1.map (cI .i64))))] []) (Sub.table (by simp) (by simp)) ?_
            replace h := bsome h; obtain ⟨r25, hr25, h⟩ := h
            refine Chain.callL (d := 67) (p22 N r4.1 r17.1 r25 hr25) (by simp) rfl rfl (by simp <;> rfl) (by simp <;> rfl) ent22 (by simp <;> rfl) ?_
            refine Chain.sub (S' := mk 121 [] [(5, .d (.sl (r6.1.map (cI .i64)))), (6, .d (.lit (.int .i64 r6.2))), (64, .d (.lit (.bool true))), (65, .d (.sl (r4.1.map (cI .i64)))), (66, .d (.sl (r17.1.map (cI .i64)))), (67, .d (.lit (.bool r25)))] []) (by simp; exact Sub.table (by simp) (by simp)) ?_
            refine Chain.runK [] 2 fun K hK => ?_; simp; refine hK _ _ ?_; clear hK K
            refine Chain.sub (S' := mk 121 [] [(5, .d (.sl (r6.1.map (cI .i64)))), (6, .d (.lit (.int .i64 r6.2))), (69, .d (.lit (.bool r25)))] []) (Sub.table (by simp) (by simp)) ?_
            replace h := isome h; rcases h with ⟨c26, h⟩ | ⟨c26, h⟩
            · have c26_ : r25 = true := c26
              refine Chain.sub (Sub.bool 69 (b := r25) rfl c26_) ?_
              refine Chain.sub (S' := mk 121 [] [(5, .d (.sl (r6.1.map (cI .i64)))), (6, .d (.lit (.int .i64 r6.2))), (69, .d (.lit (.bool true)))] []) (by simp; exact Sub.table (by simp) (by simp)) ?_
              refine Chain.runK [] 4 fun K hK => ?_; simp; refine hK _ _ ?_; clear hK K
              refine Chain.sub (S' := mk 121 [] [(5, .d (.sl (r6.1.map (cI .i64)))), (73, .d (.lit (.bool (r6.2 == 4))))] []) (Sub.table (by simp) (by simp)) ?_
              replace h := isome h; rcases h with ⟨c27, h⟩ | ⟨c27, h⟩
              · have c27_ : (r6.2 == 4) = true := c27
                refine Chain.sub (Sub.bool 73 (b := (r6.2 == 4)) rfl c27_) ?_
                refine Chain.sub (S' := mk 121 [] [(5, .d (.sl (r6.1.map (cI .i64)))), (73, .d (.lit (.bool true)))] []) (by simp; exact Sub.table (by simp) (by simp)) ?_
                refine Chain.runK [] 5 fun K hK => ?_; simp; refine hK _ _ ?_; clear hK K
                refine Chain.sub (S' := mk 121 [] [(2, .d (.lit (.bool ((r6.1.length : Int) == 0))))] []) (Sub.table (by simp) (by simp)) ?_
                cases h
                exact Chain.nil (Sub.table (by simp) (by simp))
              · have c27_ : (r6.2 == 4) = false := Bool.eq_false_iff.2 c27
                refine Chain.sub (Sub.bool 73 (b := (r6.2 == 4)) rfl c27_) ?_
                refine Chain.sub (S' := mk 121 [] [(5, .d (.sl (r6.1.map (cI .i64)))), (73, .d (.lit (.bool false)))] []) (by simp; exact Sub.table (by simp) (by simp)) ?_
                refine Chain.runK [] 5 fun K hK => ?_; simp; refine hK _ _ ?_; clear hK K
                refine Chain.sub (S' := mk 121 [] [(2, .d (.lit (.bool false)))] []) (Sub.table (by simp) (by simp)) ?_
                cases h
                exact Chain.nil (Sub.table (by simp) (by simp))
            · have c26_ : r25 = false := Bool.eq_false_iff.2 c26
              refine Chain.sub (Sub.bool 69 (b := r25) rfl c26_) ?_
              refine Chain.sub (S' := mk 121 [] [(5, .d (.sl (r6.1.map (cI .i64)))), (6, .d (.lit (.int .i64 r6.2))), (69, .d (.lit (.bool false)))] []) (by simp; exact Sub.table (by simp) (by simp)) ?_
              refine Chain.runK [] 9 fun K hK => ?_; simp; refine hK _ _ ?_; clear hK K
              refine Chain.sub (S' := mk 121 [] [(2, .d (.lit (.bool false)))] []) (Sub.table (by simp) (by simp)) ?_
              cases h
              exact Chain.nil (Sub.table (by simp) (by simp))
          · have c24_ : (r4.2 == 0) = false := Bool.eq_false_iff.2 c24
            refine Chain.sub (Sub.bool 64 (b := (r4.2 == 0)) rfl c24_) ?_
            refine Chain.sub (S' := mk 121 [] [(3, .d (.sl (r4.1.map (cI .i64)))), (5, .d (.sl (r6.1.map (cI .i64)))), (6, .d (.lit (.int .i64 r6.2))), (10, .d (.sl (r17.1.map (cI .i64)))), (64, .d (.lit (.bool false)))] []) (by simp; exact Sub.table (by simp) (by simp)) ?_
            refine Chain.runK [] 14 fun K hK => ?_; simp; refine hK _ _ ?_; clear hK K
            refine Chain.sub (S' := mk 121 [] [(2, .d (.lit (.bool false)))] []) (Sub.table (by simp) (by simp)) ?_
            cases h
            exact Chain.nil (Sub.table (by simp) (by simp))
        · clear hj
          refine AW.ret ?_
          cases h
          refine thenQ_pass (by simp) ?_
          exact FinC.ret (by simp) (by simp)
      · have c18_ : r17.2 = false := Bool.eq_false_iff.2 c18
        refine AW.condF (b := r17.2) rfl c18_ ?_
        refine AW.sub (Sub.bool 61 (b := r17.2) rfl c18_) ?_
        refine AW.sub (S' := mk 121 [] [(3, .d (.sl (r4.1.map (cI .i64)))), (4, .d (.lit (.int .i64 r4.2))), (5, .d (.sl (r6.1.map (cI .i64)))), (6, .d (.lit (.int .i64 r6.2))), (8, .d (.sl (r16.map (cI .i64)))), (9, .fn (.func 30) [.d (.pim [.sl (a0.map cS27)])]), (10, .d (.sl (r17.1.map (cI .i64)))), (61, .d (.lit (.bool false)))] []) (by simp; exact Sub.table (by simp) (by simp)) ?_
        refine AW.skip ?_
        refine thenQ_normal ?_
        refine AW.seqR ?_
        refine Chain.runK [] 1 fun K hK => ?_; simp; refine hK _ _ ?_; clear hK K
        refine Chain.sub (S' := mk 121 [] [(3, .d (.sl (r4.1.map (cI .i64)))), (4, .d (.lit (.int .i64 r4.2))), (5, .d (.sl (r6.1.map (cI .i64)))), (6, .d (.lit (.int .i64 r6.2))), (8, .d (.sl (r16.map (cI .i64)))), (9, .fn (.func 30) [.d (.pim [.sl (a0.map cS27)])]), (12, .d (.lit (.slice none 0 0)))] []) (Sub.table (by simp) (by simp)) ?_
        refine Chain.nil ?_
        refine AW.seq ?_
        refine AW.seqR ?_
        refine Chain.runK [] 1 fun K hK => ?_; simp; refine hK _ _ ?_; clear hK K
        refine Chain.sub (S' := mk 121 [] [(3, .d (.sl (r4.1.map (cI .i64)))), (4, .d (.lit (.int .i64 r4.2))), (5, .d (.sl (r6.1.map (cI .i64)))), (6, .d (.lit (.int .i64 r6.2))), (8, .d (.sl (r16.map (cI .i64)))), (9, .fn (.func 30) [.d (.pim [.sl (a0.map cS27)])]), (12, .d (.lit (.slice none 0 0))), (13, .d (.lit (.int .i64 2)))] []) (Sub.table (by simp) (by simp)) ?_
        refine Chain.nil ?_
        refine AW.lastN (fun (l134 : List Int) => mk 121 [] [(3, .d (.sl (r4.1.map (cI .i64)))), (4, .d (.lit (.int .i64 r4.2))), (5, .d (.sl (r6.1.map (cI .i64)))), (6, .d (.lit (.int .i64 r6.2))), (12, .d (.sl (l134.map (cI .i64))))] []) h ?_ ?_ <;> clear h
        · intro o h
          refine AW.block ?_
          refine AW.iter (fun ((l62, v63) : ((List Int) × Int)) => mk 121 [] [(3, .d (.sl (r4.1.map (cI .i64)))), (4, .d (.lit (.int .i64 r4.2))), (5, .d (.sl (r6.1.map (cI .i64)))), (6, .d (.lit (.int .i64 r6.2))), (8, .d (.sl (r16.map (cI .i64)))), (9, .fn (.func 30) [.d (.pim [.sl (a0.map cS27)])]), (12, .d (.sl (l62.map (cI .i64)))), (13, .d (.lit (.int .i64 v63)))] []) h (Sub.trans (Sub.wk 12 rfl) (by simp; exact Sub.table (by simp) (by simp))) ?_
          clear h
          rintro ⟨l62, v63⟩ x h
          dsimp only at h ⊢
          refine AW.seq ?_
          replace h := bsome h; obtain ⟨v136, hj, h⟩ := h
          refine AW.cutR (mk 121 [] [(3, .d (.sl (r4.1.map (cI .i64)))), (4, .d (.lit (.int .i64 r4.2))), (5, .d (.sl (r6.1.map (cI .i64)))), (6, .d (.lit (.int .i64 r6.2))), (8, .d (.sl (r16.map (cI .i64)))), (9, .fn (.func 30) [.d (.pim [.sl (a0.map cS27)])]), (12, .d (.sl (l62.map (cI .i64)))), (13, .d (.lit (.int .i64 v63))), (86, .d (.lit (.bool v136)))] []) ?_ ?_
          · clear h; have h := hj; clear hj
            refine Chain.runK [] 5 fun K hK => ?_; simp; refine hK _ _ ?_; clear hK K
            refine Chain.sub (S' := mk 121 [] [(3, .d (.sl (r4.1.map (cI .i64)))), (4, .d (.lit (.int .i64 r4.2))), (5, .d (.sl (r6.1.map (cI .i64)))), (6, .d (.lit (.int .i64 r6.2))), (8, .d (.sl (r16.map (cI .i64)))), (9, .fn (.func 30) [.d (.pim [.sl (a0.map cS27)])]), (12, .d (.sl (l62.map (cI .i64)))), (13, .d (.lit (.int .i64 v63))), (82, .d (.lit (.bool (decide (v63 ≤ (r16.length : Int))))))] []) (Sub.table (by simp) (by simp)) ?_
            replace h := isome h; rcases h with ⟨c137, h⟩ | ⟨c137, h⟩
            · have c137_ : decide (v63 ≤ (r16.length : Int)) = true := decide_eq_true c137
              refine Chain.sub (Sub.bool 82 (b := decide (v63 ≤ (r16.length : Int))) rfl c137_) ?_
              refine Chain.sub (S' := mk 121 [] [(3, .d (.sl (r4.1.map (cI .i64)))), (4, .d (.lit (.int .i64 r4.2))), (5, .d (.sl (r6.1.map (cI .i64)))), (6, .d (.lit (.int .i64 r6.2))), (8, .d (.sl (r16.map (cI .i64)))), (9, .fn (.func 30) [.d (.pim [.sl (a0.map cS27)])]), (12, .d (.sl (l62.map (cI .i64)))), (13, .d (.lit (.int .i64 v63))), (82, .d (.lit (.bool true)))] []) (by simp; exact Sub.table (by simp) (by simp)) ?_
              refine Chain.runK [] 4 fun K hK => ?_; simp; refine hK _ _ ?_; clear hK K
              refine Chain.sub (S' := mk 121 [] [(3, .d (.sl (r4.1.map (cI .i64)))), (4, .d (.lit (.int .i64 r4.2))), (5, .d (.sl (r6.1.map (cI .i64)))), (6, .d (.lit (.int .i64 r6.2))), (8, .d (.sl (r16.map (cI .i64)))), (9, .fn (.func 30) [.d (.pim [.sl (a0.map cS27)])]), (12, .d (.sl (l62.map (cI .i64)))), (13, .d (.lit (.int .i64 v63))), (83, .d (.sl (l62.map (cI .i64)))), (84, .d (.lit (.int .i64 (l62.length : Int)))), (85, .d (.lit (.bool ((l62.length : Int) == 0)))), (86, .d (.lit (.bool ((l62.length : Int) == 0))))] []) (Sub.table (by simp) (by simp)) ?_
              cases h
              exact Chain.nil (Sub.table (by simp) (by simp))
            · have c137_ : decide (v63 ≤ (r16.length : Int)) = false := decide_eq_false c137
              refine Chain.sub (Sub.bool 82 (b := decide (v63 ≤ (r16.length : Int))) rfl c137_) ?_
              refine Chain.sub (S' := mk 121 [] [(3, .d (.sl (r4.1.map (cI .i64)))), (4, .d (.lit (.int .i64 r4.2))), (5, .d (.sl (r6.1.map (cI .i64)))), (6, .d (.lit (.int .i64 r6.2))), (8, .d (.sl (r16.map (cI .i64)))), (9, .fn (.func 30) [.d (.pim [.sl (a0.map cS27)])]), (12, .d (.sl (l62.map (cI .i64)))), (13, .d (.lit (.int .i64 v63))), (82, .d (.lit (.bool false)))] []) (by simp; exact Sub.table (by simp) (by simp)) ?_
              refine Chain.runK [] 4 fun K hK => ?_; simp; refine hK _ _ ?_; clear hK K
              refine Chain.sub (S' := mk 121 [] [(3, .d (.sl (r4.1.map (cI .i64)))), (4, .d (.lit (.int .i64 r4.2))), (5, .d (.sl (r6.1.map (cI .i64)))), (6, .d (.lit (.int .i64 r6.2))), (8, .d (.sl (r16.map (cI .i64)))), (9, .fn (.func 30) [.d (.pim [.sl (a0.map cS27)])]), (12, .d (.sl (l62.map (cI .i64)))), (13, .d (.lit (.int .i64 v63))), (83, .tup []), (84, .tup []), (85, .tup []), (86, .d (.lit (.bool false)))] []) (Sub.table (by simp) (by simp)) ?_
              cases h
              exact Chain.nil (Sub.table (by simp) (by simp))
          · clear hj
            replace h := isome h; rcases h with ⟨c138, h⟩ | ⟨c138, h⟩
            · have c138_ : v136 = true := c138
              refine AW.condT (b := v136) rfl c138_ ?_
              refine AW.sub (Sub.bool 86 (b := v136) rfl c138_) ?_
              refine AW.sub (S' := mk 121 [] [(3, .d (.sl (r4.1.map (cI .i64)))), (4, .d (.lit (.int .i64 r4.2))), (5, .d (.sl (r6.1.map (cI .i64)))), (6, .d (.lit (.int .i64 r6.2))), (8, .d (.sl (r16.map (cI .i64)))), (9, .fn (.func 30) [.d (.pim [.sl (a0.map cS27)])]), (12, .d (.sl (l62.map (cI .i64)))), (13, .d (.lit (.int .i64 v63))), (86, .d (.lit (.bool true)))] []) (by simp; exact Sub.table (by simp) (by simp)) ?_
              refine AW.skip ?_
              refine thenQ_normal ?_
              refine AW.seq ?_
              refine AW.block ?_
              refine AW.seqR ?_
              refine Chain.runK [] 3 fun K hK => ?_; simp; refine hK _ _ ?_; clear hK K
              refine Chain.sub (S' := mk 121 [] [(3, .d (.sl (r4.1.map (cI .i64)))), (4, .d (.lit (.int .i64 r4.2))), (5, .d (.sl (r6.1.map (cI .i64)))), (6, .d (.lit (.int .i64 r6.2))), (8, .d (.sl (r16.map (cI .i64)))), (9, .fn (.func 30) [.d (.pim [.sl (a0.map cS27)])]), (12, .d (.sl (l62.map (cI .i64)))), (13, .d (.lit (.int .i64 v63))), (89, .d (.sl (r16.map (cI .i64)))), (90, .d (.lit (.int .i64 (r16.length : Int)))), (91, .d (.lit (.int .i64 0)))] []) (Sub.table (by simp) (by simp)) ?_
              refine Chain.nil ?_
              refine AW.lastN (fun (l161 : List Int) => mk 121 [] [(3, .d (.sl (r4.1.map (cI .i64)))), (4, .d (.lit (.int .i64 r4.2))), (5, .d (.sl (r6.1.map (cI .i64)))), (6, .d (.lit (.int .i64 r6.2))), (8, .d (.sl (r16.map (cI .i64)))), (9, .fn (.func 30) [.d (.pim [.sl (a0.map cS27)])]), (12, .d (.sl (l161.map (cI .i64)))), (13, .d (.lit (.int .i64 v63)))] []) h ?_ ?_ <;> clear h
              · intro o h
                refine AW.block ?_
                refine AW.iter (fun ((l145, v146) : ((List Int) × Int)) => mk 121 [] [(3, .d (.sl (r4.1.map (cI .i64)))), (4, .d (.lit (.int .i64 r4.2))), (5, .d (.sl (r6.1.map (cI .i64)))), (6, .d (.lit (.int .i64 r6.2))), (8, .d (.sl (r16.map (cI .i64)))), (9, .fn (.func 30) [.d (.pim [.sl (a0.map cS27)])]), (12, .d (.sl (l145.map (cI .i64)))), (13, .d (.lit (.int .i64 v63))), (89, .d (.sl (r16.map (cI .i64)))), (90, .d (.lit (.int .i64 (r16.length : Int)))), (91, .d (.lit (.int .i64 v146)))] []) h (Sub.table (by simp) (by simp)) ?_
                clear h
                rintro ⟨l145, v146⟩ x h
                dsimp only at h ⊢
                refine AW.seqR ?_
                refine Chain.runK [] 1 fun K hK => ?_; simp; refine hK _ _ ?_; clear hK K
                refine Chain.sub (S' := mk 121 [] [(3, .d (.sl (r4.1.map (cI .i64)))), (4, .d (.lit (.int .i64 r4.2))), (5, .d (.sl (r6.1.map (cI .i64)))), (6, .d (.lit (.int .i64 r6.2))), (8, .d (.sl (r16.map (cI .i64)))), (9, .fn (.func 30) [.d (.pim [.sl (a0.map cS27)])]), (12, .d (.sl (l145.map (cI .i64)))), (13, .d (.lit (.int .i64 v63))), (89, .d (.sl (r16.map (cI .i64)))), (90, .d (.lit (.int .i64 (r16.length : Int)))), (91, .d (.lit (.int .i64 v146))), (92, .d (.lit (.bool (decide (v146 < (r16.length : Int))))))] []) (Sub.table (by simp) (by simp)) ?_
                refine Chain.nil ?_
                refine AW.seq ?_
                replace h := isome h; rcases h with ⟨c162, h⟩ | ⟨c162, h⟩
                · have c162_ : decide (v146 < (r16.length : Int)) = true := decide_eq_true c162
                  refine AW.condT (b := decide (v146 < (r16.length : Int))) rfl c162_ ?_
                  refine AW.sub (Sub.bool 92 (b := decide (v146 < (r16.length : Int))) rfl c162_) ?_
                  refine AW.sub (S' := mk 121 [] [(3, .d (.sl (r4.1.map (cI .i64)))), (4, .d (.lit (.int .i64 r4.2))), (5, .d (.sl (r6.1.map (cI .i64)))), (6, .d (.lit (.int .i64 r6.2))), (8, .d (.sl (r16.map (cI .i64)))), (9, .fn (.func 30) [.d (.pim [.sl (a0.map cS27)])]), (12, .d (.sl (l145.map (cI .i64)))), (13, .d (.lit (.int .i64 v63))), (89, .d (.sl (r16.map (cI .i64)))), (90, .d (.lit (.int .i64 (r16.length : Int)))), (91, .d (.lit (.int .i64 v146))), (92, .d (.lit (.bool true)))] []) (by simp; exact Sub.table (by simp) (by simp)) ?_
                  refine AW.skip ?_
                  refine thenQ_normal ?_
                  refine AW.seq ?_
                  refine AW.block ?_
                  refine AW.seqR ?_
                  replace h := bsome h; obtain ⟨x163, hx163, h⟩ := h
                  obtain ⟨k164, hx163k, hx163, hx163a, hx163b⟩ := idx_some hx163
                  refine Chain.runK [] 3 fun K hK => ?_; simp [hx163, hx163k, hx163a]; refine hK _ _ ?_; clear hK K
                  refine Chain.sub (S' := mk 121 [] [(3, .d (.sl (r4.1.map (cI .i64)))), (4, .d (.lit (.int .i64 r4.2))), (5, .d (.sl (r6.1.map (cI .i64)))), (6, .d (.lit (.int .i64 r6.2))), (8, .d (.sl (r16.map (cI .i64)))), (9, .fn (.func 30) [.d (.pim [.sl (a0.map cS27)])]), (13, .d (.lit (.int .i64 v63))), (15, .d (.lit (.int .i64 x163))), (89, .d (.sl (r16.map (cI .i64)))), (90, .d (.lit (.int .i64 (r16.length : Int)))), (91, .d (.lit (.int .i64 v146)))] []) (Sub.table (by simp) (by simp)) ?_
                  refine Chain.nil ?_
                  refine AW.seqR ?_
                  refine Chain.runK [] 5 fun K hK => ?_; simp; refine hK _ _ ?_; clear hK K
                  refine Chain.sub (S' := mk 121 [] [(3, .d (.sl (r4.1.map (cI .i64)))), (4, .d (.lit (.int .i64 r4.2))), (5, .d (.sl (r6.1.map (cI .i64)))), (6, .d (.lit (.int .i64 r6.2))), (8, .d (.sl (r16.map (cI .i64)))), (9, .fn (.func 30) [.d (.pim [.sl (a0.map cS27)])]), (13, .d (.lit (.int .i64 v63))), (89, .d (.sl (r16.map (cI .i64)))), (90, .d (.lit (.int .i64 (r16.length : Int)))), (91, .d (.lit (.int .i64 v146))), (95, .d (.sl (r16.map (cI .i64)))), (96, .fn (.func 30) [.d (.pim [.sl (a0.map cS27)])]), (98, .ref 98 0 (([x163] : List Int).length)), (99, .d (.lit (.int .i64 v63)))] [(98, some (.arr 3 1 (([x163] : List Int).map (cI .i64))))]) (Sub.table (by simp) (by simp)) ?_
                  refine Chain.sub (Sub.freeze 98 rfl) ?_
                  refine Chain.sub (S' := mk 121 [] [(3, .d (.sl (r4.1.map (cI .i64)))), (4, .d (.lit (.int .i64 r4.2))), (5, .d (.sl (r6.1.map (cI .i64)))), (6, .d (.lit (.int .i64 r6.2))), (8, .d (.sl (r16.map (cI .i64)))), (9, .fn (.func 30) [.d (.pim [.sl (a0.map cS27)])]), (13, .d (.lit (.int .i64 v63))), (89, .d (.sl (r16.map (cI .i64)))), (90, .d (.lit (.int .i64 (r16.length : Int)))), (91, .d (.lit (.int .i64 v146))), (95, .d (.sl (r16.map (cI .i64)))), (96, .fn (.func 30) [.d (.pim [.sl (a0.map cS27)])]), (98, .d (.sl (([x163] : List Int).map (cI .i64)))), (99, .d (.lit (.int .i64 v63)))] []) (by simp; exact Sub.table (by simp) (by simp)) ?_
                  replace h := bsome h; obtain ⟨r165, hr165, h⟩ := h
                  refine Chain.callC (d := 100) (p32 N r16 30 [.pim [.sl (a0.map cS27)]] (fun b0 b1 => d30 N b0 b1 a0) ent30 (fun b0 b1 r h => p30 N b0 b1 a0 r h) ([x163] : List Int) v63 r165 hr165) (by simp) rfl rfl (by simp <;> rfl) (by simp <;> rfl) ent32 (by simp) (.inl ⟨by simp, by simp⟩) ?_
                  refine Chain.sub (S' := mk 121 [] [(3, .d (.sl (r4.1.map (cI .i64)))), (4, .d (.lit (.int .i64 r4.2))), (5, .d (.sl (r6.1.map (cI .i64)))), (6, .d (.lit (.int .i64 r6.2))), (8, .d (.sl (r16.map (cI .i64)))), (9, .fn (.func 30) [.d (.pim [.sl (a0.map cS27)])]), (13, .d (.lit (.int .i64 v63))), (89, .d (.sl (r16.map (cI .i64)))), (90, .d (.lit (.int .i64 (r16.length : Int)))), (91, .d (.lit (.int .i64 v146))), (95, .d (.sl (r16.map (cI .i64)))), (96, .fn (.func 30) [.d (.pim [.sl (a0.map cS27)])]), (98, .d (.sl (([x163] : List Int).map (cI .i64)))), (99, .d (.lit (.int .i64 v63))), (100, .d (.sl (r165.map (cI .i64))))] []) (by simp; exact Sub.table (by simp) (by simp)) ?_
                  refine Chain.runK [] 1 fun K hK => ?_; simp; refine hK _ _ ?_; clear hK K
                  refine Chain.sub (S' := mk 121 [] [(3, .d (.sl (r4.1.map (cI .i64)))), (4, .d (.lit (.int .i64 r4.2))), (5, .d (.sl (r6.1.map (cI .i64)))), (6, .d (.lit (.int .i64 r6.2))), (8, .d (.sl (r16.map (cI .i64)))), (9, .fn (.func 30) [.d (.pim [.sl (a0.map cS27)])]), (12, .d (.sl (r165.map (cI .i64)))), (13, .d (.lit (.int .i64 v63))), (89, .d (.sl (r16.map (cI .i64)))), (90, .d (.lit (.int .i64 (r16.length : Int)))), (91, .d (.lit (.int .i64 v146)))] []) (Sub.table (by simp) (by simp)) ?_
                  refine Chain.nil ?_
                  refine AW.seqR ?_
                  refine Chain.runK [] 3 fun K hK => ?_; simp; refine hK _ _ ?_; clear hK K
                  refine Chain.sub (S' := mk 121 [] [(3, .d (.sl (r4.1.map (cI .i64)))), (4, .d (.lit (.int .i64 r4.2))), (5, .d (.sl (r6.1.map (cI .i64)))), (6, .d (.lit (.int .i64 r6.2))), (8, .d (.sl (r16.map (cI .i64)))), (9, .fn (.func 30) [.d (.pim [.sl (a0.map cS27)])]), (12, .d (.sl (r165.map (cI .i64)))), (13, .d (.lit (.int .i64 v63))), (89, .d (.sl (r16.map (cI .i64)))), (90, .d (.lit (.int .i64 (r16.length : Int)))), (91, .d (.lit (.int .i64 v146))), (103, .d (.lit (.bool (decide ((r165.length : Int) > 0)))))] []) (Sub.table (by simp) (by simp)) ?_
                  refine Chain.nil ?_
                  replace h := isome h; rcases h with ⟨c166, h⟩ | ⟨c166, h⟩
                  · have c166_ : decide ((r165.length : Int) > 0) = true := decide_eq_true c166
                    refine AW.condT (b := decide ((r165.length : Int) > 0)) rfl c166_ ?_
                    refine AW.sub (Sub.bool 103 (b := decide ((r165.length : Int) > 0)) rfl c166_) ?_
                    refine AW.sub (S' := mk 121 [] [(3, .d (.sl (r4.1.map (cI .i64)))), (4, .d (.lit (.int .i64 r4.2))), (5, .d (.sl (r6.1.map (cI .i64)))), (6, .d (.lit (.int .i64 r6.2))), (8, .d (.sl (r16.map (cI .i64)))), (9, .fn (.func 30) [.d (.pim [.sl (a0.map cS27)])]), (12, .d (.sl (r165.map (cI .i64)))), (13, .d (.lit (.int .i64 v63))), (89, .d (.sl (r16.map (cI .i64)))), (90, .d (.lit (.int .i64 (r16.length : Int)))), (91, .d (.lit (.int .i64 v146))), (103, .d (.lit (.bool true)))] []) (by simp; exact Sub.table (by simp) (by simp)) ?_
                    refine AW.exit ?_
                    cases h
                    refine blockQ.pass (by decide) ?_
                    refine thenQ_pass (by simp) ?_
                    refine PostI.out (by simp) ?_
                    rintro rfl
                    refine blockQ.hit ?_
                    refine PostN.next ?_
                    exact (Sub.table (by simp) (by simp))
                  · have c166_ : decide ((r165.length : Int) > 0) = false := decide_eq_false c166
                    refine AW.condF (b := decide ((r165.length : Int) > 0)) rfl c166_ ?_
                    refine AW.sub (Sub.bool 103 (b := decide ((r165.length : Int) > 0)) rfl c166_) ?_
                    refine AW.sub (S' := mk 121 [] [(3, .d (.sl (r4.1.map (cI .i64)))), (4, .d (.lit (.int .i64 r4.2))), (5, .d (.sl (r6.1.map (cI .i64)))), (6, .d (.lit (.int .i64 r6.2))), (8, .d (.sl (r16.map (cI .i64)))), (9, .fn (.func 30) [.d (.pim [.sl (a0.map cS27)])]), (12, .d (.sl (r165.map (cI .i64)))), (13, .d (.lit (.int .i64 v63))), (89, .d (.sl (r16.map (cI .i64)))), (90, .d (.lit (.int .i64 (r16.length : Int)))), (91, .d (.lit (.int .i64 v146))), (103, .d (.lit (.bool false)))] []) (by simp; exact Sub.table (by simp) (by simp)) ?_
                    refine AW.skip ?_
                    refine blockQ.normal ?_
                    refine thenQ_normal ?_
                    refine AW.region ?_
                    replace h := bsome h; obtain ⟨v167, hv167, h⟩ := h
                    have hv167 := chkI_some hv167
                    refine Chain.runK [] 2 fun K hK => ?_; simp [hv167]; refine hK _ _ ?_; clear hK K
                    refine Chain.sub (S' := mk 121 [] [(3, .d (.sl (r4.1.map (cI .i64)))), (4, .d (.lit (.int .i64 r4.2))), (5, .d (.sl (r6.1.map (cI .i64)))), (6, .d (.lit (.int .i64 r6.2))), (8, .d (.sl (r16.map (cI .i64)))), (9, .fn (.func 30) [.d (.pim [.sl (a0.map cS27)])]), (12, .d (.sl (r165.map (cI .i64)))), (13, .d (.lit (.int .i64 v63))), (89, .d (.sl (r16.map (cI .i64)))), (90, .d (.lit (.int .i64 (r16.length : Int)))), (91, .d (.lit (.int .i64 v167)))] []) (Sub.table (by simp) (by simp)) ?_
                    refine Chain.nil ?_
                    cases h
                    refine PostI.next ?_
                    exact (Sub.table (by simp) (by simp))
                · have c162_ : decide (v146 < (r16.length : Int)) = false := decide_eq_false c162
                  refine AW.condF (b := decide (v146 < (r16.length : Int))) rfl c162_ ?_
                  refine AW.sub (Sub.bool 92 (b := decide (v146 < (r16.length : Int))) rfl c162_) ?_
                  refine AW.sub (S' := mk 121 [] [(3, .d (.sl (r4.1.map (cI .i64)))), (4, .d (.lit (.int .i64 r4.2))), (5, .d (.sl (r6.1.map (cI .i64)))), (6, .d (.lit (.int .i64 r6.2))), (8, .d (.sl (r16.map (cI .i64)))), (9, .fn (.func 30) [.d (.pim [.sl (a0.map cS27)])]), (12, .d (.sl (l145.map (cI .i64)))), (13, .d (.lit (.int .i64 v63))), (89, .d (.sl (r16.map (cI .i64)))), (90, .d (.lit (.int .i64 (r16.length : Int)))), (91, .d (.lit (.int .i64 v146))), (92, .d (.lit (.bool false)))] []) (by simp; exact Sub.table (by simp) (by simp)) ?_
                  refine AW.exit ?_
                  cases h
                  refine thenQ_pass (by simp) ?_
                  refine PostI.out (by simp) ?_
                  rintro rfl
                  refine blockQ.hit ?_
                  refine PostN.next ?_
                  exact (Sub.table (by simp) (by simp))
              · rintro l161 h
                refine blockQ.normal ?_
                refine thenQ_normal ?_
                refine AW.region ?_
                replace h := bsome h; obtain ⟨v168, hv168, h⟩ := h
                have hv168 := chkI_some hv168
                refine Chain.runK [] 3 fun K hK => ?_; simp [hv168]; refine hK _ _ ?_; clear hK K
                refine Chain.sub (S' := mk 121 [] [(3, .d (.sl (r4.1.map (cI .i64)))), (4, .d (.lit (.int .i64 r4.2))), (5, .d (.sl (r6.1.map (cI .i64)))), (6, .d (.lit (.int .i64 r6.2))), (8, .d (.sl (r16.map (cI .i64)))), (9, .fn (.func 30) [.d (.pim [.sl (a0.map cS27)])]), (12, .d (.sl (l161.map (cI .i64)))), (13, .d (.lit (.int .i64 v168)))] []) (Sub.table (by simp) (by simp)) ?_
                refine Chain.nil ?_
                cases h
                refine PostI.next ?_
                exact (Sub.table (by simp) (by simp))
            · have c138_ : v136 = false := Bool.eq_false_iff.2 c138
              refine AW.condF (b := v136) rfl c138_ ?_
              refine AW.sub (Sub.bool 86 (b := v136) rfl c138_) ?_
              refine AW.sub (S' := mk 121 [] [(3, .d (.sl (r4.1.map (cI .i64)))), (4, .d (.lit (.int .i64 r4.2))), (5, .d (.sl (r6.1.map (cI .i64)))), (6, .d (.lit (.int .i64 r6.2))), (8, .d (.sl (r16.map (cI .i64)))), (9, .fn (.func 30) [.d (.pim [.sl (a0.map cS27)])]), (12, .d (.sl (l62.map (cI .i64)))), (13, .d (.lit (.int .i64 v63))), (86, .d (.lit (.bool false)))] []) (by simp; exact Sub.table (by simp) (by simp)) ?_
              refine AW.exit ?_
              cases h
              refine thenQ_pass (by simp) ?_
              refine PostI.out (by simp) ?_
              rintro rfl
              refine blockQ.hit ?_
              refine PostN.next ?_
              exact (Sub.table (by simp) (by simp))
        · rintro l134 h
          refine thenQ_normal ?_
          replace h := bsome h; obtain ⟨v173, hj, h⟩ := h
          refine AW.cutR (mk 121 [] [(2, .d (.lit (.bool v173)))] []) ?_ ?_
          · clear h; have h := hj; clear hj
            refine Chain.runK [] 3 fun K hK => ?_; simp; refine hK _ _ ?_; clear hK K
            refine Chain.sub (S' := mk 121 [] [(3, .d (.sl (r4.1.map (cI .i64)))), (5, .d (.sl (r6.1.map (cI .i64)))), (6, .d (.lit (.int .i64 r6.2))), (12, .d (.sl (l134.map (cI .i64)))), (107, .d (.lit (.bool (r4.2 == 14))))] []) (Sub.table (by simp) (by simp)) ?_
            replace h := isome h; rcases h with ⟨c174, h⟩ | ⟨c174, h⟩
            · have c174_ : (r4.2 == 14) = true := c174
              refine Chain.sub (Sub.bool 107 (b := (r4.2 == 14)) rfl c174_) ?_
              refine Chain.sub (S' := mk 121 [] [(3, .d (.sl (r4.1.map (cI .i64)))), (5, .d (.sl (r6.1.map (cI .i64)))), (6, .d (.lit (.int .i64 r6.2))), (12, .d (.sl (l134.map (cI .i64)))), (107, .d (.lit (.bool true)))] []) (by simp; exact Sub.table (by simp) (by simp)) ?_
              refine Chain.runK [] 5 fun K hK => ?_; simp; refine hK _ _ ?_; clear hK K
              refine Chain.sub (S' := mk 121 [] [(5, .d (.sl (r6.1.map (cI .i64)))), (6, .d (.lit (.int .i64 r6.2))), (12, .d (.sl (l134.map (cI .i64)))), (112, .d (.lit (.bool ((r4.1.length : Int) == 0))))] []) (Sub.table (by simp) (by simp)) ?_
              replace h := isome h; rcases h with ⟨c175, h⟩ | ⟨c175, h⟩
              · have c175_ : ((r4.1.length : Int) == 0) = true := c175
                refine Chain.sub (Sub.bool 112 (b := ((r4.1.length : Int) == 0)) rfl c175_) ?_
                refine Chain.sub (S' := mk 121 [] [(5, .d (.sl (r6.1.map (cI .i64)))), (6, .d (.lit (.int .i64 r6.2))), (12, .d (.sl (l134.map (cI .i64)))), (112, .d (.lit (.bool true)))] []) (by simp; exact Sub.table (by simp) (by simp)) ?_
                refine Chain.runK [] 4 fun K hK => ?_; simp; refine hK _ _ ?_; clear hK K
                refine Chain.sub (S' := mk 121 [] [(5, .d (.sl (r6.1.map (cI .i64)))), (12, .d (.sl (l134.map (cI .i64)))), (116, .d (.lit (.bool (r6.2 == 0))))] []) (Sub.table (by simp) (by simp)) ?_
                replace h := isome h; rcases h with ⟨c176, h⟩ | ⟨c176, h⟩
                · have c176_ : (r6.2 == 0) = true := c176
                  refine Chain.sub (Sub.bool 116 (b := (r6.2 == 0)) rfl c176_) ?_
                  refine Chain.sub (S' := mk 121 [] [(5, .d (.sl (r6.1.map (cI .i64)))), (12, .d (.sl (l134.map (cI .i64)))), (116, .d (.lit (.bool true)))] []) (by simp; exact Sub.table (by simp) (by simp)) ?_
                  refine Chain.runK [] 2 fun K hK => ?_; simp; refine hK _ _ ?_; clear hK K
                  refine Chain.sub (S' := mk 121 [] [(116, .d (.lit (.bool true))), (117, .d (.sl (r6.1.map (cI .i64)))), (118, .d (.sl (l134.map (cI .i64))))] []) (Sub.table (by simp) (by simp)) ?_
                  replace h := bsome h; obtain ⟨r177, hr177, h⟩ := h
                  refine Chain.callL (d := 119) (p22 N r6.1 l134 r177 hr177) (by simp) rfl rfl (by simp <;> rfl) (by simp <;> rfl) ent22 (by simp <;> rfl) ?_
                  refine Chain.sub (S' := mk 121 [] [(116, .d (.lit (.bool true))), (117, .d (.sl (r6.1.map (cI .i64)))), (118, .d (.sl (l134.map (cI .i64)))), (119, .d (.lit (.bool r177)))] []) (by simp; exact Sub.table (by simp) (by simp)) ?_
                  refine Chain.runK [] 2 fun K hK => ?_; simp; refine hK _ _ ?_; clear hK K
                  refine Chain.sub (S' := mk 121 [] [(2, .d (.lit (.bool r177)))] []) (Sub.table (by simp) (by simp)) ?_
                  cases h
                  exact Chain.nil (Sub.table (by simp) (by simp))
                · have c176_ : (r6.2 == 0) = false := Bool.eq_false_iff.2 c176
                  refine Chain.sub (Sub.bool 116 (b := (r6.2 == 0)) rfl c176_) ?_
                  refine Chain.sub (S' := mk 121 [] [(5, .d (.sl (r6.1.map (cI .i64)))), (12, .d (.sl (l134.map (cI .i64)))), (116, .d (.lit (.bool false)))] []) (by simp; exact Sub.table (by simp) (by simp)) ?_
                  refine Chain.runK [] 5 fun K hK => ?_; simp; refine hK _ _ ?_; clear hK K
                  refine Chain.sub (S' := mk 121 [] [(2, .d (.lit (.bool false)))] []) (Sub.table (by simp) (by simp)) ?_
                  cases h
                  exact Chain.nil (Sub.table (by simp) (by simp))
              · have c175_ : ((r4.1.length : Int) == 0) = false := Bool.eq_false_iff.2 c175
                refine Chain.sub (Sub.bool 112 (b := ((r4.1.length : Int) == 0)) rfl c175_) ?_
                refine Chain.sub (S' := mk 121 [] [(5, .d (.sl (r6.1.map (cI .i64)))), (6, .d (.lit (.int .i64 r6.2))), (12, .d (.sl (l134.map (cI .i64)))), (112, .d (.lit (.bool false)))] []) (by simp; exact Sub.table (by simp) (by simp)) ?_
                refine Chain.runK [] 9 fun K hK => ?_; simp; refine hK _ _ ?_; clear hK K
                refine Chain.sub (S' := mk 121 [] [(2, .d (.lit (.bool false)))] []) (Sub.table (by simp) (by simp)) ?_
                cases h
                exact Chain.nil (Sub.table (by simp) (by simp))
            · have c174_ : (r4.2 == 14) = false := Bool.eq_false_iff.2 c174
              refine Chain.sub (Sub.bool 107 (b := (r4.2 == 14)) rfl c174_) ?_
              refine Chain.sub (S' := mk 121 [] [(3, .d (.sl (r4.1.map (cI .i64)))), (5, .d (.sl (r6.1.map (cI .i64)))), (6, .d (.lit (.int .i64 r6.2))), (12, .d (.sl (l134.map (cI .i64)))), (107, .d (.lit (.bool false)))] []) (by simp; exact Sub.table (by simp) (by simp)) ?_
              refine Chain.runK [] 14 fun K hK => ?_; simp; refine hK _ _ ?_; clear hK K
              refine Chain.sub (S' := mk 121 [] [(2, .d (.lit (.bool false)))] []) (Sub.table (by simp) (by simp)) ?_
              cases h
              exact Chain.nil (Sub.table (by simp) (by simp))
          · clear hj
            refine AW.ret ?_
            cases h
            exact FinC.ret (by simp) (by simp)

end Go.Proofs.Ytabjbkdlacibjaa
