/- Functions of the program as functional programs; the code computes them. -/
import Derived.Test.YtabjbkdlacibjaaCg5
namespace Go.Proofs.Ytabjbkdlacibjaa
open Go.Ab Go.Rp
attribute [-simp] List.all_eq_true Array.all_toList Array.all_eq_true

/-- stemma/stemlaw5.ConflictGraphMatchesReference -/
def d4 (N : Nat) (a0 : (List S27)) : Option Bool :=
  (d15 N ).bind fun r1 =>
  if (!r1) = true then (
    some false
  ) else
  (d11 N a0).bind fun r3 =>
  (d16 N r3).bind fun r4 =>
  (d17 N r3).bind fun r5 =>
  (d12 N a0).bind fun r6 =>
  Option.bind (α := Bool) (
    (d18 N r3).bind fun r11 =>
    if (r11 != r6) then (
      some true
    ) else
    if (r4.2 != r6) then (
      some true
    ) else
    some (r5.2 != r6)
  ) fun (v10 : Bool) =>
  if v10 = true then (
    some false
  ) else
  if (r6 != 0) then (
    Option.bind (α := Bool) (
      if ((r4.1.length : Int) == 0) then (
        some ((r5.1.length : Int) == 0)
      ) else
      some false
    ) fun (v17 : Bool) =>
    some v17
  ) else
  Option.bind (α := List S43) (
    iterN (σ := ((List S43) × Int)) (ρ := List S43) (fun ((l66, v67) : ((List S43) × Int)) =>
      if v67 < 20 then (
        Option.bind (α := List S43) (
          iterN (σ := ((List S43) × Int)) (ρ := List S43) (fun ((l176, v177) : ((List S43) × Int)) =>
            if v177 < 20 then (
              Option.bind (α := Bool) (
                if (v67 != v177) then (
                  (d19 N a0 v67 v177).bind fun r206 =>
                  some r206
                ) else
                some false
              ) fun (v204 : Bool) =>
              if v204 = true then (
                (appL 16 l176 [(S43.mk v67 v177)]).bind fun l208 =>
                (chkI (v177 + 1)).bind fun v209 =>
                some (.inl ((l176 ++ [(S43.mk v67 v177)]), v209))
              ) else
              (chkI (v177 + 1)).bind fun v210 =>
              some (.inl (l176, v210))
            ) else
            some (.inr l176)
          ) N (l66, 0)
        ) fun (l200 : List S43) =>
        (chkI (v67 + 1)).bind fun v211 =>
        some (.inl (l200, v211))
      ) else
      some (.inr l66)
    ) N (([] : List S43), 0)
  ) fun (l164 : List S43) =>
  bindO (β := Unit) (ρ := Bool) (
    iterN (σ := Int) (ρ := (Out Unit Bool)) (fun (v226 : Int) =>
      if v226 < (r3.length : Int) then (
        (chkI (v226 - 1)).bind fun v257 =>
        (idx r3 v257).bind fun x258 =>
        (idx r3 v226).bind fun x260 =>
        (d20 N x258 x260).bind fun r262 =>
        (chkI (v226 - 1)).bind fun v263 =>
        (idx a0 v263).bind fun x264 =>
        (idx a0 v226).bind fun x266 =>
        (d21 N x264 x266).bind fun r267 =>
        if (!(r262 == r267)) then (
          some (.inr (.ret false))
        ) else
        (chkI (v226 + 1)).bind fun v269 =>
        some (.inl v269)
      ) else
      some (.inr (.go ()))
    ) N 1
  ) fun (_ : Unit) =>
  Option.bind (α := Bool) (
    (d23 N a0).bind fun r275 =>
    (d22 N r4.1 r275).bind fun r276 =>
    if r276 = true then (
      (d24 N r5.1 l164).bind fun r278 =>
      some r278
    ) else
    some false
  ) fun (v274 : Bool) =>
  some v274
set_option maxRecDepth 100000 in
set_option maxHeartbeats 4000000 in
theorem p4 (N : Nat) (a0 : (List S27)) (r : Bool) (h : d4 N a0 = some r) : FunC Try.prog 4 [.d (.sl (a0.map cS27))] (.d (.lit (.bool r))) := by
  unfold d4 at h
  refine FunC.enter 112 [(0, .d (.sl (a0.map cS27)))] (by simp) Try.func4 rfl (of_decide_eq_true rfl) rfl rfl ?_
  refine AW.seqR ?_
  refine Chain.runK [] 1 fun K hK => ?_; simp; refine hK _ _ ?_; clear hK K
  refine Chain.sub (S' := mk 112 [] [(0, .d (.sl (a0.map cS27)))] []) (Sub.table (by simp) (by simp)) ?_
  refine Chain.nil ?_
  refine AW.seq ?_
  refine AW.seqR ?_
  replace h := bsome h; obtain ⟨r1, hr1, h⟩ := h
  refine Chain.callL (d := 13) (p15 N  r1 hr1) (by simp) rfl rfl (by simp <;> rfl) (by simp <;> rfl) ent15 (by simp <;> rfl) ?_
  refine Chain.sub (S' := mk 112 [] [(0, .d (.sl (a0.map cS27))), (13, .d (.lit (.bool r1)))] []) (by simp; exact Sub.table (by simp) (by simp)) ?_
  refine Chain.runK [] 1 fun K hK => ?_; simp; refine hK _ _ ?_; clear hK K
  refine Chain.sub (S' := mk 112 [] [(0, .d (.sl (a0.map cS27))), (14, .d (.lit (.bool (!r1))))] []) (Sub.table (by simp) (by simp)) ?_
  refine Chain.nil ?_
  replace h := isome h; rcases h with ⟨c2, h⟩ | ⟨c2, h⟩
  · have c2_ : (!r1) = true := c2
    refine AW.condT (b := (!r1)) rfl c2_ ?_
    refine AW.sub (Sub.bool 14 (b := (!r1)) rfl c2_) ?_
    refine AW.sub (S' := mk 112 [] [(0, .d (.sl (a0.map cS27))), (14, .d (.lit (.bool true)))] []) (by simp; exact Sub.table (by simp) (by simp)) ?_
    refine AW.seqR ?_
    refine Chain.runK [] 1 fun K hK => ?_; simp; refine hK _ _ ?_; clear hK K
    refine Chain.sub (S' := mk 112 [] [(2, .d (.lit (.bool false)))] []) (Sub.table (by simp) (by simp)) ?_
    refine Chain.nil ?_
    refine AW.ret ?_
    cases h
    refine thenQ_pass (by simp) ?_
    exact FinC.ret (by simp) (by simp)
  · have c2_ : (!r1) = false := Bool.eq_false_iff.2 c2
    refine AW.condF (b := (!r1)) rfl c2_ ?_
    refine AW.sub (Sub.bool 14 (b := (!r1)) rfl c2_) ?_
    refine AW.sub (S' := mk 112 [] [(0, .d (.sl (a0.map cS27))), (14, .d (.lit (.bool false)))] []) (by simp; exact Sub.table (by simp) (by simp)) ?_
    refine AW.skip ?_
    refine thenQ_normal ?_
    refine AW.seqR ?_
    refine Chain.runK [] 1 fun K hK => ?_; simp; refine hK _ _ ?_; clear hK K
    refine Chain.sub (S' := mk 112 [] [(0, .d (.sl (a0.map cS27))), (15, .d (.sl (a0.map cS27)))] []) (Sub.table (by simp) (by simp)) ?_
    replace h := bsome h; obtain ⟨r3, hr3, h⟩ := h
    refine Chain.callC (d := 16) (p11 N a0 r3 hr3) (by simp) rfl rfl (by simp <;> rfl) (by simp <;> rfl) ent11 (by simp) (.inl ⟨by simp, by simp⟩) ?_
    refine Chain.sub (S' := mk 112 [] [(0, .d (.sl (a0.map cS27))), (15, .d (.sl (a0.map cS27))), (16, .d (.sl (r3.map cS27)))] []) (by simp; exact Sub.table (by simp) (by simp)) ?_
    refine Chain.runK [] 1 fun K hK => ?_; simp; refine hK _ _ ?_; clear hK K
    refine Chain.sub (S' := mk 112 [] [(0, .d (.sl (a0.map cS27))), (3, .d (.sl (r3.map cS27)))] []) (Sub.table (by simp) (by simp)) ?_
    refine Chain.nil ?_
    refine AW.seqR ?_
    refine Chain.runK [] 1 fun K hK => ?_; simp; refine hK _ _ ?_; clear hK K
    refine Chain.sub (S' := mk 112 [] [(0, .d (.sl (a0.map cS27))), (3, .d (.sl (r3.map cS27))), (18, .d (.sl (r3.map cS27)))] []) (Sub.table (by simp) (by simp)) ?_
    replace h := bsome h; obtain ⟨r4, hr4, h⟩ := h
    refine Chain.callC (d := 19) (p16 N r3 r4 hr4) (by simp) rfl rfl (by simp <;> rfl) (by simp <;> rfl) ent16 (by simp) (.inl ⟨by simp, by simp⟩) ?_
    refine Chain.sub (S' := mk 112 [] [(0, .d (.sl (a0.map cS27))), (3, .d (.sl (r3.map cS27))), (18, .d (.sl (r3.map cS27))), (19, .tup [.d (.sl (r4.1.map (cI .i64))), .d (.lit (.int .i64 r4.2))])] []) (by simp; exact Sub.table (by simp) (by simp)) ?_
    refine Chain.runK [] 5 fun K hK => ?_; simp; refine hK _ _ ?_; clear hK K
    refine Chain.sub (S' := mk 112 [] [(0, .d (.sl (a0.map cS27))), (3, .d (.sl (r3.map cS27))), (4, .d (.sl (r4.1.map (cI .i64)))), (5, .d (.lit (.int .i64 r4.2)))] []) (Sub.table (by simp) (by simp)) ?_
    refine Chain.nil ?_
    refine AW.seqR ?_
    refine Chain.runK [] 1 fun K hK => ?_; simp; refine hK _ _ ?_; clear hK K
    refine Chain.sub (S' := mk 112 [] [(0, .d (.sl (a0.map cS27))), (3, .d (.sl (r3.map cS27))), (4, .d (.sl (r4.1.map (cI .i64)))), (5, .d (.lit (.int .i64 r4.2))), (23, .d (.sl (r3.map cS27)))] []) (Sub.table (by simp) (by simp)) ?_
    replace h := bsome h; obtain ⟨r5, hr5, h⟩ := h
    refine Chain.callC (d := 24) (p17 N r3 r5 hr5) (by simp) rfl rfl (by simp <;> rfl) (by simp <;> rfl) ent17 (by simp) (.inl ⟨by simp, by simp⟩) ?_
    refine Chain.sub (S' := mk 112 [] [(0, .d (.sl (a0.map cS27))), (3, .d (.sl (r3.map cS27))), (4, .d (.sl (r4.1.map (cI .i64)))), (5, .d (.lit (.int .i64 r4.2))), (23, .d (.sl (r3.map cS27))), (24, .tup [.d (.sl (r5.1.map cS43)), .d (.lit (.int .i64 r5.2))])] []) (by simp; exact Sub.table (by simp) (by simp)) ?_
    refine Chain.runK [] 5 fun K hK => ?_; simp; refine hK _ _ ?_; clear hK K
    refine Chain.sub (S' := mk 112 [] [(0, .d (.sl (a0.map cS27))), (3, .d (.sl (r3.map cS27))), (4, .d (.sl (r4.1.map (cI .i64)))), (5, .d (.lit (.int .i64 r4.2))), (6, .d (.sl (r5.1.map cS43))), (7, .d (.lit (.int .i64 r5.2)))] []) (Sub.table (by simp) (by simp)) ?_
    refine Chain.nil ?_
    refine AW.seqR ?_
    refine Chain.runK [] 1 fun K hK => ?_; simp; refine hK _ _ ?_; clear hK K
    refine Chain.sub (S' := mk 112 [] [(0, .d (.sl (a0.map cS27))), (3, .d (.sl (r3.map cS27))), (4, .d (.sl (r4.1.map (cI .i64)))), (5, .d (.lit (.int .i64 r4.2))), (6, .d (.sl (r5.1.map cS43))), (7, .d (.lit (.int .i64 r5.2))), (27, .d (.sl (a0.map cS27)))] []) (Sub.table (by simp) (by simp)) ?_
    replace h := bsome h; obtain ⟨r6, hr6, h⟩ := h
    refine Chain.callL (d := 28) (p12 N a0 r6 hr6) (by simp) rfl rfl (by simp <;> rfl) (by simp <;> rfl) ent12 (by simp <;> rfl) ?_
    refine Chain.sub (S' := mk 112 [] [(0, .d (.sl (a0.map cS27))), (3, .d (.sl (r3.map cS27))), (4, .d (.sl (r4.1.map (cI .i64)))), (5, .d (.lit (.int .i64 r4.2))), (6, .d (.sl (r5.1.map cS43))), (7, .d (.lit (.int .i64 r5.2))), (27, .d (.sl (a0.map cS27))), (28, .d (.lit (.int .i64 r6)))] []) (by simp; exact Sub.table (by simp) (by simp)) ?_
    refine Chain.runK [] 1 fun K hK => ?_; simp; refine hK _ _ ?_; clear hK K
    refine Chain.sub (S' := mk 112 [] [(0, .d (.sl (a0.map cS27))), (3, .d (.sl (r3.map cS27))), (4, .d (.sl (r4.1.map (cI .i64)))), (5, .d (.lit (.int .i64 r4.2))), (6, .d (.sl (r5.1.map cS43))), (7, .d (.lit (.int .i64 r5.2))), (8, .d (.lit (.int .i64 r6)))] []) (Sub.table (by simp) (by simp)) ?_
    refine Chain.nil ?_
    refine AW.seq ?_
    replace h := bsome h; obtain ⟨v10, hj, h⟩ := h
    refine AW.cutR (mk 112 [] [(0, .d (.sl (a0.map cS27))), (3, .d (.sl (r3.map cS27))), (4, .d (.sl (r4.1.map (cI .i64)))), (6, .d (.sl (r5.1.map cS43))), (8, .d (.lit (.int .i64 r6))), (42, .d (.lit (.bool v10)))] []) ?_ ?_
    · clear h; have h := hj; clear hj
      refine Chain.runK [] 1 fun K hK => ?_; simp; refine hK _ _ ?_; clear hK K
      refine Chain.sub (S' := mk 112 [] [(0, .d (.sl (a0.map cS27))), (3, .d (.sl (r3.map cS27))), (4, .d (.sl (r4.1.map (cI .i64)))), (5, .d (.lit (.int .i64 r4.2))), (6, .d (.sl (r5.1.map cS43))), (7, .d (.lit (.int .i64 r5.2))), (8, .d (.lit (.int .i64 r6))), (29, .d (.sl (r3.map cS27)))] []) (Sub.table (by simp) (by simp)) ?_
      replace h := bsome h; obtain ⟨r11, hr11, h⟩ := h
      refine Chain.callL (d := 30) (p18 N r3 r11 hr11) (by simp) rfl rfl (by simp <;> rfl) (by simp <;> rfl) ent18 (by simp <;> rfl) ?_
      refine Chain.sub (S' := mk 112 [] [(0, .d (.sl (a0.map cS27))), (3, .d (.sl (r3.map cS27))), (4, .d (.sl (r4.1.map (cI .i64)))), (5, .d (.lit (.int .i64 r4.2))), (6, .d (.sl (r5.1.map cS43))), (7, .d (.lit (.int .i64 r5.2))), (8, .d (.lit (.int .i64 r6))), (29, .d (.sl (r3.map cS27))), (30, .d (.lit (.int .i64 r11)))] []) (by simp; exact Sub.table (by simp) (by simp)) ?_
      refine Chain.runK [] 3 fun K hK => ?_; simp; refine hK _ _ ?_; clear hK K
      refine Chain.sub (S' := mk 112 [] [(0, .d (.sl (a0.map cS27))), (3, .d (.sl (r3.map cS27))), (4, .d (.sl (r4.1.map (cI .i64)))), (5, .d (.lit (.int .i64 r4.2))), (6, .d (.sl (r5.1.map cS43))), (7, .d (.lit (.int .i64 r5.2))), (8, .d (.lit (.int .i64 r6))), (33, .d (.lit (.bool (r11 != r6))))] []) (Sub.table (by simp) (by simp)) ?_
      replace h := isome h; rcases h with ⟨c12, h⟩ | ⟨c12, h⟩
      · have c12_ : (r11 != r6) = true := c12
        refine Chain.sub (Sub.bool 33 (b := (r11 != r6)) rfl c12_) ?_
        refine Chain.sub (S' := mk 112 [] [(0, .d (.sl (a0.map cS27))), (3, .d (.sl (r3.map cS27))), (4, .d (.sl (r4.1.map (cI .i64)))), (5, .d (.lit (.int .i64 r4.2))), (6, .d (.sl (r5.1.map cS43))), (7, .d (.lit (.int .i64 r5.2))), (8, .d (.lit (.int .i64 r6))), (33, .d (.lit (.bool true)))] []) (by simp; exact Sub.table (by simp) (by simp)) ?_
        refine Chain.runK [] 9 fun K hK => ?_; simp; refine hK _ _ ?_; clear hK K
        refine Chain.sub (S' := mk 112 [] [(0, .d (.sl (a0.map cS27))), (3, .d (.sl (r3.map cS27))), (4, .d (.sl (r4.1.map (cI .i64)))), (6, .d (.sl (r5.1.map cS43))), (8, .d (.lit (.int .i64 r6))), (42, .d (.lit (.bool true)))] []) (Sub.table (by simp) (by simp)) ?_
        cases h
        exact Chain.nil (Sub.table (by simp) (by simp))
      · have c12_ : (r11 != r6) = false := Bool.eq_false_iff.2 c12
        refine Chain.sub (Sub.bool 33 (b := (r11 != r6)) rfl c12_) ?_
        refine Chain.sub (S' := mk 112 [] [(0, .d (.sl (a0.map cS27))), (3, .d (.sl (r3.map cS27))), (4, .d (.sl (r4.1.map (cI .i64)))), (5, .d (.lit (.int .i64 r4.2))), (6, .d (.sl (r5.1.map cS43))), (7, .d (.lit (.int .i64 r5.2))), (8, .d (.lit (.int .i64 r6))), (33, .d (.lit (.bool false)))] []) (by simp; exact Sub.table (by simp) (by simp)) ?_
        refine Chain.runK [] 5 fun K hK => ?_; simp; refine hK _ _ ?_; clear hK K
        refine Chain.sub (S' := mk 112 [] [(0, .d (.sl (a0.map cS27))), (3, .d (.sl (r3.map cS27))), (4, .d (.sl (r4.1.map (cI .i64)))), (6, .d (.sl (r5.1.map cS43))), (7, .d (.lit (.int .i64 r5.2))), (8, .d (.lit (.int .i64 r6))), (38, .d (.lit (.bool (r4.2 != r6))))] []) (Sub.table (by simp) (by simp)) ?_
        replace h := isome h; rcases h with ⟨c13, h⟩ | ⟨c13, h⟩
        · have c13_ : (r4.2 != r6) = true := c13
          refine Chain.sub (Sub.bool 38 (b := (r4.2 != r6)) rfl c13_) ?_
          refine Chain.sub (S' := mk 112 [] [(0, .d (.sl (a0.map cS27))), (3, .d (.sl (r3.map cS27))), (4, .d (.sl (r4.1.map (cI .i64)))), (6, .d (.sl (r5.1.map cS43))), (7, .d (.lit (.int .i64 r5.2))), (8, .d (.lit (.int .i64 r6))), (38, .d (.lit (.bool true)))] []) (by simp; exact Sub.table (by simp) (by simp)) ?_
          refine Chain.runK [] 4 fun K hK => ?_; simp; refine hK _ _ ?_; clear hK K
          refine Chain.sub (S' := mk 112 [] [(0, .d (.sl (a0.map cS27))), (3, .d (.sl (r3.map cS27))), (4, .d (.sl (r4.1.map (cI .i64)))), (6, .d (.sl (r5.1.map cS43))), (8, .d (.lit (.int .i64 r6))), (42, .d (.lit (.bool true)))] []) (Sub.table (by simp) (by simp)) ?_
          cases h
          exact Chain.nil (Sub.table (by simp) (by simp))
        · have c13_ : (r4.2 != r6) = false := Bool.eq_false_iff.2 c13
          refine Chain.sub (Sub.bool 38 (b := (r4.2 != r6)) rfl c13_) ?_
          refine Chain.sub (S' := mk 112 [] [(0, .d (.sl (a0.map cS27))), (3, .d (.sl (r3.map cS27))), (4, .d (.sl (r4.1.map (cI .i64)))), (6, .d (.sl (r5.1.map cS43))), (7, .d (.lit (.int .i64 r5.2))), (8, .d (.lit (.int .i64 r6))), (38, .d (.lit (.bool false)))] []) (by simp; exact Sub.table (by simp) (by simp)) ?_
          refine Chain.runK [] 4 fun K hK => ?_; simp; refine hK _ _ ?_; clear hK K
          refine Chain.sub (S' := mk 112 [] [(0, .d (.sl (a0.map cS27))), (3, .d (.sl (r3.map cS27))), (4, .d (.sl (r4.1.map (cI .i64)))), (6, .d (.sl (r5.1.map cS43))), (8, .d (.lit (.int .i64 r6))), (42, .d (.lit (.bool (r5.2 != r6))))] []) (Sub.table (by simp) (by simp)) ?_
          cases h
          exact Chain.nil (Sub.table (by simp) (by simp))
    · clear hj
      replace h := isome h; rcases h with ⟨c14, h⟩ | ⟨c14, h⟩
      · have c14_ : v10 = true := c14
        refine AW.condT (b := v10) rfl c14_ ?_
        refine AW.sub (Sub.bool 42 (b := v10) rfl c14_) ?_
        refine AW.sub (S' := mk 112 [] [(0, .d (.sl (a0.map cS27))), (3, .d (.sl (r3.map cS27))), (4, .d (.sl (r4.1.map (cI .i64)))), (6, .d (.sl (r5.1.map cS43))), (8, .d (.lit (.int .i64 r6))), (42, .d (.lit (.bool true)))] []) (by simp; exact Sub.table (by simp) (by simp)) ?_
        refine AW.seqR ?_
        refine Chain.runK [] 1 fun K hK => ?_; simp; refine hK _ _ ?_; clear hK K
        refine Chain.sub (S' := mk 112 [] [(2, .d (.lit (.bool false)))] []) (Sub.table (by simp) (by simp)) ?_
        refine Chain.nil ?_
        refine AW.ret ?_
        cases h
        refine thenQ_pass (by simp) ?_
        exact FinC.ret (by simp) (by simp)
      · have c14_ : v10 = false := Bool.eq_false_iff.2 c14
        refine AW.condF (b := v10) rfl c14_ ?_
        refine AW.sub (Sub.bool 42 (b := v10) rfl c14_) ?_
        refine AW.sub (S' := mk 112 [] [(0, .d (.sl (a0.map cS27))), (3, .d (.sl (r3.map cS27))), (4, .d (.sl (r4.1.map (cI .i64)))), (6, .d (.sl (r5.1.map cS43))), (8, .d (.lit (.int .i64 r6))), (42, .d (.lit (.bool false)))] []) (by simp; exact Sub.table (by simp) (by simp)) ?_
        refine AW.skip ?_
        refine thenQ_normal ?_
        refine AW.seq ?_
        refine AW.seqR ?_
        refine Chain.runK [] 2 fun K hK => ?_; simp; refine hK _ _ ?_; clear hK K
        refine Chain.sub (S' := mk 112 [] [(0, .d (.sl (a0.map cS27))), (3, .d (.sl (r3.map cS27))), (4, .d (.sl (r4.1.map (cI .i64)))), (6, .d (.sl (r5.1.map cS43))), (44, .d (.lit (.bool (r6 != 0))))] []) (Sub.table (by simp) (by simp)) ?_
        refine Chain.nil ?_
        replace h := isome h; rcases h with ⟨c15, h⟩ | ⟨c15, h⟩
        · have c15_ : (r6 != 0) = true := c15
          refine AW.condT (b := (r6 != 0)) rfl c15_ ?_
          refine AW.sub (Sub.bool 44 (b := (r6 != 0)) rfl c15_) ?_
          refine AW.sub (S' := mk 112 [] [(0, .d (.sl (a0.map cS27))), (3, .d (.sl (r3.map cS27))), (4, .d (.sl (r4.1.map (cI .i64)))), (6, .d (.sl (r5.1.map cS43))), (44, .d (.lit (.bool true)))] []) (by simp; exact Sub.table (by simp) (by simp)) ?_
          replace h := bsome h; obtain ⟨v17, hj, h⟩ := h
          refine AW.cutR (mk 112 [] [(2, .d (.lit (.bool v17)))] []) ?_ ?_
          · clear h; have h := hj; clear hj
            refine Chain.runK [] 4 fun K hK => ?_; simp; refine hK _ _ ?_; clear hK K
            refine Chain.sub (S' := mk 112 [] [(6, .d (.sl (r5.1.map cS43))), (48, .d (.lit (.bool ((r4.1.length : Int) == 0))))] []) (Sub.table (by simp) (by simp)) ?_
            replace h := isome h; rcases h with ⟨c18, h⟩ | ⟨c18, h⟩
            · have c18_ : ((r4.1.length : Int) == 0) = true := c18
              refine Chain.sub (Sub.bool 48 (b := ((r4.1.length : Int) == 0)) rfl c18_) ?_
              refine Chain.sub (S' := mk 112 [] [(6, .d (.sl (r5.1.map cS43))), (48, .d (.lit (.bool true)))] []) (by simp; exact Sub.table (by simp) (by simp)) ?_
              refine Chain.runK [] 5 fun K hK => ?_; simp; refine hK _ _ ?_; clear hK K
              refine Chain.sub (S' := mk 112 [] [(2, .d (.lit (.bool ((r5.1.length : Int) == 0))))] []) (Sub.table (by simp) (by simp)) ?_
              cases h
              exact Chain.nil (Sub.table (by simp) (by simp))
            · have c18_ : ((r4.1.length : Int) == 0) = false := Bool.eq_false_iff.2 c18
              refine Chain.sub (Sub.bool 48 (b := ((r4.1.length : Int) == 0)) rfl c18_) ?_
              refine Chain.sub (S' := mk 112 [] [(6, .d (.sl (r5.1.map cS43))), (48, .d (.lit (.bool false)))] []) (by simp; exact Sub.table (by simp) (by simp)) ?_
              refine Chain.runK [] 5 fun K hK => ?_; simp; refine hK _ _ ?_; clear hK K
              refine Chain.sub (S' := mk 112 [] [(2, .d (.lit (.bool false)))] []) (Sub.table (by simp) (by simp)) ?_
              cases h
              exact Chain.nil (Sub.table (by simp) (by simp))
          · clear hj
            refine AW.ret ?_
            cases h
            refine thenQ_pass (by simp) ?_
            exact FinC.ret (by simp) (by simp)
        · have c15_ : (r6 != 0) = false := Bool.eq_false_iff.2 c15
          refine AW.condF (b := (r6 != 0)) rfl c15_ ?_
          refine AW.sub (Sub.bool 44 (b := (r6 != 0)) rfl c15_) ?_
          refine AW.sub (S' := mk 112 [] [(0, .d (.sl (a0.map cS27))), (3, .d (.sl (r3.map cS27))), (4, .d (.sl (r4.1.map (cI .i64)))), (6, .d (.sl (r5.1.map cS43))), (44, .d (.lit (.bool false)))] []) (by simp; exact Sub.table (by simp) (by simp)) ?_
          refine AW.skip ?_
          refine thenQ_normal ?_
          refine AW.seqR ?_
          refine Chain.runK [] 1 fun K hK => ?_; simp; refine hK _ _ ?_; clear hK K
          refine Chain.sub (S' := mk 112 [] [(0, .d (.sl (a0.map cS27))), (3, .d (.sl (r3.map cS27))), (4, .d (.sl (r4.1.map (cI .i64)))), (6, .d (.sl (r5.1.map cS43))), (9, .d (.lit (.slice none 0 0)))] []) (Sub.table (by simp) (by simp)) ?_
          refine Chain.nil ?_
          refine AW.seq ?_
          refine AW.seqR ?_
          refine Chain.runK [] 1 fun K hK => ?_; simp; refine hK _ _ ?_; clear hK K
          refine Chain.sub (S' := mk 112 [] [(0, .d (.sl (a0.map cS27))), (3, .d (.sl (r3.map cS27))), (4, .d (.sl (r4.1.map (cI .i64)))), (6, .d (.sl (r5.1.map cS43))), (9, .d (.lit (.slice none 0 0))), (53, .d (.lit (.int .i64 0)))] []) (Sub.table (by simp) (by simp)) ?_
          refine Chain.nil ?_
          refine AW.lastN (fun (l164 : List S43) => mk 112 [] [(0, .d (.sl (a0.map cS27))), (3, .d (.sl (r3.map cS27))), (4, .d (.sl (r4.1.map (cI .i64)))), (6, .d (.sl (r5.1.map cS43))), (9, .ref 73 0 l164.length)] [(73, some (.arr 43 2 (l164.map cS43)))]) h ?_ ?_ <;> clear h
          · intro o h
            refine AW.block ?_
            refine AW.iter (fun ((l66, v67) : ((List S43) × Int)) => mk 112 [] [(0, .d (.sl (a0.map cS27))), (3, .d (.sl (r3.map cS27))), (4, .d (.sl (r4.1.map (cI .i64)))), (6, .d (.sl (r5.1.map cS43))), (9, .ref 73 0 l66.length), (53, .d (.lit (.int .i64 v67)))] [(73, some (.arr 43 2 (l66.map cS43)))]) h (Sub.trans (Sub.nilOwn (t := 9) (id := 73) (T := 43) (n := 2) rfl rfl (by decide)) (by simp; exact Sub.table (by simp) (by simp))) ?_
            clear h
            rintro ⟨l66, v67⟩ x h
            dsimp only at h ⊢
            refine AW.seqR ?_
            refine Chain.runK [] 1 fun K hK => ?_; simp; refine hK _ _ ?_; clear hK K
            refine Chain.sub (S' := mk 112 [] [(0, .d (.sl (a0.map cS27))), (3, .d (.sl (r3.map cS27))), (4, .d (.sl (r4.1.map (cI .i64)))), (6, .d (.sl (r5.1.map cS43))), (9, .ref 73 0 l66.length), (53, .d (.lit (.int .i64 v67))), (54, .d (.lit (.bool (decide (v67 < 20)))))] [(73, some (.arr 43 2 (l66.map cS43)))]) (Sub.table (by simp) (by simp)) ?_
            refine Chain.nil ?_
            refine AW.seq ?_
            replace h := isome h; rcases h with ⟨c165, h⟩ | ⟨c165, h⟩
            · have c165_ : decide (v67 < 20) = true := decide_eq_true c165
              refine AW.condT (b := decide (v67 < 20)) rfl c165_ ?_
              refine AW.sub (Sub.bool 54 (b := decide (v67 < 20)) rfl c165_) ?_
              refine AW.sub (S' := mk 112 [] [(0, .d (.sl (a0.map cS27))), (3, .d (.sl (r3.map cS27))), (4, .d (.sl (r4.1.map (cI .i64)))), (6, .d (.sl (r5.1.map cS43))), (9, .ref 73 0 l66.length), (53, .d (.lit (.int .i64 v67))), (54, .d (.lit (.bool true)))] [(73, some (.arr 43 2 (l66.map cS43)))]) (by simp; exact Sub.table (by simp) (by simp)) ?_
              refine AW.skip ?_
              refine thenQ_normal ?_
              refine AW.seq ?_
              refine AW.block ?_
              refine AW.seqR ?_
              refine Chain.runK [] 2 fun K hK => ?_; simp; refine hK _ _ ?_; clear hK K
              refine Chain.sub (S' := mk 112 [] [(0, .d (.sl (a0.map cS27))), (3, .d (.sl (r3.map cS27))), (4, .d (.sl (r4.1.map (cI .i64)))), (6, .d (.sl (r5.1.map cS43))), (9, .ref 73 0 l66.length), (10, .d (.lit (.int .i64 v67))), (53, .d (.lit (.int .i64 v67)))] [(73, some (.arr 43 2 (l66.map cS43)))]) (Sub.table (by simp) (by simp)) ?_
              refine Chain.nil ?_
              refine AW.seqR ?_
              refine Chain.runK [] 1 fun K hK => ?_; simp; refine hK _ _ ?_; clear hK K
              refine Chain.sub (S' := mk 112 [] [(0, .d (.sl (a0.map cS27))), (3, .d (.sl (r3.map cS27))), (4, .d (.sl (r4.1.map (cI .i64)))), (6, .d (.sl (r5.1.map cS43))), (9, .ref 73 0 l66.length), (10, .d (.lit (.int .i64 v67))), (53, .d (.lit (.int .i64 v67))), (56, .d (.lit (.int .i64 0)))] [(73, some (.arr 43 2 (l66.map cS43)))]) (Sub.table (by simp) (by simp)) ?_
              refine Chain.nil ?_
              refine AW.lastN (fun (l200 : List S43) => mk 112 [] [(0, .d (.sl (a0.map cS27))), (3, .d (.sl (r3.map cS27))), (4, .d (.sl (r4.1.map (cI .i64)))), (6, .d (.sl (r5.1.map cS43))), (9, .ref 73 0 l200.length), (53, .d (.lit (.int .i64 v67)))] [(73, some (.arr 43 2 (l200.map cS43)))]) h ?_ ?_ <;> clear h
              · intro o h
                refine AW.block ?_
                refine AW.iter (fun ((l176, v177) : ((List S43) × Int)) => mk 112 [] [(0, .d (.sl (a0.map cS27))), (3, .d (.sl (r3.map cS27))), (4, .d (.sl (r4.1.map (cI .i64)))), (6, .d (.sl (r5.1.map cS43))), (9, .ref 73 0 l176.length), (10, .d (.lit (.int .i64 v67))), (53, .d (.lit (.int .i64 v67))), (56, .d (.lit (.int .i64 v177)))] [(73, some (.arr 43 2 (l176.map cS43)))]) h (Sub.table (by simp) (by simp)) ?_
                clear h
                rintro ⟨l176, v177⟩ x h
                dsimp only at h ⊢
                refine AW.seqR ?_
                refine Chain.runK [] 1 fun K hK => ?_; simp; refine hK _ _ ?_; clear hK K
                refine Chain.sub (S' := mk 112 [] [(0, .d (.sl (a0.map cS27))), (3, .d (.sl (r3.map cS27))), (4, .d (.sl (r4.1.map (cI .i64)))), (6, .d (.sl (r5.1.map cS43))), (9, .ref 73 0 l176.length), (10, .d (.lit (.int .i64 v67))), (53, .d (.lit (.int .i64 v67))), (56, .d (.lit (.int .i64 v177))), (57, .d (.lit (.bool (decide (v177 < 20)))))] [(73, some (.arr 43 2 (l176.map cS43)))]) (Sub.table (by simp) (by simp)) ?_
                refine Chain.nil ?_
                refine AW.seq ?_
                replace h := isome h; rcases h with ⟨c201, h⟩ | ⟨c201, h⟩
                · have c201_ : decide (v177 < 20) = true := decide_eq_true c201
                  refine AW.condT (b := decide (v177 < 20)) rfl c201_ ?_
                  refine AW.sub (Sub.bool 57 (b := decide (v177 < 20)) rfl c201_) ?_
                  refine AW.sub (S' := mk 112 [] [(0, .d (.sl (a0.map cS27))), (3, .d (.sl (r3.map cS27))), (4, .d (.sl (r4.1.map (cI .i64)))), (6, .d (.sl (r5.1.map cS43))), (9, .ref 73 0 l176.length), (10, .d (.lit (.int .i64 v67))), (53, .d (.lit (.int .i64 v67))), (56, .d (.lit (.int .i64 v177))), (57, .d (.lit (.bool true)))] [(73, some (.arr 43 2 (l176.map cS43)))]) (by simp; exact Sub.table (by simp) (by simp)) ?_
                  refine AW.skip ?_
                  refine thenQ_normal ?_
                  refine AW.seq ?_
                  refine AW.block ?_
                  refine AW.seqR ?_
                  refine Chain.runK [] 2 fun K hK => ?_; simp; refine hK _ _ ?_; clear hK K
                  refine Chain.sub (S' := mk 112 [] [(0, .d (.sl (a0.map cS27))), (3, .d (.sl (r3.map cS27))), (4, .d (.sl (r4.1.map (cI .i64)))), (6, .d (.sl (r5.1.map cS43))), (9, .ref 73 0 l176.length), (10, .d (.lit (.int .i64 v67))), (11, .d (.lit (.int .i64 v177))), (53, .d (.lit (.int .i64 v67))), (56, .d (.lit (.int .i64 v177)))] [(73, some (.arr 43 2 (l176.map cS43)))]) (Sub.table (by simp) (by simp)) ?_
                  refine Chain.nil ?_
                  replace h := bsome h; obtain ⟨v204, hj, h⟩ := h
                  refine AW.cutR (mk 112 [] [(0, .d (.sl (a0.map cS27))), (3, .d (.sl (r3.map cS27))), (4, .d (.sl (r4.1.map (cI .i64)))), (6, .d (.sl (r5.1.map cS43))), (9, .ref 73 0 l176.length), (10, .d (.lit (.int .i64 v67))), (11, .d (.lit (.int .i64 v177))), (53, .d (.lit (.int .i64 v67))), (56, .d (.lit (.int .i64 v177))), (67, .d (.lit (.bool v204)))] [(73, some (.arr 43 2 (l176.map cS43)))]) ?_ ?_
                  · clear h; have h := hj; clear hj
                    refine Chain.runK [] 4 fun K hK => ?_; simp; refine hK _ _ ?_; clear hK K
                    refine Chain.sub (S' := mk 112 [] [(0, .d (.sl (a0.map cS27))), (3, .d (.sl (r3.map cS27))), (4, .d (.sl (r4.1.map (cI .i64)))), (6, .d (.sl (r5.1.map cS43))), (9, .ref 73 0 l176.length), (10, .d (.lit (.int .i64 v67))), (11, .d (.lit (.int .i64 v177))), (53, .d (.lit (.int .i64 v67))), (56, .d (.lit (.int .i64 v177))), (62, .d (.lit (.bool (v67 != v177))))] [(73, some (.arr 43 2 (l176.map cS43)))]) (Sub.table (by simp) (by simp)) ?_
                    replace h := isome h; rcases h with ⟨c205, h⟩ | ⟨c205, h⟩
                    · have c205_ : (v67 != v177) = true := c205
                      refine Chain.sub (Sub.bool 62 (b := (v67 != v177)) rfl c205_) ?_
                      refine Chain.sub (S' := mk 112 [] [(0, .d (.sl (a0.map cS27))), (3, .d (.sl (r3.map cS27))), (4, .d (.sl (r4.1.map (cI .i64)))), (6, .d (.sl (r5.1.map cS43))), (9, .ref 73 0 l176.length), (10, .d (.lit (.int .i64 v67))), (11, .d (.lit (.int .i64 v177))), (53, .d (.lit (.int .i64 v67))), (56, .d (.lit (.int .i64 v177))), (62, .d (.lit (.bool true)))] [(73, some (.arr 43 2 (l176.map cS43)))]) (by simp; exact Sub.table (by simp) (by simp)) ?_
                      refine Chain.runK [] 3 fun K hK => ?_; simp; refine hK _ _ ?_; clear hK K
                      refine Chain.sub (S' := mk 112 [] [(0, .d (.sl (a0.map cS27))), (3, .d (.sl (r3.map cS27))), (4, .d (.sl (r4.1.map (cI .i64)))), (6, .d (.sl (r5.1.map cS43))), (9, .ref 73 0 l176.length), (10, .d (.lit (.int .i64 v67))), (11, .d (.lit (.int .i64 v177))), (53, .d (.lit (.int .i64 v67))), (56, .d (.lit (.int .i64 v177))), (62, .d (.lit (.bool true))), (63, .d (.sl (a0.map cS27))), (64, .d (.lit (.int .i64 v67))), (65, .d (.lit (.int .i64 v177)))] [(73, some (.arr 43 2 (l176.map cS43)))]) (Sub.table (by simp) (by simp)) ?_
                      replace h := bsome h; obtain ⟨r206, hr206, h⟩ := h
                      refine Chain.callL (d := 66) (p19 N a0 v67 v177 r206 hr206) (by simp) rfl rfl (by simp <;> rfl) (by simp <;> rfl) ent19 (by simp <;> rfl) ?_
                      refine Chain.sub (S' := mk 112 [] [(0, .d (.sl (a0.map cS27))), (3, .d (.sl (r3.map cS27))), (4, .d (.sl (r4.1.map (cI .i64)))), (6, .d (.sl (r5.1.map cS43))), (9, .ref 73 0 l176.length), (10, .d (.lit (.int .i64 v67))), (11, .d (.lit (.int .i64 v177))), (53, .d (.lit (.int .i64 v67))), (56, .d (.lit (.int .i64 v177))), (62, .d (.lit (.bool true))), (63, .d (.sl (a0.map cS27))), (64, .d (.lit (.int .i64 v67))), (65, .d (.lit (.int .i64 v177))), (66, .d (.lit (.bool r206)))] [(73, some (.arr 43 2 (l176.map cS43)))]) (by simp; exact Sub.table (by simp) (by simp)) ?_
                      refine Chain.runK [] 1 fun K hK => ?_; simp; refine hK _ _ ?_; clear hK K
                      refine Chain.sub (S' := mk 112 [] [(0, .d (.sl (a0.map cS27))), (3, .d (.sl (r3.map cS27))), (4, .d (.sl (r4.1.map (cI .i64)))), (6, .d (.sl (r5.1.map cS43))), (9, .ref 73 0 l176.length), (10, .d (.lit (.int .i64 v67))), (11, .d (.lit (.int .i64 v177))), (53, .d (.lit (.int .i64 v67))), (56, .d (.lit (.int .i64 v177))), (63, .d (.sl (a0.map cS27))), (64, .d (.lit (.int .i64 v67))), (65, .d (.lit (.int .i64 v177))), (66, .d (.lit (.bool r206))), (67, .d (.lit (.bool r206)))] [(73, some (.arr 43 2 (l176.map cS43)))]) (Sub.table (by simp) (by simp)) ?_
                      cases h
                      exact Chain.nil (Sub.table (by simp) (by simp))
                    · have c205_ : (v67 != v177) = false := Bool.eq_false_iff.2 c205
                      refine Chain.sub (Sub.bool 62 (b := (v67 != v177)) rfl c205_) ?_
                      refine Chain.sub (S' := mk 112 [] [(0, .d (.sl (a0.map cS27))), (3, .d (.sl (r3.map cS27))), (4, .d (.sl (r4.1.map (cI .i64)))), (6, .d (.sl (r5.1.map cS43))), (9, .ref 73 0 l176.length), (10, .d (.lit (.int .i64 v67))), (11, .d (.lit (.int .i64 v177))), (53, .d (.lit (.int .i64 v67))), (56, .d (.lit (.int .i64 v177))), (62, .d (.lit (.bool false)))] [(73, some (.arr 43 2 (l176.map cS43)))]) (by simp; exact Sub.table (by simp) (by simp)) ?_
                      refine Chain.runK [] 5 fun K hK => ?_; simp; refine hK _ _ ?_; clear hK K
                      refine Chain.sub (S' := mk 112 [] [(0, .d (.sl (a0.map cS27))), (3, .d (.sl (r3.map cS27))), (4, .d (.sl (r4.1.map (cI .i64)))), (6, .d (.sl (r5.1.map cS43))), (9, .ref 73 0 l176.length), (10, .d (.lit (.int .i64 v67))), (11, .d (.lit (.int .i64 v177))), (53, .d (.lit (.int .i64 v67))), (56, .d (.lit (.int .i64 v177))), (63, .tup []), (64, .tup []), (65, .tup []), (66, .tup []), (67, .d (.lit (.bool false)))] [(73, some (.arr 43 2 (l176.map cS43)))]) (Sub.table (by simp) (by simp)) ?_
                      cases h
                      exact Chain.nil (Sub.table (by simp) (by simp))
                  · clear hj
                    replace h := isome h; rcases h with ⟨c207, h⟩ | ⟨c207, h⟩
                    · have c207_ : v204 = true := c207
                      refine AW.condT (b := v204) rfl c207_ ?_
                      refine AW.sub (Sub.bool 67 (b := v204) rfl c207_) ?_
                      refine AW.sub (S' := mk 112 [] [(0, .d (.sl (a0.map cS27))), (3, .d (.sl (r3.map cS27))), (4, .d (.sl (r4.1.map (cI .i64)))), (6, .d (.sl (r5.1.map cS43))), (9, .ref 73 0 l176.length), (10, .d (.lit (.int .i64 v67))), (11, .d (.lit (.int .i64 v177))), (53, .d (.lit (.int .i64 v67))), (56, .d (.lit (.int .i64 v177))), (67, .d (.lit (.bool true)))] [(73, some (.arr 43 2 (l176.map cS43)))]) (by simp; exact Sub.table (by simp) (by simp)) ?_
                      refine AW.region ?_
                      replace h := bsome h; obtain ⟨l208, hl208, h⟩ := h
                      obtain ⟨hl208a, hl208⟩ := appL_some hl208
                      subst hl208
                      try simp only [List.length_append, List.length_cons, List.length_nil, Nat.zero_add] at hl208a
                      refine Chain.runK [72] 7 fun K hK => ?_; simp [hl208a]; refine hK _ _ ?_; clear hK K
                      refine Chain.sub (S' := mk 112 [] [(0, .d (.sl (a0.map cS27))), (3, .d (.sl (r3.map cS27))), (4, .d (.sl (r4.1.map (cI .i64)))), (6, .d (.sl (r5.1.map cS43))), (9, .ref 73 0 ((l176 ++ [(S43.mk v67 v177)]).length)), (10, .d (.lit (.int .i64 v67))), (53, .d (.lit (.int .i64 v67))), (56, .d (.lit (.int .i64 v177)))] [(73, some (.arr 43 2 ((l176 ++ [(S43.mk v67 v177)]).map cS43)))]) (Sub.table (by simp) (by simp)) ?_
                      refine Chain.nil ?_
                      refine blockQ.normal ?_
                      refine thenQ_normal ?_
                      refine AW.region ?_
                      replace h := bsome h; obtain ⟨v209, hv209, h⟩ := h
                      have hv209 := chkI_some hv209
                      refine Chain.runK [] 2 fun K hK => ?_; simp [hv209]; refine hK _ _ ?_; clear hK K
                      refine Chain.sub (S' := mk 112 [] [(0, .d (.sl (a0.map cS27))), (3, .d (.sl (r3.map cS27))), (4, .d (.sl (r4.1.map (cI .i64)))), (6, .d (.sl (r5.1.map cS43))), (9, .ref 73 0 ((l176 ++ [(S43.mk v67 v177)]).length)), (10, .d (.lit (.int .i64 v67))), (53, .d (.lit (.int .i64 v67))), (56, .d (.lit (.int .i64 v209)))] [(73, some (.arr 43 2 ((l176 ++ [(S43.mk v67 v177)]).map cS43)))]) (Sub.table (by simp) (by simp)) ?_
                      refine Chain.nil ?_
                      cases h
                      refine PostI.next ?_
                      exact (Sub.table (by simp) (by simp))
                    · have c207_ : v204 = false := Bool.eq_false_iff.2 c207
                      refine AW.condF (b := v204) rfl c207_ ?_
                      refine AW.sub (Sub.bool 67 (b := v204) rfl c207_) ?_
                      refine AW.sub (S' := mk 112 [] [(0, .d (.sl (a0.map cS27))), (3, .d (.sl (r3.map cS27))), (4, .d (.sl (r4.1.map (cI .i64)))), (6, .d (.sl (r5.1.map cS43))), (9, .ref 73 0 l176.length), (10, .d (.lit (.int .i64 v67))), (11, .d (.lit (.int .i64 v177))), (53, .d (.lit (.int .i64 v67))), (56, .d (.lit (.int .i64 v177))), (67, .d (.lit (.bool false)))] [(73, some (.arr 43 2 (l176.map cS43)))]) (by simp; exact Sub.table (by simp) (by simp)) ?_
                      refine AW.skip ?_
                      refine blockQ.normal ?_
                      refine thenQ_normal ?_
                      refine AW.region ?_
                      replace h := bsome h; obtain ⟨v210, hv210, h⟩ := h
                      have hv210 := chkI_some hv210
                      refine Chain.runK [] 2 fun K hK => ?_; simp [hv210]; refine hK _ _ ?_; clear hK K
                      refine Chain.sub (S' := mk 112 [] [(0, .d (.sl (a0.map cS27))), (3, .d (.sl (r3.map cS27))), (4, .d (.sl (r4.1.map (cI .i64)))), (6, .d (.sl (r5.1.map cS43))), (9, .ref 73 0 l176.length), (10, .d (.lit (.int .i64 v67))), (53, .d (.lit (.int .i64 v67))), (56, .d (.lit (.int .i64 v210)))] [(73, some (.arr 43 2 (l176.map cS43)))]) (Sub.table (by simp) (by simp)) ?_
                      refine Chain.nil ?_
                      cases h
                      refine PostI.next ?_
                      exact (Sub.table (by simp) (by simp))
                · have c201_ : decide (v177 < 20) = false := decide_eq_false c201
                  refine AW.condF (b := decide (v177 < 20)) rfl c201_ ?_
                  refine AW.sub (Sub.bool 57 (b := decide (v177 < 20)) rfl c201_) ?_
                  refine AW.sub (S' := mk 112 [] [(0, .d (.sl (a0.map cS27))), (3, .d (.sl (r3.map cS27))), (4, .d (.sl (r4.1.map (cI .i64)))), (6, .d (.sl (r5.1.map cS43))), (9, .ref 73 0 l176.length), (10, .d (.lit (.int .i64 v67))), (53, .d (.lit (.int .i64 v67))), (56, .d (.lit (.int .i64 v177))), (57, .d (.lit (.bool false)))] [(73, some (.arr 43 2 (l176.map cS43)))]) (by simp; exact Sub.table (by simp) (by simp)) ?_
                  refine AW.exit ?_
                  cases h
                  refine thenQ_pass (by simp) ?_
                  refine PostI.out (by simp) ?_
                  rintro rfl
                  refine blockQ.hit ?_
                  refine PostN.next ?_
                  exact (Sub.table (by simp) (by simp))
              · rintro l200 h
                refine blockQ.normal ?_
                refine thenQ_normal ?_
                refine AW.region ?_
                replace h := bsome h; obtain ⟨v211, hv211, h⟩ := h
                have hv211 := chkI_some hv211
                refine Chain.runK [] 2 fun K hK => ?_; simp [hv211]; refine hK _ _ ?_; clear hK K
                refine Chain.sub (S' := mk 112 [] [(0, .d (.sl (a0.map cS27))), (3, .d (.sl (r3.map cS27))), (4, .d (.sl (r4.1.map (cI .i64)))), (6, .d (.sl (r5.1.map cS43))), (9, .ref 73 0 l200.length), (53, .d (.lit (.int .i64 v211)))] [(73, some (.arr 43 2 (l200.map cS43)))]) (Sub.table (by simp) (by simp)) ?_
                refine Chain.nil ?_
                cases h
                refine PostI.next ?_
                exact (Sub.table (by simp) (by simp))
            · have c165_ : decide (v67 < 20) = false := decide_eq_false c165
              refine AW.condF (b := decide (v67 < 20)) rfl c165_ ?_
              refine AW.sub (Sub.bool 54 (b := decide (v67 < 20)) rfl c165_) ?_
              refine AW.sub (S' := mk 112 [] [(0, .d (.sl (a0.map cS27))), (3, .d (.sl (r3.map cS27))), (4, .d (.sl (r4.1.map (cI .i64)))), (6, .d (.sl (r5.1.map cS43))), (9, .ref 73 0 l66.length), (53, .d (.lit (.int .i64 v67))), (54, .d (.lit (.bool false)))] [(73, some (.arr 43 2 (l66.map cS43)))]) (by simp; exact Sub.table (by simp) (by simp)) ?_
              refine AW.exit ?_
              cases h
              refine thenQ_pass (by simp) ?_
              refine PostI.out (by simp) ?_
              rintro rfl
              refine blockQ.hit ?_
              refine PostN.next ?_
              exact (Sub.table (by simp) (by simp))
          · rintro l164 h
            refine thenQ_normal ?_
            refine AW.seq ?_
            refine AW.seqR ?_
            refine Chain.runK [] 1 fun K hK => ?_; simp; refine hK _ _ ?_; clear hK K
            refine Chain.sub (S' := mk 112 [] [(0, .d (.sl (a0.map cS27))), (3, .d (.sl (r3.map cS27))), (4, .d (.sl (r4.1.map (cI .i64)))), (6, .d (.sl (r5.1.map cS43))), (9, .ref 73 0 l164.length), (12, .d (.lit (.int .i64 1)))] [(73, some (.arr 43 2 (l164.map cS43)))]) (Sub.table (by simp) (by simp)) ?_
            refine Chain.nil ?_
            refine AW.lastJ (fun (_ : Unit) => mk 112 [] [(0, .d (.sl (a0.map cS27))), (4, .d (.sl (r4.1.map (cI .i64)))), (6, .d (.sl (r5.1.map cS43))), (9, .ref 73 0 l164.length)] [(73, some (.arr 43 2 (l164.map cS43)))]) h ?_ ?_ <;> clear h
            · intro o h
              refine AW.block ?_
              refine AW.iter (fun (v226 : Int) => mk 112 [] [(0, .d (.sl (a0.map cS27))), (3, .d (.sl (r3.map cS27))), (4, .d (.sl (r4.1.map (cI .i64)))), (6, .d (.sl (r5.1.map cS43))), (9, .ref 73 0 l164.length), (12, .d (.lit (.int .i64 v226)))] [(73, some (.arr 43 2 (l164.map cS43)))]) h (Sub.table (by simp) (by simp)) ?_
              clear h
              rintro v226 x h
              refine AW.seq ?_
              refine AW.seqR ?_
              refine Chain.runK [] 4 fun K hK => ?_; simp; refine hK _ _ ?_; clear hK K
              refine Chain.sub (S' := mk 112 [] [(0, .d (.sl (a0.map cS27))), (3, .d (.sl (r3.map cS27))), (4, .d (.sl (r4.1.map (cI .i64)))), (6, .d (.sl (r5.1.map cS43))), (9, .ref 73 0 l164.length), (12, .d (.lit (.int .i64 v226))), (79, .d (.lit (.bool (decide (v226 < (r3.length : Int))))))] [(73, some (.arr 43 2 (l164.map cS43)))]) (Sub.table (by simp) (by simp)) ?_
              refine Chain.nil ?_
              replace h := isome h; rcases h with ⟨c256, h⟩ | ⟨c256, h⟩
              · have c256_ : decide (v226 < (r3.length : Int)) = true := decide_eq_true c256
                refine AW.condT (b := decide (v226 < (r3.length : Int))) rfl c256_ ?_
                refine AW.sub (Sub.bool 79 (b := decide (v226 < (r3.length : Int))) rfl c256_) ?_
                refine AW.sub (S' := mk 112 [] [(0, .d (.sl (a0.map cS27))), (3, .d (.sl (r3.map cS27))), (4, .d (.sl (r4.1.map (cI .i64)))), (6, .d (.sl (r5.1.map cS43))), (9, .ref 73 0 l164.length), (12, .d (.lit (.int .i64 v226))), (79, .d (.lit (.bool true)))] [(73, some (.arr 43 2 (l164.map cS43)))]) (by simp; exact Sub.table (by simp) (by simp)) ?_
                refine AW.skip ?_
                refine thenQ_normal ?_
                refine AW.seq ?_
                refine AW.block ?_
                refine AW.seqQ (by kernel_rfl) (by kernel_rfl) ?_
                replace h := bsome h; obtain ⟨v257, hv257, h⟩ := h
                have hv257 := chkI_some hv257
                replace h := bsome h; obtain ⟨x258, hx258, h⟩ := h
                obtain ⟨k259, hx258k, hx258, hx258a, hx258b⟩ := idx_some hx258
                replace h := bsome h; obtain ⟨x260, hx260, h⟩ := h
                obtain ⟨k261, hx260k, hx260, hx260a, hx260b⟩ := idx_some hx260
                refine Chain.runQ 9 fun K hK => ?_; simp [hv257, hx258, hx258k, hx258a, hx260, hx260k, hx260a]; refine hK _ _ ?_; clear hK K
                refine Chain.sub (S' := mk 112 [] [(0, .d (.sl (a0.map cS27))), (3, .d (.sl (r3.map cS27))), (4, .d (.sl (r4.1.map (cI .i64)))), (6, .d (.sl (r5.1.map cS43))), (9, .ref 73 0 l164.length), (12, .d (.lit (.int .i64 v226))), (86, .agg [.d (.lit (.int .i64 x258.Tx)), .d (.lit (.int .i64 x258.Kind)), .d (.lit (.string x258.Key))]), (90, .agg [.d (.lit (.int .i64 x260.Tx)), .d (.lit (.int .i64 x260.Kind)), .d (.lit (.string x260.Key))])] [(73, some (.arr 43 2 (l164.map cS43)))]) (Sub.table (by simp) (by simp)) ?_
                replace h := bsome h; obtain ⟨r262, hr262, h⟩ := h
                refine Chain.callL (d := 91) (p20 N x258 x260 r262 hr262) (by simp) rfl rfl (by simp <;> rfl) (by simp <;> rfl) ent20 (by simp <;> rfl) ?_
                refine Chain.sub (S' := mk 112 [] [(0, .d (.sl (a0.map cS27))), (3, .d (.sl (r3.map cS27))), (4, .d (.sl (r4.1.map (cI .i64)))), (6, .d (.sl (r5.1.map cS43))), (9, .ref 73 0 l164.length), (12, .d (.lit (.int .i64 v226))), (86, .agg [.d (.lit (.int .i64 x258.Tx)), .d (.lit (.int .i64 x258.Kind)), .d (.lit (.string x258.Key))]), (90, .agg [.d (.lit (.int .i64 x260.Tx)), .d (.lit (.int .i64 x260.Kind)), .d (.lit (.string x260.Key))]), (91, .d (.lit (.bool r262)))] [(73, some (.arr 43 2 (l164.map cS43)))]) (by simp; exact Sub.table (by simp) (by simp)) ?_
                replace h := bsome h; obtain ⟨v263, hv263, h⟩ := h
                have hv263 := chkI_some hv263
                replace h := bsome h; obtain ⟨x264, hx264, h⟩ := h
                obtain ⟨k265, hx264k, hx264, hx264a, hx264b⟩ := idx_some hx264
                replace h := bsome h; obtain ⟨x266, hx266, h⟩ := h
                obtain ⟨hx266, hx266a, hx266b⟩ := idx_some2 hx266 hx260k
                refine Chain.runQ 9 fun K hK => ?_; simp [hv263, hx264, hx264k, hx264a, hx266, hx260k, hx266a]; refine hK _ _ ?_; clear hK K
                refine Chain.sub (S' := mk 112 [] [(0, .d (.sl (a0.map cS27))), (3, .d (.sl (r3.map cS27))), (4, .d (.sl (r4.1.map (cI .i64)))), (6, .d (.sl (r5.1.map cS43))), (9, .ref 73 0 l164.length), (12, .d (.lit (.int .i64 v226))), (91, .d (.lit (.bool r262))), (96, .agg [.d (.lit (.int .i64 x264.Tx)), .d (.lit (.int .i64 x264.Kind)), .d (.lit (.string x264.Key))]), (100, .agg [.d (.lit (.int .i64 x266.Tx)), .d (.lit (.int .i64 x266.Kind)), .d (.lit (.string x266.Key))])] [(73, some (.arr 43 2 (l164.map cS43)))]) (Sub.table (by simp) (by simp)) ?_
                replace h := bsome h; obtain ⟨r267, hr267, h⟩ := h
                refine Chain.callL (d := 101) (p21 N x264 x266 r267 hr267) (by simp) rfl rfl (by simp <;> rfl) (by simp <;> rfl) ent21 (by simp <;> rfl) ?_
                refine Chain.sub (S' := mk 112 [] [(0, .d (.sl (a0.map cS27))), (3, .d (.sl (r3.map cS27))), (4, .d (.sl (r4.1.map (cI .i64)))), (6, .d (.sl (r5.1.map cS43))), (9, .ref 73 0 l164.length), (12, .d (.lit (.int .i64 v226))), (91, .d (.lit (.bool r262))), (96, .agg [.d (.lit (.int .i64 x264.Tx)), .d (.lit (.int .i64 x264.Kind)), .d (.lit (.string x264.Key))]), (100, .agg [.d (.lit (.int .i64 x266.Tx)), .d (.lit (.int .i64 x266.Kind)), .d (.lit (.string x266.Key))]), (101, .d (.lit (.bool r267)))] [(73, some (.arr 43 2 (l164.map cS43)))]) (by simp; exact Sub.table (by simp) (by simp)) ?_
                refine Chain.runQ 1 fun K hK => ?_; simp; refine hK _ _ ?_; clear hK K
                refine Chain.sub (S' := mk 112 [] [(0, .d (.sl (a0.map cS27))), (3, .d (.sl (r3.map cS27))), (4, .d (.sl (r4.1.map (cI .i64)))), (6, .d (.sl (r5.1.map cS43))), (9, .ref 73 0 l164.length), (12, .d (.lit (.int .i64 v226))), (102, .d (.lit (.bool (!(r262 == r267)))))] [(73, some (.arr 43 2 (l164.map cS43)))]) (Sub.table (by simp) (by simp)) ?_
                refine Chain.nil ?_
                replace h := isome h; rcases h with ⟨c268, h⟩ | ⟨c268, h⟩
                · have c268_ : (!(r262 == r267)) = true := c268
                  refine AW.condT (b := (!(r262 == r267))) rfl c268_ ?_
                  refine AW.sub (Sub.bool 102 (b := (!(r262 == r267))) rfl c268_) ?_
                  refine AW.sub (S' := mk 112 [] [(0, .d (.sl (a0.map cS27))), (3, .d (.sl (r3.map cS27))), (4, .d (.sl (r4.1.map (cI .i64)))), (6, .d (.sl (r5.1.map cS43))), (9, .ref 73 0 l164.length), (12, .d (.lit (.int .i64 v226))), (102, .d (.lit (.bool true)))] [(73, some (.arr 43 2 (l164.map cS43)))]) (by simp; exact Sub.table (by simp) (by simp)) ?_
                  refine AW.seqR ?_
                  refine Chain.runK [] 1 fun K hK => ?_; simp; refine hK _ _ ?_; clear hK K
                  refine Chain.sub (S' := mk 112 [] [(2, .d (.lit (.bool false)))] []) (Sub.table (by simp) (by simp)) ?_
                  refine Chain.nil ?_
                  refine AW.ret ?_
                  cases h
                  refine blockQ.ret ?_
                  refine thenQ_pass (by simp) ?_
                  refine PostI.out (by simp) ?_
                  rintro rfl
                  refine blockQ.ret ?_
                  refine PostJ.out (by simp) ?_
                  rintro rfl
                  refine thenQ_pass (by simp) ?_
                  exact FinC.ret (by simp) (by simp)
                · have c268_ : (!(r262 == r267)) = false := Bool.eq_false_iff.2 c268
                  refine AW.condF (b := (!(r262 == r267))) rfl c268_ ?_
                  refine AW.sub (Sub.bool 102 (b := (!(r262 == r267))) rfl c268_) ?_
                  refine AW.sub (S' := mk 112 [] [(0, .d (.sl (a0.map cS27))), (3, .d (.sl (r3.map cS27))), (4, .d (.sl (r4.1.map (cI .i64)))), (6, .d (.sl (r5.1.map cS43))), (9, .ref 73 0 l164.length), (12, .d (.lit (.int .i64 v226))), (102, .d (.lit (.bool false)))] [(73, some (.arr 43 2 (l164.map cS43)))]) (by simp; exact Sub.table (by simp) (by simp)) ?_
                  refine AW.skip ?_
                  refine blockQ.normal ?_
                  refine thenQ_normal ?_
                  refine AW.region ?_
                  replace h := bsome h; obtain ⟨v269, hv269, h⟩ := h
                  have hv269 := chkI_some hv269
                  refine Chain.runK [] 3 fun K hK => ?_; simp [hv269]; refine hK _ _ ?_; clear hK K
                  refine Chain.sub (S' := mk 112 [] [(0, .d (.sl (a0.map cS27))), (3, .d (.sl (r3.map cS27))), (4, .d (.sl (r4.1.map (cI .i64)))), (6, .d (.sl (r5.1.map cS43))), (9, .ref 73 0 l164.length), (12, .d (.lit (.int .i64 v269)))] [(73, some (.arr 43 2 (l164.map cS43)))]) (Sub.table (by simp) (by simp)) ?_
                  refine Chain.nil ?_
                  cases h
                  refine PostI.next ?_
                  exact (Sub.table (by simp) (by simp))
              · have c256_ : decide (v226 < (r3.length : Int)) = false := decide_eq_false c256
                refine AW.condF (b := decide (v226 < (r3.length : Int))) rfl c256_ ?_
                refine AW.sub (Sub.bool 79 (b := decide (v226 < (r3.length : Int))) rfl c256_) ?_
                refine AW.sub (S' := mk 112 [] [(0, .d (.sl (a0.map cS27))), (3, .d (.sl (r3.map cS27))), (4, .d (.sl (r4.1.map (cI .i64)))), (6, .d (.sl (r5.1.map cS43))), (9, .ref 73 0 l164.length), (12, .d (.lit (.int .i64 v226))), (79, .d (.lit (.bool false)))] [(73, some (.arr 43 2 (l164.map cS43)))]) (by simp; exact Sub.table (by simp) (by simp)) ?_
                refine AW.exit ?_
                cases h
                refine thenQ_pass (by simp) ?_
                refine PostI.out (by simp) ?_
                rintro rfl
                refine blockQ.hit ?_
                refine PostJ.next ?_
                exact (Sub.table (by simp) (by simp))
            · rintro ⟨⟩ h
              refine thenQ_normal ?_
              replace h := bsome h; obtain ⟨v274, hj, h⟩ := h
              refine AW.cutR (mk 112 [] [(2, .d (.lit (.bool v274)))] []) ?_ ?_
              · clear h; have h := hj; clear hj
                refine Chain.runK [] 2 fun K hK => ?_; simp; refine hK _ _ ?_; clear hK K
                refine Chain.sub (S' := mk 112 [] [(6, .d (.sl (r5.1.map cS43))), (9, .ref 73 0 l164.length), (103, .d (.sl (r4.1.map (cI .i64)))), (104, .d (.sl (a0.map cS27)))] [(73, some (.arr 43 2 (l164.map cS43)))]) (Sub.table (by simp) (by simp)) ?_
                replace h := bsome h; obtain ⟨r275, hr275, h⟩ := h
                refine Chain.callC (d := 105) (p23 N a0 r275 hr275) (by simp) rfl rfl (by simp <;> rfl) (by simp <;> rfl) ent23 (by simp) (.inl ⟨by simp, by simp⟩) ?_
                refine Chain.sub (S' := mk 112 [] [(6, .d (.sl (r5.1.map cS43))), (9, .ref 73 0 l164.length), (103, .d (.sl (r4.1.map (cI .i64)))), (104, .d (.sl (a0.map cS27))), (105, .d (.sl (r275.map (cI .i64))))] [(73, some (.arr 43 2 (l164.map cS43)))]) (by simp; exact Sub.table (by simp) (by simp)) ?_
                replace h := bsome h; obtain ⟨r276, hr276, h⟩ := h
                refine Chain.callL (d := 106) (p22 N r4.1 r275 r276 hr276) (by simp) rfl rfl (by simp <;> rfl) (by simp <;> rfl) ent22 (by simp <;> rfl) ?_
                refine Chain.sub (S' := mk 112 [] [(6, .d (.sl (r5.1.map cS43))), (9, .ref 73 0 l164.length), (103, .d (.sl (r4.1.map (cI .i64)))), (104, .d (.sl (a0.map cS27))), (105, .d (.sl (r275.map (cI .i64)))), (106, .d (.lit (.bool r276)))] [(73, some (.arr 43 2 (l164.map cS43)))]) (by simp; exact Sub.table (by simp) (by simp)) ?_
                refine Chain.runK [] 1 fun K hK => ?_; simp; refine hK _ _ ?_; clear hK K
                refine Chain.sub (S' := mk 112 [] [(6, .d (.sl (r5.1.map cS43))), (9, .ref 73 0 l164.length), (107, .d (.lit (.bool r276)))] [(73, some (.arr 43 2 (l164.map cS43)))]) (Sub.table (by simp) (by simp)) ?_
                replace h := isome h; rcases h with ⟨c277, h⟩ | ⟨c277, h⟩
                · have c277_ : r276 = true := c277
                  refine Chain.sub (Sub.bool 107 (b := r276) rfl c277_) ?_
                  refine Chain.sub (S' := mk 112 [] [(6, .d (.sl (r5.1.map cS43))), (9, .ref 73 0 l164.length), (107, .d (.lit (.bool true)))] [(73, some (.arr 43 2 (l164.map cS43)))]) (by simp; exact Sub.table (by simp) (by simp)) ?_
                  refine Chain.runK [] 2 fun K hK => ?_; simp; refine hK _ _ ?_; clear hK K
                  refine Chain.sub (S' := mk 112 [] [(107, .d (.lit (.bool true))), (108, .d (.sl (r5.1.map cS43))), (109, .ref 73 0 l164.length)] [(73, some (.arr 43 2 (l164.map cS43)))]) (Sub.table (by simp) (by simp)) ?_
                  replace h := bsome h; obtain ⟨r278, hr278, h⟩ := h
                  refine Chain.callL (d := 110) (p24 N r5.1 l164 r278 hr278) (by simp) rfl rfl (by simp <;> rfl) (by simp <;> rfl) ent24 (by simp <;> rfl) ?_
                  refine Chain.sub (S' := mk 112 [] [(107, .d (.lit (.bool true))), (108, .d (.sl (r5.1.map cS43))), (109, .ref 73 0 l164.length), (110, .d (.lit (.bool r278)))] [(73, some (.arr 43 2 (l164.map cS43)))]) (by simp; exact Sub.table (by simp) (by simp)) ?_
                  refine Chain.runK [] 2 fun K hK => ?_; simp; refine hK _ _ ?_; clear hK K
                  refine Chain.sub (S' := mk 112 [] [(2, .d (.lit (.bool r278)))] []) (Sub.table (by simp) (by simp)) ?_
                  cases h
                  exact Chain.nil (Sub.table (by simp) (by simp))
                · have c277_ : r276 = false := Bool.eq_false_iff.2 c277
                  refine Chain.sub (Sub.bool 107 (b := r276) rfl c277_) ?_
                  refine Chain.sub (S' := mk 112 [] [(6, .d (.sl (r5.1.map cS43))), (9, .ref 73 0 l164.length), (107, .d (.lit (.bool false)))] [(73, some (.arr 43 2 (l164.map cS43)))]) (by simp; exact Sub.table (by simp) (by simp)) ?_
                  refine Chain.runK [] 5 fun K hK => ?_; simp; refine hK _ _ ?_; clear hK K
                  refine Chain.sub (S' := mk 112 [] [(2, .d (.lit (.bool false)))] []) (Sub.table (by simp) (by simp)) ?_
                  cases h
                  exact Chain.nil (Sub.table (by simp) (by simp))
              · clear hj
                refine AW.ret ?_
                cases h
                exact FinC.ret (by simp) (by simp)

end Go.Proofs.Ytabjbkdlacibjaa
