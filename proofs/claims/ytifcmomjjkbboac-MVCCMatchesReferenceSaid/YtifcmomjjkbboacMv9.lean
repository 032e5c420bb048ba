/- Functions of the program as functional programs; the code computes them. -/
import Derived.Test.YtifcmomjjkbboacMv8
namespace Go.Proofs.Ytifcmomjjkbboac
open Go.Ab Go.Rp
attribute [-simp] List.all_eq_true Array.all_toList Array.all_eq_true

/-- stemma/stemlaw5.MVCCMatchesReference -/
def d3 (N : Nat) (a0 : (List (List Int))) (a1 : (List ByteArray)) (a2 : (List (List S53))) : Option Bool :=
 (d4 N ).bind fun r1 =>
 ocase r1 (
  some false
 ) fun r1o =>
 Option.bind (α := Bool) (
  (d6 N ).bind fun r10 =>
  (d5 N r1o (ByteArray.mk #[97]) 3 r10).bind fun r11 =>
  if (r11.2 != 0) then (
   some true
  ) else
  (d6 N ).bind fun r13 =>
  (d5 N r11.1 (ByteArray.mk #[97]) 3 r13).bind fun r14 =>
  if (r14.2 != 6) then (
   some true
  ) else
  (d7 N r14.1 (ByteArray.mk #[97])).bind fun r16 =>
  some (r16 != 3)
 ) fun (v9 : Bool) =>
 if v9 = true then (
  some false
 ) else
 (d4 N ).bind fun r18 =>
 ocase r18 (
  bindO (β := Unit) (ρ := Bool) (
   iterN (σ := Unit) (ρ := (Out Unit Bool)) (fun (_ : Unit) =>
    if 0 < (a0.length : Int) then (
     (idx a0 0).bind fun x77 =>
     (d9 N x77 1).bind fun r78 =>
     (d8 N a1 r78).bind fun _r79 =>
     (d9 N x77 2).bind fun _r80 =>
     (d9 N x77 3).bind fun r81 =>
     (d10 N a2 r81).bind fun _r82 =>
     (d9 N x77 0).bind fun _r83 =>
     none
    ) else
    some (.inr (.go ()))
   ) N ()
  ) fun (_ : Unit) =>
  some true
 ) fun r18o =>
 bindO (β := Unit) (ρ := Bool) (
  iterN (σ := ((List S72) × Int × (List S43) × Int × Int)) (ρ := (Out Unit Bool)) (fun ((l188, v189, l190, v191, v192) : ((List S72) × Int × (List S43) × Int × Int)) =>
   if v192 < (a0.length : Int) then (
    (idx a0 v192).bind fun x387 =>
    (d9 N x387 1).bind fun r389 =>
    (d8 N a1 r389).bind fun r390 =>
    (d9 N x387 2).bind fun r391 =>
    (d9 N x387 3).bind fun r392 =>
    (d10 N a2 r392).bind fun r393 =>
    (d9 N x387 0).bind fun r394 =>
    bindO (β := ((List S72) × Int × (List S43) × Int × Int × Int)) (ρ := (((List S72) × Int × (List S43) × Int × Int) ⊕ (Out Unit Bool))) (
     if (r394 == 1) then (
      (d5 N (S63.mk l188 v189) r390 r391 r393).bind fun r435 =>
      (d11 N (S36.mk l190 v191) (S43.mk r390 r391 false r393)).bind fun r436 =>
      some (.go (r435.1.chains, r435.1.horizon, r436.1.Versions, r436.1.Horizon, r435.2, r436.2))
     ) else
     if (r394 == 2) then (
      (d12 N (S63.mk l188 v189) r390 r391).bind fun r438 =>
      (d11 N (S36.mk l190 v191) (S43.mk r390 r391 true ([] : List S53))).bind fun r439 =>
      some (.go (r438.1.chains, r438.1.horizon, r439.1.Versions, r439.1.Horizon, r438.2, r439.2))
     ) else
     if (r394 == 3) then (
      (d13 N (S63.mk l188 v189) r391).bind fun r441 =>
      Option.bind (α := Bool) (
       if r391 ≥ 0 then (
        some (decide (r391 ≤ 1099511627776))
       ) else
       some false
      ) fun (v443 : Bool) =>
      if v443 = true then (
       (d14 N (S36.mk l190 v191) r391).bind fun r446 =>
       some (.go (r441.1.chains, r441.1.horizon, r446.Versions, r446.Horizon, r441.2, 0))
      ) else
      some (.go (r441.1.chains, r441.1.horizon, l190, v191, r441.2, 1))
     ) else
     if (r394 == 4) then (
      (d15 N (S63.mk l188 v189) r390 r391).bind fun r448 =>
      (d16 N (S36.mk l190 v191) r390 r391).bind fun r449 =>
      Option.bind (α := (Int × (List S53))) (
       if r391 < r449.1.Horizon then (
        some (21, ([] : List S53))
       ) else
       if (!r449.2.2) = true then (
        some (4, ([] : List S53))
       ) else
       some (0, r449.2.1)
      ) fun ((v452, l453) : (Int × (List S53))) =>
      (d17 N r448.1 l453).bind fun r456 =>
      if (!r456) = true then (
       some (.ret (.inr (.ret false)))
      ) else
      some (.go (l188, v189, r449.1.Versions, r449.1.Horizon, r448.2, v452))
     ) else
     if (r394 == 5) then (
      (d18 N (S63.mk l188 v189) r391).bind fun r459 =>
      (d19 N (S36.mk l190 v191) r391).bind fun r460 =>
      Option.bind (α := (Int × (List S79))) (
       if r391 < r460.1.Horizon then (
        some (21, ([] : List S79))
       ) else
       some (0, r460.2)
      ) fun ((v462, l463) : (Int × (List S79))) =>
      (d20 N r459.1 l463).bind fun r465 =>
      if (!r465) = true then (
       some (.ret (.inr (.ret false)))
      ) else
      some (.go (l188, v189, r460.1.Versions, r460.1.Horizon, r459.2, v462))
     ) else
     some (.go (l188, v189, l190, v191, 0, 0))
    ) fun ((l428, v429, l430, v431, v432, v433) : ((List S72) × Int × (List S43) × Int × Int × Int)) =>
    Option.bind (α := Bool) (
     if (v432 != v433) then (
      some true
     ) else
     (d21 N (S63.mk l428 v429)).bind fun r474 =>
     if (r474 != (l430.length : Int)) then (
      some true
     ) else
     (d7 N (S63.mk l428 v429) r390).bind fun r476 =>
     (d22 N (S36.mk l430 v431) r390).bind fun r477 =>
     some (r476 != r477)
    ) fun (v472 : Bool) =>
    if v472 = true then (
     some (.inr (.ret false))
    ) else
    (chkI (v192 + 1)).bind fun v479 =>
    some (.inl (l428, v429, l430, v431, v479))
   ) else
   some (.inr (.go ()))
  ) N (r18o.chains, r18o.horizon, ([] : List S43), 0, 0)
 ) fun (_ : Unit) =>
 some true
set_option maxRecDepth 100000 in
set_option maxHeartbeats 4000000 in
theorem p3 (N : Nat) (a0 : (List (List Int))) (a1 : (List ByteArray)) (a2 : (List (List S53))) (r : Bool) (h : d3 N a0 a1 a2 = some r) : FunC Try.prog 3 [.d (.sl (a0.map (cL (cI .i64)))), .d (.sl (a1.map cS)), .d (.sl (a2.map (cL cS53)))] (.b r) := by
 unfold d3 at h
 refine FunC.enter 179 [(0, .d (.sl (a0.map (cL (cI .i64))))), (1, .d (.sl (a1.map cS))), (2, .d (.sl (a2.map (cL cS53))))] (by simp) Try.func3 rfl (of_decide_eq_true rfl) rfl rfl ?_
 refine AW.seqR ?_
 refine Chain.runK [] 1 fun K hK => ?_; simp; refine hK _ _ ?_; clear hK K
 refine Chain.sub (S' := mk 179 [] [(0, .d (.sl (a0.map (cL (cI .i64))))), (1, .d (.sl (a1.map cS))), (2, .d (.sl (a2.map (cL cS53))))] []) Sub.tt ?_
 refine Chain.nil ?_
 refine AW.seq ?_
 refine AW.seqR ?_
 replace h := bsome h; obtain ⟨r1, hr1, h⟩ := h
 have Fr1 := p4 N  r1 hr1
 rcases osome h with ⟨hr1o, h⟩ | ⟨r1o, hr1o, h⟩
 ·simp only [hr1o, List.append_nil] at Fr1
  refine Chain.callF Fr1 [] [] [] [] (.d (.lit (.pointer none))) (by simp) rfl (by simp <;> rfl) (by simp) (by simp) (by simp) (by simp) (by simp) ent4 (by simp) (by simp) (by simp) (by simp) (by simp) (by simp) ?_
  refine Chain.sub (S' := mk 179 [] [(0, .d (.sl (a0.map (cL (cI .i64))))), (1, .d (.sl (a1.map cS))), (2, .d (.sl (a2.map (cL cS53)))), (24, .d (.lit (.pointer none)))] []) (by simp; exact Sub.table (by simp) (by simp)) ?_
  refine Chain.runK [] 1 fun K hK => ?_; simp; refine hK _ _ ?_; clear hK K
  refine Chain.sub (S' := mk 179 [] [(0, .d (.sl (a0.map (cL (cI .i64))))), (1, .d (.sl (a1.map cS))), (2, .d (.sl (a2.map (cL cS53)))), (7, .d (.lit (.pointer none)))] []) Sub.tt ?_
  refine Chain.nil ?_
  refine AW.seqR ?_
  refine Chain.runK [] 19 fun K hK => ?_; simp; refine hK _ _ ?_; clear hK K
  refine Chain.sub (S' := mk 179 [] [(0, .d (.sl (a0.map (cL (cI .i64))))), (1, .d (.sl (a1.map cS))), (2, .d (.sl (a2.map (cL cS53)))), (43, .b true)] []) Sub.tt ?_
  refine Chain.nil ?_
  refine AW.condK fun K1 K2 k1 k2 => ?_; simp; refine k1 ?_; clear k1 k2 K1 K2
  refine AW.seqR ?_
  refine Chain.runK [] 1 fun K hK => ?_; simp; refine hK _ _ ?_; clear hK K
  refine Chain.sub (S' := mk 179 [] [(6, .b false)] []) Sub.tt ?_
  refine Chain.nil ?_
  refine AW.ret ?_
  cases h
  refine thenQ_pass (by simp) ?_
  exact FinC.ret (by simp) (by simp)
 ·simp only [hr1o, List.nil_append] at Fr1
  refine Chain.callF Fr1 [] [] [(1000, 24), (25000, 5480)] [(24, (.box [.ref 5480 0 r1o.chains.length, .d (.lit (.int .i64 r1o.horizon))])), (5480, (.nest 72 2 [none, some (67, 3)] (r1o.chains.map cS72) []))] (.ptr 24 0 0) (by simp) rfl (by simp <;> rfl) (by simp) (by simp) (by simp) (by simp) (by simp) ent4 (by simp) (by simp) (by simp) (by simp) (by simp) (by simp) ?_
  refine Chain.sub (S' := mk 179 [] [(0, .d (.sl (a0.map (cL (cI .i64))))), (1, .d (.sl (a1.map cS))), (2, .d (.sl (a2.map (cL cS53)))), (24, .ptr 24 0 0)] [(24, some (.box [.ref 5480 0 r1o.chains.length, .i r1o.horizon])), (5480, some (.nest 72 2 [none, some (67, 3)] (r1o.chains.map cS72) []))]) (by simp; exact Sub.table (by simp) (by simp)) ?_
  refine Chain.runK [] 1 fun K hK => ?_; simp; refine hK _ _ ?_; clear hK K
  refine Chain.sub (S' := mk 179 [] [(0, .d (.sl (a0.map (cL (cI .i64))))), (1, .d (.sl (a1.map cS))), (2, .d (.sl (a2.map (cL cS53)))), (7, .ptr 24 0 0)] [(24, some (.box [.ref 5480 0 r1o.chains.length, .i r1o.horizon])), (5480, some (.nest 72 2 [none, some (67, 3)] (r1o.chains.map cS72) []))]) Sub.tt ?_
  refine Chain.nil ?_
  replace h := bsome h; obtain ⟨v9, hj, h⟩ := h
  refine AW.cutR (mk 179 [] [(0, .d (.sl (a0.map (cL (cI .i64))))), (1, .d (.sl (a1.map cS))), (2, .d (.sl (a2.map (cL cS53)))), (43, .b v9)] []) ?_ ?_
  ·clear h; have h := hj; clear hj
   refine Chain.runK [] 4 fun K hK => ?_; simp; refine hK _ _ ?_; clear hK K
   refine Chain.sub (S' := mk 179 [] [(0, .d (.sl (a0.map (cL (cI .i64))))), (1, .d (.sl (a1.map cS))), (2, .d (.sl (a2.map (cL cS53)))), (7, .ptr 24 0 0), (27, .b false), (28, .ptr 24 0 0)] [(24, some (.box [.ref 5480 0 r1o.chains.length, .i r1o.horizon])), (5480, some (.nest 72 2 [none, some (67, 3)] (r1o.chains.map cS72) []))]) Sub.tt ?_
   replace h := bsome h; obtain ⟨r10, hr10, h⟩ := h
   refine Chain.callC (d := 29) (p6 N  r10 hr10) (by simp) rfl rfl (by simp <;> rfl) (by simp <;> rfl) ent6 (by simp) (.inl ⟨by simp, by simp⟩) ?_
   refine Chain.sub (S' := mk 179 [] [(0, .d (.sl (a0.map (cL (cI .i64))))), (1, .d (.sl (a1.map cS))), (2, .d (.sl (a2.map (cL cS53)))), (7, .ptr 24 0 0), (27, .b false), (28, .ptr 24 0 0), (29, .d (.sl (r10.map cS53)))] [(24, some (.box [.ref 5480 0 r1o.chains.length, .i r1o.horizon])), (5480, some (.nest 72 2 [none, some (67, 3)] (r1o.chains.map cS72) []))]) (by simp; exact Sub.table (by simp) (by simp)) ?_
   replace h := bsome h; obtain ⟨r11, hr11, h⟩ := h
   refine Chain.callF (p5 N r1o (ByteArray.mk #[97]) 3 r10 r11 hr11) [(24, 1000), (5480, 25000)] [24] [(1000, 24), (25000, 5480)] [(24, (.box [.ref 5480 0 r11.1.chains.length, .i r11.1.horizon])), (5480, (.nest 72 2 [none, some (67, 3)] (r11.1.chains.map cS72) []))] (.i r11.2) (by simp) rfl (by simp <;> rfl) (by simp) (by simp) (by simp) (by simp) (by simp) ent5 (by simp) (by simp) (by simp) (by simp) (by simp) (by simp) ?_
   refine Chain.sub (S' := mk 179 [] [(0, .d (.sl (a0.map (cL (cI .i64))))), (1, .d (.sl (a1.map cS))), (2, .d (.sl (a2.map (cL cS53)))), (7, .ptr 24 0 0), (27, .b false), (28, .ptr 24 0 0), (29, .d (.sl (r10.map cS53))), (30, .i r11.2)] [(24, some (.box [.ref 5480 0 r11.1.chains.length, .i r11.1.horizon])), (5480, some (.nest 72 2 [none, some (67, 3)] (r11.1.chains.map cS72) []))]) (by simp; exact Sub.table (by simp) (by simp)) ?_
   refine Chain.runK [] 3 fun K hK => ?_; simp; refine hK _ _ ?_; clear hK K
   refine Chain.sub (S' := mk 179 [] [(0, .d (.sl (a0.map (cL (cI .i64))))), (1, .d (.sl (a1.map cS))), (2, .d (.sl (a2.map (cL cS53)))), (7, .ptr 24 0 0), (33, .b (r11.2 != 0))] [(24, some (.box [.ref 5480 0 r11.1.chains.length, .i r11.1.horizon])), (5480, some (.nest 72 2 [none, some (67, 3)] (r11.1.chains.map cS72) []))]) Sub.tt ?_
   replace h := isome h; rcases h with ⟨c12, h⟩ | ⟨c12, h⟩
   ·have c12_ : (r11.2 != 0) = true := c12
    refine Chain.sub (Sub.bool 33 (b := (r11.2 != 0)) rfl c12_) ?_
    refine Chain.sub (S' := mk 179 [] [(0, .d (.sl (a0.map (cL (cI .i64))))), (1, .d (.sl (a1.map cS))), (2, .d (.sl (a2.map (cL cS53)))), (7, .ptr 24 0 0), (33, .b true)] [(24, some (.box [.ref 5480 0 r11.1.chains.length, .i r11.1.horizon])), (5480, some (.nest 72 2 [none, some (67, 3)] (r11.1.chains.map cS72) []))]) (by simp; exact Sub.table (by simp) (by simp)) ?_
    refine Chain.runK [] 10 fun K hK => ?_; simp; refine hK _ _ ?_; clear hK K
    refine Chain.sub (S' := mk 179 [] [(0, .d (.sl (a0.map (cL (cI .i64))))), (1, .d (.sl (a1.map cS))), (2, .d (.sl (a2.map (cL cS53)))), (43, .b true)] []) Sub.tt ?_
    cases h
    exact Chain.nil Sub.tt
   ·have c12_ : (r11.2 != 0) = false := Bool.eq_false_iff.2 c12
    refine Chain.sub (Sub.bool 33 (b := (r11.2 != 0)) rfl c12_) ?_
    refine Chain.sub (S' := mk 179 [] [(0, .d (.sl (a0.map (cL (cI .i64))))), (1, .d (.sl (a1.map cS))), (2, .d (.sl (a2.map (cL cS53)))), (7, .ptr 24 0 0), (33, .b false)] [(24, some (.box [.ref 5480 0 r11.1.chains.length, .i r11.1.horizon])), (5480, some (.nest 72 2 [none, some (67, 3)] (r11.1.chains.map cS72) []))]) (by simp; exact Sub.table (by simp) (by simp)) ?_
    refine Chain.runK [] 1 fun K hK => ?_; simp; refine hK _ _ ?_; clear hK K
    refine Chain.sub (S' := mk 179 [] [(0, .d (.sl (a0.map (cL (cI .i64))))), (1, .d (.sl (a1.map cS))), (2, .d (.sl (a2.map (cL cS53)))), (7, .ptr 24 0 0), (33, .b false), (34, .ptr 24 0 0)] [(24, some (.box [.ref 5480 0 r11.1.chains.length, .i r11.1.horizon])), (5480, some (.nest 72 2 [none, some (67, 3)] (r11.1.chains.map cS72) []))]) Sub.tt ?_
    replace h := bsome h; obtain ⟨r13, hr13, h⟩ := h
    refine Chain.callC (d := 35) (p6 N  r13 hr13) (by simp) rfl rfl (by simp <;> rfl) (by simp <;> rfl) ent6 (by simp) (.inl ⟨by simp, by simp⟩) ?_
    refine Chain.sub (S' := mk 179 [] [(0, .d (.sl (a0.map (cL (cI .i64))))), (1, .d (.sl (a1.map cS))), (2, .d (.sl (a2.map (cL cS53)))), (7, .ptr 24 0 0), (33, .b false), (34, .ptr 24 0 0), (35, .d (.sl (r13.map cS53)))] [(24, some (.box [.ref 5480 0 r11.1.chains.length, .i r11.1.horizon])), (5480, some (.nest 72 2 [none, some (67, 3)] (r11.1.chains.map cS72) []))]) (by simp; exact Sub.table (by simp) (by simp)) ?_
    replace h := bsome h; obtain ⟨r14, hr14, h⟩ := h
    refine Chain.callF (p5 N r11.1 (ByteArray.mk #[97]) 3 r13 r14 hr14) [(24, 1000), (5480, 25000)] [24] [(1000, 24), (25000, 5480)] [(24, (.box [.ref 5480 0 r14.1.chains.length, .i r14.1.horizon])), (5480, (.nest 72 2 [none, some (67, 3)] (r14.1.chains.map cS72) []))] (.i r14.2) (by simp) rfl (by simp <;> rfl) (by simp) (by simp) (by simp) (by simp) (by simp) ent5 (by simp) (by simp) (by simp) (by simp) (by simp) (by simp) ?_
    refine Chain.sub (S' := mk 179 [] [(0, .d (.sl (a0.map (cL (cI .i64))))), (1, .d (.sl (a1.map cS))), (2, .d (.sl (a2.map (cL cS53)))), (7, .ptr 24 0 0), (33, .b false), (34, .ptr 24 0 0), (35, .d (.sl (r13.map cS53))), (36, .i r14.2)] [(24, some (.box [.ref 5480 0 r14.1.chains.length, .i r14.1.horizon])), (5480, some (.nest 72 2 [none, some (67, 3)] (r14.1.chains.map cS72) []))]) (by simp; exact Sub.table (by simp) (by simp)) ?_
    refine Chain.runK [] 3 fun K hK => ?_; simp; refine hK _ _ ?_; clear hK K
    refine Chain.sub (S' := mk 179 [] [(0, .d (.sl (a0.map (cL (cI .i64))))), (1, .d (.sl (a1.map cS))), (2, .d (.sl (a2.map (cL cS53)))), (7, .ptr 24 0 0), (39, .b (r14.2 != 6))] [(24, some (.box [.ref 5480 0 r14.1.chains.length, .i r14.1.horizon])), (5480, some (.nest 72 2 [none, some (67, 3)] (r14.1.chains.map cS72) []))]) Sub.tt ?_
    replace h := isome h; rcases h with ⟨c15, h⟩ | ⟨c15, h⟩
    ·have c15_ : (r14.2 != 6) = true := c15
     refine Chain.sub (Sub.bool 39 (b := (r14.2 != 6)) rfl c15_) ?_
     refine Chain.sub (S' := mk 179 [] [(0, .d (.sl (a0.map (cL (cI .i64))))), (1, .d (.sl (a1.map cS))), (2, .d (.sl (a2.map (cL cS53)))), (7, .ptr 24 0 0), (39, .b true)] [(24, some (.box [.ref 5480 0 r14.1.chains.length, .i r14.1.horizon])), (5480, some (.nest 72 2 [none, some (67, 3)] (r14.1.chains.map cS72) []))]) (by simp; exact Sub.table (by simp) (by simp)) ?_
     refine Chain.runK [] 4 fun K hK => ?_; simp; refine hK _ _ ?_; clear hK K
     refine Chain.sub (S' := mk 179 [] [(0, .d (.sl (a0.map (cL (cI .i64))))), (1, .d (.sl (a1.map cS))), (2, .d (.sl (a2.map (cL cS53)))), (43, .b true)] []) Sub.tt ?_
     cases h
     exact Chain.nil Sub.tt
    ·have c15_ : (r14.2 != 6) = false := Bool.eq_false_iff.2 c15
     refine Chain.sub (Sub.bool 39 (b := (r14.2 != 6)) rfl c15_) ?_
     refine Chain.sub (S' := mk 179 [] [(0, .d (.sl (a0.map (cL (cI .i64))))), (1, .d (.sl (a1.map cS))), (2, .d (.sl (a2.map (cL cS53)))), (7, .ptr 24 0 0), (39, .b false)] [(24, some (.box [.ref 5480 0 r14.1.chains.length, .i r14.1.horizon])), (5480, some (.nest 72 2 [none, some (67, 3)] (r14.1.chains.map cS72) []))]) (by simp; exact Sub.table (by simp) (by simp)) ?_
     refine Chain.runK [] 1 fun K hK => ?_; simp; refine hK _ _ ?_; clear hK K
     refine Chain.sub (S' := mk 179 [] [(0, .d (.sl (a0.map (cL (cI .i64))))), (1, .d (.sl (a1.map cS))), (2, .d (.sl (a2.map (cL cS53)))), (39, .b false), (40, .ptr 24 0 0)] [(24, some (.box [.ref 5480 0 r14.1.chains.length, .i r14.1.horizon])), (5480, some (.nest 72 2 [none, some (67, 3)] (r14.1.chains.map cS72) []))]) Sub.tt ?_
     replace h := bsome h; obtain ⟨r16, hr16, h⟩ := h
     refine Chain.callL (d := 41) (p7 N r14.1 (ByteArray.mk #[97]) r16 hr16) (by simp) rfl rfl (by simp <;> rfl) (by simp <;> rfl) ent7 (by simp <;> rfl) ?_
     refine Chain.sub (S' := mk 179 [] [(0, .d (.sl (a0.map (cL (cI .i64))))), (1, .d (.sl (a1.map cS))), (2, .d (.sl (a2.map (cL cS53)))), (39, .b false), (40, .ptr 24 0 0), (41, .i r16)] [(24, some (.box [.ref 5480 0 r14.1.chains.length, .i r14.1.horizon])), (5480, some (.nest 72 2 [none, some (67, 3)] (r14.1.chains.map cS72) []))]) (by simp; exact Sub.table (by simp) (by simp)) ?_
     refine Chain.runK [] 2 fun K hK => ?_; simp; refine hK _ _ ?_; clear hK K
     refine Chain.sub (S' := mk 179 [] [(0, .d (.sl (a0.map (cL (cI .i64))))), (1, .d (.sl (a1.map cS))), (2, .d (.sl (a2.map (cL cS53)))), (43, .b (r16 != 3))] []) Sub.tt ?_
     cases h
     exact Chain.nil Sub.tt
  ·clear hj
   replace h := isome h; rcases h with ⟨c17, h⟩ | ⟨c17, h⟩
   ·have c17_ : v9 = true := c17
    refine AW.condT (b := v9) rfl c17_ ?_
    refine AW.sub (Sub.bool 43 (b := v9) rfl c17_) ?_
    refine AW.sub (S' := mk 179 [] [(0, .d (.sl (a0.map (cL (cI .i64))))), (1, .d (.sl (a1.map cS))), (2, .d (.sl (a2.map (cL cS53)))), (43, .b true)] []) (by simp; exact Sub.table (by simp) (by simp)) ?_
    refine AW.seqR ?_
    refine Chain.runK [] 1 fun K hK => ?_; simp; refine hK _ _ ?_; clear hK K
    refine Chain.sub (S' := mk 179 [] [(6, .b false)] []) Sub.tt ?_
    refine Chain.nil ?_
    refine AW.ret ?_
    cases h
    refine thenQ_pass (by simp) ?_
    exact FinC.ret (by simp) (by simp)
   ·have c17_ : v9 = false := Bool.eq_false_iff.2 c17
    refine AW.condF (b := v9) rfl c17_ ?_
    refine AW.sub (Sub.bool 43 (b := v9) rfl c17_) ?_
    refine AW.sub (S' := mk 179 [] [(0, .d (.sl (a0.map (cL (cI .i64))))), (1, .d (.sl (a1.map cS))), (2, .d (.sl (a2.map (cL cS53)))), (43, .b false)] []) (by simp; exact Sub.table (by simp) (by simp)) ?_
    refine AW.skip ?_
    refine thenQ_normal ?_
    refine AW.seqR ?_
    replace h := bsome h; obtain ⟨r18, hr18, h⟩ := h
    have Fr18 := p4 N  r18 hr18
    rcases osome h with ⟨hr18o, h⟩ | ⟨r18o, hr18o, h⟩
    ·simp only [hr18o, List.append_nil] at Fr18
     refine Chain.callF Fr18 [] [] [] [] (.d (.lit (.pointer none))) (by simp) rfl (by simp <;> rfl) (by simp) (by simp) (by simp) (by simp) (by simp) ent4 (by simp) (by simp) (by simp) (by simp) (by simp) (by simp) ?_
     refine Chain.sub (S' := mk 179 [] [(0, .d (.sl (a0.map (cL (cI .i64))))), (1, .d (.sl (a1.map cS))), (2, .d (.sl (a2.map (cL cS53)))), (43, .b false), (44, .d (.lit (.pointer none)))] []) (by simp; exact Sub.table (by simp) (by simp)) ?_
     refine Chain.runK [] 2 fun K hK => ?_; simp; refine hK _ _ ?_; clear hK K
     refine Chain.sub (S' := mk 179 [] [(0, .d (.sl (a0.map (cL (cI .i64))))), (1, .d (.sl (a1.map cS))), (2, .d (.sl (a2.map (cL cS53)))), (44, .d (.lit (.pointer none))), (46, .ptr 46 0 0)] [(46, some (.box [.d (.lit (.slice none 0 0)), .i 0]))]) Sub.tt ?_
     refine Chain.sub (Sub.nilOwnBox (bid := 46) (j := 0) (id := 5920) (T := 43) (n := 4) rfl rfl (by decide) rfl (by decide)) ?_
     refine Chain.sub (S' := mk 179 [] [(0, .d (.sl (a0.map (cL (cI .i64))))), (1, .d (.sl (a1.map cS))), (2, .d (.sl (a2.map (cL cS53)))), (44, .d (.lit (.pointer none))), (46, .ptr 46 0 0)] [(46, some (.box [.ref 5920 0 (([] : List S43).length), .i 0])), (5920, R43 ([] : List S43))]) (by simp; exact Sub.table (by simp) (by simp)) ?_
     refine Chain.runK [] 2 fun K hK => ?_; simp; refine hK _ _ ?_; clear hK K
     refine Chain.sub (S' := mk 179 [] [(0, .d (.sl (a0.map (cL (cI .i64))))), (1, .d (.sl (a1.map cS))), (2, .d (.sl (a2.map (cL cS53)))), (8, .d (.lit (.pointer none))), (9, .ptr 46 0 0)] [(46, some (.box [.ref 5920 0 (([] : List S43).length), .i 0])), (5920, R43 ([] : List S43))]) Sub.tt ?_
     refine Chain.nil ?_
     refine AW.seq ?_
     refine AW.seqR ?_
     refine Chain.runK [] 3 fun K hK => ?_; simp; refine hK _ _ ?_; clear hK K
     refine Chain.sub (S' := mk 179 [] [(1, .d (.sl (a1.map cS))), (2, .d (.sl (a2.map (cL cS53)))), (8, .d (.lit (.pointer none))), (9, .ptr 46 0 0), (47, .d (.sl (a0.map (cL (cI .i64))))), (48, .i (a0.length : Int)), (49, .i 0)] [(46, some (.box [.ref 5920 0 (([] : List S43).length), .i 0])), (5920, R43 ([] : List S43))]) Sub.tt ?_
     refine Chain.nil ?_
     refine AW.lastJ (fun (_ : Unit) => mk 179 [] [] []) h ?_ ?_ <;> clear h
     ·intro o h
      refine AW.block ?_
      refine AW.iter (fun (_ : Unit) => mk 179 [] [(1, .d (.sl (a1.map cS))), (2, .d (.sl (a2.map (cL cS53)))), (8, .d (.lit (.pointer none))), (9, .ptr 46 0 0), (47, .d (.sl (a0.map (cL (cI .i64))))), (48, .i (a0.length : Int)), (49, .i 0)] [(46, some (.box [.ref 5920 0 (([] : List S43).length), .i 0])), (5920, R43 ([] : List S43))]) h Sub.tt ?_
      clear h
      rintro ⟨⟩ x h
      refine AW.seqR ?_
      refine Chain.runK [] 1 fun K hK => ?_; simp; refine hK _ _ ?_; clear hK K
      refine Chain.sub (S' := mk 179 [] [(1, .d (.sl (a1.map cS))), (2, .d (.sl (a2.map (cL cS53)))), (8, .d (.lit (.pointer none))), (9, .ptr 46 0 0), (47, .d (.sl (a0.map (cL (cI .i64))))), (48, .i (a0.length : Int)), (49, .i 0), (50, .b (decide (0 < (a0.length : Int))))] [(46, some (.box [.ref 5920 0 (([] : List S43).length), .i 0])), (5920, R43 ([] : List S43))]) Sub.tt ?_
      refine Chain.nil ?_
      refine AW.seq ?_
      replace h := isome h; rcases h with ⟨c76, h⟩ | ⟨c76, h⟩
      ·have c76_ : decide (0 < (a0.length : Int)) = true := decide_eq_true c76
       refine AW.condT (b := decide (0 < (a0.length : Int))) rfl c76_ ?_
       refine AW.sub (Sub.bool 50 (b := decide (0 < (a0.length : Int))) rfl c76_) ?_
       refine AW.sub (S' := mk 179 [] [(1, .d (.sl (a1.map cS))), (2, .d (.sl (a2.map (cL cS53)))), (8, .d (.lit (.pointer none))), (9, .ptr 46 0 0), (47, .d (.sl (a0.map (cL (cI .i64))))), (48, .i (a0.length : Int)), (49, .i 0), (50, .b true)] [(46, some (.box [.ref 5920 0 (([] : List S43).length), .i 0])), (5920, R43 ([] : List S43))]) (by simp; exact Sub.table (by simp) (by simp)) ?_
       refine AW.skip ?_
       refine thenQ_normal ?_
       refine AW.seq ?_
       refine AW.block ?_
       refine AW.seqR ?_
       replace h := bsome h; obtain ⟨x77, hx77, h⟩ := h
       obtain ⟨hx77, hx77b, hx77c⟩ := idx_someN (n := 0) hx77
       refine Chain.runK [] 3 fun K hK => ?_; simp [hx77]; refine hK _ _ ?_; clear hK K
       refine Chain.sub (S' := mk 179 [] [(1, .d (.sl (a1.map cS))), (2, .d (.sl (a2.map (cL cS53)))), (8, .d (.lit (.pointer none))), (9, .ptr 46 0 0), (11, .d (.sl (x77.map (cI .i64)))), (47, .d (.sl (a0.map (cL (cI .i64))))), (48, .i (a0.length : Int)), (49, .i 0)] [(46, some (.box [.ref 5920 0 (([] : List S43).length), .i 0])), (5920, R43 ([] : List S43))]) Sub.tt ?_
       refine Chain.nil ?_
       refine AW.seqR ?_
       refine Chain.runK [] 2 fun K hK => ?_; simp; refine hK _ _ ?_; clear hK K
       refine Chain.sub (S' := mk 179 [] [(1, .d (.sl (a1.map cS))), (2, .d (.sl (a2.map (cL cS53)))), (8, .d (.lit (.pointer none))), (9, .ptr 46 0 0), (11, .d (.sl (x77.map (cI .i64)))), (47, .d (.sl (a0.map (cL (cI .i64))))), (48, .i (a0.length : Int)), (49, .i 0), (53, .d (.sl (a1.map cS))), (54, .d (.sl (x77.map (cI .i64))))] [(46, some (.box [.ref 5920 0 (([] : List S43).length), .i 0])), (5920, R43 ([] : List S43))]) Sub.tt ?_
       replace h := bsome h; obtain ⟨r78, hr78, h⟩ := h
       refine Chain.callL (d := 55) (p9 N x77 1 r78 hr78) (by simp) rfl rfl (by simp <;> rfl) (by simp <;> rfl) ent9 (by simp <;> rfl) ?_
       refine Chain.sub (S' := mk 179 [] [(1, .d (.sl (a1.map cS))), (2, .d (.sl (a2.map (cL cS53)))), (8, .d (.lit (.pointer none))), (9, .ptr 46 0 0), (11, .d (.sl (x77.map (cI .i64)))), (47, .d (.sl (a0.map (cL (cI .i64))))), (48, .i (a0.length : Int)), (49, .i 0), (53, .d (.sl (a1.map cS))), (54, .d (.sl (x77.map (cI .i64)))), (55, .i r78)] [(46, some (.box [.ref 5920 0 (([] : List S43).length), .i 0])), (5920, R43 ([] : List S43))]) (by simp; exact Sub.table (by simp) (by simp)) ?_
       replace h := bsome h; obtain ⟨r79, hr79, h⟩ := h
       refine Chain.callL (d := 56) (p8 N a1 r78 r79 hr79) (by simp) rfl rfl (by simp <;> rfl) (by simp <;> rfl) ent8 (by simp <;> rfl) ?_
       refine Chain.sub (S' := mk 179 [] [(1, .d (.sl (a1.map cS))), (2, .d (.sl (a2.map (cL cS53)))), (8, .d (.lit (.pointer none))), (9, .ptr 46 0 0), (11, .d (.sl (x77.map (cI .i64)))), (47, .d (.sl (a0.map (cL (cI .i64))))), (48, .i (a0.length : Int)), (49, .i 0), (53, .d (.sl (a1.map cS))), (54, .d (.sl (x77.map (cI .i64)))), (55, .i r78), (56, .d (.lit (.string r79)))] [(46, some (.box [.ref 5920 0 (([] : List S43).length), .i 0])), (5920, R43 ([] : List S43))]) (by simp; exact Sub.table (by simp) (by simp)) ?_
       refine Chain.runK [] 1 fun K hK => ?_; simp; refine hK _ _ ?_; clear hK K
       refine Chain.sub (S' := mk 179 [] [(1, .d (.sl (a1.map cS))), (2, .d (.sl (a2.map (cL cS53)))), (8, .d (.lit (.pointer none))), (9, .ptr 46 0 0), (11, .d (.sl (x77.map (cI .i64)))), (47, .d (.sl (a0.map (cL (cI .i64))))), (48, .i (a0.length : Int)), (49, .i 0), (56, .d (.lit (.string r79))), (57, .d (.sl (x77.map (cI .i64))))] [(46, some (.box [.ref 5920 0 (([] : List S43).length), .i 0])), (5920, R43 ([] : List S43))]) Sub.tt ?_
       replace h := bsome h; obtain ⟨r80, hr80, h⟩ := h
       refine Chain.callL (d := 58) (p9 N x77 2 r80 hr80) (by simp) rfl rfl (by simp <;> rfl) (by simp <;> rfl) ent9 (by simp <;> rfl) ?_
       refine Chain.sub (S' := mk 179 [] [(1, .d (.sl (a1.map cS))), (2, .d (.sl (a2.map (cL cS53)))), (8, .d (.lit (.pointer none))), (9, .ptr 46 0 0), (11, .d (.sl (x77.map (cI .i64)))), (47, .d (.sl (a0.map (cL (cI .i64))))), (48, .i (a0.length : Int)), (49, .i 0), (56, .d (.lit (.string r79))), (57, .d (.sl (x77.map (cI .i64)))), (58, .i r80)] [(46, some (.box [.ref 5920 0 (([] : List S43).length), .i 0])), (5920, R43 ([] : List S43))]) (by simp; exact Sub.table (by simp) (by simp)) ?_
       refine Chain.runK [] 2 fun K hK => ?_; simp; refine hK _ _ ?_; clear hK K
       refine Chain.sub (S' := mk 179 [] [(1, .d (.sl (a1.map cS))), (2, .d (.sl (a2.map (cL cS53)))), (8, .d (.lit (.pointer none))), (9, .ptr 46 0 0), (11, .d (.sl (x77.map (cI .i64)))), (47, .d (.sl (a0.map (cL (cI .i64))))), (48, .i (a0.length : Int)), (49, .i 0), (56, .d (.lit (.string r79))), (58, .i r80), (59, .d (.sl (a2.map (cL cS53)))), (60, .d (.sl (x77.map (cI .i64))))] [(46, some (.box [.ref 5920 0 (([] : List S43).length), .i 0])), (5920, R43 ([] : List S43))]) Sub.tt ?_
       replace h := bsome h; obtain ⟨r81, hr81, h⟩ := h
       refine Chain.callL (d := 61) (p9 N x77 3 r81 hr81) (by simp) rfl rfl (by simp <;> rfl) (by simp <;> rfl) ent9 (by simp <;> rfl) ?_
       refine Chain.sub (S' := mk 179 [] [(1, .d (.sl (a1.map cS))), (2, .d (.sl (a2.map (cL cS53)))), (8, .d (.lit (.pointer none))), (9, .ptr 46 0 0), (11, .d (.sl (x77.map (cI .i64)))), (47, .d (.sl (a0.map (cL (cI .i64))))), (48, .i (a0.length : Int)), (49, .i 0), (56, .d (.lit (.string r79))), (58, .i r80), (59, .d (.sl (a2.map (cL cS53)))), (60, .d (.sl (x77.map (cI .i64)))), (61, .i r81)] [(46, some (.box [.ref 5920 0 (([] : List S43).length), .i 0])), (5920, R43 ([] : List S43))]) (by simp; exact Sub.table (by simp) (by simp)) ?_
       replace h := bsome h; obtain ⟨r82, hr82, h⟩ := h
       refine Chain.callC (d := 62) (p10 N a2 r81 r82 hr82) (by simp) rfl rfl (by simp <;> rfl) (by simp <;> rfl) ent10 (by simp) (.inl ⟨by simp, by simp⟩) ?_
       refine Chain.sub (S' := mk 179 [] [(1, .d (.sl (a1.map cS))), (2, .d (.sl (a2.map (cL cS53)))), (8, .d (.lit (.pointer none))), (9, .ptr 46 0 0), (11, .d (.sl (x77.map (cI .i64)))), (47, .d (.sl (a0.map (cL (cI .i64))))), (48, .i (a0.length : Int)), (49, .i 0), (56, .d (.lit (.string r79))), (58, .i r80), (59, .d (.sl (a2.map (cL cS53)))), (60, .d (.sl (x77.map (cI .i64)))), (61, .i r81), (62, .d (.sl (r82.map cS53)))] [(46, some (.box [.ref 5920 0 (([] : List S43).length), .i 0])), (5920, R43 ([] : List S43))]) (by simp; exact Sub.table (by simp) (by simp)) ?_
       refine Chain.runK [] 3 fun K hK => ?_; simp; refine hK _ _ ?_; clear hK K
       refine Chain.sub (S' := mk 179 [] [(1, .d (.sl (a1.map cS))), (2, .d (.sl (a2.map (cL cS53)))), (8, .d (.lit (.pointer none))), (9, .ptr 46 0 0), (11, .d (.sl (x77.map (cI .i64)))), (12, .d (.lit (.string r79))), (13, .i r80), (14, .d (.sl (r82.map cS53))), (47, .d (.sl (a0.map (cL (cI .i64))))), (48, .i (a0.length : Int)), (49, .i 0)] [(46, some (.box [.ref 5920 0 (([] : List S43).length), .i 0])), (5920, R43 ([] : List S43))]) Sub.tt ?_
       refine Chain.nil ?_
       refine AW.seqR ?_
       refine Chain.runK [] 2 fun K hK => ?_; simp; refine hK _ _ ?_; clear hK K
       refine Chain.sub (S' := mk 179 [] [(1, .d (.sl (a1.map cS))), (2, .d (.sl (a2.map (cL cS53)))), (8, .d (.lit (.pointer none))), (9, .ptr 46 0 0), (11, .d (.sl (x77.map (cI .i64)))), (12, .d (.lit (.string r79))), (13, .i r80), (14, .d (.sl (r82.map cS53))), (15, .i 0), (16, .i 0), (47, .d (.sl (a0.map (cL (cI .i64))))), (48, .i (a0.length : Int)), (49, .i 0)] [(46, some (.box [.ref 5920 0 (([] : List S43).length), .i 0])), (5920, R43 ([] : List S43))]) Sub.tt ?_
       refine Chain.nil ?_
       refine AW.seq ?_
       refine AW.seqR ?_
       refine Chain.runK [] 1 fun K hK => ?_; simp; refine hK _ _ ?_; clear hK K
       refine Chain.sub (S' := mk 179 [] [(1, .d (.sl (a1.map cS))), (2, .d (.sl (a2.map (cL cS53)))), (8, .d (.lit (.pointer none))), (9, .ptr 46 0 0), (12, .d (.lit (.string r79))), (13, .i r80), (14, .d (.sl (r82.map cS53))), (15, .i 0), (16, .i 0), (47, .d (.sl (a0.map (cL (cI .i64))))), (48, .i (a0.length : Int)), (49, .i 0), (63, .d (.sl (x77.map (cI .i64))))] [(46, some (.box [.ref 5920 0 (([] : List S43).length), .i 0])), (5920, R43 ([] : List S43))]) Sub.tt ?_
       replace h := bsome h; obtain ⟨r83, hr83, h⟩ := h
       refine Chain.callL (d := 64) (p9 N x77 0 r83 hr83) (by simp) rfl rfl (by simp <;> rfl) (by simp <;> rfl) ent9 (by simp <;> rfl) ?_
       refine Chain.sub (S' := mk 179 [] [(1, .d (.sl (a1.map cS))), (2, .d (.sl (a2.map (cL cS53)))), (8, .d (.lit (.pointer none))), (9, .ptr 46 0 0), (12, .d (.lit (.string r79))), (13, .i r80), (14, .d (.sl (r82.map cS53))), (15, .i 0), (16, .i 0), (47, .d (.sl (a0.map (cL (cI .i64))))), (48, .i (a0.length : Int)), (49, .i 0), (63, .d (.sl (x77.map (cI .i64)))), (64, .i r83)] [(46, some (.box [.ref 5920 0 (([] : List S43).length), .i 0])), (5920, R43 ([] : List S43))]) (by simp; exact Sub.table (by simp) (by simp)) ?_
       refine Chain.nil ?_
       refine AW.block ?_
       cases h
      ·have c76_ : decide (0 < (a0.length : Int)) = false := decide_eq_false c76
       refine AW.condF (b := decide (0 < (a0.length : Int))) rfl c76_ ?_
       refine AW.sub (Sub.bool 50 (b := decide (0 < (a0.length : Int))) rfl c76_) ?_
       refine AW.sub (S' := mk 179 [] [(1, .d (.sl (a1.map cS))), (2, .d (.sl (a2.map (cL cS53)))), (8, .d (.lit (.pointer none))), (9, .ptr 46 0 0), (47, .d (.sl (a0.map (cL (cI .i64))))), (48, .i (a0.length : Int)), (49, .i 0), (50, .b false)] [(46, some (.box [.ref 5920 0 (([] : List S43).length), .i 0])), (5920, R43 ([] : List S43))]) (by simp; exact Sub.table (by simp) (by simp)) ?_
       refine AW.exit ?_
       cases h
       refine thenQ_pass (by simp) ?_
       refine PostI.out (by simp) ?_
       rintro rfl
       refine blockQ.hit ?_
       refine PostJ.next ?_
       exact Sub.tt
     ·rintro ⟨⟩ h
      refine thenQ_normal ?_
      refine AW.seqR ?_
      refine Chain.runK [] 1 fun K hK => ?_; simp; refine hK _ _ ?_; clear hK K
      refine Chain.sub (S' := mk 179 [] [(6, .b true)] []) Sub.tt ?_
      refine Chain.nil ?_
      refine AW.ret ?_
      cases h
      exact FinC.ret (by simp) (by simp)
    ·simp only [hr18o, List.nil_append] at Fr18
     refine Chain.callF Fr18 [] [] [(1000, 44), (25000, 5880)] [(44, (.box [.ref 5880 0 r18o.chains.length, .d (.lit (.int .i64 r18o.horizon))])), (5880, (.nest 72 2 [none, some (67, 3)] (r18o.chains.map cS72) []))] (.ptr 44 0 0) (by simp) rfl (by simp <;> rfl) (by simp) (by simp) (by simp) (by simp) (by simp) ent4 (by simp) (by simp) (by simp) (by simp) (by simp) (by simp) ?_
     refine Chain.sub (S' := mk 179 [] [(0, .d (.sl (a0.map (cL (cI .i64))))), (1, .d (.sl (a1.map cS))), (2, .d (.sl (a2.map (cL cS53)))), (43, .b false), (44, .ptr 44 0 0)] [(44, some (.box [.ref 5880 0 r18o.chains.length, .i r18o.horizon])), (5880, some (.nest 72 2 [none, some (67, 3)] (r18o.chains.map cS72) []))]) (by simp; exact Sub.table (by simp) (by simp)) ?_
     refine Chain.runK [] 2 fun K hK => ?_; simp; refine hK _ _ ?_; clear hK K
     refine Chain.sub (S' := mk 179 [] [(0, .d (.sl (a0.map (cL (cI .i64))))), (1, .d (.sl (a1.map cS))), (2, .d (.sl (a2.map (cL cS53)))), (44, .ptr 44 0 0), (46, .ptr 46 0 0)] [(44, some (.box [.ref 5880 0 r18o.chains.length, .i r18o.horizon])), (46, some (.box [.d (.lit (.slice none 0 0)), .i 0])), (5880, some (.nest 72 2 [none, some (67, 3)] (r18o.chains.map cS72) []))]) Sub.tt ?_
     refine Chain.sub (Sub.nilOwnBox (bid := 46) (j := 0) (id := 5920) (T := 43) (n := 4) rfl rfl (by decide) rfl (by decide)) ?_
     refine Chain.sub (S' := mk 179 [] [(0, .d (.sl (a0.map (cL (cI .i64))))), (1, .d (.sl (a1.map cS))), (2, .d (.sl (a2.map (cL cS53)))), (44, .ptr 44 0 0), (46, .ptr 46 0 0)] [(44, some (.box [.ref 5880 0 r18o.chains.length, .i r18o.horizon])), (46, some (.box [.ref 5920 0 (([] : List S43).length), .i 0])), (5880, some (.nest 72 2 [none, some (67, 3)] (r18o.chains.map cS72) [])), (5920, R43 ([] : List S43))]) (by simp; exact Sub.table (by simp) (by simp)) ?_
     refine Chain.runK [] 2 fun K hK => ?_; simp; refine hK _ _ ?_; clear hK K
     refine Chain.sub (S' := mk 179 [] [(0, .d (.sl (a0.map (cL (cI .i64))))), (1, .d (.sl (a1.map cS))), (2, .d (.sl (a2.map (cL cS53)))), (8, .ptr 44 0 0), (9, .ptr 46 0 0)] [(44, some (.box [.ref 5880 0 r18o.chains.length, .i r18o.horizon])), (46, some (.box [.ref 5920 0 (([] : List S43).length), .i 0])), (5880, some (.nest 72 2 [none, some (67, 3)] (r18o.chains.map cS72) [])), (5920, R43 ([] : List S43))]) Sub.tt ?_
     refine Chain.nil ?_
     refine AW.seq ?_
     refine AW.seqR ?_
     refine Chain.runK [] 3 fun K hK => ?_; simp; refine hK _ _ ?_; clear hK K
     refine Chain.sub (S' := mk 179 [] [(1, .d (.sl (a1.map cS))), (2, .d (.sl (a2.map (cL cS53)))), (8, .ptr 44 0 0), (9, .ptr 46 0 0), (47, .d (.sl (a0.map (cL (cI .i64))))), (48, .i (a0.length : Int)), (49, .i 0)] [(44, some (.box [.ref 5880 0 r18o.chains.length, .i r18o.horizon])), (46, some (.box [.ref 5920 0 (([] : List S43).length), .i 0])), (5880, some (.nest 72 2 [none, some (67, 3)] (r18o.chains.map cS72) [])), (5920, R43 ([] : List S43))]) Sub.tt ?_
     refine Chain.nil ?_
     refine AW.lastJ (fun (_ : Unit) => mk 179 [] [] []) h ?_ ?_ <;> clear h
     ·intro o h
      refine AW.block ?_
      refine AW.iter (fun ((l188, v189, l190, v191, v192) : ((List S72) × Int × (List S43) × Int × Int)) => mk 179 [] [(1, .d (.sl (a1.map cS))), (2, .d (.sl (a2.map (cL cS53)))), (8, .ptr 44 0 0), (9, .ptr 46 0 0), (47, .d (.sl (a0.map (cL (cI .i64))))), (48, .i (a0.length : Int)), (49, .i v192)] [(44, some (.box [.ref 5880 0 l188.length, .i v189])), (46, some (.box [.ref 5920 0 l190.length, .i v191])), (5880, some (.nest 72 2 [none, some (67, 3)] (l188.map cS72) [])), (5920, R43 l190)]) h Sub.tt ?_
      clear h
      rintro ⟨l188, v189, l190, v191, v192⟩ x h
      dsimp only at h ⊢
      refine AW.seqR ?_
      refine Chain.runK [] 1 fun K hK => ?_; simp; refine hK _ _ ?_; clear hK K
      refine Chain.sub (S' := mk 179 [] [(1, .d (.sl (a1.map cS))), (2, .d (.sl (a2.map (cL cS53)))), (8, .ptr 44 0 0), (9, .ptr 46 0 0), (47, .d (.sl (a0.map (cL (cI .i64))))), (48, .i (a0.length : Int)), (49, .i v192), (50, .b (decide (v192 < (a0.length : Int))))] [(44, some (.box [.ref 5880 0 l188.length, .i v189])), (46, some (.box [.ref 5920 0 l190.length, .i v191])), (5880, some (.nest 72 2 [none, some (67, 3)] (l188.map cS72) [])), (5920, R43 l190)]) Sub.tt ?_
      refine Chain.nil ?_
      refine AW.seq ?_
      replace h := isome h; rcases h with ⟨c386, h⟩ | ⟨c386, h⟩
      ·have c386_ : decide (v192 < (a0.length : Int)) = true := decide_eq_true c386
       refine AW.condT (b := decide (v192 < (a0.length : Int))) rfl c386_ ?_
       refine AW.sub (Sub.bool 50 (b := decide (v192 < (a0.length : Int))) rfl c386_) ?_
       refine AW.sub (S' := mk 179 [] [(1, .d (.sl (a1.map cS))), (2, .d (.sl (a2.map (cL cS53)))), (8, .ptr 44 0 0), (9, .ptr 46 0 0), (47, .d (.sl (a0.map (cL (cI .i64))))), (48, .i (a0.length : Int)), (49, .i v192), (50, .b true)] [(44, some (.box [.ref 5880 0 l188.length, .i v189])), (46, some (.box [.ref 5920 0 l190.length, .i v191])), (5880, some (.nest 72 2 [none, some (67, 3)] (l188.map cS72) [])), (5920, R43 l190)]) (by simp; exact Sub.table (by simp) (by simp)) ?_
       refine AW.skip ?_
       refine thenQ_normal ?_
       refine AW.seq ?_
       refine AW.block ?_
       refine AW.seqR ?_
       replace h := bsome h; obtain ⟨x387, hx387, h⟩ := h
       obtain ⟨k388, hx387k, hx387, hx387a, hx387b⟩ := idx_some hx387
       refine Chain.runK [] 3 fun K hK => ?_; simp [hx387, hx387k, hx387a]; refine hK _ _ ?_; clear hK K
       refine Chain.sub (S' := mk 179 [] [(1, .d (.sl (a1.map cS))), (2, .d (.sl (a2.map (cL cS53)))), (8, .ptr 44 0 0), (9, .ptr 46 0 0), (11, .d (.sl (x387.map (cI .i64)))), (47, .d (.sl (a0.map (cL (cI .i64))))), (48, .i (a0.length : Int)), (49, .i v192)] [(44, some (.box [.ref 5880 0 l188.length, .i v189])), (46, some (.box [.ref 5920 0 l190.length, .i v191])), (5880, some (.nest 72 2 [none, some (67, 3)] (l188.map cS72) [])), (5920, R43 l190)]) Sub.tt ?_
       refine Chain.nil ?_
       refine AW.seqR ?_
       refine Chain.runK [] 2 fun K hK => ?_; simp; refine hK _ _ ?_; clear hK K
       refine Chain.sub (S' := mk 179 [] [(1, .d (.sl (a1.map cS))), (2, .d (.sl (a2.map (cL cS53)))), (8, .ptr 44 0 0), (9, .ptr 46 0 0), (11, .d (.sl (x387.map (cI .i64)))), (47, .d (.sl (a0.map (cL (cI .i64))))), (48, .i (a0.length : Int)), (49, .i v192), (53, .d (.sl (a1.map cS))), (54, .d (.sl (x387.map (cI .i64))))] [(44, some (.box [.ref 5880 0 l188.length, .i v189])), (46, some (.box [.ref 5920 0 l190.length, .i v191])), (5880, some (.nest 72 2 [none, some (67, 3)] (l188.map cS72) [])), (5920, R43 l190)]) Sub.tt ?_
       replace h := bsome h; obtain ⟨r389, hr389, h⟩ := h
       refine Chain.callL (d := 55) (p9 N x387 1 r389 hr389) (by simp) rfl rfl (by simp <;> rfl) (by simp <;> rfl) ent9 (by simp <;> rfl) ?_
       refine Chain.sub (S' := mk 179 [] [(1, .d (.sl (a1.map cS))), (2, .d (.sl (a2.map (cL cS53)))), (8, .ptr 44 0 0), (9, .ptr 46 0 0), (11, .d (.sl (x387.map (cI .i64)))), (47, .d (.sl (a0.map (cL (cI .i64))))), (48, .i (a0.length : Int)), (49, .i v192), (53, .d (.sl (a1.map cS))), (54, .d (.sl (x387.map (cI .i64)))), (55, .i r389)] [(44, some (.box [.ref 5880 0 l188.length, .i v189])), (46, some (.box [.ref 5920 0 l190.length, .i v191])), (5880, some (.nest 72 2 [none, some (67, 3)] (l188.map cS72) [])), (5920, R43 l190)]) (by simp; exact Sub.table (by simp) (by simp)) ?_
       replace h := bsome h; obtain ⟨r390, hr390, h⟩ := h
       refine Chain.callL (d := 56) (p8 N a1 r389 r390 hr390) (by simp) rfl rfl (by simp <;> rfl) (by simp <;> rfl) ent8 (by simp <;> rfl) ?_
       refine Chain.sub (S' := mk 179 [] [(1, .d (.sl (a1.map cS))), (2, .d (.sl (a2.map (cL cS53)))), (8, .ptr 44 0 0), (9, .ptr 46 0 0), (11, .d (.sl (x387.map (cI .i64)))), (47, .d (.sl (a0.map (cL (cI .i64))))), (48, .i (a0.length : Int)), (49, .i v192), (53, .d (.sl (a1.map cS))), (54, .d (.sl (x387.map (cI .i64)))), (55, .i r389), (56, .d (.lit (.string r390)))] [(44, some (.box [.ref 5880 0 l188.length, .i v189])), (46, some (.box [.ref 5920 0 l190.length, .i v191])), (5880, some (.nest 72 2 [none, some (67, 3)] (l188.map cS72) [])), (5920, R43 l190)]) (by simp; exact Sub.table (by simp) (by simp)) ?_
       refine Chain.runK [] 1 fun K hK => ?_; simp; refine hK _ _ ?_; clear hK K
       refine Chain.sub (S' := mk 179 [] [(1, .d (.sl (a1.map cS))), (2, .d (.sl (a2.map (cL cS53)))), (8, .ptr 44 0 0), (9, .ptr 46 0 0), (11, .d (.sl (x387.map (cI .i64)))), (47, .d (.sl (a0.map (cL (cI .i64))))), (48, .i (a0.length : Int)), (49, .i v192), (56, .d (.lit (.string r390))), (57, .d (.sl (x387.map (cI .i64))))] [(44, some (.box [.ref 5880 0 l188.length, .i v189])), (46, some (.box [.ref 5920 0 l190.length, .i v191])), (5880, some (.nest 72 2 [none, some (67, 3)] (l188.map cS72) [])), (5920, R43 l190)]) Sub.tt ?_
       replace h := bsome h; obtain ⟨r391, hr391, h⟩ := h
       refine Chain.callL (d := 58) (p9 N x387 2 r391 hr391) (by simp) rfl rfl (by simp <;> rfl) (by simp <;> rfl) ent9 (by simp <;> rfl) ?_
       refine Chain.sub (S' := mk 179 [] [(1, .d (.sl (a1.map cS))), (2, .d (.sl (a2.map (cL cS53)))), (8, .ptr 44 0 0), (9, .ptr 46 0 0), (11, .d (.sl (x387.map (cI .i64)))), (47, .d (.sl (a0.map (cL (cI .i64))))), (48, .i (a0.length : Int)), (49, .i v192), (56, .d (.lit (.string r390))), (57, .d (.sl (x387.map (cI .i64)))), (58, .i r391)] [(44, some (.box [.ref 5880 0 l188.length, .i v189])), (46, some (.box [.ref 5920 0 l190.length, .i v191])), (5880, some (.nest 72 2 [none, some (67, 3)] (l188.map cS72) [])), (5920, R43 l190)]) (by simp; exact Sub.table (by simp) (by simp)) ?_
       refine Chain.runK [] 2 fun K hK => ?_; simp; refine hK _ _ ?_; clear hK K
       refine Chain.sub (S' := mk 179 [] [(1, .d (.sl (a1.map cS))), (2, .d (.sl (a2.map (cL cS53)))), (8, .ptr 44 0 0), (9, .ptr 46 0 0), (11, .d (.sl (x387.map (cI .i64)))), (47, .d (.sl (a0.map (cL (cI .i64))))), (48, .i (a0.length : Int)), (49, .i v192), (56, .d (.lit (.string r390))), (58, .i r391), (59, .d (.sl (a2.map (cL cS53)))), (60, .d (.sl (x387.map (cI .i64))))] [(44, some (.box [.ref 5880 0 l188.length, .i v189])), (46, some (.box [.ref 5920 0 l190.length, .i v191])), (5880, some (.nest 72 2 [none, some (67, 3)] (l188.map cS72) [])), (5920, R43 l190)]) Sub.tt ?_
       replace h := bsome h; obtain ⟨r392, hr392, h⟩ := h
       refine Chain.callL (d := 61) (p9 N x387 3 r392 hr392) (by simp) rfl rfl (by simp <;> rfl) (by simp <;> rfl) ent9 (by simp <;> rfl) ?_
       refine Chain.sub (S' := mk 179 [] [(1, .d (.sl (a1.map cS))), (2, .d (.sl (a2.map (cL cS53)))), (8, .ptr 44 0 0), (9, .ptr 46 0 0), (11, .d (.sl (x387.map (cI .i64)))), (47, .d (.sl (a0.map (cL (cI .i64))))), (48, .i (a0.length : Int)), (49, .i v192), (56, .d (.lit (.string r390))), (58, .i r391), (59, .d (.sl (a2.map (cL cS53)))), (60, .d (.sl (x387.map (cI .i64)))), (61, .i r392)] [(44, some (.box [.ref 5880 0 l188.length, .i v189])), (46, some (.box [.ref 5920 0 l190.length, .i v191])), (5880, some (.nest 72 2 [none, some (67, 3)] (l188.map cS72) [])), (5920, R43 l190)]) (by simp; exact Sub.table (by simp) (by simp)) ?_
       replace h := bsome h; obtain ⟨r393, hr393, h⟩ := h
       refine Chain.callC (d := 62) (p10 N a2 r392 r393 hr393) (by simp) rfl rfl (by simp <;> rfl) (by simp <;> rfl) ent10 (by simp) (.inl ⟨by simp, by simp⟩) ?_
       refine Chain.sub (S' := mk 179 [] [(1, .d (.sl (a1.map cS))), (2, .d (.sl (a2.map (cL cS53)))), (8, .ptr 44 0 0), (9, .ptr 46 0 0), (11, .d (.sl (x387.map (cI .i64)))), (47, .d (.sl (a0.map (cL (cI .i64))))), (48, .i (a0.length : Int)), (49, .i v192), (56, .d (.lit (.string r390))), (58, .i r391), (59, .d (.sl (a2.map (cL cS53)))), (60, .d (.sl (x387.map (cI .i64)))), (61, .i r392), (62, .d (.sl (r393.map cS53)))] [(44, some (.box [.ref 5880 0 l188.length, .i v189])), (46, some (.box [.ref 5920 0 l190.length, .i v191])), (5880, some (.nest 72 2 [none, some (67, 3)] (l188.map cS72) [])), (5920, R43 l190)]) (by simp; exact Sub.table (by simp) (by simp)) ?_
       refine Chain.runK [] 3 fun K hK => ?_; simp; refine hK _ _ ?_; clear hK K
       refine Chain.sub (S' := mk 179 [] [(1, .d (.sl (a1.map cS))), (2, .d (.sl (a2.map (cL cS53)))), (8, .ptr 44 0 0), (9, .ptr 46 0 0), (11, .d (.sl (x387.map (cI .i64)))), (12, .d (.lit (.string r390))), (13, .i r391), (14, .d (.sl (r393.map cS53))), (47, .d (.sl (a0.map (cL (cI .i64))))), (48, .i (a0.length : Int)), (49, .i v192)] [(44, some (.box [.ref 5880 0 l188.length, .i v189])), (46, some (.box [.ref 5920 0 l190.length, .i v191])), (5880, some (.nest 72 2 [none, some (67, 3)] (l188.map cS72) [])), (5920, R43 l190)]) Sub.tt ?_
       refine Chain.nil ?_
       refine AW.seqR ?_
       refine Chain.runK [] 2 fun K hK => ?_; simp; refine hK _ _ ?_; clear hK K
       refine Chain.sub (S' := mk 179 [] [(1, .d (.sl (a1.map cS))), (2, .d (.sl (a2.map (cL cS53)))), (8, .ptr 44 0 0), (9, .ptr 46 0 0), (11, .d (.sl (x387.map (cI .i64)))), (12, .d (.lit (.string r390))), (13, .i r391), (14, .d (.sl (r393.map cS53))), (15, .i 0), (16, .i 0), (47, .d (.sl (a0.map (cL (cI .i64))))), (48, .i (a0.length : Int)), (49, .i v192)] [(44, some (.box [.ref 5880 0 l188.length, .i v189])), (46, some (.box [.ref 5920 0 l190.length, .i v191])), (5880, some (.nest 72 2 [none, some (67, 3)] (l188.map cS72) [])), (5920, R43 l190)]) Sub.tt ?_
       refine Chain.nil ?_
       refine AW.seq ?_
       refine AW.seqR ?_
       refine Chain.runK [] 1 fun K hK => ?_; simp; refine hK _ _ ?_; clear hK K
       refine Chain.sub (S' := mk 179 [] [(1, .d (.sl (a1.map cS))), (2, .d (.sl (a2.map (cL cS53)))), (8, .ptr 44 0 0), (9, .ptr 46 0 0), (12, .d (.lit (.string r390))), (13, .i r391), (14, .d (.sl (r393.map cS53))), (15, .i 0), (16, .i 0), (47, .d (.sl (a0.map (cL (cI .i64))))), (48, .i (a0.length : Int)), (49, .i v192), (63, .d (.sl (x387.map (cI .i64))))] [(44, some (.box [.ref 5880 0 l188.length, .i v189])), (46, some (.box [.ref 5920 0 l190.length, .i v191])), (5880, some (.nest 72 2 [none, some (67, 3)] (l188.map cS72) [])), (5920, R43 l190)]) Sub.tt ?_
       replace h := bsome h; obtain ⟨r394, hr394, h⟩ := h
       refine Chain.callL (d := 64) (p9 N x387 0 r394 hr394) (by simp) rfl rfl (by simp <;> rfl) (by simp <;> rfl) ent9 (by simp <;> rfl) ?_
       refine Chain.sub (S' := mk 179 [] [(1, .d (.sl (a1.map cS))), (2, .d (.sl (a2.map (cL cS53)))), (8, .ptr 44 0 0), (9, .ptr 46 0 0), (12, .d (.lit (.string r390))), (13, .i r391), (14, .d (.sl (r393.map cS53))), (15, .i 0), (16, .i 0), (47, .d (.sl (a0.map (cL (cI .i64))))), (48, .i (a0.length : Int)), (49, .i v192), (63, .d (.sl (x387.map (cI .i64)))), (64, .i r394)] [(44, some (.box [.ref 5880 0 l188.length, .i v189])), (46, some (.box [.ref 5920 0 l190.length, .i v191])), (5880, some (.nest 72 2 [none, some (67, 3)] (l188.map cS72) [])), (5920, R43 l190)]) (by simp; exact Sub.table (by simp) (by simp)) ?_
       refine Chain.nil ?_
       refine AW.block ?_
       refine AW.seqR ?_
       refine Chain.runK [] 2 fun K hK => ?_; simp; refine hK _ _ ?_; clear hK K
       refine Chain.sub (S' := mk 179 [] [(1, .d (.sl (a1.map cS))), (2, .d (.sl (a2.map (cL cS53)))), (8, .ptr 44 0 0), (9, .ptr 46 0 0), (12, .d (.lit (.string r390))), (13, .i r391), (14, .d (.sl (r393.map cS53))), (15, .i 0), (16, .i 0), (47, .d (.sl (a0.map (cL (cI .i64))))), (48, .i (a0.length : Int)), (49, .i v192), (64, .i r394), (65, .b (r394 == 1))] [(44, some (.box [.ref 5880 0 l188.length, .i v189])), (46, some (.box [.ref 5920 0 l190.length, .i v191])), (5880, some (.nest 72 2 [none, some (67, 3)] (l188.map cS72) [])), (5920, R43 l190)]) Sub.tt ?_
       refine Chain.nil ?_
       refine AW.lastJ (fun ((l428, v429, l430, v431, v432, v433) : ((List S72) × Int × (List S43) × Int × Int × Int)) => mk 179 [] [(1, .d (.sl (a1.map cS))), (2, .d (.sl (a2.map (cL cS53)))), (8, .ptr 44 0 0), (9, .ptr 46 0 0), (12, .d (.lit (.string r390))), (15, .i v432), (16, .i v433), (47, .d (.sl (a0.map (cL (cI .i64))))), (48, .i (a0.length : Int)), (49, .i v192)] [(44, some (.box [.ref 5880 0 l428.length, .i v429])), (46, some (.box [.ref 5920 0 l430.length, .i v431])), (5880, some (.nest 72 2 [none, some (67, 3)] (l428.map cS72) [])), (5920, R43 l430)]) h ?_ ?_ <;> clear h
       ·intro o h
        replace h := isome h; rcases h with ⟨c434, h⟩ | ⟨c434, h⟩
        ·have c434_ : (r394 == 1) = true := c434
         refine AW.condT (b := (r394 == 1)) rfl c434_ ?_
         refine AW.sub (Sub.bool 65 (b := (r394 == 1)) rfl c434_) ?_
         refine AW.sub (S' := mk 179 [] [(1, .d (.sl (a1.map cS))), (2, .d (.sl (a2.map (cL cS53)))), (8, .ptr 44 0 0), (9, .ptr 46 0 0), (12, .d (.lit (.string r390))), (13, .i r391), (14, .d (.sl (r393.map cS53))), (15, .i 0), (16, .i 0), (47, .d (.sl (a0.map (cL (cI .i64))))), (48, .i (a0.length : Int)), (49, .i v192), (64, .i r394), (65, .b true)] [(44, some (.box [.ref 5880 0 l188.length, .i v189])), (46, some (.box [.ref 5920 0 l190.length, .i v191])), (5880, some (.nest 72 2 [none, some (67, 3)] (l188.map cS72) [])), (5920, R43 l190)]) (by simp; exact Sub.table (by simp) (by simp)) ?_
         refine AW.region ?_
         refine Chain.runK [] 4 fun K hK => ?_; simp; refine hK _ _ ?_; clear hK K
         refine Chain.sub (S' := mk 179 [] [(1, .d (.sl (a1.map cS))), (2, .d (.sl (a2.map (cL cS53)))), (8, .ptr 44 0 0), (9, .ptr 46 0 0), (12, .d (.lit (.string r390))), (13, .i r391), (14, .d (.sl (r393.map cS53))), (47, .d (.sl (a0.map (cL (cI .i64))))), (48, .i (a0.length : Int)), (49, .i v192), (67, .ptr 44 0 0), (68, .d (.lit (.string r390))), (69, .i r391), (70, .d (.sl (r393.map cS53)))] [(44, some (.box [.ref 5880 0 l188.length, .i v189])), (46, some (.box [.ref 5920 0 l190.length, .i v191])), (5880, some (.nest 72 2 [none, some (67, 3)] (l188.map cS72) [])), (5920, R43 l190)]) Sub.tt ?_
         replace h := bsome h; obtain ⟨r435, hr435, h⟩ := h
         refine Chain.callF (p5 N (S63.mk l188 v189) r390 r391 r393 r435 hr435) [(44, 1000), (5880, 25000)] [44] [(1000, 44), (25000, 5880)] [(44, (.box [.ref 5880 0 r435.1.chains.length, .i r435.1.horizon])), (5880, (.nest 72 2 [none, some (67, 3)] (r435.1.chains.map cS72) []))] (.i r435.2) (by simp) rfl (by simp <;> rfl) (by simp) (by simp) (by simp) (by simp) (by simp) ent5 (by simp) (by simp) (by simp) (by simp) (by simp) (by simp) ?_
         refine Chain.sub (S' := mk 179 [] [(1, .d (.sl (a1.map cS))), (2, .d (.sl (a2.map (cL cS53)))), (8, .ptr 44 0 0), (9, .ptr 46 0 0), (12, .d (.lit (.string r390))), (13, .i r391), (14, .d (.sl (r393.map cS53))), (47, .d (.sl (a0.map (cL (cI .i64))))), (48, .i (a0.length : Int)), (49, .i v192), (67, .ptr 44 0 0), (68, .d (.lit (.string r390))), (69, .i r391), (70, .d (.sl (r393.map cS53))), (71, .i r435.2)] [(44, some (.box [.ref 5880 0 r435.1.chains.length, .i r435.1.horizon])), (46, some (.box [.ref 5920 0 l190.length, .i v191])), (5880, some (.nest 72 2 [none, some (67, 3)] (r435.1.chains.map cS72) [])), (5920, R43 l190)]) (by simp; exact Sub.table (by simp) (by simp)) ?_
         refine Chain.runK [] 5 fun K hK => ?_; simp; refine hK _ _ ?_; clear hK K
         refine Chain.sub (S' := mk 179 [] [(1, .d (.sl (a1.map cS))), (2, .d (.sl (a2.map (cL cS53)))), (8, .ptr 44 0 0), (9, .ptr 46 0 0), (12, .d (.lit (.string r390))), (47, .d (.sl (a0.map (cL (cI .i64))))), (48, .i (a0.length : Int)), (49, .i v192), (71, .i r435.2), (72, .ptr 46 0 0), (76, .agg [.d (.lit (.string r390)), .i r391, .b false, .d (.sl (r393.map cS53))])] [(44, some (.box [.ref 5880 0 r435.1.chains.length, .i r435.1.horizon])), (46, some (.box [.ref 5920 0 l190.length, .i v191])), (5880, some (.nest 72 2 [none, some (67, 3)] (r435.1.chains.map cS72) [])), (5920, R43 l190)]) Sub.tt ?_
         replace h := bsome h; obtain ⟨r436, hr436, h⟩ := h
         refine Chain.callF (p11 N (S36.mk l190 v191) (S43.mk r390 r391 false r393) r436 hr436) [(46, 1000), (5920, 25000)] [46] [(1000, 46), (25000, 5920)] [(46, (.box [.ref 5920 0 r436.1.Versions.length, .i r436.1.Horizon])), (5920, (.arr 43 4 (r436.1.Versions.map cS43)))] (.i r436.2) (by simp) rfl (by simp <;> rfl) (by simp) (by simp) (by simp) (by simp) (by simp) ent11 (by simp) (by simp) (by simp) (by simp) (by simp) (by simp) ?_
         refine Chain.sub (S' := mk 179 [] [(1, .d (.sl (a1.map cS))), (2, .d (.sl (a2.map (cL cS53)))), (8, .ptr 44 0 0), (9, .ptr 46 0 0), (12, .d (.lit (.string r390))), (47, .d (.sl (a0.map (cL (cI .i64))))), (48, .i (a0.length : Int)), (49, .i v192), (71, .i r435.2), (72, .ptr 46 0 0), (76, .agg [.d (.lit (.string r390)), .i r391, .b false, .d (.sl (r393.map cS53))]), (77, .i r436.2)] [(44, some (.box [.ref 5880 0 r435.1.chains.length, .i r435.1.horizon])), (46, some (.box [.ref 5920 0 r436.1.Versions.length, .i r436.1.Horizon])), (5880, some (.nest 72 2 [none, some (67, 3)] (r435.1.chains.map cS72) [])), (5920, R43 r436.1.Versions)]) (by simp; exact Sub.table (by simp) (by simp)) ?_
         refine Chain.runK [] 2 fun K hK => ?_; simp; refine hK _ _ ?_; clear hK K
         refine Chain.sub (S' := mk 179 [] [(1, .d (.sl (a1.map cS))), (2, .d (.sl (a2.map (cL cS53)))), (8, .ptr 44 0 0), (9, .ptr 46 0 0), (12, .d (.lit (.string r390))), (15, .i r435.2), (16, .i r436.2), (47, .d (.sl (a0.map (cL (cI .i64))))), (48, .i (a0.length : Int)), (49, .i v192)] [(44, some (.box [.ref 5880 0 r435.1.chains.length, .i r435.1.horizon])), (46, some (.box [.ref 5920 0 r436.1.Versions.length, .i r436.1.Horizon])), (5880, some (.nest 72 2 [none, some (67, 3)] (r435.1.chains.map cS72) [])), (5920, R43 r436.1.Versions)]) Sub.tt ?_
         refine Chain.nil ?_
         cases h
         refine PostJ.next ?_
         exact Sub.tt
        ·have c434_ : (r394 == 1) = false := Bool.eq_false_iff.2 c434
         refine AW.condF (b := (r394 == 1)) rfl c434_ ?_
         refine AW.sub (Sub.bool 65 (b := (r394 == 1)) rfl c434_) ?_
         refine AW.sub (S' := mk 179 [] [(1, .d (.sl (a1.map cS))), (2, .d (.sl (a2.map (cL cS53)))), (8, .ptr 44 0 0), (9, .ptr 46 0 0), (12, .d (.lit (.string r390))), (13, .i r391), (14, .d (.sl (r393.map cS53))), (15, .i 0), (16, .i 0), (47, .d (.sl (a0.map (cL (cI .i64))))), (48, .i (a0.length : Int)), (49, .i v192), (64, .i r394), (65, .b false)] [(44, some (.box [.ref 5880 0 l188.length, .i v189])), (46, some (.box [.ref 5920 0 l190.length, .i v191])), (5880, some (.nest 72 2 [none, some (67, 3)] (l188.map cS72) [])), (5920, R43 l190)]) (by simp; exact Sub.table (by simp) (by simp)) ?_
         refine AW.seqR ?_
         refine Chain.runK [] 2 fun K hK => ?_; simp; refine hK _ _ ?_; clear hK K
         refine Chain.sub (S' := mk 179 [] [(1, .d (.sl (a1.map cS))), (2, .d (.sl (a2.map (cL cS53)))), (8, .ptr 44 0 0), (9, .ptr 46 0 0), (12, .d (.lit (.string r390))), (13, .i r391), (15, .i 0), (16, .i 0), (47, .d (.sl (a0.map (cL (cI .i64))))), (48, .i (a0.length : Int)), (49, .i v192), (64, .i r394), (78, .b (r394 == 2))] [(44, some (.box [.ref 5880 0 l188.length, .i v189])), (46, some (.box [.ref 5920 0 l190.length, .i v191])), (5880, some (.nest 72 2 [none, some (67, 3)] (l188.map cS72) [])), (5920, R43 l190)]) Sub.tt ?_
         refine Chain.nil ?_
         replace h := isome h; rcases h with ⟨c437, h⟩ | ⟨c437, h⟩
         ·have c437_ : (r394 == 2) = true := c437
          refine AW.condT (b := (r394 == 2)) rfl c437_ ?_
          refine AW.sub (Sub.bool 78 (b := (r394 == 2)) rfl c437_) ?_
          refine AW.sub (S' := mk 179 [] [(1, .d (.sl (a1.map cS))), (2, .d (.sl (a2.map (cL cS53)))), (8, .ptr 44 0 0), (9, .ptr 46 0 0), (12, .d (.lit (.string r390))), (13, .i r391), (15, .i 0), (16, .i 0), (47, .d (.sl (a0.map (cL (cI .i64))))), (48, .i (a0.length : Int)), (49, .i v192), (64, .i r394), (78, .b true)] [(44, some (.box [.ref 5880 0 l188.length, .i v189])), (46, some (.box [.ref 5920 0 l190.length, .i v191])), (5880, some (.nest 72 2 [none, some (67, 3)] (l188.map cS72) [])), (5920, R43 l190)]) (by simp; exact Sub.table (by simp) (by simp)) ?_
          refine AW.region ?_
          refine Chain.runK [] 3 fun K hK => ?_; simp; refine hK _ _ ?_; clear hK K
          refine Chain.sub (S' := mk 179 [] [(1, .d (.sl (a1.map cS))), (2, .d (.sl (a2.map (cL cS53)))), (8, .ptr 44 0 0), (9, .ptr 46 0 0), (12, .d (.lit (.string r390))), (13, .i r391), (47, .d (.sl (a0.map (cL (cI .i64))))), (48, .i (a0.length : Int)), (49, .i v192), (80, .ptr 44 0 0), (81, .d (.lit (.string r390))), (82, .i r391)] [(44, some (.box [.ref 5880 0 l188.length, .i v189])), (46, some (.box [.ref 5920 0 l190.length, .i v191])), (5880, some (.nest 72 2 [none, some (67, 3)] (l188.map cS72) [])), (5920, R43 l190)]) Sub.tt ?_
          replace h := bsome h; obtain ⟨r438, hr438, h⟩ := h
          refine Chain.callF (p12 N (S63.mk l188 v189) r390 r391 r438 hr438) [(44, 1000), (5880, 25000)] [44] [(1000, 44), (25000, 5880)] [(44, (.box [.ref 5880 0 r438.1.chains.length, .i r438.1.horizon])), (5880, (.nest 72 2 [none, some (67, 3)] (r438.1.chains.map cS72) []))] (.i r438.2) (by simp) rfl (by simp <;> rfl) (by simp) (by simp) (by simp) (by simp) (by simp) ent12 (by simp) (by simp) (by simp) (by simp) (by simp) (by simp) ?_
          refine Chain.sub (S' := mk 179 [] [(1, .d (.sl (a1.map cS))), (2, .d (.sl (a2.map (cL cS53)))), (8, .ptr 44 0 0), (9, .ptr 46 0 0), (12, .d (.lit (.string r390))), (13, .i r391), (47, .d (.sl (a0.map (cL (cI .i64))))), (48, .i (a0.length : Int)), (49, .i v192), (80, .ptr 44 0 0), (81, .d (.lit (.string r390))), (82, .i r391), (83, .i r438.2)] [(44, some (.box [.ref 5880 0 r438.1.chains.length, .i r438.1.horizon])), (46, some (.box [.ref 5920 0 l190.length, .i v191])), (5880, some (.nest 72 2 [none, some (67, 3)] (r438.1.chains.map cS72) [])), (5920, R43 l190)]) (by simp; exact Sub.table (by simp) (by simp)) ?_
          refine Chain.runK [] 4 fun K hK => ?_; simp; refine hK _ _ ?_; clear hK K
          refine Chain.sub (S' := mk 179 [] [(1, .d (.sl (a1.map cS))), (2, .d (.sl (a2.map (cL cS53)))), (8, .ptr 44 0 0), (9, .ptr 46 0 0), (12, .d (.lit (.string r390))), (47, .d (.sl (a0.map (cL (cI .i64))))), (48, .i (a0.length : Int)), (49, .i v192), (83, .i r438.2), (84, .ptr 46 0 0), (87, .agg [.d (.lit (.string r390)), .i r391, .b true, .d (.lit (.slice none 0 0))])] [(44, some (.box [.ref 5880 0 r438.1.chains.length, .i r438.1.horizon])), (46, some (.box [.ref 5920 0 l190.length, .i v191])), (5880, some (.nest 72 2 [none, some (67, 3)] (r438.1.chains.map cS72) [])), (5920, R43 l190)]) Sub.tt ?_
          refine Chain.sub (Sub.wk 87 rfl) ?_
          refine Chain.sub (S' := mk 179 [] [(1, .d (.sl (a1.map cS))), (2, .d (.sl (a2.map (cL cS53)))), (8, .ptr 44 0 0), (9, .ptr 46 0 0), (12, .d (.lit (.string r390))), (47, .d (.sl (a0.map (cL (cI .i64))))), (48, .i (a0.length : Int)), (49, .i v192), (83, .i r438.2), (84, .ptr 46 0 0), (87, .agg [.d (.lit (.string r390)), .i r391, .b true, .d (.sl (([] : List S53).map cS53))])] [(44, some (.box [.ref 5880 0 r438.1.chains.length, .i r438.1.horizon])), (46, some (.box [.ref 5920 0 l190.length, .i v191])), (5880, some (.nest 72 2 [none, some (67, 3)] (r438.1.chains.map cS72) [])), (5920, R43 l190)]) (by simp; exact Sub.table (by simp) (by simp)) ?_
          replace h := bsome h; obtain ⟨r439, hr439, h⟩ := h
          refine Chain.callF (p11 N (S36.mk l190 v191) (S43.mk r390 r391 true ([] : List S53)) r439 hr439) [(46, 1000), (5920, 25000)] [46] [(1000, 46), (25000, 5920)] [(46, (.box [.ref 5920 0 r439.1.Versions.length, .i r439.1.Horizon])), (5920, (.arr 43 4 (r439.1.Versions.map cS43)))] (.i r439.2) (by simp) rfl (by simp <;> rfl) (by simp) (by simp) (by simp) (by simp) (by simp) ent11 (by simp) (by simp) (by simp) (by simp) (by simp) (by simp) ?_
          refine Chain.sub (S' := mk 179 [] [(1, .d (.sl (a1.map cS))), (2, .d (.sl (a2.map (cL cS53)))), (8, .ptr 44 0 0), (9, .ptr 46 0 0), (12, .d (.lit (.string r390))), (47, .d (.sl (a0.map (cL (cI .i64))))), (48, .i (a0.length : Int)), (49, .i v192), (83, .i r438.2), (84, .ptr 46 0 0), (87, .agg [.d (.lit (.string r390)), .i r391, .b true, .d (.sl (([] : List S53).map cS53))]), (88, .i r439.2)] [(44, some (.box [.ref 5880 0 r438.1.chains.length, .i r438.1.horizon])), (46, some (.box [.ref 5920 0 r439.1.Versions.length, .i r439.1.Horizon])), (5880, some (.nest 72 2 [none, some (67, 3)] (r438.1.chains.map cS72) [])), (5920, R43 r439.1.Versions)]) (by simp; exact Sub.table (by simp) (by simp)) ?_
          refine Chain.runK [] 2 fun K hK => ?_; simp; refine hK _ _ ?_; clear hK K
          refine Chain.sub (S' := mk 179 [] [(1, .d (.sl (a1.map cS))), (2, .d (.sl (a2.map (cL cS53)))), (8, .ptr 44 0 0), (9, .ptr 46 0 0), (12, .d (.lit (.string r390))), (15, .i r438.2), (16, .i r439.2), (47, .d (.sl (a0.map (cL (cI .i64))))), (48, .i (a0.length : Int)), (49, .i v192)] [(44, some (.box [.ref 5880 0 r438.1.chains.length, .i r438.1.horizon])), (46, some (.box [.ref 5920 0 r439.1.Versions.length, .i r439.1.Horizon])), (5880, some (.nest 72 2 [none, some (67, 3)] (r438.1.chains.map cS72) [])), (5920, R43 r439.1.Versions)]) Sub.tt ?_
          refine Chain.nil ?_
          cases h
          refine PostJ.next ?_
          exact Sub.tt
         ·have c437_ : (r394 == 2) = false := Bool.eq_false_iff.2 c437
          refine AW.condF (b := (r394 == 2)) rfl c437_ ?_
          refine AW.sub (Sub.bool 78 (b := (r394 == 2)) rfl c437_) ?_
          refine AW.sub (S' := mk 179 [] [(1, .d (.sl (a1.map cS))), (2, .d (.sl (a2.map (cL cS53)))), (8, .ptr 44 0 0), (9, .ptr 46 0 0), (12, .d (.lit (.string r390))), (13, .i r391), (15, .i 0), (16, .i 0), (47, .d (.sl (a0.map (cL (cI .i64))))), (48, .i (a0.length : Int)), (49, .i v192), (64, .i r394), (78, .b false)] [(44, some (.box [.ref 5880 0 l188.length, .i v189])), (46, some (.box [.ref 5920 0 l190.length, .i v191])), (5880, some (.nest 72 2 [none, some (67, 3)] (l188.map cS72) [])), (5920, R43 l190)]) (by simp; exact Sub.table (by simp) (by simp)) ?_
          refine AW.seqR ?_
          refine Chain.runK [] 2 fun K hK => ?_; simp; refine hK _ _ ?_; clear hK K
          refine Chain.sub (S' := mk 179 [] [(1, .d (.sl (a1.map cS))), (2, .d (.sl (a2.map (cL cS53)))), (8, .ptr 44 0 0), (9, .ptr 46 0 0), (12, .d (.lit (.string r390))), (13, .i r391), (15, .i 0), (16, .i 0), (47, .d (.sl (a0.map (cL (cI .i64))))), (48, .i (a0.length : Int)), (49, .i v192), (64, .i r394), (89, .b (r394 == 3))] [(44, some (.box [.ref 5880 0 l188.length, .i v189])), (46, some (.box [.ref 5920 0 l190.length, .i v191])), (5880, some (.nest 72 2 [none, some (67, 3)] (l188.map cS72) [])), (5920, R43 l190)]) Sub.tt ?_
          refine Chain.nil ?_
          replace h := isome h; rcases h with ⟨c440, h⟩ | ⟨c440, h⟩
          ·have c440_ : (r394 == 3) = true := c440
           refine AW.condT (b := (r394 == 3)) rfl c440_ ?_
           refine AW.sub (Sub.bool 89 (b := (r394 == 3)) rfl c440_) ?_
           refine AW.sub (S' := mk 179 [] [(1, .d (.sl (a1.map cS))), (2, .d (.sl (a2.map (cL cS53)))), (8, .ptr 44 0 0), (9, .ptr 46 0 0), (12, .d (.lit (.string r390))), (13, .i r391), (15, .i 0), (16, .i 0), (47, .d (.sl (a0.map (cL (cI .i64))))), (48, .i (a0.length : Int)), (49, .i v192), (64, .i r394), (89, .b true)] [(44, some (.box [.ref 5880 0 l188.length, .i v189])), (46, some (.box [.ref 5920 0 l190.length, .i v191])), (5880, some (.nest 72 2 [none, some (67, 3)] (l188.map cS72) [])), (5920, R43 l190)]) (by simp; exact Sub.table (by simp) (by simp)) ?_
           refine AW.seqR ?_
           refine Chain.runK [] 2 fun K hK => ?_; simp; refine hK _ _ ?_; clear hK K
           refine Chain.sub (S' := mk 179 [] [(1, .d (.sl (a1.map cS))), (2, .d (.sl (a2.map (cL cS53)))), (8, .ptr 44 0 0), (9, .ptr 46 0 0), (12, .d (.lit (.string r390))), (13, .i r391), (47, .d (.sl (a0.map (cL (cI .i64))))), (48, .i (a0.length : Int)), (49, .i v192), (91, .ptr 44 0 0), (92, .i r391)] [(44, some (.box [.ref 5880 0 l188.length, .i v189])), (46, some (.box [.ref 5920 0 l190.length, .i v191])), (5880, some (.nest 72 2 [none, some (67, 3)] (l188.map cS72) [])), (5920, R43 l190)]) Sub.tt ?_
           replace h := bsome h; obtain ⟨r441, hr441, h⟩ := h
           refine Chain.callF (p13 N (S63.mk l188 v189) r391 r441 hr441) [(44, 1000), (5880, 25000)] [44] [(1000, 44), (25000, 5880)] [(44, (.box [.ref 5880 0 r441.1.chains.length, .i r441.1.horizon])), (5880, (.nest 72 2 [none, some (67, 3)] (r441.1.chains.map cS72) []))] (.i r441.2) (by simp) rfl (by simp <;> rfl) (by simp) (by simp) (by simp) (by simp) (by simp) ent13 (by simp) (by simp) (by simp) (by simp) (by simp) (by simp) ?_
           refine Chain.sub (S' := mk 179 [] [(1, .d (.sl (a1.map cS))), (2, .d (.sl (a2.map (cL cS53)))), (8, .ptr 44 0 0), (9, .ptr 46 0 0), (12, .d (.lit (.string r390))), (13, .i r391), (47, .d (.sl (a0.map (cL (cI .i64))))), (48, .i (a0.length : Int)), (49, .i v192), (91, .ptr 44 0 0), (92, .i r391), (93, .i r441.2)] [(44, some (.box [.ref 5880 0 r441.1.chains.length, .i r441.1.horizon])), (46, some (.box [.ref 5920 0 l190.length, .i v191])), (5880, some (.nest 72 2 [none, some (67, 3)] (r441.1.chains.map cS72) [])), (5920, R43 l190)]) (by simp; exact Sub.table (by simp) (by simp)) ?_
           refine Chain.runK [] 1 fun K hK => ?_; simp; refine hK _ _ ?_; clear hK K
           refine Chain.sub (S' := mk 179 [] [(1, .d (.sl (a1.map cS))), (2, .d (.sl (a2.map (cL cS53)))), (8, .ptr 44 0 0), (9, .ptr 46 0 0), (12, .d (.lit (.string r390))), (13, .i r391), (15, .i r441.2), (47, .d (.sl (a0.map (cL (cI .i64))))), (48, .i (a0.length : Int)), (49, .i v192)] [(44, some (.box [.ref 5880 0 r441.1.chains.length, .i r441.1.horizon])), (46, some (.box [.ref 5920 0 l190.length, .i v191])), (5880, some (.nest 72 2 [none, some (67, 3)] (r441.1.chains.map cS72) [])), (5920, R43 l190)]) Sub.tt ?_
           refine Chain.nil ?_
           refine AW.seqR ?_
           refine Chain.runK [] 1 fun K hK => ?_; simp; refine hK _ _ ?_; clear hK K
           refine Chain.sub (S' := mk 179 [] [(1, .d (.sl (a1.map cS))), (2, .d (.sl (a2.map (cL cS53)))), (8, .ptr 44 0 0), (9, .ptr 46 0 0), (12, .d (.lit (.string r390))), (13, .i r391), (15, .i r441.2), (16, .i 1), (47, .d (.sl (a0.map (cL (cI .i64))))), (48, .i (a0.length : Int)), (49, .i v192)] [(44, some (.box [.ref 5880 0 r441.1.chains.length, .i r441.1.horizon])), (46, some (.box [.ref 5920 0 l190.length, .i v191])), (5880, some (.nest 72 2 [none, some (67, 3)] (r441.1.chains.map cS72) [])), (5920, R43 l190)]) Sub.tt ?_
           refine Chain.nil ?_
           replace h := bsome h; obtain ⟨v443, hj, h⟩ := h
           refine AW.cutR (mk 179 [] [(1, .d (.sl (a1.map cS))), (2, .d (.sl (a2.map (cL cS53)))), (8, .ptr 44 0 0), (9, .ptr 46 0 0), (12, .d (.lit (.string r390))), (13, .i r391), (15, .i r441.2), (16, .i 1), (47, .d (.sl (a0.map (cL (cI .i64))))), (48, .i (a0.length : Int)), (49, .i v192), (99, .b v443)] [(44, some (.box [.ref 5880 0 r441.1.chains.length, .i r441.1.horizon])), (46, some (.box [.ref 5920 0 l190.length, .i v191])), (5880, some (.nest 72 2 [none, some (67, 3)] (r441.1.chains.map cS72) [])), (5920, R43 l190)]) ?_ ?_
           ·clear h; have h := hj; clear hj
            refine Chain.runK [] 3 fun K hK => ?_; simp; refine hK _ _ ?_; clear hK K
            refine Chain.sub (S' := mk 179 [] [(1, .d (.sl (a1.map cS))), (2, .d (.sl (a2.map (cL cS53)))), (8, .ptr 44 0 0), (9, .ptr 46 0 0), (12, .d (.lit (.string r390))), (13, .i r391), (15, .i r441.2), (16, .i 1), (47, .d (.sl (a0.map (cL (cI .i64))))), (48, .i (a0.length : Int)), (49, .i v192), (96, .b (decide (r391 ≥ 0)))] [(44, some (.box [.ref 5880 0 r441.1.chains.length, .i r441.1.horizon])), (46, some (.box [.ref 5920 0 l190.length, .i v191])), (5880, some (.nest 72 2 [none, some (67, 3)] (r441.1.chains.map cS72) [])), (5920, R43 l190)]) Sub.tt ?_
            replace h := isome h; rcases h with ⟨c444, h⟩ | ⟨c444, h⟩
            ·have c444_ : decide (r391 ≥ 0) = true := decide_eq_true c444
             refine Chain.sub (Sub.bool 96 (b := decide (r391 ≥ 0)) rfl c444_) ?_
             refine Chain.sub (S' := mk 179 [] [(1, .d (.sl (a1.map cS))), (2, .d (.sl (a2.map (cL cS53)))), (8, .ptr 44 0 0), (9, .ptr 46 0 0), (12, .d (.lit (.string r390))), (13, .i r391), (15, .i r441.2), (16, .i 1), (47, .d (.sl (a0.map (cL (cI .i64))))), (48, .i (a0.length : Int)), (49, .i v192), (96, .b true)] [(44, some (.box [.ref 5880 0 r441.1.chains.length, .i r441.1.horizon])), (46, some (.box [.ref 5920 0 l190.length, .i v191])), (5880, some (.nest 72 2 [none, some (67, 3)] (r441.1.chains.map cS72) [])), (5920, R43 l190)]) (by simp; exact Sub.table (by simp) (by simp)) ?_
             refine Chain.runK [] 3 fun K hK => ?_; simp; refine hK _ _ ?_; clear hK K
             refine Chain.sub (S' := mk 179 [] [(1, .d (.sl (a1.map cS))), (2, .d (.sl (a2.map (cL cS53)))), (8, .ptr 44 0 0), (9, .ptr 46 0 0), (12, .d (.lit (.string r390))), (13, .i r391), (15, .i r441.2), (16, .i 1), (47, .d (.sl (a0.map (cL (cI .i64))))), (48, .i (a0.length : Int)), (49, .i v192), (97, .i r391), (98, .b (decide (r391 ≤ 1099511627776))), (99, .b (decide (r391 ≤ 1099511627776)))] [(44, some (.box [.ref 5880 0 r441.1.chains.length, .i r441.1.horizon])), (46, some (.box [.ref 5920 0 l190.length, .i v191])), (5880, some (.nest 72 2 [none, some (67, 3)] (r441.1.chains.map cS72) [])), (5920, R43 l190)]) Sub.tt ?_
             cases h
             exact Chain.nil Sub.tt
            ·have c444_ : decide (r391 ≥ 0) = false := decide_eq_false c444
             refine Chain.sub (Sub.bool 96 (b := decide (r391 ≥ 0)) rfl c444_) ?_
             refine Chain.sub (S' := mk 179 [] [(1, .d (.sl (a1.map cS))), (2, .d (.sl (a2.map (cL cS53)))), (8, .ptr 44 0 0), (9, .ptr 46 0 0), (12, .d (.lit (.string r390))), (13, .i r391), (15, .i r441.2), (16, .i 1), (47, .d (.sl (a0.map (cL (cI .i64))))), (48, .i (a0.length : Int)), (49, .i v192), (96, .b false)] [(44, some (.box [.ref 5880 0 r441.1.chains.length, .i r441.1.horizon])), (46, some (.box [.ref 5920 0 l190.length, .i v191])), (5880, some (.nest 72 2 [none, some (67, 3)] (r441.1.chains.map cS72) [])), (5920, R43 l190)]) (by simp; exact Sub.table (by simp) (by simp)) ?_
             refine Chain.runK [] 3 fun K hK => ?_; simp; refine hK _ _ ?_; clear hK K
             refine Chain.sub (S' := mk 179 [] [(1, .d (.sl (a1.map cS))), (2, .d (.sl (a2.map (cL cS53)))), (8, .ptr 44 0 0), (9, .ptr 46 0 0), (12, .d (.lit (.string r390))), (13, .i r391), (15, .i r441.2), (16, .i 1), (47, .d (.sl (a0.map (cL (cI .i64))))), (48, .i (a0.length : Int)), (49, .i v192), (97, .tup []), (98, .tup []), (99, .b false)] [(44, some (.box [.ref 5880 0 r441.1.chains.length, .i r441.1.horizon])), (46, some (.box [.ref 5920 0 l190.length, .i v191])), (5880, some (.nest 72 2 [none, some (67, 3)] (r441.1.chains.map cS72) [])), (5920, R43 l190)]) Sub.tt ?_
             cases h
             exact Chain.nil Sub.tt
           ·clear hj
            replace h := isome h; rcases h with ⟨c445, h⟩ | ⟨c445, h⟩
            ·have c445_ : v443 = true := c445
             refine AW.condT (b := v443) rfl c445_ ?_
             refine AW.sub (Sub.bool 99 (b := v443) rfl c445_) ?_
             refine AW.sub (S' := mk 179 [] [(1, .d (.sl (a1.map cS))), (2, .d (.sl (a2.map (cL cS53)))), (8, .ptr 44 0 0), (9, .ptr 46 0 0), (12, .d (.lit (.string r390))), (13, .i r391), (15, .i r441.2), (16, .i 1), (47, .d (.sl (a0.map (cL (cI .i64))))), (48, .i (a0.length : Int)), (49, .i v192), (99, .b true)] [(44, some (.box [.ref 5880 0 r441.1.chains.length, .i r441.1.horizon])), (46, some (.box [.ref 5920 0 l190.length, .i v191])), (5880, some (.nest 72 2 [none, some (67, 3)] (r441.1.chains.map cS72) [])), (5920, R43 l190)]) (by simp; exact Sub.table (by simp) (by simp)) ?_
             refine AW.seqR ?_
             refine Chain.runK [] 1 fun K hK => ?_; simp; refine hK _ _ ?_; clear hK K
             refine Chain.sub (S' := mk 179 [] [(1, .d (.sl (a1.map cS))), (2, .d (.sl (a2.map (cL cS53)))), (8, .ptr 44 0 0), (9, .ptr 46 0 0), (12, .d (.lit (.string r390))), (13, .i r391), (15, .i r441.2), (16, .i 0), (47, .d (.sl (a0.map (cL (cI .i64))))), (48, .i (a0.length : Int)), (49, .i v192)] [(44, some (.box [.ref 5880 0 r441.1.chains.length, .i r441.1.horizon])), (46, some (.box [.ref 5920 0 l190.length, .i v191])), (5880, some (.nest 72 2 [none, some (67, 3)] (r441.1.chains.map cS72) [])), (5920, R43 l190)]) Sub.tt ?_
             refine Chain.nil ?_
             refine AW.region ?_
             refine Chain.runK [] 2 fun K hK => ?_; simp; refine hK _ _ ?_; clear hK K
             refine Chain.sub (S' := mk 179 [] [(1, .d (.sl (a1.map cS))), (2, .d (.sl (a2.map (cL cS53)))), (8, .ptr 44 0 0), (9, .ptr 46 0 0), (12, .d (.lit (.string r390))), (15, .i r441.2), (16, .i 0), (47, .d (.sl (a0.map (cL (cI .i64))))), (48, .i (a0.length : Int)), (49, .i v192), (100, .ptr 46 0 0), (101, .i r391)] [(44, some (.box [.ref 5880 0 r441.1.chains.length, .i r441.1.horizon])), (46, some (.box [.ref 5920 0 l190.length, .i v191])), (5880, some (.nest 72 2 [none, some (67, 3)] (r441.1.chains.map cS72) [])), (5920, R43 l190)]) Sub.tt ?_
             replace h := bsome h; obtain ⟨r446, hr446, h⟩ := h
             refine Chain.callF (p14 N (S36.mk l190 v191) r391 r446 hr446) [(46, 1000), (5920, 25000)] [46] [(1000, 46), (25000, 5920)] [(46, (.box [.ref 5920 0 r446.Versions.length, .i r446.Horizon])), (5920, (.arr 43 4 (r446.Versions.map cS43)))] (.tup []) (by simp) rfl (by simp <;> rfl) (by simp) (by simp) (by simp) (by simp) (by simp) ent14 (by simp) (by simp) (by simp) (by simp) (by simp) (by simp) ?_
             refine Chain.sub (S' := mk 179 [] [(1, .d (.sl (a1.map cS))), (2, .d (.sl (a2.map (cL cS53)))), (8, .ptr 44 0 0), (9, .ptr 46 0 0), (12, .d (.lit (.string r390))), (15, .i r441.2), (16, .i 0), (47, .d (.sl (a0.map (cL (cI .i64))))), (48, .i (a0.length : Int)), (49, .i v192), (100, .ptr 46 0 0), (101, .i r391), (102, .tup [])] [(44, some (.box [.ref 5880 0 r441.1.chains.length, .i r441.1.horizon])), (46, some (.box [.ref 5920 0 r446.Versions.length, .i r446.Horizon])), (5880, some (.nest 72 2 [none, some (67, 3)] (r441.1.chains.map cS72) [])), (5920, R43 r446.Versions)]) (by simp; exact Sub.table (by simp) (by simp)) ?_
             refine Chain.nil ?_
             cases h
             refine PostJ.next ?_
             exact Sub.tt
            ·have c445_ : v443 = false := Bool.eq_false_iff.2 c445
             refine AW.condF (b := v443) rfl c445_ ?_
             refine AW.sub (Sub.bool 99 (b := v443) rfl c445_) ?_
             refine AW.sub (S' := mk 179 [] [(1, .d (.sl (a1.map cS))), (2, .d (.sl (a2.map (cL cS53)))), (8, .ptr 44 0 0), (9, .ptr 46 0 0), (12, .d (.lit (.string r390))), (13, .i r391), (15, .i r441.2), (16, .i 1), (47, .d (.sl (a0.map (cL (cI .i64))))), (48, .i (a0.length : Int)), (49, .i v192), (99, .b false)] [(44, some (.box [.ref 5880 0 r441.1.chains.length, .i r441.1.horizon])), (46, some (.box [.ref 5920 0 l190.length, .i v191])), (5880, some (.nest 72 2 [none, some (67, 3)] (r441.1.chains.map cS72) [])), (5920, R43 l190)]) (by simp; exact Sub.table (by simp) (by simp)) ?_
             refine AW.skip ?_
             cases h
             refine PostJ.next ?_
             exact Sub.tt
          ·have c440_ : (r394 == 3) = false := Bool.eq_false_iff.2 c440
           refine AW.condF (b := (r394 == 3)) rfl c440_ ?_
           refine AW.sub (Sub.bool 89 (b := (r394 == 3)) rfl c440_) ?_
           refine AW.sub (S' := mk 179 [] [(1, .d (.sl (a1.map cS))), (2, .d (.sl (a2.map (cL cS53)))), (8, .ptr 44 0 0), (9, .ptr 46 0 0), (12, .d (.lit (.string r390))), (13, .i r391), (15, .i 0), (16, .i 0), (47, .d (.sl (a0.map (cL (cI .i64))))), (48, .i (a0.length : Int)), (49, .i v192), (64, .i r394), (89, .b false)] [(44, some (.box [.ref 5880 0 l188.length, .i v189])), (46, some (.box [.ref 5920 0 l190.length, .i v191])), (5880, some (.nest 72 2 [none, some (67, 3)] (l188.map cS72) [])), (5920, R43 l190)]) (by simp; exact Sub.table (by simp) (by simp)) ?_
           refine AW.seqR ?_
           refine Chain.runK [] 2 fun K hK => ?_; simp; refine hK _ _ ?_; clear hK K
           refine Chain.sub (S' := mk 179 [] [(1, .d (.sl (a1.map cS))), (2, .d (.sl (a2.map (cL cS53)))), (8, .ptr 44 0 0), (9, .ptr 46 0 0), (12, .d (.lit (.string r390))), (13, .i r391), (15, .i 0), (16, .i 0), (47, .d (.sl (a0.map (cL (cI .i64))))), (48, .i (a0.length : Int)), (49, .i v192), (64, .i r394), (103, .b (r394 == 4))] [(44, some (.box [.ref 5880 0 l188.length, .i v189])), (46, some (.box [.ref 5920 0 l190.length, .i v191])), (5880, some (.nest 72 2 [none, some (67, 3)] (l188.map cS72) [])), (5920, R43 l190)]) Sub.tt ?_
           refine Chain.nil ?_
           replace h := isome h; rcases h with ⟨c447, h⟩ | ⟨c447, h⟩
           ·have c447_ : (r394 == 4) = true := c447
            refine AW.condT (b := (r394 == 4)) rfl c447_ ?_
            refine AW.sub (Sub.bool 103 (b := (r394 == 4)) rfl c447_) ?_
            refine AW.sub (S' := mk 179 [] [(1, .d (.sl (a1.map cS))), (2, .d (.sl (a2.map (cL cS53)))), (8, .ptr 44 0 0), (9, .ptr 46 0 0), (12, .d (.lit (.string r390))), (13, .i r391), (15, .i 0), (16, .i 0), (47, .d (.sl (a0.map (cL (cI .i64))))), (48, .i (a0.length : Int)), (49, .i v192), (64, .i r394), (103, .b true)] [(44, some (.box [.ref 5880 0 l188.length, .i v189])), (46, some (.box [.ref 5920 0 l190.length, .i v191])), (5880, some (.nest 72 2 [none, some (67, 3)] (l188.map cS72) [])), (5920, R43 l190)]) (by simp; exact Sub.table (by simp) (by simp)) ?_
            refine AW.seqR ?_
            refine Chain.runK [] 3 fun K hK => ?_; simp; refine hK _ _ ?_; clear hK K
            refine Chain.sub (S' := mk 179 [] [(1, .d (.sl (a1.map cS))), (2, .d (.sl (a2.map (cL cS53)))), (8, .ptr 44 0 0), (9, .ptr 46 0 0), (12, .d (.lit (.string r390))), (13, .i r391), (16, .i 0), (47, .d (.sl (a0.map (cL (cI .i64))))), (48, .i (a0.length : Int)), (49, .i v192), (106, .ptr 44 0 0), (107, .d (.lit (.string r390))), (108, .i r391)] [(44, some (.box [.ref 5880 0 l188.length, .i v189])), (46, some (.box [.ref 5920 0 l190.length, .i v191])), (5880, some (.nest 72 2 [none, some (67, 3)] (l188.map cS72) [])), (5920, R43 l190)]) Sub.tt ?_
            replace h := bsome h; obtain ⟨r448, hr448, h⟩ := h
            refine Chain.callFr (d := 109) (p15 N (S63.mk l188 v189) r390 r391 r448 hr448) (by simp) rfl rfl (by simp <;> rfl) (by simp <;> rfl) ent15 (by simp) ?_
            refine Chain.sub (S' := mk 179 [] [(1, .d (.sl (a1.map cS))), (2, .d (.sl (a2.map (cL cS53)))), (8, .ptr 44 0 0), (9, .ptr 46 0 0), (12, .d (.lit (.string r390))), (13, .i r391), (16, .i 0), (47, .d (.sl (a0.map (cL (cI .i64))))), (48, .i (a0.length : Int)), (49, .i v192), (106, .ptr 44 0 0), (107, .d (.lit (.string r390))), (108, .i r391), (109, .tup [.d (.sl (r448.1.map cS53)), .i r448.2])] [(44, some (.box [.ref 5880 0 l188.length, .i v189])), (46, some (.box [.ref 5920 0 l190.length, .i v191])), (5880, some (.nest 72 2 [none, some (67, 3)] (l188.map cS72) [])), (5920, R43 l190)]) (by simp; exact Sub.table (by simp) (by simp)) ?_
            refine Chain.runK [] 5 fun K hK => ?_; simp; refine hK _ _ ?_; clear hK K
            refine Chain.sub (S' := mk 179 [] [(1, .d (.sl (a1.map cS))), (2, .d (.sl (a2.map (cL cS53)))), (8, .ptr 44 0 0), (9, .ptr 46 0 0), (12, .d (.lit (.string r390))), (13, .i r391), (16, .i 0), (17, .d (.sl (r448.1.map cS53))), (18, .i r448.2), (47, .d (.sl (a0.map (cL (cI .i64))))), (48, .i (a0.length : Int)), (49, .i v192)] [(44, some (.box [.ref 5880 0 l188.length, .i v189])), (46, some (.box [.ref 5920 0 l190.length, .i v191])), (5880, some (.nest 72 2 [none, some (67, 3)] (l188.map cS72) [])), (5920, R43 l190)]) Sub.tt ?_
            refine Chain.nil ?_
            refine AW.seqR ?_
            refine Chain.runK [] 3 fun K hK => ?_; simp; refine hK _ _ ?_; clear hK K
            refine Chain.sub (S' := mk 179 [] [(1, .d (.sl (a1.map cS))), (2, .d (.sl (a2.map (cL cS53)))), (8, .ptr 44 0 0), (9, .ptr 46 0 0), (12, .d (.lit (.string r390))), (13, .i r391), (16, .i 0), (17, .d (.sl (r448.1.map cS53))), (18, .i r448.2), (47, .d (.sl (a0.map (cL (cI .i64))))), (48, .i (a0.length : Int)), (49, .i v192), (113, .ptr 46 0 0), (114, .d (.lit (.string r390))), (115, .i r391)] [(44, some (.box [.ref 5880 0 l188.length, .i v189])), (46, some (.box [.ref 5920 0 l190.length, .i v191])), (5880, some (.nest 72 2 [none, some (67, 3)] (l188.map cS72) [])), (5920, R43 l190)]) Sub.tt ?_
            replace h := bsome h; obtain ⟨r449, hr449, h⟩ := h
            refine Chain.callF (p16 N (S36.mk l190 v191) r390 r391 r449 hr449) [(46, 1000), (5920, 25000)] [46] [(1000, 46), (25000, 5920)] [(46, (.box [.ref 5920 0 r449.1.Versions.length, .i r449.1.Horizon])), (5920, (.arr 43 4 (r449.1.Versions.map cS43)))] (.tup [.d (.sl (r449.2.1.map cS53)), .b r449.2.2]) (by simp) rfl (by simp <;> rfl) (by simp) (by simp) (by simp) (by simp) (by simp) ent16 (by simp) (by simp) (by simp) (by simp) (by simp) (by simp) ?_
            refine Chain.sub (S' := mk 179 [] [(1, .d (.sl (a1.map cS))), (2, .d (.sl (a2.map (cL cS53)))), (8, .ptr 44 0 0), (9, .ptr 46 0 0), (12, .d (.lit (.string r390))), (13, .i r391), (16, .i 0), (17, .d (.sl (r448.1.map cS53))), (18, .i r448.2), (47, .d (.sl (a0.map (cL (cI .i64))))), (48, .i (a0.length : Int)), (49, .i v192), (113, .ptr 46 0 0), (114, .d (.lit (.string r390))), (115, .i r391), (116, .tup [.d (.sl (r449.2.1.map cS53)), .b r449.2.2])] [(44, some (.box [.ref 5880 0 l188.length, .i v189])), (46, some (.box [.ref 5920 0 r449.1.Versions.length, .i r449.1.Horizon])), (5880, some (.nest 72 2 [none, some (67, 3)] (l188.map cS72) [])), (5920, R43 r449.1.Versions)]) (by simp; exact Sub.table (by simp) (by simp)) ?_
            refine Chain.runK [] 5 fun K hK => ?_; simp; refine hK _ _ ?_; clear hK K
            refine Chain.sub (S' := mk 179 [] [(1, .d (.sl (a1.map cS))), (2, .d (.sl (a2.map (cL cS53)))), (8, .ptr 44 0 0), (9, .ptr 46 0 0), (12, .d (.lit (.string r390))), (13, .i r391), (16, .i 0), (17, .d (.sl (r448.1.map cS53))), (18, .i r448.2), (19, .d (.sl (r449.2.1.map cS53))), (20, .b r449.2.2), (47, .d (.sl (a0.map (cL (cI .i64))))), (48, .i (a0.length : Int)), (49, .i v192)] [(44, some (.box [.ref 5880 0 l188.length, .i v189])), (46, some (.box [.ref 5920 0 r449.1.Versions.length, .i r449.1.Horizon])), (5880, some (.nest 72 2 [none, some (67, 3)] (l188.map cS72) [])), (5920, R43 r449.1.Versions)]) Sub.tt ?_
            refine Chain.nil ?_
            refine AW.seq ?_
            refine AW.block ?_
            refine AW.seqR ?_
            refine Chain.runK [] 7 fun K hK => ?_; simp; refine hK _ _ ?_; clear hK K
            refine Chain.sub (S' := mk 179 [] [(1, .d (.sl (a1.map cS))), (2, .d (.sl (a2.map (cL cS53)))), (8, .ptr 44 0 0), (9, .ptr 46 0 0), (12, .d (.lit (.string r390))), (16, .i 0), (17, .d (.sl (r448.1.map cS53))), (18, .i r448.2), (19, .d (.sl (r449.2.1.map cS53))), (20, .b r449.2.2), (47, .d (.sl (a0.map (cL (cI .i64))))), (48, .i (a0.length : Int)), (49, .i v192), (119, .b (decide (r391 < r449.1.Horizon)))] [(44, some (.box [.ref 5880 0 l188.length, .i v189])), (46, some (.box [.ref 5920 0 r449.1.Versions.length, .i r449.1.Horizon])), (5880, some (.nest 72 2 [none, some (67, 3)] (l188.map cS72) [])), (5920, R43 r449.1.Versions)]) Sub.tt ?_
            refine Chain.nil ?_
            refine AW.lastN (fun ((v452, l453) : (Int × (List S53))) => mk 179 [] [(1, .d (.sl (a1.map cS))), (2, .d (.sl (a2.map (cL cS53)))), (8, .ptr 44 0 0), (9, .ptr 46 0 0), (12, .d (.lit (.string r390))), (16, .i v452), (17, .d (.sl (r448.1.map cS53))), (18, .i r448.2), (19, .d (.sl (l453.map cS53))), (47, .d (.sl (a0.map (cL (cI .i64))))), (48, .i (a0.length : Int)), (49, .i v192)] [(44, some (.box [.ref 5880 0 l188.length, .i v189])), (46, some (.box [.ref 5920 0 r449.1.Versions.length, .i r449.1.Horizon])), (5880, some (.nest 72 2 [none, some (67, 3)] (l188.map cS72) [])), (5920, R43 r449.1.Versions)]) h ?_ ?_ <;> clear h
            ·intro o h
             replace h := isome h; rcases h with ⟨c454, h⟩ | ⟨c454, h⟩
             ·have c454_ : decide (r391 < r449.1.Horizon) = true := decide_eq_true c454
              refine AW.condT (b := decide (r391 < r449.1.Horizon)) rfl c454_ ?_
              refine AW.sub (Sub.bool 119 (b := decide (r391 < r449.1.Horizon)) rfl c454_) ?_
              refine AW.sub (S' := mk 179 [] [(1, .d (.sl (a1.map cS))), (2, .d (.sl (a2.map (cL cS53)))), (8, .ptr 44 0 0), (9, .ptr 46 0 0), (12, .d (.lit (.string r390))), (16, .i 0), (17, .d (.sl (r448.1.map cS53))), (18, .i r448.2), (19, .d (.sl (r449.2.1.map cS53))), (20, .b r449.2.2), (47, .d (.sl (a0.map (cL (cI .i64))))), (48, .i (a0.length : Int)), (49, .i v192), (119, .b true)] [(44, some (.box [.ref 5880 0 l188.length, .i v189])), (46, some (.box [.ref 5920 0 r449.1.Versions.length, .i r449.1.Horizon])), (5880, some (.nest 72 2 [none, some (67, 3)] (l188.map cS72) [])), (5920, R43 r449.1.Versions)]) (by simp; exact Sub.table (by simp) (by simp)) ?_
              refine AW.region ?_
              refine Chain.runK [] 2 fun K hK => ?_; simp; refine hK _ _ ?_; clear hK K
              refine Chain.sub (S' := mk 179 [] [(1, .d (.sl (a1.map cS))), (2, .d (.sl (a2.map (cL cS53)))), (8, .ptr 44 0 0), (9, .ptr 46 0 0), (12, .d (.lit (.string r390))), (16, .i 21), (17, .d (.sl (r448.1.map cS53))), (18, .i r448.2), (19, .d (.lit (.slice none 0 0))), (47, .d (.sl (a0.map (cL (cI .i64))))), (48, .i (a0.length : Int)), (49, .i v192)] [(44, some (.box [.ref 5880 0 l188.length, .i v189])), (46, some (.box [.ref 5920 0 r449.1.Versions.length, .i r449.1.Horizon])), (5880, some (.nest 72 2 [none, some (67, 3)] (l188.map cS72) [])), (5920, R43 r449.1.Versions)]) Sub.tt ?_
              refine Chain.nil ?_
              cases h
              refine PostN.next ?_
              exact (Sub.trans (Sub.wk 19 rfl) (by simp; exact Sub.table (by simp) (by simp)))
             ·have c454_ : decide (r391 < r449.1.Horizon) = false := decide_eq_false c454
              refine AW.condF (b := decide (r391 < r449.1.Horizon)) rfl c454_ ?_
              refine AW.sub (Sub.bool 119 (b := decide (r391 < r449.1.Horizon)) rfl c454_) ?_
              refine AW.sub (S' := mk 179 [] [(1, .d (.sl (a1.map cS))), (2, .d (.sl (a2.map (cL cS53)))), (8, .ptr 44 0 0), (9, .ptr 46 0 0), (12, .d (.lit (.string r390))), (16, .i 0), (17, .d (.sl (r448.1.map cS53))), (18, .i r448.2), (19, .d (.sl (r449.2.1.map cS53))), (20, .b r449.2.2), (47, .d (.sl (a0.map (cL (cI .i64))))), (48, .i (a0.length : Int)), (49, .i v192), (119, .b false)] [(44, some (.box [.ref 5880 0 l188.length, .i v189])), (46, some (.box [.ref 5920 0 r449.1.Versions.length, .i r449.1.Horizon])), (5880, some (.nest 72 2 [none, some (67, 3)] (l188.map cS72) [])), (5920, R43 r449.1.Versions)]) (by simp; exact Sub.table (by simp) (by simp)) ?_
              refine AW.seqR ?_
              refine Chain.runK [] 3 fun K hK => ?_; simp; refine hK _ _ ?_; clear hK K
              refine Chain.sub (S' := mk 179 [] [(1, .d (.sl (a1.map cS))), (2, .d (.sl (a2.map (cL cS53)))), (8, .ptr 44 0 0), (9, .ptr 46 0 0), (12, .d (.lit (.string r390))), (16, .i 0), (17, .d (.sl (r448.1.map cS53))), (18, .i r448.2), (19, .d (.sl (r449.2.1.map cS53))), (47, .d (.sl (a0.map (cL (cI .i64))))), (48, .i (a0.length : Int)), (49, .i v192), (126, .b (!r449.2.2))] [(44, some (.box [.ref 5880 0 l188.length, .i v189])), (46, some (.box [.ref 5920 0 r449.1.Versions.length, .i r449.1.Horizon])), (5880, some (.nest 72 2 [none, some (67, 3)] (l188.map cS72) [])), (5920, R43 r449.1.Versions)]) Sub.tt ?_
              refine Chain.nil ?_
              replace h := isome h; rcases h with ⟨c455, h⟩ | ⟨c455, h⟩
              ·have c455_ : (!r449.2.2) = true := c455
               refine AW.condT (b := (!r449.2.2)) rfl c455_ ?_
               refine AW.sub (Sub.bool 126 (b := (!r449.2.2)) rfl c455_) ?_
               refine AW.sub (S' := mk 179 [] [(1, .d (.sl (a1.map cS))), (2, .d (.sl (a2.map (cL cS53)))), (8, .ptr 44 0 0), (9, .ptr 46 0 0), (12, .d (.lit (.string r390))), (16, .i 0), (17, .d (.sl (r448.1.map cS53))), (18, .i r448.2), (19, .d (.sl (r449.2.1.map cS53))), (47, .d (.sl (a0.map (cL (cI .i64))))), (48, .i (a0.length : Int)), (49, .i v192), (126, .b true)] [(44, some (.box [.ref 5880 0 l188.length, .i v189])), (46, some (.box [.ref 5920 0 r449.1.Versions.length, .i r449.1.Horizon])), (5880, some (.nest 72 2 [none, some (67, 3)] (l188.map cS72) [])), (5920, R43 r449.1.Versions)]) (by simp; exact Sub.table (by simp) (by simp)) ?_
               refine AW.region ?_
               refine Chain.runK [] 2 fun K hK => ?_; simp; refine hK _ _ ?_; clear hK K
               refine Chain.sub (S' := mk 179 [] [(1, .d (.sl (a1.map cS))), (2, .d (.sl (a2.map (cL cS53)))), (8, .ptr 44 0 0), (9, .ptr 46 0 0), (12, .d (.lit (.string r390))), (16, .i 4), (17, .d (.sl (r448.1.map cS53))), (18, .i r448.2), (19, .d (.lit (.slice none 0 0))), (47, .d (.sl (a0.map (cL (cI .i64))))), (48, .i (a0.length : Int)), (49, .i v192)] [(44, some (.box [.ref 5880 0 l188.length, .i v189])), (46, some (.box [.ref 5920 0 r449.1.Versions.length, .i r449.1.Horizon])), (5880, some (.nest 72 2 [none, some (67, 3)] (l188.map cS72) [])), (5920, R43 r449.1.Versions)]) Sub.tt ?_
               refine Chain.nil ?_
               cases h
               refine PostN.next ?_
               exact (Sub.trans (Sub.wk 19 rfl) (by simp; exact Sub.table (by simp) (by simp)))
              ·have c455_ : (!r449.2.2) = false := Bool.eq_false_iff.2 c455
               refine AW.condF (b := (!r449.2.2)) rfl c455_ ?_
               refine AW.sub (Sub.bool 126 (b := (!r449.2.2)) rfl c455_) ?_
               refine AW.sub (S' := mk 179 [] [(1, .d (.sl (a1.map cS))), (2, .d (.sl (a2.map (cL cS53)))), (8, .ptr 44 0 0), (9, .ptr 46 0 0), (12, .d (.lit (.string r390))), (16, .i 0), (17, .d (.sl (r448.1.map cS53))), (18, .i r448.2), (19, .d (.sl (r449.2.1.map cS53))), (47, .d (.sl (a0.map (cL (cI .i64))))), (48, .i (a0.length : Int)), (49, .i v192), (126, .b false)] [(44, some (.box [.ref 5880 0 l188.length, .i v189])), (46, some (.box [.ref 5920 0 r449.1.Versions.length, .i r449.1.Horizon])), (5880, some (.nest 72 2 [none, some (67, 3)] (l188.map cS72) [])), (5920, R43 r449.1.Versions)]) (by simp; exact Sub.table (by simp) (by simp)) ?_
               refine AW.skip ?_
               cases h
               refine PostN.next ?_
               exact Sub.tt
            ·rintro ⟨v452, l453⟩ h
             dsimp only at h ⊢
             refine blockQ.normal ?_
             refine thenQ_normal ?_
             refine AW.seqR ?_
             refine Chain.runK [] 2 fun K hK => ?_; simp; refine hK _ _ ?_; clear hK K
             refine Chain.sub (S' := mk 179 [] [(1, .d (.sl (a1.map cS))), (2, .d (.sl (a2.map (cL cS53)))), (8, .ptr 44 0 0), (9, .ptr 46 0 0), (12, .d (.lit (.string r390))), (15, .i r448.2), (16, .i v452), (17, .d (.sl (r448.1.map cS53))), (19, .d (.sl (l453.map cS53))), (47, .d (.sl (a0.map (cL (cI .i64))))), (48, .i (a0.length : Int)), (49, .i v192)] [(44, some (.box [.ref 5880 0 l188.length, .i v189])), (46, some (.box [.ref 5920 0 r449.1.Versions.length, .i r449.1.Horizon])), (5880, some (.nest 72 2 [none, some (67, 3)] (l188.map cS72) [])), (5920, R43 r449.1.Versions)]) Sub.tt ?_
             refine Chain.nil ?_
             refine AW.seqR ?_
             refine Chain.runK [] 2 fun K hK => ?_; simp; refine hK _ _ ?_; clear hK K
             refine Chain.sub (S' := mk 179 [] [(1, .d (.sl (a1.map cS))), (2, .d (.sl (a2.map (cL cS53)))), (8, .ptr 44 0 0), (9, .ptr 46 0 0), (12, .d (.lit (.string r390))), (15, .i r448.2), (16, .i v452), (47, .d (.sl (a0.map (cL (cI .i64))))), (48, .i (a0.length : Int)), (49, .i v192), (130, .d (.sl (r448.1.map cS53))), (131, .d (.sl (l453.map cS53)))] [(44, some (.box [.ref 5880 0 l188.length, .i v189])), (46, some (.box [.ref 5920 0 r449.1.Versions.length, .i r449.1.Horizon])), (5880, some (.nest 72 2 [none, some (67, 3)] (l188.map cS72) [])), (5920, R43 r449.1.Versions)]) Sub.tt ?_
             replace h := bsome h; obtain ⟨r456, hr456, h⟩ := h
             refine Chain.callL (d := 132) (p17 N r448.1 l453 r456 hr456) (by simp) rfl rfl (by simp <;> rfl) (by simp <;> rfl) ent17 (by simp <;> rfl) ?_
             refine Chain.sub (S' := mk 179 [] [(1, .d (.sl (a1.map cS))), (2, .d (.sl (a2.map (cL cS53)))), (8, .ptr 44 0 0), (9, .ptr 46 0 0), (12, .d (.lit (.string r390))), (15, .i r448.2), (16, .i v452), (47, .d (.sl (a0.map (cL (cI .i64))))), (48, .i (a0.length : Int)), (49, .i v192), (130, .d (.sl (r448.1.map cS53))), (131, .d (.sl (l453.map cS53))), (132, .b r456)] [(44, some (.box [.ref 5880 0 l188.length, .i v189])), (46, some (.box [.ref 5920 0 r449.1.Versions.length, .i r449.1.Horizon])), (5880, some (.nest 72 2 [none, some (67, 3)] (l188.map cS72) [])), (5920, R43 r449.1.Versions)]) (by simp; exact Sub.table (by simp) (by simp)) ?_
             refine Chain.runK [] 1 fun K hK => ?_; simp; refine hK _ _ ?_; clear hK K
             refine Chain.sub (S' := mk 179 [] [(1, .d (.sl (a1.map cS))), (2, .d (.sl (a2.map (cL cS53)))), (8, .ptr 44 0 0), (9, .ptr 46 0 0), (12, .d (.lit (.string r390))), (15, .i r448.2), (16, .i v452), (47, .d (.sl (a0.map (cL (cI .i64))))), (48, .i (a0.length : Int)), (49, .i v192), (133, .b (!r456))] [(44, some (.box [.ref 5880 0 l188.length, .i v189])), (46, some (.box [.ref 5920 0 r449.1.Versions.length, .i r449.1.Horizon])), (5880, some (.nest 72 2 [none, some (67, 3)] (l188.map cS72) [])), (5920, R43 r449.1.Versions)]) Sub.tt ?_
             refine Chain.nil ?_
             replace h := isome h; rcases h with ⟨c457, h⟩ | ⟨c457, h⟩
             ·have c457_ : (!r456) = true := c457
              refine AW.condT (b := (!r456)) rfl c457_ ?_
              refine AW.sub (Sub.bool 133 (b := (!r456)) rfl c457_) ?_
              refine AW.sub (S' := mk 179 [] [(1, .d (.sl (a1.map cS))), (2, .d (.sl (a2.map (cL cS53)))), (8, .ptr 44 0 0), (9, .ptr 46 0 0), (12, .d (.lit (.string r390))), (15, .i r448.2), (16, .i v452), (47, .d (.sl (a0.map (cL (cI .i64))))), (48, .i (a0.length : Int)), (49, .i v192), (133, .b true)] [(44, some (.box [.ref 5880 0 l188.length, .i v189])), (46, some (.box [.ref 5920 0 r449.1.Versions.length, .i r449.1.Horizon])), (5880, some (.nest 72 2 [none, some (67, 3)] (l188.map cS72) [])), (5920, R43 r449.1.Versions)]) (by simp; exact Sub.table (by simp) (by simp)) ?_
              refine AW.seqR ?_
              refine Chain.runK [] 1 fun K hK => ?_; simp; refine hK _ _ ?_; clear hK K
              refine Chain.sub (S' := mk 179 [] [(6, .b false)] []) Sub.tt ?_
              refine Chain.nil ?_
              refine AW.ret ?_
              cases h
              refine PostJ.out (by simp) ?_
              rintro rfl
              refine blockQ.ret ?_
              refine thenQ_pass (by simp) ?_
              refine blockQ.ret ?_
              refine thenQ_pass (by simp) ?_
              refine PostI.out (by simp) ?_
              rintro rfl
              refine blockQ.ret ?_
              refine PostJ.out (by simp) ?_
              rintro rfl
              refine thenQ_pass (by simp) ?_
              exact FinC.ret (by simp) (by simp)
             ·have c457_ : (!r456) = false := Bool.eq_false_iff.2 c457
              refine AW.condF (b := (!r456)) rfl c457_ ?_
              refine AW.sub (Sub.bool 133 (b := (!r456)) rfl c457_) ?_
              refine AW.sub (S' := mk 179 [] [(1, .d (.sl (a1.map cS))), (2, .d (.sl (a2.map (cL cS53)))), (8, .ptr 44 0 0), (9, .ptr 46 0 0), (12, .d (.lit (.string r390))), (15, .i r448.2), (16, .i v452), (47, .d (.sl (a0.map (cL (cI .i64))))), (48, .i (a0.length : Int)), (49, .i v192), (133, .b false)] [(44, some (.box [.ref 5880 0 l188.length, .i v189])), (46, some (.box [.ref 5920 0 r449.1.Versions.length, .i r449.1.Horizon])), (5880, some (.nest 72 2 [none, some (67, 3)] (l188.map cS72) [])), (5920, R43 r449.1.Versions)]) (by simp; exact Sub.table (by simp) (by simp)) ?_
              refine AW.skip ?_
              cases h
              refine PostJ.next ?_
              exact Sub.tt
           ·have c447_ : (r394 == 4) = false := Bool.eq_false_iff.2 c447
            refine AW.condF (b := (r394 == 4)) rfl c447_ ?_
            refine AW.sub (Sub.bool 103 (b := (r394 == 4)) rfl c447_) ?_
            refine AW.sub (S' := mk 179 [] [(1, .d (.sl (a1.map cS))), (2, .d (.sl (a2.map (cL cS53)))), (8, .ptr 44 0 0), (9, .ptr 46 0 0), (12, .d (.lit (.string r390))), (13, .i r391), (15, .i 0), (16, .i 0), (47, .d (.sl (a0.map (cL (cI .i64))))), (48, .i (a0.length : Int)), (49, .i v192), (64, .i r394), (103, .b false)] [(44, some (.box [.ref 5880 0 l188.length, .i v189])), (46, some (.box [.ref 5920 0 l190.length, .i v191])), (5880, some (.nest 72 2 [none, some (67, 3)] (l188.map cS72) [])), (5920, R43 l190)]) (by simp; exact Sub.table (by simp) (by simp)) ?_
            refine AW.seqR ?_
            refine Chain.runK [] 2 fun K hK => ?_; simp; refine hK _ _ ?_; clear hK K
            refine Chain.sub (S' := mk 179 [] [(1, .d (.sl (a1.map cS))), (2, .d (.sl (a2.map (cL cS53)))), (8, .ptr 44 0 0), (9, .ptr 46 0 0), (12, .d (.lit (.string r390))), (13, .i r391), (15, .i 0), (16, .i 0), (47, .d (.sl (a0.map (cL (cI .i64))))), (48, .i (a0.length : Int)), (49, .i v192), (134, .b (r394 == 5))] [(44, some (.box [.ref 5880 0 l188.length, .i v189])), (46, some (.box [.ref 5920 0 l190.length, .i v191])), (5880, some (.nest 72 2 [none, some (67, 3)] (l188.map cS72) [])), (5920, R43 l190)]) Sub.tt ?_
            refine Chain.nil ?_
            replace h := isome h; rcases h with ⟨c458, h⟩ | ⟨c458, h⟩
            ·have c458_ : (r394 == 5) = true := c458
             refine AW.condT (b := (r394 == 5)) rfl c458_ ?_
             refine AW.sub (Sub.bool 134 (b := (r394 == 5)) rfl c458_) ?_
             refine AW.sub (S' := mk 179 [] [(1, .d (.sl (a1.map cS))), (2, .d (.sl (a2.map (cL cS53)))), (8, .ptr 44 0 0), (9, .ptr 46 0 0), (12, .d (.lit (.string r390))), (13, .i r391), (15, .i 0), (16, .i 0), (47, .d (.sl (a0.map (cL (cI .i64))))), (48, .i (a0.length : Int)), (49, .i v192), (134, .b true)] [(44, some (.box [.ref 5880 0 l188.length, .i v189])), (46, some (.box [.ref 5920 0 l190.length, .i v191])), (5880, some (.nest 72 2 [none, some (67, 3)] (l188.map cS72) [])), (5920, R43 l190)]) (by simp; exact Sub.table (by simp) (by simp)) ?_
             refine AW.seqR ?_
             refine Chain.runK [] 2 fun K hK => ?_; simp; refine hK _ _ ?_; clear hK K
             refine Chain.sub (S' := mk 179 [] [(1, .d (.sl (a1.map cS))), (2, .d (.sl (a2.map (cL cS53)))), (8, .ptr 44 0 0), (9, .ptr 46 0 0), (12, .d (.lit (.string r390))), (13, .i r391), (16, .i 0), (47, .d (.sl (a0.map (cL (cI .i64))))), (48, .i (a0.length : Int)), (49, .i v192), (137, .ptr 44 0 0), (138, .i r391)] [(44, some (.box [.ref 5880 0 l188.length, .i v189])), (46, some (.box [.ref 5920 0 l190.length, .i v191])), (5880, some (.nest 72 2 [none, some (67, 3)] (l188.map cS72) [])), (5920, R43 l190)]) Sub.tt ?_
             replace h := bsome h; obtain ⟨r459, hr459, h⟩ := h
             refine Chain.callFr (d := 139) (p18 N (S63.mk l188 v189) r391 r459 hr459) (by simp) rfl rfl (by simp <;> rfl) (by simp <;> rfl) ent18 (by simp) ?_
             refine Chain.sub (S' := mk 179 [] [(1, .d (.sl (a1.map cS))), (2, .d (.sl (a2.map (cL cS53)))), (8, .ptr 44 0 0), (9, .ptr 46 0 0), (12, .d (.lit (.string r390))), (13, .i r391), (16, .i 0), (47, .d (.sl (a0.map (cL (cI .i64))))), (48, .i (a0.length : Int)), (49, .i v192), (137, .ptr 44 0 0), (138, .i r391), (139, .tup [.d (.sl (r459.1.map cS79)), .i r459.2])] [(44, some (.box [.ref 5880 0 l188.length, .i v189])), (46, some (.box [.ref 5920 0 l190.length, .i v191])), (5880, some (.nest 72 2 [none, some (67, 3)] (l188.map cS72) [])), (5920, R43 l190)]) (by simp; exact Sub.table (by simp) (by simp)) ?_
             refine Chain.runK [] 5 fun K hK => ?_; simp; refine hK _ _ ?_; clear hK K
             refine Chain.sub (S' := mk 179 [] [(1, .d (.sl (a1.map cS))), (2, .d (.sl (a2.map (cL cS53)))), (8, .ptr 44 0 0), (9, .ptr 46 0 0), (12, .d (.lit (.string r390))), (13, .i r391), (16, .i 0), (21, .d (.sl (r459.1.map cS79))), (22, .i r459.2), (47, .d (.sl (a0.map (cL (cI .i64))))), (48, .i (a0.length : Int)), (49, .i v192)] [(44, some (.box [.ref 5880 0 l188.length, .i v189])), (46, some (.box [.ref 5920 0 l190.length, .i v191])), (5880, some (.nest 72 2 [none, some (67, 3)] (l188.map cS72) [])), (5920, R43 l190)]) Sub.tt ?_
             refine Chain.nil ?_
             refine AW.seqR ?_
             refine Chain.runK [] 2 fun K hK => ?_; simp; refine hK _ _ ?_; clear hK K
             refine Chain.sub (S' := mk 179 [] [(1, .d (.sl (a1.map cS))), (2, .d (.sl (a2.map (cL cS53)))), (8, .ptr 44 0 0), (9, .ptr 46 0 0), (12, .d (.lit (.string r390))), (13, .i r391), (16, .i 0), (21, .d (.sl (r459.1.map cS79))), (22, .i r459.2), (47, .d (.sl (a0.map (cL (cI .i64))))), (48, .i (a0.length : Int)), (49, .i v192), (142, .ptr 46 0 0), (143, .i r391)] [(44, some (.box [.ref 5880 0 l188.length, .i v189])), (46, some (.box [.ref 5920 0 l190.length, .i v191])), (5880, some (.nest 72 2 [none, some (67, 3)] (l188.map cS72) [])), (5920, R43 l190)]) Sub.tt ?_
             replace h := bsome h; obtain ⟨r460, hr460, h⟩ := h
             refine Chain.callF (p19 N (S36.mk l190 v191) r391 r460 hr460) [(46, 1000), (5920, 25000)] [46] [(1000, 46), (25000, 5920)] [(46, (.box [.ref 5920 0 r460.1.Versions.length, .i r460.1.Horizon])), (5920, (.arr 43 4 (r460.1.Versions.map cS43)))] (.d (.sl (r460.2.map cS79))) (by simp) rfl (by simp <;> rfl) (by simp) (by simp) (by simp) (by simp) (by simp) ent19 (by simp) (by simp) (by simp) (by simp) (by simp) (by simp) ?_
             refine Chain.sub (S' := mk 179 [] [(1, .d (.sl (a1.map cS))), (2, .d (.sl (a2.map (cL cS53)))), (8, .ptr 44 0 0), (9, .ptr 46 0 0), (12, .d (.lit (.string r390))), (13, .i r391), (16, .i 0), (21, .d (.sl (r459.1.map cS79))), (22, .i r459.2), (47, .d (.sl (a0.map (cL (cI .i64))))), (48, .i (a0.length : Int)), (49, .i v192), (142, .ptr 46 0 0), (143, .i r391), (144, .d (.sl (r460.2.map cS79)))] [(44, some (.box [.ref 5880 0 l188.length, .i v189])), (46, some (.box [.ref 5920 0 r460.1.Versions.length, .i r460.1.Horizon])), (5880, some (.nest 72 2 [none, some (67, 3)] (l188.map cS72) [])), (5920, R43 r460.1.Versions)]) (by simp; exact Sub.table (by simp) (by simp)) ?_
             refine Chain.runK [] 1 fun K hK => ?_; simp; refine hK _ _ ?_; clear hK K
             refine Chain.sub (S' := mk 179 [] [(1, .d (.sl (a1.map cS))), (2, .d (.sl (a2.map (cL cS53)))), (8, .ptr 44 0 0), (9, .ptr 46 0 0), (12, .d (.lit (.string r390))), (13, .i r391), (16, .i 0), (21, .d (.sl (r459.1.map cS79))), (22, .i r459.2), (23, .d (.sl (r460.2.map cS79))), (47, .d (.sl (a0.map (cL (cI .i64))))), (48, .i (a0.length : Int)), (49, .i v192)] [(44, some (.box [.ref 5880 0 l188.length, .i v189])), (46, some (.box [.ref 5920 0 r460.1.Versions.length, .i r460.1.Horizon])), (5880, some (.nest 72 2 [none, some (67, 3)] (l188.map cS72) [])), (5920, R43 r460.1.Versions)]) Sub.tt ?_
             refine Chain.nil ?_
             refine AW.seq ?_
             refine AW.seqR ?_
             refine Chain.runK [] 6 fun K hK => ?_; simp; refine hK _ _ ?_; clear hK K
             refine Chain.sub (S' := mk 179 [] [(1, .d (.sl (a1.map cS))), (2, .d (.sl (a2.map (cL cS53)))), (8, .ptr 44 0 0), (9, .ptr 46 0 0), (12, .d (.lit (.string r390))), (16, .i 0), (21, .d (.sl (r459.1.map cS79))), (22, .i r459.2), (23, .d (.sl (r460.2.map cS79))), (47, .d (.sl (a0.map (cL (cI .i64))))), (48, .i (a0.length : Int)), (49, .i v192), (150, .b (decide (r391 < r460.1.Horizon)))] [(44, some (.box [.ref 5880 0 l188.length, .i v189])), (46, some (.box [.ref 5920 0 r460.1.Versions.length, .i r460.1.Horizon])), (5880, some (.nest 72 2 [none, some (67, 3)] (l188.map cS72) [])), (5920, R43 r460.1.Versions)]) Sub.tt ?_
             refine Chain.nil ?_
             refine AW.lastN (fun ((v462, l463) : (Int × (List S79))) => mk 179 [] [(1, .d (.sl (a1.map cS))), (2, .d (.sl (a2.map (cL cS53)))), (8, .ptr 44 0 0), (9, .ptr 46 0 0), (12, .d (.lit (.string r390))), (16, .i v462), (21, .d (.sl (r459.1.map cS79))), (22, .i r459.2), (23, .d (.sl (l463.map cS79))), (47, .d (.sl (a0.map (cL (cI .i64))))), (48, .i (a0.length : Int)), (49, .i v192)] [(44, some (.box [.ref 5880 0 l188.length, .i v189])), (46, some (.box [.ref 5920 0 r460.1.Versions.length, .i r460.1.Horizon])), (5880, some (.nest 72 2 [none, some (67, 3)] (l188.map cS72) [])), (5920, R43 r460.1.Versions)]) h ?_ ?_ <;> clear h
             ·intro o h
              replace h := isome h; rcases h with ⟨c464, h⟩ | ⟨c464, h⟩
              ·have c464_ : decide (r391 < r460.1.Horizon) = true := decide_eq_true c464
               refine AW.condT (b := decide (r391 < r460.1.Horizon)) rfl c464_ ?_
               refine AW.sub (Sub.bool 150 (b := decide (r391 < r460.1.Horizon)) rfl c464_) ?_
               refine AW.sub (S' := mk 179 [] [(1, .d (.sl (a1.map cS))), (2, .d (.sl (a2.map (cL cS53)))), (8, .ptr 44 0 0), (9, .ptr 46 0 0), (12, .d (.lit (.string r390))), (16, .i 0), (21, .d (.sl (r459.1.map cS79))), (22, .i r459.2), (23, .d (.sl (r460.2.map cS79))), (47, .d (.sl (a0.map (cL (cI .i64))))), (48, .i (a0.length : Int)), (49, .i v192), (150, .b true)] [(44, some (.box [.ref 5880 0 l188.length, .i v189])), (46, some (.box [.ref 5920 0 r460.1.Versions.length, .i r460.1.Horizon])), (5880, some (.nest 72 2 [none, some (67, 3)] (l188.map cS72) [])), (5920, R43 r460.1.Versions)]) (by simp; exact Sub.table (by simp) (by simp)) ?_
               refine AW.region ?_
               refine Chain.runK [] 2 fun K hK => ?_; simp; refine hK _ _ ?_; clear hK K
               refine Chain.sub (S' := mk 179 [] [(1, .d (.sl (a1.map cS))), (2, .d (.sl (a2.map (cL cS53)))), (8, .ptr 44 0 0), (9, .ptr 46 0 0), (12, .d (.lit (.string r390))), (16, .i 21), (21, .d (.sl (r459.1.map cS79))), (22, .i r459.2), (23, .d (.lit (.slice none 0 0))), (47, .d (.sl (a0.map (cL (cI .i64))))), (48, .i (a0.length : Int)), (49, .i v192)] [(44, some (.box [.ref 5880 0 l188.length, .i v189])), (46, some (.box [.ref 5920 0 r460.1.Versions.length, .i r460.1.Horizon])), (5880, some (.nest 72 2 [none, some (67, 3)] (l188.map cS72) [])), (5920, R43 r460.1.Versions)]) Sub.tt ?_
               refine Chain.nil ?_
               cases h
               refine PostN.next ?_
               exact (Sub.trans (Sub.wk 23 rfl) (by simp; exact Sub.table (by simp) (by simp)))
              ·have c464_ : decide (r391 < r460.1.Horizon) = false := decide_eq_false c464
               refine AW.condF (b := decide (r391 < r460.1.Horizon)) rfl c464_ ?_
               refine AW.sub (Sub.bool 150 (b := decide (r391 < r460.1.Horizon)) rfl c464_) ?_
               refine AW.sub (S' := mk 179 [] [(1, .d (.sl (a1.map cS))), (2, .d (.sl (a2.map (cL cS53)))), (8, .ptr 44 0 0), (9, .ptr 46 0 0), (12, .d (.lit (.string r390))), (16, .i 0), (21, .d (.sl (r459.1.map cS79))), (22, .i r459.2), (23, .d (.sl (r460.2.map cS79))), (47, .d (.sl (a0.map (cL (cI .i64))))), (48, .i (a0.length : Int)), (49, .i v192), (150, .b false)] [(44, some (.box [.ref 5880 0 l188.length, .i v189])), (46, some (.box [.ref 5920 0 r460.1.Versions.length, .i r460.1.Horizon])), (5880, some (.nest 72 2 [none, some (67, 3)] (l188.map cS72) [])), (5920, R43 r460.1.Versions)]) (by simp; exact Sub.table (by simp) (by simp)) ?_
               refine AW.skip ?_
               cases h
               refine PostN.next ?_
               exact Sub.tt
             ·rintro ⟨v462, l463⟩ h
              dsimp only at h ⊢
              refine thenQ_normal ?_
              refine AW.seqR ?_
              refine Chain.runK [] 2 fun K hK => ?_; simp; refine hK _ _ ?_; clear hK K
              refine Chain.sub (S' := mk 179 [] [(1, .d (.sl (a1.map cS))), (2, .d (.sl (a2.map (cL cS53)))), (8, .ptr 44 0 0), (9, .ptr 46 0 0), (12, .d (.lit (.string r390))), (15, .i r459.2), (16, .i v462), (21, .d (.sl (r459.1.map cS79))), (23, .d (.sl (l463.map cS79))), (47, .d (.sl (a0.map (cL (cI .i64))))), (48, .i (a0.length : Int)), (49, .i v192)] [(44, some (.box [.ref 5880 0 l188.length, .i v189])), (46, some (.box [.ref 5920 0 r460.1.Versions.length, .i r460.1.Horizon])), (5880, some (.nest 72 2 [none, some (67, 3)] (l188.map cS72) [])), (5920, R43 r460.1.Versions)]) Sub.tt ?_
              refine Chain.nil ?_
              refine AW.seqR ?_
              refine Chain.runK [] 2 fun K hK => ?_; simp; refine hK _ _ ?_; clear hK K
              refine Chain.sub (S' := mk 179 [] [(1, .d (.sl (a1.map cS))), (2, .d (.sl (a2.map (cL cS53)))), (8, .ptr 44 0 0), (9, .ptr 46 0 0), (12, .d (.lit (.string r390))), (15, .i r459.2), (16, .i v462), (47, .d (.sl (a0.map (cL (cI .i64))))), (48, .i (a0.length : Int)), (49, .i v192), (152, .d (.sl (r459.1.map cS79))), (153, .d (.sl (l463.map cS79)))] [(44, some (.box [.ref 5880 0 l188.length, .i v189])), (46, some (.box [.ref 5920 0 r460.1.Versions.length, .i r460.1.Horizon])), (5880, some (.nest 72 2 [none, some (67, 3)] (l188.map cS72) [])), (5920, R43 r460.1.Versions)]) Sub.tt ?_
              replace h := bsome h; obtain ⟨r465, hr465, h⟩ := h
              refine Chain.callL (d := 154) (p20 N r459.1 l463 r465 hr465) (by simp) rfl rfl (by simp <;> rfl) (by simp <;> rfl) ent20 (by simp <;> rfl) ?_
              refine Chain.sub (S' := mk 179 [] [(1, .d (.sl (a1.map cS))), (2, .d (.sl (a2.map (cL cS53)))), (8, .ptr 44 0 0), (9, .ptr 46 0 0), (12, .d (.lit (.string r390))), (15, .i r459.2), (16, .i v462), (47, .d (.sl (a0.map (cL (cI .i64))))), (48, .i (a0.length : Int)), (49, .i v192), (152, .d (.sl (r459.1.map cS79))), (153, .d (.sl (l463.map cS79))), (154, .b r465)] [(44, some (.box [.ref 5880 0 l188.length, .i v189])), (46, some (.box [.ref 5920 0 r460.1.Versions.length, .i r460.1.Horizon])), (5880, some (.nest 72 2 [none, some (67, 3)] (l188.map cS72) [])), (5920, R43 r460.1.Versions)]) (by simp; exact Sub.table (by simp) (by simp)) ?_
              refine Chain.runK [] 1 fun K hK => ?_; simp; refine hK _ _ ?_; clear hK K
              refine Chain.sub (S' := mk 179 [] [(1, .d (.sl (a1.map cS))), (2, .d (.sl (a2.map (cL cS53)))), (8, .ptr 44 0 0), (9, .ptr 46 0 0), (12, .d (.lit (.string r390))), (15, .i r459.2), (16, .i v462), (47, .d (.sl (a0.map (cL (cI .i64))))), (48, .i (a0.length : Int)), (49, .i v192), (155, .b (!r465))] [(44, some (.box [.ref 5880 0 l188.length, .i v189])), (46, some (.box [.ref 5920 0 r460.1.Versions.length, .i r460.1.Horizon])), (5880, some (.nest 72 2 [none, some (67, 3)] (l188.map cS72) [])), (5920, R43 r460.1.Versions)]) Sub.tt ?_
              refine Chain.nil ?_
              replace h := isome h; rcases h with ⟨c466, h⟩ | ⟨c466, h⟩
              ·have c466_ : (!r465) = true := c466
               refine AW.condT (b := (!r465)) rfl c466_ ?_
               refine AW.sub (Sub.bool 155 (b := (!r465)) rfl c466_) ?_
               refine AW.sub (S' := mk 179 [] [(1, .d (.sl (a1.map cS))), (2, .d (.sl (a2.map (cL cS53)))), (8, .ptr 44 0 0), (9, .ptr 46 0 0), (12, .d (.lit (.string r390))), (15, .i r459.2), (16, .i v462), (47, .d (.sl (a0.map (cL (cI .i64))))), (48, .i (a0.length : Int)), (49, .i v192), (155, .b true)] [(44, some (.box [.ref 5880 0 l188.length, .i v189])), (46, some (.box [.ref 5920 0 r460.1.Versions.length, .i r460.1.Horizon])), (5880, some (.nest 72 2 [none, some (67, 3)] (l188.map cS72) [])), (5920, R43 r460.1.Versions)]) (by simp; exact Sub.table (by simp) (by simp)) ?_
               refine AW.seqR ?_
               refine Chain.runK [] 1 fun K hK => ?_; simp; refine hK _ _ ?_; clear hK K
               refine Chain.sub (S' := mk 179 [] [(6, .b false)] []) Sub.tt ?_
               refine Chain.nil ?_
               refine AW.ret ?_
               cases h
               refine PostJ.out (by simp) ?_
               rintro rfl
               refine blockQ.ret ?_
               refine thenQ_pass (by simp) ?_
               refine blockQ.ret ?_
               refine thenQ_pass (by simp) ?_
               refine PostI.out (by simp) ?_
               rintro rfl
               refine blockQ.ret ?_
               refine PostJ.out (by simp) ?_
               rintro rfl
               refine thenQ_pass (by simp) ?_
               exact FinC.ret (by simp) (by simp)
              ·have c466_ : (!r465) = false := Bool.eq_false_iff.2 c466
               refine AW.condF (b := (!r465)) rfl c466_ ?_
               refine AW.sub (Sub.bool 155 (b := (!r465)) rfl c466_) ?_
               refine AW.sub (S' := mk 179 [] [(1, .d (.sl (a1.map cS))), (2, .d (.sl (a2.map (cL cS53)))), (8, .ptr 44 0 0), (9, .ptr 46 0 0), (12, .d (.lit (.string r390))), (15, .i r459.2), (16, .i v462), (47, .d (.sl (a0.map (cL (cI .i64))))), (48, .i (a0.length : Int)), (49, .i v192), (155, .b false)] [(44, some (.box [.ref 5880 0 l188.length, .i v189])), (46, some (.box [.ref 5920 0 r460.1.Versions.length, .i r460.1.Horizon])), (5880, some (.nest 72 2 [none, some (67, 3)] (l188.map cS72) [])), (5920, R43 r460.1.Versions)]) (by simp; exact Sub.table (by simp) (by simp)) ?_
               refine AW.skip ?_
               cases h
               refine PostJ.next ?_
               exact Sub.tt
            ·have c458_ : (r394 == 5) = false := Bool.eq_false_iff.2 c458
             refine AW.condF (b := (r394 == 5)) rfl c458_ ?_
             refine AW.sub (Sub.bool 134 (b := (r394 == 5)) rfl c458_) ?_
             refine AW.sub (S' := mk 179 [] [(1, .d (.sl (a1.map cS))), (2, .d (.sl (a2.map (cL cS53)))), (8, .ptr 44 0 0), (9, .ptr 46 0 0), (12, .d (.lit (.string r390))), (13, .i r391), (15, .i 0), (16, .i 0), (47, .d (.sl (a0.map (cL (cI .i64))))), (48, .i (a0.length : Int)), (49, .i v192), (134, .b false)] [(44, some (.box [.ref 5880 0 l188.length, .i v189])), (46, some (.box [.ref 5920 0 l190.length, .i v191])), (5880, some (.nest 72 2 [none, some (67, 3)] (l188.map cS72) [])), (5920, R43 l190)]) (by simp; exact Sub.table (by simp) (by simp)) ?_
             refine AW.skip ?_
             cases h
             refine PostJ.next ?_
             exact Sub.tt
       ·rintro ⟨l428, v429, l430, v431, v432, v433⟩ h
        dsimp only at h ⊢
        refine blockQ.normal ?_
        refine thenQ_normal ?_
        replace h := bsome h; obtain ⟨v472, hj, h⟩ := h
        refine AW.cutQ (by kernel_rfl) (by kernel_rfl) (mk 179 [] [(1, .d (.sl (a1.map cS))), (2, .d (.sl (a2.map (cL cS53)))), (8, .ptr 44 0 0), (9, .ptr 46 0 0), (47, .d (.sl (a0.map (cL (cI .i64))))), (48, .i (a0.length : Int)), (49, .i v192), (177, .b v472)] [(44, some (.box [.ref 5880 0 l428.length, .i v429])), (46, some (.box [.ref 5920 0 l430.length, .i v431])), (5880, some (.nest 72 2 [none, some (67, 3)] (l428.map cS72) [])), (5920, R43 l430)]) ?_ ?_
        ·clear h; have h := hj; clear hj
         refine Chain.runQ 4 fun K hK => ?_; simp; refine hK _ _ ?_; clear hK K
         refine Chain.sub (S' := mk 179 [] [(1, .d (.sl (a1.map cS))), (2, .d (.sl (a2.map (cL cS53)))), (8, .ptr 44 0 0), (9, .ptr 46 0 0), (12, .d (.lit (.string r390))), (47, .d (.sl (a0.map (cL (cI .i64))))), (48, .i (a0.length : Int)), (49, .i v192), (159, .b (v432 != v433))] [(44, some (.box [.ref 5880 0 l428.length, .i v429])), (46, some (.box [.ref 5920 0 l430.length, .i v431])), (5880, some (.nest 72 2 [none, some (67, 3)] (l428.map cS72) [])), (5920, R43 l430)]) Sub.tt ?_
         replace h := isome h; rcases h with ⟨c473, h⟩ | ⟨c473, h⟩
         ·have c473_ : (v432 != v433) = true := c473
          refine Chain.sub (Sub.bool 159 (b := (v432 != v433)) rfl c473_) ?_
          refine Chain.sub (S' := mk 179 [] [(1, .d (.sl (a1.map cS))), (2, .d (.sl (a2.map (cL cS53)))), (8, .ptr 44 0 0), (9, .ptr 46 0 0), (12, .d (.lit (.string r390))), (47, .d (.sl (a0.map (cL (cI .i64))))), (48, .i (a0.length : Int)), (49, .i v192), (159, .b true)] [(44, some (.box [.ref 5880 0 l428.length, .i v429])), (46, some (.box [.ref 5920 0 l430.length, .i v431])), (5880, some (.nest 72 2 [none, some (67, 3)] (l428.map cS72) [])), (5920, R43 l430)]) (by simp; exact Sub.table (by simp) (by simp)) ?_
          refine Chain.runQ 18 fun K hK => ?_; simp; refine hK _ _ ?_; clear hK K
          refine Chain.sub (S' := mk 179 [] [(1, .d (.sl (a1.map cS))), (2, .d (.sl (a2.map (cL cS53)))), (8, .ptr 44 0 0), (9, .ptr 46 0 0), (47, .d (.sl (a0.map (cL (cI .i64))))), (48, .i (a0.length : Int)), (49, .i v192), (160, .tup []), (161, .tup []), (162, .tup []), (163, .tup []), (164, .tup []), (165, .tup []), (166, .tup []), (167, .tup []), (170, .tup []), (171, .tup []), (172, .tup []), (173, .tup []), (174, .tup []), (175, .tup []), (176, .tup []), (177, .b true)] [(44, some (.box [.ref 5880 0 l428.length, .i v429])), (46, some (.box [.ref 5920 0 l430.length, .i v431])), (5880, some (.nest 72 2 [none, some (67, 3)] (l428.map cS72) [])), (5920, R43 l430)]) Sub.tt ?_
          cases h
          exact Chain.nil Sub.tt
         ·have c473_ : (v432 != v433) = false := Bool.eq_false_iff.2 c473
          refine Chain.sub (Sub.bool 159 (b := (v432 != v433)) rfl c473_) ?_
          refine Chain.sub (S' := mk 179 [] [(1, .d (.sl (a1.map cS))), (2, .d (.sl (a2.map (cL cS53)))), (8, .ptr 44 0 0), (9, .ptr 46 0 0), (12, .d (.lit (.string r390))), (47, .d (.sl (a0.map (cL (cI .i64))))), (48, .i (a0.length : Int)), (49, .i v192), (159, .b false)] [(44, some (.box [.ref 5880 0 l428.length, .i v429])), (46, some (.box [.ref 5920 0 l430.length, .i v431])), (5880, some (.nest 72 2 [none, some (67, 3)] (l428.map cS72) [])), (5920, R43 l430)]) (by simp; exact Sub.table (by simp) (by simp)) ?_
          refine Chain.runQ 1 fun K hK => ?_; simp; refine hK _ _ ?_; clear hK K
          refine Chain.sub (S' := mk 179 [] [(1, .d (.sl (a1.map cS))), (2, .d (.sl (a2.map (cL cS53)))), (8, .ptr 44 0 0), (9, .ptr 46 0 0), (12, .d (.lit (.string r390))), (47, .d (.sl (a0.map (cL (cI .i64))))), (48, .i (a0.length : Int)), (49, .i v192), (159, .b false), (160, .ptr 44 0 0)] [(44, some (.box [.ref 5880 0 l428.length, .i v429])), (46, some (.box [.ref 5920 0 l430.length, .i v431])), (5880, some (.nest 72 2 [none, some (67, 3)] (l428.map cS72) [])), (5920, R43 l430)]) Sub.tt ?_
          replace h := bsome h; obtain ⟨r474, hr474, h⟩ := h
          refine Chain.callL (d := 161) (p21 N (S63.mk l428 v429) r474 hr474) (by simp) rfl rfl (by simp <;> rfl) (by simp <;> rfl) ent21 (by simp <;> rfl) ?_
          refine Chain.sub (S' := mk 179 [] [(1, .d (.sl (a1.map cS))), (2, .d (.sl (a2.map (cL cS53)))), (8, .ptr 44 0 0), (9, .ptr 46 0 0), (12, .d (.lit (.string r390))), (47, .d (.sl (a0.map (cL (cI .i64))))), (48, .i (a0.length : Int)), (49, .i v192), (159, .b false), (160, .ptr 44 0 0), (161, .i r474)] [(44, some (.box [.ref 5880 0 l428.length, .i v429])), (46, some (.box [.ref 5920 0 l430.length, .i v431])), (5880, some (.nest 72 2 [none, some (67, 3)] (l428.map cS72) [])), (5920, R43 l430)]) (by simp; exact Sub.table (by simp) (by simp)) ?_
          refine Chain.runQ 8 fun K hK => ?_; simp; refine hK _ _ ?_; clear hK K
          refine Chain.sub (S' := mk 179 [] [(1, .d (.sl (a1.map cS))), (2, .d (.sl (a2.map (cL cS53)))), (8, .ptr 44 0 0), (9, .ptr 46 0 0), (12, .d (.lit (.string r390))), (47, .d (.sl (a0.map (cL (cI .i64))))), (48, .i (a0.length : Int)), (49, .i v192), (160, .ptr 44 0 0), (161, .i r474), (162, .ptr 46 0 0), (163, .ptr 46 0 0), (164, .ptr 46 0 0), (165, .ref 5920 0 l430.length), (166, .i (l430.length : Int)), (167, .b (r474 != (l430.length : Int))), (169, .b (r474 != (l430.length : Int)))] [(44, some (.box [.ref 5880 0 l428.length, .i v429])), (46, some (.box [.ref 5920 0 l430.length, .i v431])), (5880, some (.nest 72 2 [none, some (67, 3)] (l428.map cS72) [])), (5920, R43 l430)]) Sub.tt ?_
          replace h := isome h; rcases h with ⟨c475, h⟩ | ⟨c475, h⟩
          ·have c475_ : (r474 != (l430.length : Int)) = true := c475
           refine Chain.sub (Sub.bool 167 (b := (r474 != (l430.length : Int))) rfl c475_) ?_
           refine Chain.sub (Sub.bool 169 (b := (r474 != (l430.length : Int))) rfl c475_) ?_
           refine Chain.sub (S' := mk 179 [] [(1, .d (.sl (a1.map cS))), (2, .d (.sl (a2.map (cL cS53)))), (8, .ptr 44 0 0), (9, .ptr 46 0 0), (12, .d (.lit (.string r390))), (47, .d (.sl (a0.map (cL (cI .i64))))), (48, .i (a0.length : Int)), (49, .i v192), (160, .ptr 44 0 0), (161, .i r474), (162, .ptr 46 0 0), (163, .ptr 46 0 0), (164, .ptr 46 0 0), (165, .ref 5920 0 l430.length), (166, .i (l430.length : Int)), (167, .b true), (169, .b true)] [(44, some (.box [.ref 5880 0 l428.length, .i v429])), (46, some (.box [.ref 5920 0 l430.length, .i v431])), (5880, some (.nest 72 2 [none, some (67, 3)] (l428.map cS72) [])), (5920, R43 l430)]) (by simp; exact Sub.table (by simp) (by simp)) ?_
           refine Chain.runQ 8 fun K hK => ?_; simp; refine hK _ _ ?_; clear hK K
           refine Chain.sub (S' := mk 179 [] [(1, .d (.sl (a1.map cS))), (2, .d (.sl (a2.map (cL cS53)))), (8, .ptr 44 0 0), (9, .ptr 46 0 0), (47, .d (.sl (a0.map (cL (cI .i64))))), (48, .i (a0.length : Int)), (49, .i v192), (160, .ptr 44 0 0), (161, .i r474), (162, .ptr 46 0 0), (163, .ptr 46 0 0), (164, .ptr 46 0 0), (165, .ref 5920 0 l430.length), (166, .i (l430.length : Int)), (167, .b true), (170, .tup []), (171, .tup []), (172, .tup []), (173, .tup []), (174, .tup []), (175, .tup []), (176, .tup []), (177, .b true)] [(44, some (.box [.ref 5880 0 l428.length, .i v429])), (46, some (.box [.ref 5920 0 l430.length, .i v431])), (5880, some (.nest 72 2 [none, some (67, 3)] (l428.map cS72) [])), (5920, R43 l430)]) Sub.tt ?_
           cases h
           exact Chain.nil Sub.tt
          ·have c475_ : (r474 != (l430.length : Int)) = false := Bool.eq_false_iff.2 c475
           refine Chain.sub (Sub.bool 167 (b := (r474 != (l430.length : Int))) rfl c475_) ?_
           refine Chain.sub (Sub.bool 169 (b := (r474 != (l430.length : Int))) rfl c475_) ?_
           refine Chain.sub (S' := mk 179 [] [(1, .d (.sl (a1.map cS))), (2, .d (.sl (a2.map (cL cS53)))), (8, .ptr 44 0 0), (9, .ptr 46 0 0), (12, .d (.lit (.string r390))), (47, .d (.sl (a0.map (cL (cI .i64))))), (48, .i (a0.length : Int)), (49, .i v192), (160, .ptr 44 0 0), (161, .i r474), (162, .ptr 46 0 0), (163, .ptr 46 0 0), (164, .ptr 46 0 0), (165, .ref 5920 0 l430.length), (166, .i (l430.length : Int)), (167, .b false), (169, .b false)] [(44, some (.box [.ref 5880 0 l428.length, .i v429])), (46, some (.box [.ref 5920 0 l430.length, .i v431])), (5880, some (.nest 72 2 [none, some (67, 3)] (l428.map cS72) [])), (5920, R43 l430)]) (by simp; exact Sub.table (by simp) (by simp)) ?_
           refine Chain.runQ 2 fun K hK => ?_; simp; refine hK _ _ ?_; clear hK K
           refine Chain.sub (S' := mk 179 [] [(1, .d (.sl (a1.map cS))), (2, .d (.sl (a2.map (cL cS53)))), (8, .ptr 44 0 0), (9, .ptr 46 0 0), (12, .d (.lit (.string r390))), (47, .d (.sl (a0.map (cL (cI .i64))))), (48, .i (a0.length : Int)), (49, .i v192), (160, .ptr 44 0 0), (161, .i r474), (162, .ptr 46 0 0), (163, .ptr 46 0 0), (164, .ptr 46 0 0), (165, .ref 5920 0 l430.length), (166, .i (l430.length : Int)), (167, .b false), (169, .b false), (170, .ptr 44 0 0), (171, .d (.lit (.string r390)))] [(44, some (.box [.ref 5880 0 l428.length, .i v429])), (46, some (.box [.ref 5920 0 l430.length, .i v431])), (5880, some (.nest 72 2 [none, some (67, 3)] (l428.map cS72) [])), (5920, R43 l430)]) Sub.tt ?_
           replace h := bsome h; obtain ⟨r476, hr476, h⟩ := h
           refine Chain.callL (d := 172) (p7 N (S63.mk l428 v429) r390 r476 hr476) (by simp) rfl rfl (by simp <;> rfl) (by simp <;> rfl) ent7 (by simp <;> rfl) ?_
           refine Chain.sub (S' := mk 179 [] [(1, .d (.sl (a1.map cS))), (2, .d (.sl (a2.map (cL cS53)))), (8, .ptr 44 0 0), (9, .ptr 46 0 0), (12, .d (.lit (.string r390))), (47, .d (.sl (a0.map (cL (cI .i64))))), (48, .i (a0.length : Int)), (49, .i v192), (160, .ptr 44 0 0), (161, .i r474), (162, .ptr 46 0 0), (163, .ptr 46 0 0), (164, .ptr 46 0 0), (165, .ref 5920 0 l430.length), (166, .i (l430.length : Int)), (167, .b false), (169, .b false), (170, .ptr 44 0 0), (171, .d (.lit (.string r390))), (172, .i r476)] [(44, some (.box [.ref 5880 0 l428.length, .i v429])), (46, some (.box [.ref 5920 0 l430.length, .i v431])), (5880, some (.nest 72 2 [none, some (67, 3)] (l428.map cS72) [])), (5920, R43 l430)]) (by simp; exact Sub.table (by simp) (by simp)) ?_
           refine Chain.runQ 2 fun K hK => ?_; simp; refine hK _ _ ?_; clear hK K
           refine Chain.sub (S' := mk 179 [] [(1, .d (.sl (a1.map cS))), (2, .d (.sl (a2.map (cL cS53)))), (8, .ptr 44 0 0), (9, .ptr 46 0 0), (47, .d (.sl (a0.map (cL (cI .i64))))), (48, .i (a0.length : Int)), (49, .i v192), (160, .ptr 44 0 0), (161, .i r474), (162, .ptr 46 0 0), (163, .ptr 46 0 0), (164, .ptr 46 0 0), (165, .ref 5920 0 l430.length), (166, .i (l430.length : Int)), (167, .b false), (169, .b false), (170, .ptr 44 0 0), (171, .d (.lit (.string r390))), (172, .i r476), (173, .ptr 46 0 0), (174, .d (.lit (.string r390)))] [(44, some (.box [.ref 5880 0 l428.length, .i v429])), (46, some (.box [.ref 5920 0 l430.length, .i v431])), (5880, some (.nest 72 2 [none, some (67, 3)] (l428.map cS72) [])), (5920, R43 l430)]) Sub.tt ?_
           replace h := bsome h; obtain ⟨r477, hr477, h⟩ := h
           refine Chain.callL (d := 175) (p22 N (S36.mk l430 v431) r390 r477 hr477) (by simp) rfl rfl (by simp <;> rfl) (by simp <;> rfl) ent22 (by simp <;> rfl) ?_
           refine Chain.sub (S' := mk 179 [] [(1, .d (.sl (a1.map cS))), (2, .d (.sl (a2.map (cL cS53)))), (8, .ptr 44 0 0), (9, .ptr 46 0 0), (47, .d (.sl (a0.map (cL (cI .i64))))), (48, .i (a0.length : Int)), (49, .i v192), (160, .ptr 44 0 0), (161, .i r474), (162, .ptr 46 0 0), (163, .ptr 46 0 0), (164, .ptr 46 0 0), (165, .ref 5920 0 l430.length), (166, .i (l430.length : Int)), (167, .b false), (169, .b false), (170, .ptr 44 0 0), (171, .d (.lit (.string r390))), (172, .i r476), (173, .ptr 46 0 0), (174, .d (.lit (.string r390))), (175, .i r477)] [(44, some (.box [.ref 5880 0 l428.length, .i v429])), (46, some (.box [.ref 5920 0 l430.length, .i v431])), (5880, some (.nest 72 2 [none, some (67, 3)] (l428.map cS72) [])), (5920, R43 l430)]) (by simp; exact Sub.table (by simp) (by simp)) ?_
           refine Chain.runQ 2 fun K hK => ?_; simp; refine hK _ _ ?_; clear hK K
           refine Chain.sub (S' := mk 179 [] [(1, .d (.sl (a1.map cS))), (2, .d (.sl (a2.map (cL cS53)))), (8, .ptr 44 0 0), (9, .ptr 46 0 0), (47, .d (.sl (a0.map (cL (cI .i64))))), (48, .i (a0.length : Int)), (49, .i v192), (160, .ptr 44 0 0), (161, .i r474), (162, .ptr 46 0 0), (163, .ptr 46 0 0), (164, .ptr 46 0 0), (165, .ref 5920 0 l430.length), (166, .i (l430.length : Int)), (167, .b false), (170, .ptr 44 0 0), (171, .d (.lit (.string r390))), (172, .i r476), (173, .ptr 46 0 0), (174, .d (.lit (.string r390))), (175, .i r477), (176, .b (r476 != r477)), (177, .b (r476 != r477))] [(44, some (.box [.ref 5880 0 l428.length, .i v429])), (46, some (.box [.ref 5920 0 l430.length, .i v431])), (5880, some (.nest 72 2 [none, some (67, 3)] (l428.map cS72) [])), (5920, R43 l430)]) Sub.tt ?_
           cases h
           exact Chain.nil Sub.tt
        ·clear hj
         replace h := isome h; rcases h with ⟨c478, h⟩ | ⟨c478, h⟩
         ·have c478_ : v472 = true := c478
          refine AW.condT (b := v472) rfl c478_ ?_
          refine AW.sub (Sub.bool 177 (b := v472) rfl c478_) ?_
          refine AW.sub (S' := mk 179 [] [(1, .d (.sl (a1.map cS))), (2, .d (.sl (a2.map (cL cS53)))), (8, .ptr 44 0 0), (9, .ptr 46 0 0), (47, .d (.sl (a0.map (cL (cI .i64))))), (48, .i (a0.length : Int)), (49, .i v192), (177, .b true)] [(44, some (.box [.ref 5880 0 l428.length, .i v429])), (46, some (.box [.ref 5920 0 l430.length, .i v431])), (5880, some (.nest 72 2 [none, some (67, 3)] (l428.map cS72) [])), (5920, R43 l430)]) (by simp; exact Sub.table (by simp) (by simp)) ?_
          refine AW.seqR ?_
          refine Chain.runK [] 1 fun K hK => ?_; simp; refine hK _ _ ?_; clear hK K
          refine Chain.sub (S' := mk 179 [] [(6, .b false)] []) Sub.tt ?_
          refine Chain.nil ?_
          refine AW.ret ?_
          cases h
          refine blockQ.ret ?_
          refine thenQ_pass (by simp) ?_
          refine PostI.out (by simp) ?_
          rintro rfl
          refine blockQ.ret ?_
          refine PostJ.out (by simp) ?_
          rintro rfl
          refine thenQ_pass (by simp) ?_
          exact FinC.ret (by simp) (by simp)
         ·have c478_ : v472 = false := Bool.eq_false_iff.2 c478
          refine AW.condF (b := v472) rfl c478_ ?_
          refine AW.sub (Sub.bool 177 (b := v472) rfl c478_) ?_
          refine AW.sub (S' := mk 179 [] [(1, .d (.sl (a1.map cS))), (2, .d (.sl (a2.map (cL cS53)))), (8, .ptr 44 0 0), (9, .ptr 46 0 0), (47, .d (.sl (a0.map (cL (cI .i64))))), (48, .i (a0.length : Int)), (49, .i v192), (177, .b false)] [(44, some (.box [.ref 5880 0 l428.length, .i v429])), (46, some (.box [.ref 5920 0 l430.length, .i v431])), (5880, some (.nest 72 2 [none, some (67, 3)] (l428.map cS72) [])), (5920, R43 l430)]) (by simp; exact Sub.table (by simp) (by simp)) ?_
          refine AW.skip ?_
          refine blockQ.normal ?_
          refine thenQ_normal ?_
          refine AW.region ?_
          replace h := bsome h; obtain ⟨v479, hv479, h⟩ := h
          have hv479 := chkI_some hv479
          refine Chain.runK [] 2 fun K hK => ?_; simp [hv479]; refine hK _ _ ?_; clear hK K
          refine Chain.sub (S' := mk 179 [] [(1, .d (.sl (a1.map cS))), (2, .d (.sl (a2.map (cL cS53)))), (8, .ptr 44 0 0), (9, .ptr 46 0 0), (47, .d (.sl (a0.map (cL (cI .i64))))), (48, .i (a0.length : Int)), (49, .i v479)] [(44, some (.box [.ref 5880 0 l428.length, .i v429])), (46, some (.box [.ref 5920 0 l430.length, .i v431])), (5880, some (.nest 72 2 [none, some (67, 3)] (l428.map cS72) [])), (5920, R43 l430)]) Sub.tt ?_
          refine Chain.nil ?_
          cases h
          refine PostI.next ?_
          exact Sub.tt
      ·have c386_ : decide (v192 < (a0.length : Int)) = false := decide_eq_false c386
       refine AW.condF (b := decide (v192 < (a0.length : Int))) rfl c386_ ?_
       refine AW.sub (Sub.bool 50 (b := decide (v192 < (a0.length : Int))) rfl c386_) ?_
       refine AW.sub (S' := mk 179 [] [(1, .d (.sl (a1.map cS))), (2, .d (.sl (a2.map (cL cS53)))), (8, .ptr 44 0 0), (9, .ptr 46 0 0), (47, .d (.sl (a0.map (cL (cI .i64))))), (48, .i (a0.length : Int)), (49, .i v192), (50, .b false)] [(44, some (.box [.ref 5880 0 l188.length, .i v189])), (46, some (.box [.ref 5920 0 l190.length, .i v191])), (5880, some (.nest 72 2 [none, some (67, 3)] (l188.map cS72) [])), (5920, R43 l190)]) (by simp; exact Sub.table (by simp) (by simp)) ?_
       refine AW.exit ?_
       cases h
       refine thenQ_pass (by simp) ?_
       refine PostI.out (by simp) ?_
       rintro rfl
       refine blockQ.hit ?_
       refine PostJ.next ?_
       exact Sub.tt
     ·rintro ⟨⟩ h
      refine thenQ_normal ?_
      refine AW.seqR ?_
      refine Chain.runK [] 1 fun K hK => ?_; simp; refine hK _ _ ?_; clear hK K
      refine Chain.sub (S' := mk 179 [] [(6, .b true)] []) Sub.tt ?_
      refine Chain.nil ?_
      refine AW.ret ?_
      cases h
      exact FinC.ret (by simp) (by simp)

end Go.Proofs.Ytifcmomjjkbboac
