/- Functions of the program as functional programs; the code computes them. -/
import Derived.Test.YtiikoldaocnilaaRc11
namespace Go.Proofs.Ytiikoldaocnilaa
open Go.Ab Go.Rp
attribute [-simp] List.all_eq_true Array.all_toList Array.all_eq_true

/-- stemma/stemlaw5.RecoveryMatchesReference -/
def d4 (N : Nat) (a0 : Int) (a1 : (List (List Int))) : Option Bool :=
 (d17 N 1).bind fun r1 =>
 ocase r1.1 (
  Option.bind (α := Unit) (
   if (r1.2 != 0) then (
    some ()
   ) else
   some ()
  ) fun (_ : Unit) =>
  some false
 ) fun r1o =>
 Option.bind (α := ((List S78) × (List S78) × (List S80) × Int × Int × (List Int) × (List Int) × Bool)) (
  if (r1.2 != 0) then (
   some (r1o.buffer, r1o.disk, r1o.log, r1o.flushed, r1o.lastID, r1o.active, r1o.writer, true)
  ) else
  (d18 N r1o 1 0 5).bind fun r15 =>
  some (r15.1.buffer, r15.1.disk, r15.1.log, r15.1.flushed, r15.1.lastID, r15.1.active, r15.1.writer, (r15.2 != 4))
 ) fun ((l6, l7, l8, v9, v10, l11, l12, v13) : ((List S78) × (List S78) × (List S80) × Int × Int × (List Int) × (List Int) × Bool)) =>
 if v13 = true then (
  some false
 ) else
 (d19 N (S74.mk l6 l7 l8 v9 v10 l11 l12)).bind fun r17 =>
 Option.bind (α := Bool) (
  if (r17.2.2 != 0) then (
   some true
  ) else
  if (r17.2.1 != 1) then (
   some true
  ) else
  (d18 N r17.1 1 0 5).bind fun r24 =>
  some (r24.2 != 0)
 ) fun (v21 : Bool) =>
 if v21 = true then (
  some false
 ) else
 (d17 N a0).bind fun r26 =>
 ocase r26.1 (
  Option.bind (α := Bool) (
   if a0 < 1 then (
    some true
   ) else
   some (decide (a0 > 16))
  ) fun (v28 : Bool) =>
  if v28 = true then (
   Option.bind (α := Bool) (
    if (r26.2 == 1) then (
     some true
    ) else
    some false
   ) fun (v32 : Bool) =>
   some v32
  ) else
  Option.bind (α := Unit) (
   if (r26.2 != 0) then (
    some ()
   ) else
   some ()
  ) fun (_ : Unit) =>
  some false
 ) fun r26o =>
 Option.bind (α := Bool) (
  if a0 < 1 then (
   some true
  ) else
  some (decide (a0 > 16))
 ) fun (v37 : Bool) =>
 if v37 = true then (
  Option.bind (α := Unit) (
   if (r26.2 == 1) then (
    some ()
   ) else
   some ()
  ) fun (_ : Unit) =>
  some false
 ) else
 Option.bind (α := Bool) (
  if (r26.2 != 0) then (
   some true
  ) else
  some false
 ) fun (v43 : Bool) =>
 if v43 = true then (
  some false
 ) else
 (mkL 8 a0 (0 : Int)).bind fun l46 =>
 (mkL 8 a0 (0 : Int)).bind fun l47 =>
 (mkL 8 a0 (0 : Int)).bind fun l48 =>
 bindO (β := Unit) (ρ := Bool) (
  iterN (σ := ((List S78) × (List S78) × (List S80) × Int × Int × (List Int) × (List Int) × (List Int) × (List Int) × (List Int) × (List S84) × Int × Int × (List Int) × Int)) (ρ := (Out Unit Bool)) (fun ((l141, l142, l143, v144, v145, l146, l147, l148, l149, l150, l151, v152, v153, l154, v155) : ((List S78) × (List S78) × (List S80) × Int × Int × (List Int) × (List Int) × (List Int) × (List Int) × (List Int) × (List S84) × Int × Int × (List Int) × Int)) =>
   if v155 < (a1.length : Int) then (
    (idx a1 v155).bind fun x358 =>
    (d20 N (S74.mk l141 l142 l143 v144 v145 l146 l147) (S56.mk l148 l149 l150 l151 v152 v153 l154) x358).bind fun r360 =>
    if (!r360.2.2) = true then (
     some (.inr (.ret false))
    ) else
    (d21 N r360.1).bind fun r362 =>
    Option.bind (α := Bool) (
     if (r362.1 != (r360.2.1.Log.length : Int)) then (
      some true
     ) else
     some (r362.2 != r360.2.1.Flushed)
    ) fun (v364 : Bool) =>
    if v364 = true then (
     some (.inr (.ret false))
    ) else
    bindO (β := Unit) (ρ := (((List S78) × (List S78) × (List S80) × Int × Int × (List Int) × (List Int) × (List Int) × (List Int) × (List Int) × (List S84) × Int × Int × (List Int) × Int) ⊕ (Out Unit Bool))) (
     iterN (σ := Int) (ρ := (Out Unit (((List S78) × (List S78) × (List S80) × Int × Int × (List Int) × (List Int) × (List Int) × (List Int) × (List Int) × (List S84) × Int × Int × (List Int) × Int) ⊕ (Out Unit Bool)))) (fun (v387 : Int) =>
      if v387 ≤ a0 then (
       (d22 N r360.1 v387).bind fun r430 =>
       Option.bind (α := Bool) (
        if v387 < 0 then (
         some true
        ) else
        some (v387 == a0)
       ) fun (v432 : Bool) =>
       if v432 = true then (
        Option.bind (α := Bool) (
         if (r430.2 != 1) then (
          some true
         ) else
         some (r430.1 != 0)
        ) fun (v436 : Bool) =>
        if v436 = true then (
         some (.inr (.ret (.inr (.ret false))))
        ) else
        (chkI (v387 + 1)).bind fun v439 =>
        some (.inl v439)
       ) else
       Option.bind (α := Bool) (
        if (r430.2 != 0) then (
         some true
        ) else
        (idx r360.2.1.Buffer v387).bind fun x445 =>
        some (r430.1 != x445)
       ) fun (v443 : Bool) =>
       if v443 = true then (
        some (.inr (.ret (.inr (.ret false))))
       ) else
       (chkI (v387 + 1)).bind fun v448 =>
       some (.inl v448)
      ) else
      some (.inr (.go ()))
     ) N (-1)
    ) fun (_ : Unit) =>
    (chkI (v155 + 1)).bind fun v449 =>
    some (.inl (r360.1.buffer, r360.1.disk, r360.1.log, r360.1.flushed, r360.1.lastID, r360.1.active, r360.1.writer, r360.2.1.Buffer, r360.2.1.Disk, r360.2.1.DiskLSN, r360.2.1.Log, r360.2.1.Flushed, r360.2.1.LastID, r360.2.1.Active, v449))
   ) else
   some (.inr (.go ()))
  ) N (r26o.buffer, r26o.disk, r26o.log, r26o.flushed, r26o.lastID, r26o.active, r26o.writer, l46, l47, l48, ([] : List S84), 0, 0, ([] : List Int), 0)
 ) fun (_ : Unit) =>
 some true
set_option maxRecDepth 100000 in
set_option maxHeartbeats 4000000 in
theorem p4 (N : Nat) (a0 : Int) (a1 : (List (List Int))) (r : Bool) (h : d4 N a0 a1 = some r) : FunC Try.prog 4 [.i a0, .d (.sl (a1.map (cL (cI .i64))))] (.b r) := by
 unfold d4 at h
 refine FunC.enter 150 [(0, .i a0), (1, .d (.sl (a1.map (cL (cI .i64)))))] (by simp) Try.func4 rfl (of_decide_eq_true rfl) rfl rfl ?_
 refine AW.seqR ?_
 refine Chain.runK [] 1 fun K hK => ?_; simp; refine hK _ _ ?_; clear hK K
 refine Chain.sub (S' := mk 150 [] [(0, .i a0), (1, .d (.sl (a1.map (cL (cI .i64)))))] []) Sub.tt ?_
 refine Chain.nil ?_
 refine AW.seq ?_
 refine AW.seqR ?_
 replace h := bsome h; obtain ⟨r1, hr1, h⟩ := h
 have Fr1 := p17 N 1 r1 hr1
 rcases osome h with ⟨hr1o, h⟩ | ⟨r1o, hr1o, h⟩
 ·simp only [hr1o, List.append_nil] at Fr1
  refine Chain.callF Fr1 [] [] [] [] (.tup [.d (.lit (.pointer none)), .d (.lit (.int .i64 r1.2))]) (by simp) rfl (by simp <;> rfl) (by simp) (by simp) (by simp) (by simp) (by simp) ent17 (by simp) (by simp) (by simp) (by simp) (by simp) (by simp) ?_
  refine Chain.sub (S' := mk 150 [] [(0, .i a0), (1, .d (.sl (a1.map (cL (cI .i64))))), (20, .tup [.d (.lit (.pointer none)), .i r1.2])] []) (by simp; exact Sub.table (by simp) (by simp)) ?_
  refine Chain.runK [] 5 fun K hK => ?_; simp; refine hK _ _ ?_; clear hK K
  refine Chain.sub (S' := mk 150 [] [(0, .i a0), (1, .d (.sl (a1.map (cL (cI .i64))))), (5, .d (.lit (.pointer none))), (6, .i r1.2)] []) Sub.tt ?_
  refine Chain.nil ?_
  replace h := bsome h; obtain ⟨⟨⟩, hj, h⟩ := h
  refine AW.cutR (mk 150 [] [(0, .i a0), (1, .d (.sl (a1.map (cL (cI .i64))))), (5, .d (.lit (.pointer none))), (33, .b true)] []) ?_ ?_
  ·clear h; have h := hj; clear hj
   refine Chain.runK [] 3 fun K hK => ?_; simp; refine hK _ _ ?_; clear hK K
   refine Chain.sub (S' := mk 150 [] [(0, .i a0), (1, .d (.sl (a1.map (cL (cI .i64))))), (5, .d (.lit (.pointer none))), (25, .b (r1.2 != 0))] []) Sub.tt ?_
   replace h := isome h; rcases h with ⟨c3, h⟩ | ⟨c3, h⟩
   ·have c3_ : (r1.2 != 0) = true := c3
    refine Chain.sub (Sub.bool 25 (b := (r1.2 != 0)) rfl c3_) ?_
    refine Chain.sub (S' := mk 150 [] [(0, .i a0), (1, .d (.sl (a1.map (cL (cI .i64))))), (5, .d (.lit (.pointer none))), (25, .b true)] []) (by simp; exact Sub.table (by simp) (by simp)) ?_
    refine Chain.runK [] 8 fun K hK => ?_; simp; refine hK _ _ ?_; clear hK K
    refine Chain.sub (S' := mk 150 [] [(0, .i a0), (1, .d (.sl (a1.map (cL (cI .i64))))), (5, .d (.lit (.pointer none))), (33, .b true)] []) Sub.tt ?_
    cases h
    exact Chain.nil Sub.tt
   ·have c3_ : (r1.2 != 0) = false := Bool.eq_false_iff.2 c3
    refine Chain.sub (Sub.bool 25 (b := (r1.2 != 0)) rfl c3_) ?_
    refine Chain.sub (S' := mk 150 [] [(0, .i a0), (1, .d (.sl (a1.map (cL (cI .i64))))), (5, .d (.lit (.pointer none))), (25, .b false)] []) (by simp; exact Sub.table (by simp) (by simp)) ?_
    refine Chain.runK [] 8 fun K hK => ?_; simp; refine hK _ _ ?_; clear hK K
    refine Chain.sub (S' := mk 150 [] [(0, .i a0), (1, .d (.sl (a1.map (cL (cI .i64))))), (5, .d (.lit (.pointer none))), (33, .b true)] []) Sub.tt ?_
    cases h
    exact Chain.nil Sub.tt
  ·clear hj
   refine AW.condK fun K1 K2 k1 k2 => ?_; simp; refine k1 ?_; clear k1 k2 K1 K2
   refine AW.seqR ?_
   refine Chain.runK [] 1 fun K hK => ?_; simp; refine hK _ _ ?_; clear hK K
   refine Chain.sub (S' := mk 150 [] [(4, .b false)] []) Sub.tt ?_
   refine Chain.nil ?_
   refine AW.ret ?_
   cases h
   refine thenQ_pass (by simp) ?_
   exact FinC.ret (by simp) (by simp)
 ·simp only [hr1o, List.nil_append] at Fr1
  refine Chain.callF Fr1 [] [] [(1000, 20), (25000, 5400), (25001, 5401), (25002, 5402), (25005, 5405), (25006, 5406)] [(20, (.box [.ref 5400 0 r1o.buffer.length, .ref 5401 0 r1o.disk.length, .ref 5402 0 r1o.log.length, .d (.lit (.int .i64 r1o.flushed)), .d (.lit (.int .i64 r1o.lastID)), .ref 5405 0 r1o.active.length, .ref 5406 0 r1o.writer.length])), (5400, (.arr 78 2 (r1o.buffer.map cS78))), (5401, (.arr 78 2 (r1o.disk.map cS78))), (5402, (.arr 80 5 (r1o.log.map cS80))), (5405, (.arr 3 1 (r1o.active.map (cI .i64)))), (5406, (.arr 3 1 (r1o.writer.map (cI .i64))))] (.tup [.ptr 20 0 0, .d (.lit (.int .i64 r1.2))]) (by simp) rfl (by simp <;> rfl) (by simp) (by simp) (by simp) (by simp) (by simp) ent17 (by simp) (by simp) (by simp) (by simp) (by simp) (by simp) ?_
  refine Chain.sub (S' := mk 150 [] [(0, .i a0), (1, .d (.sl (a1.map (cL (cI .i64))))), (20, .tup [.ptr 20 0 0, .i r1.2])] [(20, some (.box [.ref 5400 0 r1o.buffer.length, .ref 5401 0 r1o.disk.length, .ref 5402 0 r1o.log.length, .i r1o.flushed, .i r1o.lastID, .ref 5405 0 r1o.active.length, .ref 5406 0 r1o.writer.length])), (5400, R78 r1o.buffer), (5401, R78 r1o.disk), (5402, R80 r1o.log), (5405, R3 r1o.active), (5406, R3 r1o.writer)]) (by simp; exact Sub.table (by simp) (by simp)) ?_
  refine Chain.runK [] 5 fun K hK => ?_; simp; refine hK _ _ ?_; clear hK K
  refine Chain.sub (S' := mk 150 [] [(0, .i a0), (1, .d (.sl (a1.map (cL (cI .i64))))), (5, .ptr 20 0 0), (6, .i r1.2)] [(20, some (.box [.ref 5400 0 r1o.buffer.length, .ref 5401 0 r1o.disk.length, .ref 5402 0 r1o.log.length, .i r1o.flushed, .i r1o.lastID, .ref 5405 0 r1o.active.length, .ref 5406 0 r1o.writer.length])), (5400, R78 r1o.buffer), (5401, R78 r1o.disk), (5402, R80 r1o.log), (5405, R3 r1o.active), (5406, R3 r1o.writer)]) Sub.tt ?_
  refine Chain.nil ?_
  replace h := bsome h; obtain ⟨⟨l6, l7, l8, v9, v10, l11, l12, v13⟩, hj, h⟩ := h
  dsimp only at h
  refine AW.cutR (mk 150 [] [(0, .i a0), (1, .d (.sl (a1.map (cL (cI .i64))))), (5, .ptr 20 0 0), (33, .b v13)] [(20, some (.box [.ref 5400 0 l6.length, .ref 5401 0 l7.length, .ref 5402 0 l8.length, .i v9, .i v10, .ref 5405 0 l11.length, .ref 5406 0 l12.length])), (5400, R78 l6), (5401, R78 l7), (5402, R80 l8), (5405, R3 l11), (5406, R3 l12)]) ?_ ?_
  ·clear h; have h := hj; clear hj
   refine Chain.runK [] 3 fun K hK => ?_; simp; refine hK _ _ ?_; clear hK K
   refine Chain.sub (S' := mk 150 [] [(0, .i a0), (1, .d (.sl (a1.map (cL (cI .i64))))), (5, .ptr 20 0 0), (25, .b (r1.2 != 0))] [(20, some (.box [.ref 5400 0 r1o.buffer.length, .ref 5401 0 r1o.disk.length, .ref 5402 0 r1o.log.length, .i r1o.flushed, .i r1o.lastID, .ref 5405 0 r1o.active.length, .ref 5406 0 r1o.writer.length])), (5400, R78 r1o.buffer), (5401, R78 r1o.disk), (5402, R80 r1o.log), (5405, R3 r1o.active), (5406, R3 r1o.writer)]) Sub.tt ?_
   replace h := isome h; rcases h with ⟨c14, h⟩ | ⟨c14, h⟩
   ·have c14_ : (r1.2 != 0) = true := c14
    refine Chain.sub (Sub.bool 25 (b := (r1.2 != 0)) rfl c14_) ?_
    refine Chain.sub (S' := mk 150 [] [(0, .i a0), (1, .d (.sl (a1.map (cL (cI .i64))))), (5, .ptr 20 0 0), (25, .b true)] [(20, some (.box [.ref 5400 0 r1o.buffer.length, .ref 5401 0 r1o.disk.length, .ref 5402 0 r1o.log.length, .i r1o.flushed, .i r1o.lastID, .ref 5405 0 r1o.active.length, .ref 5406 0 r1o.writer.length])), (5400, R78 r1o.buffer), (5401, R78 r1o.disk), (5402, R80 r1o.log), (5405, R3 r1o.active), (5406, R3 r1o.writer)]) (by simp; exact Sub.table (by simp) (by simp)) ?_
    refine Chain.runK [] 8 fun K hK => ?_; simp; refine hK _ _ ?_; clear hK K
    refine Chain.sub (S' := mk 150 [] [(0, .i a0), (1, .d (.sl (a1.map (cL (cI .i64))))), (5, .ptr 20 0 0), (33, .b true)] [(20, some (.box [.ref 5400 0 r1o.buffer.length, .ref 5401 0 r1o.disk.length, .ref 5402 0 r1o.log.length, .i r1o.flushed, .i r1o.lastID, .ref 5405 0 r1o.active.length, .ref 5406 0 r1o.writer.length])), (5400, R78 r1o.buffer), (5401, R78 r1o.disk), (5402, R80 r1o.log), (5405, R3 r1o.active), (5406, R3 r1o.writer)]) Sub.tt ?_
    cases h
    exact Chain.nil Sub.tt
   ·have c14_ : (r1.2 != 0) = false := Bool.eq_false_iff.2 c14
    refine Chain.sub (Sub.bool 25 (b := (r1.2 != 0)) rfl c14_) ?_
    refine Chain.sub (S' := mk 150 [] [(0, .i a0), (1, .d (.sl (a1.map (cL (cI .i64))))), (5, .ptr 20 0 0), (25, .b false)] [(20, some (.box [.ref 5400 0 r1o.buffer.length, .ref 5401 0 r1o.disk.length, .ref 5402 0 r1o.log.length, .i r1o.flushed, .i r1o.lastID, .ref 5405 0 r1o.active.length, .ref 5406 0 r1o.writer.length])), (5400, R78 r1o.buffer), (5401, R78 r1o.disk), (5402, R80 r1o.log), (5405, R3 r1o.active), (5406, R3 r1o.writer)]) (by simp; exact Sub.table (by simp) (by simp)) ?_
    refine Chain.runK [] 5 fun K hK => ?_; simp; refine hK _ _ ?_; clear hK K
    refine Chain.sub (S' := mk 150 [] [(0, .i a0), (1, .d (.sl (a1.map (cL (cI .i64))))), (5, .ptr 20 0 0), (29, .b false), (30, .ptr 20 0 0)] [(20, some (.box [.ref 5400 0 r1o.buffer.length, .ref 5401 0 r1o.disk.length, .ref 5402 0 r1o.log.length, .i r1o.flushed, .i r1o.lastID, .ref 5405 0 r1o.active.length, .ref 5406 0 r1o.writer.length])), (5400, R78 r1o.buffer), (5401, R78 r1o.disk), (5402, R80 r1o.log), (5405, R3 r1o.active), (5406, R3 r1o.writer)]) Sub.tt ?_
    replace h := bsome h; obtain ⟨r15, hr15, h⟩ := h
    refine Chain.callF (p18 N r1o 1 0 5 r15 hr15) [(20, 1000), (5400, 25000), (5401, 25001), (5402, 25002), (5405, 25005), (5406, 25006)] [20] [(1000, 20), (25000, 5400), (25001, 5401), (25002, 5402), (25005, 5405), (25006, 5406)] [(20, (.box [.ref 5400 0 r15.1.buffer.length, .ref 5401 0 r15.1.disk.length, .ref 5402 0 r15.1.log.length, .d (.lit (.int .i64 r15.1.flushed)), .d (.lit (.int .i64 r15.1.lastID)), .ref 5405 0 r15.1.active.length, .ref 5406 0 r15.1.writer.length])), (5400, (.arr 78 2 (r15.1.buffer.map cS78))), (5401, (.arr 78 2 (r15.1.disk.map cS78))), (5402, (.arr 80 5 (r15.1.log.map cS80))), (5405, (.arr 3 1 (r15.1.active.map (cI .i64)))), (5406, (.arr 3 1 (r15.1.writer.map (cI .i64))))] (.d (.lit (.int .i64 r15.2))) (by simp) rfl (by simp <;> rfl) (by simp) (by simp) (by simp) (by simp) (by simp) ent18 (by simp) (by simp) (by simp) (by simp) (by simp) (by simp) ?_
    refine Chain.sub (S' := mk 150 [] [(0, .i a0), (1, .d (.sl (a1.map (cL (cI .i64))))), (5, .ptr 20 0 0), (29, .b false), (30, .ptr 20 0 0), (31, .i r15.2)] [(20, some (.box [.ref 5400 0 r15.1.buffer.length, .ref 5401 0 r15.1.disk.length, .ref 5402 0 r15.1.log.length, .i r15.1.flushed, .i r15.1.lastID, .ref 5405 0 r15.1.active.length, .ref 5406 0 r15.1.writer.length])), (5400, R78 r15.1.buffer), (5401, R78 r15.1.disk), (5402, R80 r15.1.log), (5405, R3 r15.1.active), (5406, R3 r15.1.writer)]) (by simp; exact Sub.table (by simp) (by simp)) ?_
    refine Chain.runK [] 2 fun K hK => ?_; simp; refine hK _ _ ?_; clear hK K
    refine Chain.sub (S' := mk 150 [] [(0, .i a0), (1, .d (.sl (a1.map (cL (cI .i64))))), (5, .ptr 20 0 0), (33, .b (r15.2 != 4))] [(20, some (.box [.ref 5400 0 r15.1.buffer.length, .ref 5401 0 r15.1.disk.length, .ref 5402 0 r15.1.log.length, .i r15.1.flushed, .i r15.1.lastID, .ref 5405 0 r15.1.active.length, .ref 5406 0 r15.1.writer.length])), (5400, R78 r15.1.buffer), (5401, R78 r15.1.disk), (5402, R80 r15.1.log), (5405, R3 r15.1.active), (5406, R3 r15.1.writer)]) Sub.tt ?_
    cases h
    exact Chain.nil Sub.tt
  ·clear hj
   replace h := isome h; rcases h with ⟨c16, h⟩ | ⟨c16, h⟩
   ·have c16_ : v13 = true := c16
    refine AW.condT (b := v13) rfl c16_ ?_
    refine AW.sub (Sub.bool 33 (b := v13) rfl c16_) ?_
    refine AW.sub (S' := mk 150 [] [(0, .i a0), (1, .d (.sl (a1.map (cL (cI .i64))))), (5, .ptr 20 0 0), (33, .b true)] [(20, some (.box [.ref 5400 0 l6.length, .ref 5401 0 l7.length, .ref 5402 0 l8.length, .i v9, .i v10, .ref 5405 0 l11.length, .ref 5406 0 l12.length])), (5400, R78 l6), (5401, R78 l7), (5402, R80 l8), (5405, R3 l11), (5406, R3 l12)]) (by simp; exact Sub.table (by simp) (by simp)) ?_
    refine AW.seqR ?_
    refine Chain.runK [] 1 fun K hK => ?_; simp; refine hK _ _ ?_; clear hK K
    refine Chain.sub (S' := mk 150 [] [(4, .b false)] []) Sub.tt ?_
    refine Chain.nil ?_
    refine AW.ret ?_
    cases h
    refine thenQ_pass (by simp) ?_
    exact FinC.ret (by simp) (by simp)
   ·have c16_ : v13 = false := Bool.eq_false_iff.2 c16
    refine AW.condF (b := v13) rfl c16_ ?_
    refine AW.sub (Sub.bool 33 (b := v13) rfl c16_) ?_
    refine AW.sub (S' := mk 150 [] [(0, .i a0), (1, .d (.sl (a1.map (cL (cI .i64))))), (5, .ptr 20 0 0), (33, .b false)] [(20, some (.box [.ref 5400 0 l6.length, .ref 5401 0 l7.length, .ref 5402 0 l8.length, .i v9, .i v10, .ref 5405 0 l11.length, .ref 5406 0 l12.length])), (5400, R78 l6), (5401, R78 l7), (5402, R80 l8), (5405, R3 l11), (5406, R3 l12)]) (by simp; exact Sub.table (by simp) (by simp)) ?_
    refine AW.seqR ?_
    refine Chain.runK [] 1 fun K hK => ?_; simp; refine hK _ _ ?_; clear hK K
    refine Chain.sub (S' := mk 150 [] [(0, .i a0), (1, .d (.sl (a1.map (cL (cI .i64))))), (5, .ptr 20 0 0), (35, .ptr 20 0 0)] [(20, some (.box [.ref 5400 0 l6.length, .ref 5401 0 l7.length, .ref 5402 0 l8.length, .i v9, .i v10, .ref 5405 0 l11.length, .ref 5406 0 l12.length])), (5400, R78 l6), (5401, R78 l7), (5402, R80 l8), (5405, R3 l11), (5406, R3 l12)]) Sub.tt ?_
    replace h := bsome h; obtain ⟨r17, hr17, h⟩ := h
    refine Chain.callF (p19 N (S74.mk l6 l7 l8 v9 v10 l11 l12) r17 hr17) [(20, 1000), (5400, 25000), (5401, 25001), (5402, 25002), (5405, 25005), (5406, 25006)] [20] [(1000, 20), (25000, 5400), (25001, 5401), (25002, 5402), (25005, 5405), (25006, 5406)] [(20, (.box [.ref 5400 0 r17.1.buffer.length, .ref 5401 0 r17.1.disk.length, .ref 5402 0 r17.1.log.length, .i r17.1.flushed, .i r17.1.lastID, .ref 5405 0 r17.1.active.length, .ref 5406 0 r17.1.writer.length])), (5400, (.arr 78 2 (r17.1.buffer.map cS78))), (5401, (.arr 78 2 (r17.1.disk.map cS78))), (5402, (.arr 80 5 (r17.1.log.map cS80))), (5405, (.arr 3 1 (r17.1.active.map (cI .i64)))), (5406, (.arr 3 1 (r17.1.writer.map (cI .i64))))] (.tup [.i r17.2.1, .i r17.2.2]) (by simp) rfl (by simp <;> rfl) (by simp) (by simp) (by simp) (by simp) (by simp) ent19 (by simp) (by simp) (by simp) (by simp) (by simp) (by simp) ?_
    refine Chain.sub (S' := mk 150 [] [(0, .i a0), (1, .d (.sl (a1.map (cL (cI .i64))))), (5, .ptr 20 0 0), (35, .ptr 20 0 0), (36, .tup [.i r17.2.1, .i r17.2.2])] [(20, some (.box [.ref 5400 0 r17.1.buffer.length, .ref 5401 0 r17.1.disk.length, .ref 5402 0 r17.1.log.length, .i r17.1.flushed, .i r17.1.lastID, .ref 5405 0 r17.1.active.length, .ref 5406 0 r17.1.writer.length])), (5400, R78 r17.1.buffer), (5401, R78 r17.1.disk), (5402, R80 r17.1.log), (5405, R3 r17.1.active), (5406, R3 r17.1.writer)]) (by simp; exact Sub.table (by simp) (by simp)) ?_
    refine Chain.runK [] 5 fun K hK => ?_; simp; refine hK _ _ ?_; clear hK K
    refine Chain.sub (S' := mk 150 [] [(0, .i a0), (1, .d (.sl (a1.map (cL (cI .i64))))), (5, .ptr 20 0 0), (7, .i r17.2.1), (8, .i r17.2.2)] [(20, some (.box [.ref 5400 0 r17.1.buffer.length, .ref 5401 0 r17.1.disk.length, .ref 5402 0 r17.1.log.length, .i r17.1.flushed, .i r17.1.lastID, .ref 5405 0 r17.1.active.length, .ref 5406 0 r17.1.writer.length])), (5400, R78 r17.1.buffer), (5401, R78 r17.1.disk), (5402, R80 r17.1.log), (5405, R3 r17.1.active), (5406, R3 r17.1.writer)]) Sub.tt ?_
    refine Chain.nil ?_
    replace h := bsome h; obtain ⟨v21, hj, h⟩ := h
    refine AW.cutR (mk 150 [] [(0, .i a0), (1, .d (.sl (a1.map (cL (cI .i64))))), (49, .b v21)] []) ?_ ?_
    ·clear h; have h := hj; clear hj
     refine Chain.runK [] 3 fun K hK => ?_; simp; refine hK _ _ ?_; clear hK K
     refine Chain.sub (S' := mk 150 [] [(0, .i a0), (1, .d (.sl (a1.map (cL (cI .i64))))), (5, .ptr 20 0 0), (7, .i r17.2.1), (41, .b (r17.2.2 != 0))] [(20, some (.box [.ref 5400 0 r17.1.buffer.length, .ref 5401 0 r17.1.disk.length, .ref 5402 0 r17.1.log.length, .i r17.1.flushed, .i r17.1.lastID, .ref 5405 0 r17.1.active.length, .ref 5406 0 r17.1.writer.length])), (5400, R78 r17.1.buffer), (5401, R78 r17.1.disk), (5402, R80 r17.1.log), (5405, R3 r17.1.active), (5406, R3 r17.1.writer)]) Sub.tt ?_
     replace h := isome h; rcases h with ⟨c22, h⟩ | ⟨c22, h⟩
     ·have c22_ : (r17.2.2 != 0) = true := c22
      refine Chain.sub (Sub.bool 41 (b := (r17.2.2 != 0)) rfl c22_) ?_
      refine Chain.sub (S' := mk 150 [] [(0, .i a0), (1, .d (.sl (a1.map (cL (cI .i64))))), (5, .ptr 20 0 0), (7, .i r17.2.1), (41, .b true)] [(20, some (.box [.ref 5400 0 r17.1.buffer.length, .ref 5401 0 r17.1.disk.length, .ref 5402 0 r17.1.log.length, .i r17.1.flushed, .i r17.1.lastID, .ref 5405 0 r17.1.active.length, .ref 5406 0 r17.1.writer.length])), (5400, R78 r17.1.buffer), (5401, R78 r17.1.disk), (5402, R80 r17.1.log), (5405, R3 r17.1.active), (5406, R3 r17.1.writer)]) (by simp; exact Sub.table (by simp) (by simp)) ?_
      refine Chain.runK [] 8 fun K hK => ?_; simp; refine hK _ _ ?_; clear hK K
      refine Chain.sub (S' := mk 150 [] [(0, .i a0), (1, .d (.sl (a1.map (cL (cI .i64))))), (49, .b true)] []) Sub.tt ?_
      cases h
      exact Chain.nil Sub.tt
     ·have c22_ : (r17.2.2 != 0) = false := Bool.eq_false_iff.2 c22
      refine Chain.sub (Sub.bool 41 (b := (r17.2.2 != 0)) rfl c22_) ?_
      refine Chain.sub (S' := mk 150 [] [(0, .i a0), (1, .d (.sl (a1.map (cL (cI .i64))))), (5, .ptr 20 0 0), (7, .i r17.2.1), (41, .b false)] [(20, some (.box [.ref 5400 0 r17.1.buffer.length, .ref 5401 0 r17.1.disk.length, .ref 5402 0 r17.1.log.length, .i r17.1.flushed, .i r17.1.lastID, .ref 5405 0 r17.1.active.length, .ref 5406 0 r17.1.writer.length])), (5400, R78 r17.1.buffer), (5401, R78 r17.1.disk), (5402, R80 r17.1.log), (5405, R3 r17.1.active), (5406, R3 r17.1.writer)]) (by simp; exact Sub.table (by simp) (by simp)) ?_
      refine Chain.runK [] 4 fun K hK => ?_; simp; refine hK _ _ ?_; clear hK K
      refine Chain.sub (S' := mk 150 [] [(0, .i a0), (1, .d (.sl (a1.map (cL (cI .i64))))), (5, .ptr 20 0 0), (45, .b (r17.2.1 != 1))] [(20, some (.box [.ref 5400 0 r17.1.buffer.length, .ref 5401 0 r17.1.disk.length, .ref 5402 0 r17.1.log.length, .i r17.1.flushed, .i r17.1.lastID, .ref 5405 0 r17.1.active.length, .ref 5406 0 r17.1.writer.length])), (5400, R78 r17.1.buffer), (5401, R78 r17.1.disk), (5402, R80 r17.1.log), (5405, R3 r17.1.active), (5406, R3 r17.1.writer)]) Sub.tt ?_
      replace h := isome h; rcases h with ⟨c23, h⟩ | ⟨c23, h⟩
      ·have c23_ : (r17.2.1 != 1) = true := c23
       refine Chain.sub (Sub.bool 45 (b := (r17.2.1 != 1)) rfl c23_) ?_
       refine Chain.sub (S' := mk 150 [] [(0, .i a0), (1, .d (.sl (a1.map (cL (cI .i64))))), (5, .ptr 20 0 0), (45, .b true)] [(20, some (.box [.ref 5400 0 r17.1.buffer.length, .ref 5401 0 r17.1.disk.length, .ref 5402 0 r17.1.log.length, .i r17.1.flushed, .i r17.1.lastID, .ref 5405 0 r17.1.active.length, .ref 5406 0 r17.1.writer.length])), (5400, R78 r17.1.buffer), (5401, R78 r17.1.disk), (5402, R80 r17.1.log), (5405, R3 r17.1.active), (5406, R3 r17.1.writer)]) (by simp; exact Sub.table (by simp) (by simp)) ?_
       refine Chain.runK [] 4 fun K hK => ?_; simp; refine hK _ _ ?_; clear hK K
       refine Chain.sub (S' := mk 150 [] [(0, .i a0), (1, .d (.sl (a1.map (cL (cI .i64))))), (49, .b true)] []) Sub.tt ?_
       cases h
       exact Chain.nil Sub.tt
      ·have c23_ : (r17.2.1 != 1) = false := Bool.eq_false_iff.2 c23
       refine Chain.sub (Sub.bool 45 (b := (r17.2.1 != 1)) rfl c23_) ?_
       refine Chain.sub (S' := mk 150 [] [(0, .i a0), (1, .d (.sl (a1.map (cL (cI .i64))))), (5, .ptr 20 0 0), (45, .b false)] [(20, some (.box [.ref 5400 0 r17.1.buffer.length, .ref 5401 0 r17.1.disk.length, .ref 5402 0 r17.1.log.length, .i r17.1.flushed, .i r17.1.lastID, .ref 5405 0 r17.1.active.length, .ref 5406 0 r17.1.writer.length])), (5400, R78 r17.1.buffer), (5401, R78 r17.1.disk), (5402, R80 r17.1.log), (5405, R3 r17.1.active), (5406, R3 r17.1.writer)]) (by simp; exact Sub.table (by simp) (by simp)) ?_
       refine Chain.runK [] 1 fun K hK => ?_; simp; refine hK _ _ ?_; clear hK K
       refine Chain.sub (S' := mk 150 [] [(0, .i a0), (1, .d (.sl (a1.map (cL (cI .i64))))), (45, .b false), (46, .ptr 20 0 0)] [(20, some (.box [.ref 5400 0 r17.1.buffer.length, .ref 5401 0 r17.1.disk.length, .ref 5402 0 r17.1.log.length, .i r17.1.flushed, .i r17.1.lastID, .ref 5405 0 r17.1.active.length, .ref 5406 0 r17.1.writer.length])), (5400, R78 r17.1.buffer), (5401, R78 r17.1.disk), (5402, R80 r17.1.log), (5405, R3 r17.1.active), (5406, R3 r17.1.writer)]) Sub.tt ?_
       replace h := bsome h; obtain ⟨r24, hr24, h⟩ := h
       refine Chain.callF (p18 N r17.1 1 0 5 r24 hr24) [(20, 1000), (5400, 25000), (5401, 25001), (5402, 25002), (5405, 25005), (5406, 25006)] [20] [(1000, 20), (25000, 5400), (25001, 5401), (25002, 5402), (25005, 5405), (25006, 5406)] [(20, (.box [.ref 5400 0 r24.1.buffer.length, .ref 5401 0 r24.1.disk.length, .ref 5402 0 r24.1.log.length, .d (.lit (.int .i64 r24.1.flushed)), .d (.lit (.int .i64 r24.1.lastID)), .ref 5405 0 r24.1.active.length, .ref 5406 0 r24.1.writer.length])), (5400, (.arr 78 2 (r24.1.buffer.map cS78))), (5401, (.arr 78 2 (r24.1.disk.map cS78))), (5402, (.arr 80 5 (r24.1.log.map cS80))), (5405, (.arr 3 1 (r24.1.active.map (cI .i64)))), (5406, (.arr 3 1 (r24.1.writer.map (cI .i64))))] (.d (.lit (.int .i64 r24.2))) (by simp) rfl (by simp <;> rfl) (by simp) (by simp) (by simp) (by simp) (by simp) ent18 (by simp) (by simp) (by simp) (by simp) (by simp) (by simp) ?_
       refine Chain.sub (S' := mk 150 [] [(0, .i a0), (1, .d (.sl (a1.map (cL (cI .i64))))), (45, .b false), (46, .ptr 20 0 0), (47, .i r24.2)] [(20, some (.box [.ref 5400 0 r24.1.buffer.length, .ref 5401 0 r24.1.disk.length, .ref 5402 0 r24.1.log.length, .i r24.1.flushed, .i r24.1.lastID, .ref 5405 0 r24.1.active.length, .ref 5406 0 r24.1.writer.length])), (5400, R78 r24.1.buffer), (5401, R78 r24.1.disk), (5402, R80 r24.1.log), (5405, R3 r24.1.active), (5406, R3 r24.1.writer)]) (by simp; exact Sub.table (by simp) (by simp)) ?_
       refine Chain.runK [] 2 fun K hK => ?_; simp; refine hK _ _ ?_; clear hK K
       refine Chain.sub (S' := mk 150 [] [(0, .i a0), (1, .d (.sl (a1.map (cL (cI .i64))))), (49, .b (r24.2 != 0))] []) Sub.tt ?_
       cases h
       exact Chain.nil Sub.tt
    ·clear hj
     replace h := isome h; rcases h with ⟨c25, h⟩ | ⟨c25, h⟩
     ·have c25_ : v21 = true := c25
      refine AW.condT (b := v21) rfl c25_ ?_
      refine AW.sub (Sub.bool 49 (b := v21) rfl c25_) ?_
      refine AW.sub (S' := mk 150 [] [(0, .i a0), (1, .d (.sl (a1.map (cL (cI .i64))))), (49, .b true)] []) (by simp; exact Sub.table (by simp) (by simp)) ?_
      refine AW.seqR ?_
      refine Chain.runK [] 1 fun K hK => ?_; simp; refine hK _ _ ?_; clear hK K
      refine Chain.sub (S' := mk 150 [] [(4, .b false)] []) Sub.tt ?_
      refine Chain.nil ?_
      refine AW.ret ?_
      cases h
      refine thenQ_pass (by simp) ?_
      exact FinC.ret (by simp) (by simp)
     ·have c25_ : v21 = false := Bool.eq_false_iff.2 c25
      refine AW.condF (b := v21) rfl c25_ ?_
      refine AW.sub (Sub.bool 49 (b := v21) rfl c25_) ?_
      refine AW.sub (S' := mk 150 [] [(0, .i a0), (1, .d (.sl (a1.map (cL (cI .i64))))), (49, .b false)] []) (by simp; exact Sub.table (by simp) (by simp)) ?_
      refine AW.skip ?_
      refine thenQ_normal ?_
      refine AW.seqR ?_
      refine Chain.runK [] 1 fun K hK => ?_; simp; refine hK _ _ ?_; clear hK K
      refine Chain.sub (S' := mk 150 [] [(0, .i a0), (1, .d (.sl (a1.map (cL (cI .i64))))), (51, .i a0)] []) Sub.tt ?_
      replace h := bsome h; obtain ⟨r26, hr26, h⟩ := h
      have Fr26 := p17 N a0 r26 hr26
      rcases osome h with ⟨hr26o, h⟩ | ⟨r26o, hr26o, h⟩
      ·simp only [hr26o, List.append_nil] at Fr26
       refine Chain.callF Fr26 [] [] [] [] (.tup [.d (.lit (.pointer none)), .d (.lit (.int .i64 r26.2))]) (by simp) rfl (by simp <;> rfl) (by simp) (by simp) (by simp) (by simp) (by simp) ent17 (by simp) (by simp) (by simp) (by simp) (by simp) (by simp) ?_
       refine Chain.sub (S' := mk 150 [] [(0, .i a0), (1, .d (.sl (a1.map (cL (cI .i64))))), (51, .i a0), (52, .tup [.d (.lit (.pointer none)), .i r26.2])] []) (by simp; exact Sub.table (by simp) (by simp)) ?_
       refine Chain.runK [] 5 fun K hK => ?_; simp; refine hK _ _ ?_; clear hK K
       refine Chain.sub (S' := mk 150 [] [(0, .i a0), (1, .d (.sl (a1.map (cL (cI .i64))))), (9, .d (.lit (.pointer none))), (10, .i r26.2)] []) Sub.tt ?_
       refine Chain.nil ?_
       refine AW.seq ?_
       replace h := bsome h; obtain ⟨v28, hj, h⟩ := h
       refine AW.cutR (mk 150 [] [(0, .i a0), (1, .d (.sl (a1.map (cL (cI .i64))))), (9, .d (.lit (.pointer none))), (10, .i r26.2), (60, .b v28)] []) ?_ ?_
       ·clear h; have h := hj; clear hj
        refine Chain.runK [] 3 fun K hK => ?_; simp; refine hK _ _ ?_; clear hK K
        refine Chain.sub (S' := mk 150 [] [(0, .i a0), (1, .d (.sl (a1.map (cL (cI .i64))))), (9, .d (.lit (.pointer none))), (10, .i r26.2), (57, .b (decide (a0 < 1)))] []) Sub.tt ?_
        replace h := isome h; rcases h with ⟨c29, h⟩ | ⟨c29, h⟩
        ·have c29_ : decide (a0 < 1) = true := decide_eq_true c29
         refine Chain.sub (Sub.bool 57 (b := decide (a0 < 1)) rfl c29_) ?_
         refine Chain.sub (S' := mk 150 [] [(0, .i a0), (1, .d (.sl (a1.map (cL (cI .i64))))), (9, .d (.lit (.pointer none))), (10, .i r26.2), (57, .b true)] []) (by simp; exact Sub.table (by simp) (by simp)) ?_
         refine Chain.runK [] 3 fun K hK => ?_; simp; refine hK _ _ ?_; clear hK K
         refine Chain.sub (S' := mk 150 [] [(0, .i a0), (1, .d (.sl (a1.map (cL (cI .i64))))), (9, .d (.lit (.pointer none))), (10, .i r26.2), (60, .b true)] []) Sub.tt ?_
         cases h
         exact Chain.nil Sub.tt
        ·have c29_ : decide (a0 < 1) = false := decide_eq_false c29
         refine Chain.sub (Sub.bool 57 (b := decide (a0 < 1)) rfl c29_) ?_
         refine Chain.sub (S' := mk 150 [] [(0, .i a0), (1, .d (.sl (a1.map (cL (cI .i64))))), (9, .d (.lit (.pointer none))), (10, .i r26.2), (57, .b false)] []) (by simp; exact Sub.table (by simp) (by simp)) ?_
         refine Chain.runK [] 3 fun K hK => ?_; simp; refine hK _ _ ?_; clear hK K
         refine Chain.sub (S' := mk 150 [] [(0, .i a0), (1, .d (.sl (a1.map (cL (cI .i64))))), (9, .d (.lit (.pointer none))), (10, .i r26.2), (60, .b (decide (a0 > 16)))] []) Sub.tt ?_
         cases h
         exact Chain.nil Sub.tt
       ·clear hj
        replace h := isome h; rcases h with ⟨c30, h⟩ | ⟨c30, h⟩
        ·have c30_ : v28 = true := c30
         refine AW.condT (b := v28) rfl c30_ ?_
         refine AW.sub (Sub.bool 60 (b := v28) rfl c30_) ?_
         refine AW.sub (S' := mk 150 [] [(0, .i a0), (1, .d (.sl (a1.map (cL (cI .i64))))), (9, .d (.lit (.pointer none))), (10, .i r26.2), (60, .b true)] []) (by simp; exact Sub.table (by simp) (by simp)) ?_
         replace h := bsome h; obtain ⟨v32, hj, h⟩ := h
         refine AW.cutR (mk 150 [] [(4, .b v32)] []) ?_ ?_
         ·clear h; have h := hj; clear hj
          refine Chain.runK [] 3 fun K hK => ?_; simp; refine hK _ _ ?_; clear hK K
          refine Chain.sub (S' := mk 150 [] [(9, .d (.lit (.pointer none))), (63, .b (r26.2 == 1))] []) Sub.tt ?_
          replace h := isome h; rcases h with ⟨c33, h⟩ | ⟨c33, h⟩
          ·have c33_ : (r26.2 == 1) = true := c33
           refine Chain.sub (Sub.bool 63 (b := (r26.2 == 1)) rfl c33_) ?_
           refine Chain.sub (S' := mk 150 [] [(9, .d (.lit (.pointer none))), (63, .b true)] []) (by simp; exact Sub.table (by simp) (by simp)) ?_
           refine Chain.runK [] 4 fun K hK => ?_; simp; refine hK _ _ ?_; clear hK K
           refine Chain.sub (S' := mk 150 [] [(4, .b true)] []) Sub.tt ?_
           cases h
           exact Chain.nil Sub.tt
          ·have c33_ : (r26.2 == 1) = false := Bool.eq_false_iff.2 c33
           refine Chain.sub (Sub.bool 63 (b := (r26.2 == 1)) rfl c33_) ?_
           refine Chain.sub (S' := mk 150 [] [(9, .d (.lit (.pointer none))), (63, .b false)] []) (by simp; exact Sub.table (by simp) (by simp)) ?_
           refine Chain.runK [] 4 fun K hK => ?_; simp; refine hK _ _ ?_; clear hK K
           refine Chain.sub (S' := mk 150 [] [(4, .b false)] []) Sub.tt ?_
           cases h
           exact Chain.nil Sub.tt
         ·clear hj
          refine AW.ret ?_
          cases h
          refine thenQ_pass (by simp) ?_
          exact FinC.ret (by simp) (by simp)
        ·have c30_ : v28 = false := Bool.eq_false_iff.2 c30
         refine AW.condF (b := v28) rfl c30_ ?_
         refine AW.sub (Sub.bool 60 (b := v28) rfl c30_) ?_
         refine AW.sub (S' := mk 150 [] [(0, .i a0), (1, .d (.sl (a1.map (cL (cI .i64))))), (9, .d (.lit (.pointer none))), (10, .i r26.2), (60, .b false)] []) (by simp; exact Sub.table (by simp) (by simp)) ?_
         refine AW.skip ?_
         refine thenQ_normal ?_
         refine AW.seq ?_
         replace h := bsome h; obtain ⟨⟨⟩, hj, h⟩ := h
         refine AW.cutR (mk 150 [] [(0, .i a0), (1, .d (.sl (a1.map (cL (cI .i64))))), (9, .d (.lit (.pointer none))), (72, .b true)] []) ?_ ?_
         ·clear h; have h := hj; clear hj
          refine Chain.runK [] 3 fun K hK => ?_; simp; refine hK _ _ ?_; clear hK K
          refine Chain.sub (S' := mk 150 [] [(0, .i a0), (1, .d (.sl (a1.map (cL (cI .i64))))), (9, .d (.lit (.pointer none))), (69, .b (r26.2 != 0))] []) Sub.tt ?_
          replace h := isome h; rcases h with ⟨c35, h⟩ | ⟨c35, h⟩
          ·have c35_ : (r26.2 != 0) = true := c35
           refine Chain.sub (Sub.bool 69 (b := (r26.2 != 0)) rfl c35_) ?_
           refine Chain.sub (S' := mk 150 [] [(0, .i a0), (1, .d (.sl (a1.map (cL (cI .i64))))), (9, .d (.lit (.pointer none))), (69, .b true)] []) (by simp; exact Sub.table (by simp) (by simp)) ?_
           refine Chain.runK [] 3 fun K hK => ?_; simp; refine hK _ _ ?_; clear hK K
           refine Chain.sub (S' := mk 150 [] [(0, .i a0), (1, .d (.sl (a1.map (cL (cI .i64))))), (9, .d (.lit (.pointer none))), (72, .b true)] []) Sub.tt ?_
           cases h
           exact Chain.nil Sub.tt
          ·have c35_ : (r26.2 != 0) = false := Bool.eq_false_iff.2 c35
           refine Chain.sub (Sub.bool 69 (b := (r26.2 != 0)) rfl c35_) ?_
           refine Chain.sub (S' := mk 150 [] [(0, .i a0), (1, .d (.sl (a1.map (cL (cI .i64))))), (9, .d (.lit (.pointer none))), (69, .b false)] []) (by simp; exact Sub.table (by simp) (by simp)) ?_
           refine Chain.runK [] 3 fun K hK => ?_; simp; refine hK _ _ ?_; clear hK K
           refine Chain.sub (S' := mk 150 [] [(0, .i a0), (1, .d (.sl (a1.map (cL (cI .i64))))), (9, .d (.lit (.pointer none))), (72, .b true)] []) Sub.tt ?_
           cases h
           exact Chain.nil Sub.tt
         ·clear hj
          refine AW.condK fun K1 K2 k1 k2 => ?_; simp; refine k1 ?_; clear k1 k2 K1 K2
          refine AW.seqR ?_
          refine Chain.runK [] 1 fun K hK => ?_; simp; refine hK _ _ ?_; clear hK K
          refine Chain.sub (S' := mk 150 [] [(4, .b false)] []) Sub.tt ?_
          refine Chain.nil ?_
          refine AW.ret ?_
          cases h
          refine thenQ_pass (by simp) ?_
          exact FinC.ret (by simp) (by simp)
      ·simp only [hr26o, List.nil_append] at Fr26
       refine Chain.callF Fr26 [] [] [(1000, 52), (25000, 6040), (25001, 6041), (25002, 6042), (25005, 6045), (25006, 6046)] [(52, (.box [.ref 6040 0 r26o.buffer.length, .ref 6041 0 r26o.disk.length, .ref 6042 0 r26o.log.length, .d (.lit (.int .i64 r26o.flushed)), .d (.lit (.int .i64 r26o.lastID)), .ref 6045 0 r26o.active.length, .ref 6046 0 r26o.writer.length])), (6040, (.arr 78 2 (r26o.buffer.map cS78))), (6041, (.arr 78 2 (r26o.disk.map cS78))), (6042, (.arr 80 5 (r26o.log.map cS80))), (6045, (.arr 3 1 (r26o.active.map (cI .i64)))), (6046, (.arr 3 1 (r26o.writer.map (cI .i64))))] (.tup [.ptr 52 0 0, .d (.lit (.int .i64 r26.2))]) (by simp) rfl (by simp <;> rfl) (by simp) (by simp) (by simp) (by simp) (by simp) ent17 (by simp) (by simp) (by simp) (by simp) (by simp) (by simp) ?_
       refine Chain.sub (S' := mk 150 [] [(0, .i a0), (1, .d (.sl (a1.map (cL (cI .i64))))), (51, .i a0), (52, .tup [.ptr 52 0 0, .i r26.2])] [(52, some (.box [.ref 6040 0 r26o.buffer.length, .ref 6041 0 r26o.disk.length, .ref 6042 0 r26o.log.length, .i r26o.flushed, .i r26o.lastID, .ref 6045 0 r26o.active.length, .ref 6046 0 r26o.writer.length])), (6040, R78 r26o.buffer), (6041, R78 r26o.disk), (6042, R80 r26o.log), (6045, R3 r26o.active), (6046, R3 r26o.writer)]) (by simp; exact Sub.table (by simp) (by simp)) ?_
       refine Chain.runK [] 5 fun K hK => ?_; simp; refine hK _ _ ?_; clear hK K
       refine Chain.sub (S' := mk 150 [] [(0, .i a0), (1, .d (.sl (a1.map (cL (cI .i64))))), (9, .ptr 52 0 0), (10, .i r26.2)] [(52, some (.box [.ref 6040 0 r26o.buffer.length, .ref 6041 0 r26o.disk.length, .ref 6042 0 r26o.log.length, .i r26o.flushed, .i r26o.lastID, .ref 6045 0 r26o.active.length, .ref 6046 0 r26o.writer.length])), (6040, R78 r26o.buffer), (6041, R78 r26o.disk), (6042, R80 r26o.log), (6045, R3 r26o.active), (6046, R3 r26o.writer)]) Sub.tt ?_
       refine Chain.nil ?_
       refine AW.seq ?_
       replace h := bsome h; obtain ⟨v37, hj, h⟩ := h
       refine AW.cutR (mk 150 [] [(0, .i a0), (1, .d (.sl (a1.map (cL (cI .i64))))), (9, .ptr 52 0 0), (10, .i r26.2), (60, .b v37)] [(52, some (.box [.ref 6040 0 r26o.buffer.length, .ref 6041 0 r26o.disk.length, .ref 6042 0 r26o.log.length, .i r26o.flushed, .i r26o.lastID, .ref 6045 0 r26o.active.length, .ref 6046 0 r26o.writer.length])), (6040, R78 r26o.buffer), (6041, R78 r26o.disk), (6042, R80 r26o.log), (6045, R3 r26o.active), (6046, R3 r26o.writer)]) ?_ ?_
       ·clear h; have h := hj; clear hj
        refine Chain.runK [] 3 fun K hK => ?_; simp; refine hK _ _ ?_; clear hK K
        refine Chain.sub (S' := mk 150 [] [(0, .i a0), (1, .d (.sl (a1.map (cL (cI .i64))))), (9, .ptr 52 0 0), (10, .i r26.2), (57, .b (decide (a0 < 1)))] [(52, some (.box [.ref 6040 0 r26o.buffer.length, .ref 6041 0 r26o.disk.length, .ref 6042 0 r26o.log.length, .i r26o.flushed, .i r26o.lastID, .ref 6045 0 r26o.active.length, .ref 6046 0 r26o.writer.length])), (6040, R78 r26o.buffer), (6041, R78 r26o.disk), (6042, R80 r26o.log), (6045, R3 r26o.active), (6046, R3 r26o.writer)]) Sub.tt ?_
        replace h := isome h; rcases h with ⟨c38, h⟩ | ⟨c38, h⟩
        ·have c38_ : decide (a0 < 1) = true := decide_eq_true c38
         refine Chain.sub (Sub.bool 57 (b := decide (a0 < 1)) rfl c38_) ?_
         refine Chain.sub (S' := mk 150 [] [(0, .i a0), (1, .d (.sl (a1.map (cL (cI .i64))))), (9, .ptr 52 0 0), (10, .i r26.2), (57, .b true)] [(52, some (.box [.ref 6040 0 r26o.buffer.length, .ref 6041 0 r26o.disk.length, .ref 6042 0 r26o.log.length, .i r26o.flushed, .i r26o.lastID, .ref 6045 0 r26o.active.length, .ref 6046 0 r26o.writer.length])), (6040, R78 r26o.buffer), (6041, R78 r26o.disk), (6042, R80 r26o.log), (6045, R3 r26o.active), (6046, R3 r26o.writer)]) (by simp; exact Sub.table (by simp) (by simp)) ?_
         refine Chain.runK [] 3 fun K hK => ?_; simp; refine hK _ _ ?_; clear hK K
         refine Chain.sub (S' := mk 150 [] [(0, .i a0), (1, .d (.sl (a1.map (cL (cI .i64))))), (9, .ptr 52 0 0), (10, .i r26.2), (60, .b true)] [(52, some (.box [.ref 6040 0 r26o.buffer.length, .ref 6041 0 r26o.disk.length, .ref 6042 0 r26o.log.length, .i r26o.flushed, .i r26o.lastID, .ref 6045 0 r26o.active.length, .ref 6046 0 r26o.writer.length])), (6040, R78 r26o.buffer), (6041, R78 r26o.disk), (6042, R80 r26o.log), (6045, R3 r26o.active), (6046, R3 r26o.writer)]) Sub.tt ?_
         cases h
         exact Chain.nil Sub.tt
        ·have c38_ : decide (a0 < 1) = false := decide_eq_false c38
         refine Chain.sub (Sub.bool 57 (b := decide (a0 < 1)) rfl c38_) ?_
         refine Chain.sub (S' := mk 150 [] [(0, .i a0), (1, .d (.sl (a1.map (cL (cI .i64))))), (9, .ptr 52 0 0), (10, .i r26.2), (57, .b false)] [(52, some (.box [.ref 6040 0 r26o.buffer.length, .ref 6041 0 r26o.disk.length, .ref 6042 0 r26o.log.length, .i r26o.flushed, .i r26o.lastID, .ref 6045 0 r26o.active.length, .ref 6046 0 r26o.writer.length])), (6040, R78 r26o.buffer), (6041, R78 r26o.disk), (6042, R80 r26o.log), (6045, R3 r26o.active), (6046, R3 r26o.writer)]) (by simp; exact Sub.table (by simp) (by simp)) ?_
         refine Chain.runK [] 3 fun K hK => ?_; simp; refine hK _ _ ?_; clear hK K
         refine Chain.sub (S' := mk 150 [] [(0, .i a0), (1, .d (.sl (a1.map (cL (cI .i64))))), (9, .ptr 52 0 0), (10, .i r26.2), (60, .b (decide (a0 > 16)))] [(52, some (.box [.ref 6040 0 r26o.buffer.length, .ref 6041 0 r26o.disk.length, .ref 6042 0 r26o.log.length, .i r26o.flushed, .i r26o.lastID, .ref 6045 0 r26o.active.length, .ref 6046 0 r26o.writer.length])), (6040, R78 r26o.buffer), (6041, R78 r26o.disk), (6042, R80 r26o.log), (6045, R3 r26o.active), (6046, R3 r26o.writer)]) Sub.tt ?_
         cases h
         exact Chain.nil Sub.tt
       ·clear hj
        replace h := isome h; rcases h with ⟨c39, h⟩ | ⟨c39, h⟩
        ·have c39_ : v37 = true := c39
         refine AW.condT (b := v37) rfl c39_ ?_
         refine AW.sub (Sub.bool 60 (b := v37) rfl c39_) ?_
         refine AW.sub (S' := mk 150 [] [(0, .i a0), (1, .d (.sl (a1.map (cL (cI .i64))))), (9, .ptr 52 0 0), (10, .i r26.2), (60, .b true)] [(52, some (.box [.ref 6040 0 r26o.buffer.length, .ref 6041 0 r26o.disk.length, .ref 6042 0 r26o.log.length, .i r26o.flushed, .i r26o.lastID, .ref 6045 0 r26o.active.length, .ref 6046 0 r26o.writer.length])), (6040, R78 r26o.buffer), (6041, R78 r26o.disk), (6042, R80 r26o.log), (6045, R3 r26o.active), (6046, R3 r26o.writer)]) (by simp; exact Sub.table (by simp) (by simp)) ?_
         replace h := bsome h; obtain ⟨⟨⟩, hj, h⟩ := h
         refine AW.cutR (mk 150 [] [(4, .b false)] []) ?_ ?_
         ·clear h; have h := hj; clear hj
          refine Chain.runK [] 3 fun K hK => ?_; simp; refine hK _ _ ?_; clear hK K
          refine Chain.sub (S' := mk 150 [] [(9, .ptr 52 0 0), (63, .b (r26.2 == 1))] [(52, some (.box [.ref 6040 0 r26o.buffer.length, .ref 6041 0 r26o.disk.length, .ref 6042 0 r26o.log.length, .i r26o.flushed, .i r26o.lastID, .ref 6045 0 r26o.active.length, .ref 6046 0 r26o.writer.length])), (6040, R78 r26o.buffer), (6041, R78 r26o.disk), (6042, R80 r26o.log), (6045, R3 r26o.active), (6046, R3 r26o.writer)]) Sub.tt ?_
          replace h := isome h; rcases h with ⟨c41, h⟩ | ⟨c41, h⟩
          ·have c41_ : (r26.2 == 1) = true := c41
           refine Chain.sub (Sub.bool 63 (b := (r26.2 == 1)) rfl c41_) ?_
           refine Chain.sub (S' := mk 150 [] [(9, .ptr 52 0 0), (63, .b true)] [(52, some (.box [.ref 6040 0 r26o.buffer.length, .ref 6041 0 r26o.disk.length, .ref 6042 0 r26o.log.length, .i r26o.flushed, .i r26o.lastID, .ref 6045 0 r26o.active.length, .ref 6046 0 r26o.writer.length])), (6040, R78 r26o.buffer), (6041, R78 r26o.disk), (6042, R80 r26o.log), (6045, R3 r26o.active), (6046, R3 r26o.writer)]) (by simp; exact Sub.table (by simp) (by simp)) ?_
           refine Chain.runK [] 4 fun K hK => ?_; simp; refine hK _ _ ?_; clear hK K
           refine Chain.sub (S' := mk 150 [] [(4, .b false)] []) Sub.tt ?_
           cases h
           exact Chain.nil Sub.tt
          ·have c41_ : (r26.2 == 1) = false := Bool.eq_false_iff.2 c41
           refine Chain.sub (Sub.bool 63 (b := (r26.2 == 1)) rfl c41_) ?_
           refine Chain.sub (S' := mk 150 [] [(9, .ptr 52 0 0), (63, .b false)] [(52, some (.box [.ref 6040 0 r26o.buffer.length, .ref 6041 0 r26o.disk.length, .ref 6042 0 r26o.log.length, .i r26o.flushed, .i r26o.lastID, .ref 6045 0 r26o.active.length, .ref 6046 0 r26o.writer.length])), (6040, R78 r26o.buffer), (6041, R78 r26o.disk), (6042, R80 r26o.log), (6045, R3 r26o.active), (6046, R3 r26o.writer)]) (by simp; exact Sub.table (by simp) (by simp)) ?_
           refine Chain.runK [] 4 fun K hK => ?_; simp; refine hK _ _ ?_; clear hK K
           refine Chain.sub (S' := mk 150 [] [(4, .b false)] []) Sub.tt ?_
           cases h
           exact Chain.nil Sub.tt
         ·clear hj
          refine AW.ret ?_
          cases h
          refine thenQ_pass (by simp) ?_
          exact FinC.ret (by simp) (by simp)
        ·have c39_ : v37 = false := Bool.eq_false_iff.2 c39
         refine AW.condF (b := v37) rfl c39_ ?_
         refine AW.sub (Sub.bool 60 (b := v37) rfl c39_) ?_
         refine AW.sub (S' := mk 150 [] [(0, .i a0), (1, .d (.sl (a1.map (cL (cI .i64))))), (9, .ptr 52 0 0), (10, .i r26.2), (60, .b false)] [(52, some (.box [.ref 6040 0 r26o.buffer.length, .ref 6041 0 r26o.disk.length, .ref 6042 0 r26o.log.length, .i r26o.flushed, .i r26o.lastID, .ref 6045 0 r26o.active.length, .ref 6046 0 r26o.writer.length])), (6040, R78 r26o.buffer), (6041, R78 r26o.disk), (6042, R80 r26o.log), (6045, R3 r26o.active), (6046, R3 r26o.writer)]) (by simp; exact Sub.table (by simp) (by simp)) ?_
         refine AW.skip ?_
         refine thenQ_normal ?_
         refine AW.seq ?_
         replace h := bsome h; obtain ⟨v43, hj, h⟩ := h
         refine AW.cutR (mk 150 [] [(0, .i a0), (1, .d (.sl (a1.map (cL (cI .i64))))), (9, .ptr 52 0 0), (72, .b v43)] [(52, some (.box [.ref 6040 0 r26o.buffer.length, .ref 6041 0 r26o.disk.length, .ref 6042 0 r26o.log.length, .i r26o.flushed, .i r26o.lastID, .ref 6045 0 r26o.active.length, .ref 6046 0 r26o.writer.length])), (6040, R78 r26o.buffer), (6041, R78 r26o.disk), (6042, R80 r26o.log), (6045, R3 r26o.active), (6046, R3 r26o.writer)]) ?_ ?_
         ·clear h; have h := hj; clear hj
          refine Chain.runK [] 3 fun K hK => ?_; simp; refine hK _ _ ?_; clear hK K
          refine Chain.sub (S' := mk 150 [] [(0, .i a0), (1, .d (.sl (a1.map (cL (cI .i64))))), (9, .ptr 52 0 0), (69, .b (r26.2 != 0))] [(52, some (.box [.ref 6040 0 r26o.buffer.length, .ref 6041 0 r26o.disk.length, .ref 6042 0 r26o.log.length, .i r26o.flushed, .i r26o.lastID, .ref 6045 0 r26o.active.length, .ref 6046 0 r26o.writer.length])), (6040, R78 r26o.buffer), (6041, R78 r26o.disk), (6042, R80 r26o.log), (6045, R3 r26o.active), (6046, R3 r26o.writer)]) Sub.tt ?_
          replace h := isome h; rcases h with ⟨c44, h⟩ | ⟨c44, h⟩
          ·have c44_ : (r26.2 != 0) = true := c44
           refine Chain.sub (Sub.bool 69 (b := (r26.2 != 0)) rfl c44_) ?_
           refine Chain.sub (S' := mk 150 [] [(0, .i a0), (1, .d (.sl (a1.map (cL (cI .i64))))), (9, .ptr 52 0 0), (69, .b true)] [(52, some (.box [.ref 6040 0 r26o.buffer.length, .ref 6041 0 r26o.disk.length, .ref 6042 0 r26o.log.length, .i r26o.flushed, .i r26o.lastID, .ref 6045 0 r26o.active.length, .ref 6046 0 r26o.writer.length])), (6040, R78 r26o.buffer), (6041, R78 r26o.disk), (6042, R80 r26o.log), (6045, R3 r26o.active), (6046, R3 r26o.writer)]) (by simp; exact Sub.table (by simp) (by simp)) ?_
           refine Chain.runK [] 3 fun K hK => ?_; simp; refine hK _ _ ?_; clear hK K
           refine Chain.sub (S' := mk 150 [] [(0, .i a0), (1, .d (.sl (a1.map (cL (cI .i64))))), (9, .ptr 52 0 0), (72, .b true)] [(52, some (.box [.ref 6040 0 r26o.buffer.length, .ref 6041 0 r26o.disk.length, .ref 6042 0 r26o.log.length, .i r26o.flushed, .i r26o.lastID, .ref 6045 0 r26o.active.length, .ref 6046 0 r26o.writer.length])), (6040, R78 r26o.buffer), (6041, R78 r26o.disk), (6042, R80 r26o.log), (6045, R3 r26o.active), (6046, R3 r26o.writer)]) Sub.tt ?_
           cases h
           exact Chain.nil Sub.tt
          ·have c44_ : (r26.2 != 0) = false := Bool.eq_false_iff.2 c44
           refine Chain.sub (Sub.bool 69 (b := (r26.2 != 0)) rfl c44_) ?_
           refine Chain.sub (S' := mk 150 [] [(0, .i a0), (1, .d (.sl (a1.map (cL (cI .i64))))), (9, .ptr 52 0 0), (69, .b false)] [(52, some (.box [.ref 6040 0 r26o.buffer.length, .ref 6041 0 r26o.disk.length, .ref 6042 0 r26o.log.length, .i r26o.flushed, .i r26o.lastID, .ref 6045 0 r26o.active.length, .ref 6046 0 r26o.writer.length])), (6040, R78 r26o.buffer), (6041, R78 r26o.disk), (6042, R80 r26o.log), (6045, R3 r26o.active), (6046, R3 r26o.writer)]) (by simp; exact Sub.table (by simp) (by simp)) ?_
           refine Chain.runK [] 3 fun K hK => ?_; simp; refine hK _ _ ?_; clear hK K
           refine Chain.sub (S' := mk 150 [] [(0, .i a0), (1, .d (.sl (a1.map (cL (cI .i64))))), (9, .ptr 52 0 0), (72, .b false)] [(52, some (.box [.ref 6040 0 r26o.buffer.length, .ref 6041 0 r26o.disk.length, .ref 6042 0 r26o.log.length, .i r26o.flushed, .i r26o.lastID, .ref 6045 0 r26o.active.length, .ref 6046 0 r26o.writer.length])), (6040, R78 r26o.buffer), (6041, R78 r26o.disk), (6042, R80 r26o.log), (6045, R3 r26o.active), (6046, R3 r26o.writer)]) Sub.tt ?_
           cases h
           exact Chain.nil Sub.tt
         ·clear hj
          replace h := isome h; rcases h with ⟨c45, h⟩ | ⟨c45, h⟩
          ·have c45_ : v43 = true := c45
           refine AW.condT (b := v43) rfl c45_ ?_
           refine AW.sub (Sub.bool 72 (b := v43) rfl c45_) ?_
           refine AW.sub (S' := mk 150 [] [(0, .i a0), (1, .d (.sl (a1.map (cL (cI .i64))))), (9, .ptr 52 0 0), (72, .b true)] [(52, some (.box [.ref 6040 0 r26o.buffer.length, .ref 6041 0 r26o.disk.length, .ref 6042 0 r26o.log.length, .i r26o.flushed, .i r26o.lastID, .ref 6045 0 r26o.active.length, .ref 6046 0 r26o.writer.length])), (6040, R78 r26o.buffer), (6041, R78 r26o.disk), (6042, R80 r26o.log), (6045, R3 r26o.active), (6046, R3 r26o.writer)]) (by simp; exact Sub.table (by simp) (by simp)) ?_
           refine AW.seqR ?_
           refine Chain.runK [] 1 fun K hK => ?_; simp; refine hK _ _ ?_; clear hK K
           refine Chain.sub (S' := mk 150 [] [(4, .b false)] []) Sub.tt ?_
           refine Chain.nil ?_
           refine AW.ret ?_
           cases h
           refine thenQ_pass (by simp) ?_
           exact FinC.ret (by simp) (by simp)
          ·have c45_ : v43 = false := Bool.eq_false_iff.2 c45
           refine AW.condF (b := v43) rfl c45_ ?_
           refine AW.sub (Sub.bool 72 (b := v43) rfl c45_) ?_
           refine AW.sub (S' := mk 150 [] [(0, .i a0), (1, .d (.sl (a1.map (cL (cI .i64))))), (9, .ptr 52 0 0), (72, .b false)] [(52, some (.box [.ref 6040 0 r26o.buffer.length, .ref 6041 0 r26o.disk.length, .ref 6042 0 r26o.log.length, .i r26o.flushed, .i r26o.lastID, .ref 6045 0 r26o.active.length, .ref 6046 0 r26o.writer.length])), (6040, R78 r26o.buffer), (6041, R78 r26o.disk), (6042, R80 r26o.log), (6045, R3 r26o.active), (6046, R3 r26o.writer)]) (by simp; exact Sub.table (by simp) (by simp)) ?_
           refine AW.skip ?_
           refine thenQ_normal ?_
           replace h := bsome h; obtain ⟨l46, gl46, h⟩ := h
           obtain ⟨hl46a, hl46b, hl46c, hl46d⟩ := mkL_some (cI .i64) gl46
           clear gl46
           replace hl46c : List.replicate l46.length [.lit (.int .i64 0)] = l46.map (cI .i64) := hl46c
           replace h := bsome h; obtain ⟨l47, gl47, h⟩ := h
           obtain ⟨hl47a, hl47b, hl47c, hl47d⟩ := mkL_some (cI .i64) gl47
           clear gl47
           replace hl47c : List.replicate l47.length [.lit (.int .i64 0)] = l47.map (cI .i64) := hl47c
           replace h := bsome h; obtain ⟨l48, gl48, h⟩ := h
           obtain ⟨hl48a, hl48b, hl48c, hl48d⟩ := mkL_some (cI .i64) gl48
           clear gl48
           replace hl48c : List.replicate l48.length [.lit (.int .i64 0)] = l48.map (cI .i64) := hl48c
           refine AW.seqAnyS [[], [0], [], [2], [], [4], [0, 1, 2, 3, 4, 5], [0, 1, 2, 3, 4, 5, 6], [0, 1, 2, 3, 4, 5, 6, 7]] (fun (b : Nat → Bool) => mk 150 [] [(0, .i a0), (1, .d (.sl (a1.map (cL (cI .i64))))), (9, .ptr 52 0 0), (11, (if b 8 then .ptr 80 0 0 else .junk)), (73, (if b 0 then .i a0 else .junk)), (74, (if b 1 then .ref 74 0 l46.length else .junk)), (75, (if b 2 then .i a0 else .junk)), (76, (if b 3 then .ref 76 0 l47.length else .junk)), (77, (if b 4 then .i a0 else .junk)), (78, (if b 5 then .ref 78 0 l48.length else .junk)), (79, (if b 6 then .agg [.ref 74 0 l46.length, .ref 76 0 l47.length, .ref 78 0 l48.length, .d (.lit (.slice none 0 0)), .i 0, .i 0, .d (.lit (.slice none 0 0))] else .junk)), (80, (if b 7 then .ptr 80 0 0 else .junk))] [(52, some (.box [.ref 6040 0 r26o.buffer.length, .ref 6041 0 r26o.disk.length, .ref 6042 0 r26o.log.length, .i r26o.flushed, .i r26o.lastID, .ref 6045 0 r26o.active.length, .ref 6046 0 r26o.writer.length])), (74, (if b 1 then R3 l46 else none)), (76, (if b 3 then R3 l47 else none)), (78, (if b 5 then R3 l48 else none)), (80, (if b 7 then some (.box [.ref 74 0 l46.length, .ref 76 0 l47.length, .ref 78 0 l48.length, .d (.lit (.slice none 0 0)), .i 0, .i 0, .d (.lit (.slice none 0 0))]) else none)), (6040, R78 r26o.buffer), (6041, R78 r26o.disk), (6042, R80 r26o.log), (6045, R3 r26o.active), (6046, R3 r26o.writer)]) (mk 150 [] [(0, .i a0), (1, .d (.sl (a1.map (cL (cI .i64))))), (9, .ptr 52 0 0), (11, .ptr 80 0 0)] [(52, some (.box [.ref 6040 0 r26o.buffer.length, .ref 6041 0 r26o.disk.length, .ref 6042 0 r26o.log.length, .i r26o.flushed, .i r26o.lastID, .ref 6045 0 r26o.active.length, .ref 6046 0 r26o.writer.length])), (74, R3 l46), (76, R3 l47), (78, R3 l48), (80, some (.box [.ref 74 0 l46.length, .ref 76 0 l47.length, .ref 78 0 l48.length, .d (.lit (.slice none 0 0)), .i 0, .i 0, .d (.lit (.slice none 0 0))])), (6040, R78 r26o.buffer), (6041, R78 r26o.disk), (6042, R80 r26o.log), (6045, R3 r26o.active), (6046, R3 r26o.writer)]) (by kernel_rfl) (by kernel_rfl) Sub.tt (Steps.cons ?_ (Steps.cons ?_ (Steps.cons ?_ (Steps.cons ?_ (Steps.cons ?_ (Steps.cons ?_ (Steps.cons ?_ (Steps.cons ?_ (Steps.cons ?_ (Steps.nil)))))))))) ?_ ?_
           ·intro b h0 ha hd
            have f1 : b 1 = false := hd 1 (by decide)
            have f6 : b 6 = false := hd 6 (by decide)
            have f7 : b 7 = false := hd 7 (by decide)
            have f8 : b 8 = false := hd 8 (by decide)
            refine Chain.runK [] 1 fun K hK => ?_; simp [h0, f1, f6, f7, f8]; refine hK _ _ ?_; clear hK K
            exact Chain.nil (Sub.table (by simp [f1, f6, f7, f8]) (by simp [f1, f7]))
           ·intro b h0 ha hd
            have t0 : b 0 = true := ha 0 (by decide)
            have f6 : b 6 = false := hd 6 (by decide)
            have f7 : b 7 = false := hd 7 (by decide)
            have f8 : b 8 = false := hd 8 (by decide)
            cases q3 : b 3 <;> cases q5 : b 5 <;> (refine Chain.runK [] 1 fun K hK => ?_; simp [h0, t0, f6, f7, f8, hl46a, hl46b, hl46c, hl46d]; refine hK _ _ ?_; clear hK K; exact Chain.nil (Sub.table (by simp [t0, f6, f7, f8, q3, q5]) (by simp [f7, q3, q5])))
           ·intro b h0 ha hd
            have f3 : b 3 = false := hd 3 (by decide)
            have f6 : b 6 = false := hd 6 (by decide)
            have f7 : b 7 = false := hd 7 (by decide)
            have f8 : b 8 = false := hd 8 (by decide)
            refine Chain.runK [] 1 fun K hK => ?_; simp [h0, f3, f6, f7, f8]; refine hK _ _ ?_; clear hK K
            exact Chain.nil (Sub.table (by simp [f3, f6, f7, f8]) (by simp [f3, f7]))
           ·intro b h0 ha hd
            have t2 : b 2 = true := ha 2 (by decide)
            have f6 : b 6 = false := hd 6 (by decide)
            have f7 : b 7 = false := hd 7 (by decide)
            have f8 : b 8 = false := hd 8 (by decide)
            cases q1 : b 1 <;> cases q5 : b 5 <;> (refine Chain.runK [] 1 fun K hK => ?_; simp [h0, t2, f6, f7, f8, hl47a, hl47b, hl47c, hl47d]; refine hK _ _ ?_; clear hK K; exact Chain.nil (Sub.table (by simp [t2, f6, f7, f8, q1, q5]) (by simp [f7, q1, q5])))
           ·intro b h0 ha hd
            have f5 : b 5 = false := hd 5 (by decide)
            have f6 : b 6 = false := hd 6 (by decide)
            have f7 : b 7 = false := hd 7 (by decide)
            have f8 : b 8 = false := hd 8 (by decide)
            refine Chain.runK [] 1 fun K hK => ?_; simp [h0, f5, f6, f7, f8]; refine hK _ _ ?_; clear hK K
            exact Chain.nil (Sub.table (by simp [f5, f6, f7, f8]) (by simp [f5, f7]))
           ·intro b h0 ha hd
            have t4 : b 4 = true := ha 4 (by decide)
            have f6 : b 6 = false := hd 6 (by decide)
            have f7 : b 7 = false := hd 7 (by decide)
            have f8 : b 8 = false := hd 8 (by decide)
            cases q1 : b 1 <;> cases q3 : b 3 <;> (refine Chain.runK [] 1 fun K hK => ?_; simp [h0, t4, f6, f7, f8, hl48a, hl48b, hl48c, hl48d]; refine hK _ _ ?_; clear hK K; exact Chain.nil (Sub.table (by simp [t4, f6, f7, f8, q1, q3]) (by simp [f7, q1, q3])))
           ·intro b h0 ha hd
            have t0 : b 0 = true := ha 0 (by decide)
            have t1 : b 1 = true := ha 1 (by decide)
            have t2 : b 2 = true := ha 2 (by decide)
            have t3 : b 3 = true := ha 3 (by decide)
            have t4 : b 4 = true := ha 4 (by decide)
            have t5 : b 5 = true := ha 5 (by decide)
            have f7 : b 7 = false := hd 7 (by decide)
            have f8 : b 8 = false := hd 8 (by decide)
            refine Chain.runK [] 1 fun K hK => ?_; simp [h0, t0, t1, t2, t3, t4, t5, f7, f8]; refine hK _ _ ?_; clear hK K
            exact Chain.nil (Sub.table (by simp [t0, t1, t2, t3, t4, t5, f7, f8]) (by simp [t1, t3, t5, f7]))
           ·intro b h0 ha hd
            have t0 : b 0 = true := ha 0 (by decide)
            have t1 : b 1 = true := ha 1 (by decide)
            have t2 : b 2 = true := ha 2 (by decide)
            have t3 : b 3 = true := ha 3 (by decide)
            have t4 : b 4 = true := ha 4 (by decide)
            have t5 : b 5 = true := ha 5 (by decide)
            have t6 : b 6 = true := ha 6 (by decide)
            have f8 : b 8 = false := hd 8 (by decide)
            refine Chain.runK [] 1 fun K hK => ?_; simp [h0, t0, t1, t2, t3, t4, t5, t6, f8]; refine hK _ _ ?_; clear hK K
            exact Chain.nil (Sub.table (by simp [t0, t1, t2, t3, t4, t5, t6, f8]) (by simp [t1, t3, t5]))
           ·intro b h0 ha hd
            have t0 : b 0 = true := ha 0 (by decide)
            have t1 : b 1 = true := ha 1 (by decide)
            have t2 : b 2 = true := ha 2 (by decide)
            have t3 : b 3 = true := ha 3 (by decide)
            have t4 : b 4 = true := ha 4 (by decide)
            have t5 : b 5 = true := ha 5 (by decide)
            have t6 : b 6 = true := ha 6 (by decide)
            have t7 : b 7 = true := ha 7 (by decide)
            refine Chain.runK [] 1 fun K hK => ?_; simp [h0, t0, t1, t2, t3, t4, t5, t6, t7]; refine hK _ _ ?_; clear hK K
            exact Chain.nil (Sub.table (by simp [t0, t1, t2, t3, t4, t5, t6, t7]) (by simp [t1, t3, t5, t7]))
           ·intro b hb
            have t0 := hb 0 (by decide)
            have t1 := hb 1 (by decide)
            have t2 := hb 2 (by decide)
            have t3 := hb 3 (by decide)
            have t4 := hb 4 (by decide)
            have t5 := hb 5 (by decide)
            have t6 := hb 6 (by decide)
            have t7 := hb 7 (by decide)
            have t8 := hb 8 (by decide)
            exact Sub.table (by simp [t0, t1, t2, t3, t4, t5, t6, t7, t8]) (by simp [t1, t3, t5, t7])
           ·skip
            refine AW.seq ?_
            refine AW.seqR ?_
            refine Chain.runK [] 1 fun K hK => ?_; simp; refine hK _ _ ?_; clear hK K
            refine Chain.sub (S' := mk 150 [] [(0, .i a0), (9, .ptr 52 0 0), (11, .ptr 80 0 0), (81, .d (.sl (a1.map (cL (cI .i64)))))] [(52, some (.box [.ref 6040 0 r26o.buffer.length, .ref 6041 0 r26o.disk.length, .ref 6042 0 r26o.log.length, .i r26o.flushed, .i r26o.lastID, .ref 6045 0 r26o.active.length, .ref 6046 0 r26o.writer.length])), (74, R3 l46), (76, R3 l47), (78, R3 l48), (80, some (.box [.ref 74 0 l46.length, .ref 76 0 l47.length, .ref 78 0 l48.length, .d (.lit (.slice none 0 0)), .i 0, .i 0, .d (.lit (.slice none 0 0))])), (6040, R78 r26o.buffer), (6041, R78 r26o.disk), (6042, R80 r26o.log), (6045, R3 r26o.active), (6046, R3 r26o.writer)]) Sub.tt ?_
            refine Chain.sub (S' := mk 150 [] [(0, .i a0), (9, .ptr 52 0 0), (11, .ptr 80 0 0), (81, .d (.sl (a1.map (cL (cI .i64)))))] [(52, some (.box [.ref 6040 0 r26o.buffer.length, .ref 6041 0 r26o.disk.length, .ref 6042 0 r26o.log.length, .i r26o.flushed, .i r26o.lastID, .ref 6045 0 r26o.active.length, .ref 6046 0 r26o.writer.length])), (76, R3 l47), (78, R3 l48), (80, some (.box [.ref 6600 0 l46.length, .ref 76 0 l47.length, .ref 78 0 l48.length, .d (.lit (.slice none 0 0)), .i 0, .i 0, .d (.lit (.slice none 0 0))])), (6040, R78 r26o.buffer), (6041, R78 r26o.disk), (6042, R80 r26o.log), (6045, R3 r26o.active), (6046, R3 r26o.writer), (6600, R3 l46)]) (Sub.names [(52, 52), (74, 6600), (76, 76), (78, 78), (80, 80), (6040, 6040), (6041, 6041), (6042, 6042), (6045, 6045), (6046, 6046)] (by simp) (by simp) (by simp [back]) (by simp [V.rnm, lk2]) (by simp [back, Blk.rnm, V.rnm, rnmL, lk2])) ?_
            refine Chain.sub (S' := mk 150 [] [(0, .i a0), (9, .ptr 52 0 0), (11, .ptr 80 0 0), (81, .d (.sl (a1.map (cL (cI .i64)))))] [(52, some (.box [.ref 6040 0 r26o.buffer.length, .ref 6041 0 r26o.disk.length, .ref 6042 0 r26o.log.length, .i r26o.flushed, .i r26o.lastID, .ref 6045 0 r26o.active.length, .ref 6046 0 r26o.writer.length])), (78, R3 l48), (80, some (.box [.ref 6600 0 l46.length, .ref 6601 0 l47.length, .ref 78 0 l48.length, .d (.lit (.slice none 0 0)), .i 0, .i 0, .d (.lit (.slice none 0 0))])), (6040, R78 r26o.buffer), (6041, R78 r26o.disk), (6042, R80 r26o.log), (6045, R3 r26o.active), (6046, R3 r26o.writer), (6600, R3 l46), (6601, R3 l47)]) (Sub.names [(52, 52), (76, 6601), (78, 78), (80, 80), (6040, 6040), (6041, 6041), (6042, 6042), (6045, 6045), (6046, 6046), (6600, 6600)] (by simp) (by simp) (by simp [back]) (by simp [V.rnm, lk2]) (by simp [back, Blk.rnm, V.rnm, rnmL, lk2])) ?_
            refine Chain.sub (S' := mk 150 [] [(0, .i a0), (9, .ptr 52 0 0), (11, .ptr 80 0 0), (81, .d (.sl (a1.map (cL (cI .i64)))))] [(52, some (.box [.ref 6040 0 r26o.buffer.length, .ref 6041 0 r26o.disk.length, .ref 6042 0 r26o.log.length, .i r26o.flushed, .i r26o.lastID, .ref 6045 0 r26o.active.length, .ref 6046 0 r26o.writer.length])), (80, some (.box [.ref 6600 0 l46.length, .ref 6601 0 l47.length, .ref 6602 0 l48.length, .d (.lit (.slice none 0 0)), .i 0, .i 0, .d (.lit (.slice none 0 0))])), (6040, R78 r26o.buffer), (6041, R78 r26o.disk), (6042, R80 r26o.log), (6045, R3 r26o.active), (6046, R3 r26o.writer), (6600, R3 l46), (6601, R3 l47), (6602, R3 l48)]) (Sub.names [(52, 52), (78, 6602), (80, 80), (6040, 6040), (6041, 6041), (6042, 6042), (6045, 6045), (6046, 6046), (6600, 6600), (6601, 6601)] (by simp) (by simp) (by simp [back]) (by simp [V.rnm, lk2]) (by simp [back, Blk.rnm, V.rnm, rnmL, lk2])) ?_
            refine Chain.sub (Sub.nilOwnBox (bid := 80) (j := 3) (id := 6603) (T := 84) (n := 5) rfl rfl (by decide) rfl (by decide)) ?_
            refine Chain.sub (S' := mk 150 [] [(0, .i a0), (9, .ptr 52 0 0), (11, .ptr 80 0 0), (81, .d (.sl (a1.map (cL (cI .i64)))))] [(52, some (.box [.ref 6040 0 r26o.buffer.length, .ref 6041 0 r26o.disk.length, .ref 6042 0 r26o.log.length, .i r26o.flushed, .i r26o.lastID, .ref 6045 0 r26o.active.length, .ref 6046 0 r26o.writer.length])), (80, some (.box [.ref 6600 0 l46.length, .ref 6601 0 l47.length, .ref 6602 0 l48.length, .ref 6603 0 (([] : List S84).length), .i 0, .i 0, .d (.lit (.slice none 0 0))])), (6040, R78 r26o.buffer), (6041, R78 r26o.disk), (6042, R80 r26o.log), (6045, R3 r26o.active), (6046, R3 r26o.writer), (6600, R3 l46), (6601, R3 l47), (6602, R3 l48), (6603, R84 ([] : List S84))]) (by simp; exact Sub.table (by simp) (by simp)) ?_
            refine Chain.sub (Sub.nilOwnBox (bid := 80) (j := 6) (id := 6606) (T := 3) (n := 1) rfl rfl (by decide) rfl (by decide)) ?_
            refine Chain.sub (S' := mk 150 [] [(0, .i a0), (9, .ptr 52 0 0), (11, .ptr 80 0 0), (81, .d (.sl (a1.map (cL (cI .i64)))))] [(52, some (.box [.ref 6040 0 r26o.buffer.length, .ref 6041 0 r26o.disk.length, .ref 6042 0 r26o.log.length, .i r26o.flushed, .i r26o.lastID, .ref 6045 0 r26o.active.length, .ref 6046 0 r26o.writer.length])), (80, some (.box [.ref 6600 0 l46.length, .ref 6601 0 l47.length, .ref 6602 0 l48.length, .ref 6603 0 (([] : List S84).length), .i 0, .i 0, .ref 6606 0 (([] : List Int).length)])), (6040, R78 r26o.buffer), (6041, R78 r26o.disk), (6042, R80 r26o.log), (6045, R3 r26o.active), (6046, R3 r26o.writer), (6600, R3 l46), (6601, R3 l47), (6602, R3 l48), (6603, R84 ([] : List S84)), (6606, R3 ([] : List Int))]) (by simp; exact Sub.table (by simp) (by simp)) ?_
            refine Chain.runK [] 2 fun K hK => ?_; simp; refine hK _ _ ?_; clear hK K
            refine Chain.sub (S' := mk 150 [] [(0, .i a0), (9, .ptr 52 0 0), (11, .ptr 80 0 0), (81, .d (.sl (a1.map (cL (cI .i64))))), (82, .i (a1.length : Int)), (83, .i 0)] [(52, some (.box [.ref 6040 0 r26o.buffer.length, .ref 6041 0 r26o.disk.length, .ref 6042 0 r26o.log.length, .i r26o.flushed, .i r26o.lastID, .ref 6045 0 r26o.active.length, .ref 6046 0 r26o.writer.length])), (80, some (.box [.ref 6600 0 l46.length, .ref 6601 0 l47.length, .ref 6602 0 l48.length, .ref 6603 0 (([] : List S84).length), .i 0, .i 0, .ref 6606 0 (([] : List Int).length)])), (6040, R78 r26o.buffer), (6041, R78 r26o.disk), (6042, R80 r26o.log), (6045, R3 r26o.active), (6046, R3 r26o.writer), (6600, R3 l46), (6601, R3 l47), (6602, R3 l48), (6603, R84 ([] : List S84)), (6606, R3 ([] : List Int))]) Sub.tt ?_
            refine Chain.nil ?_
            refine AW.lastJ (fun (_ : Unit) => mk 150 [] [] []) h ?_ ?_ <;> clear h
            ·intro o h
             refine AW.block ?_
             refine AW.iter (fun ((l141, l142, l143, v144, v145, l146, l147, l148, l149, l150, l151, v152, v153, l154, v155) : ((List S78) × (List S78) × (List S80) × Int × Int × (List Int) × (List Int) × (List Int) × (List Int) × (List Int) × (List S84) × Int × Int × (List Int) × Int)) => mk 150 [] [(0, .i a0), (9, .ptr 52 0 0), (11, .ptr 80 0 0), (81, .d (.sl (a1.map (cL (cI .i64))))), (82, .i (a1.length : Int)), (83, .i v155)] [(52, some (.box [.ref 6040 0 l141.length, .ref 6041 0 l142.length, .ref 6042 0 l143.length, .i v144, .i v145, .ref 6045 0 l146.length, .ref 6046 0 l147.length])), (80, some (.box [.ref 6600 0 l148.length, .ref 6601 0 l149.length, .ref 6602 0 l150.length, .ref 6603 0 l151.length, .i v152, .i v153, .ref 6606 0 l154.length])), (6040, R78 l141), (6041, R78 l142), (6042, R80 l143), (6045, R3 l146), (6046, R3 l147), (6600, R3 l148), (6601, R3 l149), (6602, R3 l150), (6603, R84 l151), (6606, R3 l154)]) h Sub.tt ?_
             clear h
             rintro ⟨l141, l142, l143, v144, v145, l146, l147, l148, l149, l150, l151, v152, v153, l154, v155⟩ x h
             dsimp only at h ⊢
             refine AW.seqR ?_
             refine Chain.runK [] 1 fun K hK => ?_; simp; refine hK _ _ ?_; clear hK K
             refine Chain.sub (S' := mk 150 [] [(0, .i a0), (9, .ptr 52 0 0), (11, .ptr 80 0 0), (81, .d (.sl (a1.map (cL (cI .i64))))), (82, .i (a1.length : Int)), (83, .i v155), (84, .b (decide (v155 < (a1.length : Int))))] [(52, some (.box [.ref 6040 0 l141.length, .ref 6041 0 l142.length, .ref 6042 0 l143.length, .i v144, .i v145, .ref 6045 0 l146.length, .ref 6046 0 l147.length])), (80, some (.box [.ref 6600 0 l148.length, .ref 6601 0 l149.length, .ref 6602 0 l150.length, .ref 6603 0 l151.length, .i v152, .i v153, .ref 6606 0 l154.length])), (6040, R78 l141), (6041, R78 l142), (6042, R80 l143), (6045, R3 l146), (6046, R3 l147), (6600, R3 l148), (6601, R3 l149), (6602, R3 l150), (6603, R84 l151), (6606, R3 l154)]) Sub.tt ?_
             refine Chain.nil ?_
             refine AW.seq ?_
             replace h := isome h; rcases h with ⟨c357, h⟩ | ⟨c357, h⟩
             ·have c357_ : decide (v155 < (a1.length : Int)) = true := decide_eq_true c357
              refine AW.condT (b := decide (v155 < (a1.length : Int))) rfl c357_ ?_
              refine AW.sub (Sub.bool 84 (b := decide (v155 < (a1.length : Int))) rfl c357_) ?_
              refine AW.sub (S' := mk 150 [] [(0, .i a0), (9, .ptr 52 0 0), (11, .ptr 80 0 0), (81, .d (.sl (a1.map (cL (cI .i64))))), (82, .i (a1.length : Int)), (83, .i v155), (84, .b true)] [(52, some (.box [.ref 6040 0 l141.length, .ref 6041 0 l142.length, .ref 6042 0 l143.length, .i v144, .i v145, .ref 6045 0 l146.length, .ref 6046 0 l147.length])), (80, some (.box [.ref 6600 0 l148.length, .ref 6601 0 l149.length, .ref 6602 0 l150.length, .ref 6603 0 l151.length, .i v152, .i v153, .ref 6606 0 l154.length])), (6040, R78 l141), (6041, R78 l142), (6042, R80 l143), (6045, R3 l146), (6046, R3 l147), (6600, R3 l148), (6601, R3 l149), (6602, R3 l150), (6603, R84 l151), (6606, R3 l154)]) (by simp; exact Sub.table (by simp) (by simp)) ?_
              refine AW.skip ?_
              refine thenQ_normal ?_
              refine AW.seq ?_
              refine AW.block ?_
              refine AW.seqR ?_
              replace h := bsome h; obtain ⟨x358, hx358, h⟩ := h
              obtain ⟨k359, hx358k, hx358, hx358a, hx358b⟩ := idx_some hx358
              refine Chain.runK [] 3 fun K hK => ?_; simp [hx358, hx358k, hx358a]; refine hK _ _ ?_; clear hK K
              refine Chain.sub (S' := mk 150 [] [(0, .i a0), (9, .ptr 52 0 0), (11, .ptr 80 0 0), (13, .d (.sl (x358.map (cI .i64)))), (81, .d (.sl (a1.map (cL (cI .i64))))), (82, .i (a1.length : Int)), (83, .i v155)] [(52, some (.box [.ref 6040 0 l141.length, .ref 6041 0 l142.length, .ref 6042 0 l143.length, .i v144, .i v145, .ref 6045 0 l146.length, .ref 6046 0 l147.length])), (80, some (.box [.ref 6600 0 l148.length, .ref 6601 0 l149.length, .ref 6602 0 l150.length, .ref 6603 0 l151.length, .i v152, .i v153, .ref 6606 0 l154.length])), (6040, R78 l141), (6041, R78 l142), (6042, R80 l143), (6045, R3 l146), (6046, R3 l147), (6600, R3 l148), (6601, R3 l149), (6602, R3 l150), (6603, R84 l151), (6606, R3 l154)]) Sub.tt ?_
              refine Chain.nil ?_
              refine AW.seq ?_
              refine AW.seqR ?_
              refine Chain.runK [] 3 fun K hK => ?_; simp; refine hK _ _ ?_; clear hK K
              refine Chain.sub (S' := mk 150 [] [(0, .i a0), (9, .ptr 52 0 0), (11, .ptr 80 0 0), (81, .d (.sl (a1.map (cL (cI .i64))))), (82, .i (a1.length : Int)), (83, .i v155), (87, .ptr 52 0 0), (88, .ptr 80 0 0), (89, .d (.sl (x358.map (cI .i64))))] [(52, some (.box [.ref 6040 0 l141.length, .ref 6041 0 l142.length, .ref 6042 0 l143.length, .i v144, .i v145, .ref 6045 0 l146.length, .ref 6046 0 l147.length])), (80, some (.box [.ref 6600 0 l148.length, .ref 6601 0 l149.length, .ref 6602 0 l150.length, .ref 6603 0 l151.length, .i v152, .i v153, .ref 6606 0 l154.length])), (6040, R78 l141), (6041, R78 l142), (6042, R80 l143), (6045, R3 l146), (6046, R3 l147), (6600, R3 l148), (6601, R3 l149), (6602, R3 l150), (6603, R84 l151), (6606, R3 l154)]) Sub.tt ?_
              replace h := bsome h; obtain ⟨r360, hr360, h⟩ := h
              refine Chain.callF (p20 N (S74.mk l141 l142 l143 v144 v145 l146 l147) (S56.mk l148 l149 l150 l151 v152 v153 l154) x358 r360 hr360) [(52, 1000), (6040, 25000), (6041, 25001), (6042, 25002), (6045, 25005), (6046, 25006), (80, 2000), (6600, 45000), (6601, 45001), (6602, 45002), (6603, 45003), (6606, 45006)] [52, 80] [(1000, 52), (25000, 6040), (25001, 6041), (25002, 6042), (25005, 6045), (25006, 6046), (2000, 80), (45000, 6600), (45001, 6601), (45002, 6602), (45003, 6603), (45006, 6606)] [(52, (.box [.ref 6040 0 r360.1.buffer.length, .ref 6041 0 r360.1.disk.length, .ref 6042 0 r360.1.log.length, .i r360.1.flushed, .i r360.1.lastID, .ref 6045 0 r360.1.active.length, .ref 6046 0 r360.1.writer.length])), (6040, (.arr 78 2 (r360.1.buffer.map cS78))), (6041, (.arr 78 2 (r360.1.disk.map cS78))), (6042, (.arr 80 5 (r360.1.log.map cS80))), (6045, (.arr 3 1 (r360.1.active.map (cI .i64)))), (6046, (.arr 3 1 (r360.1.writer.map (cI .i64)))), (80, (.box [.ref 6600 0 r360.2.1.Buffer.length, .ref 6601 0 r360.2.1.Disk.length, .ref 6602 0 r360.2.1.DiskLSN.length, .ref 6603 0 r360.2.1.Log.length, .i r360.2.1.Flushed, .i r360.2.1.LastID, .ref 6606 0 r360.2.1.Active.length])), (6600, (.arr 3 1 (r360.2.1.Buffer.map (cI .i64)))), (6601, (.arr 3 1 (r360.2.1.Disk.map (cI .i64)))), (6602, (.arr 3 1 (r360.2.1.DiskLSN.map (cI .i64)))), (6603, (.arr 84 5 (r360.2.1.Log.map cS84))), (6606, (.arr 3 1 (r360.2.1.Active.map (cI .i64))))] (.b r360.2.2) (by simp) rfl (by simp <;> rfl) (by simp) (by simp) (by simp) (by simp) (by simp) ent20 (by simp) (by simp) (by simp) (by simp) (by simp) (by simp) ?_
              refine Chain.sub (S' := mk 150 [] [(0, .i a0), (9, .ptr 52 0 0), (11, .ptr 80 0 0), (81, .d (.sl (a1.map (cL (cI .i64))))), (82, .i (a1.length : Int)), (83, .i v155), (87, .ptr 52 0 0), (88, .ptr 80 0 0), (89, .d (.sl (x358.map (cI .i64)))), (90, .b r360.2.2)] [(52, some (.box [.ref 6040 0 r360.1.buffer.length, .ref 6041 0 r360.1.disk.length, .ref 6042 0 r360.1.log.length, .i r360.1.flushed, .i r360.1.lastID, .ref 6045 0 r360.1.active.length, .ref 6046 0 r360.1.writer.length])), (80, some (.box [.ref 6600 0 r360.2.1.Buffer.length, .ref 6601 0 r360.2.1.Disk.length, .ref 6602 0 r360.2.1.DiskLSN.length, .ref 6603 0 r360.2.1.Log.length, .i r360.2.1.Flushed, .i r360.2.1.LastID, .ref 6606 0 r360.2.1.Active.length])), (6040, R78 r360.1.buffer), (6041, R78 r360.1.disk), (6042, R80 r360.1.log), (6045, R3 r360.1.active), (6046, R3 r360.1.writer), (6600, R3 r360.2.1.Buffer), (6601, R3 r360.2.1.Disk), (6602, R3 r360.2.1.DiskLSN), (6603, R84 r360.2.1.Log), (6606, R3 r360.2.1.Active)]) (by simp; exact Sub.table (by simp) (by simp)) ?_
              refine Chain.runK [] 1 fun K hK => ?_; simp; refine hK _ _ ?_; clear hK K
              refine Chain.sub (S' := mk 150 [] [(0, .i a0), (9, .ptr 52 0 0), (11, .ptr 80 0 0), (81, .d (.sl (a1.map (cL (cI .i64))))), (82, .i (a1.length : Int)), (83, .i v155), (91, .b (!r360.2.2))] [(52, some (.box [.ref 6040 0 r360.1.buffer.length, .ref 6041 0 r360.1.disk.length, .ref 6042 0 r360.1.log.length, .i r360.1.flushed, .i r360.1.lastID, .ref 6045 0 r360.1.active.length, .ref 6046 0 r360.1.writer.length])), (80, some (.box [.ref 6600 0 r360.2.1.Buffer.length, .ref 6601 0 r360.2.1.Disk.length, .ref 6602 0 r360.2.1.DiskLSN.length, .ref 6603 0 r360.2.1.Log.length, .i r360.2.1.Flushed, .i r360.2.1.LastID, .ref 6606 0 r360.2.1.Active.length])), (6040, R78 r360.1.buffer), (6041, R78 r360.1.disk), (6042, R80 r360.1.log), (6045, R3 r360.1.active), (6046, R3 r360.1.writer), (6600, R3 r360.2.1.Buffer), (6601, R3 r360.2.1.Disk), (6602, R3 r360.2.1.DiskLSN), (6603, R84 r360.2.1.Log), (6606, R3 r360.2.1.Active)]) Sub.tt ?_
              refine Chain.nil ?_
              replace h := isome h; rcases h with ⟨c361, h⟩ | ⟨c361, h⟩
              ·have c361_ : (!r360.2.2) = true := c361
               refine AW.condT (b := (!r360.2.2)) rfl c361_ ?_
               refine AW.sub (Sub.bool 91 (b := (!r360.2.2)) rfl c361_) ?_
               refine AW.sub (S' := mk 150 [] [(0, .i a0), (9, .ptr 52 0 0), (11, .ptr 80 0 0), (81, .d (.sl (a1.map (cL (cI .i64))))), (82, .i (a1.length : Int)), (83, .i v155), (91, .b true)] [(52, some (.box [.ref 6040 0 r360.1.buffer.length, .ref 6041 0 r360.1.disk.length, .ref 6042 0 r360.1.log.length, .i r360.1.flushed, .i r360.1.lastID, .ref 6045 0 r360.1.active.length, .ref 6046 0 r360.1.writer.length])), (80, some (.box [.ref 6600 0 r360.2.1.Buffer.length, .ref 6601 0 r360.2.1.Disk.length, .ref 6602 0 r360.2.1.DiskLSN.length, .ref 6603 0 r360.2.1.Log.length, .i r360.2.1.Flushed, .i r360.2.1.LastID, .ref 6606 0 r360.2.1.Active.length])), (6040, R78 r360.1.buffer), (6041, R78 r360.1.disk), (6042, R80 r360.1.log), (6045, R3 r360.1.active), (6046, R3 r360.1.writer), (6600, R3 r360.2.1.Buffer), (6601, R3 r360.2.1.Disk), (6602, R3 r360.2.1.DiskLSN), (6603, R84 r360.2.1.Log), (6606, R3 r360.2.1.Active)]) (by simp; exact Sub.table (by simp) (by simp)) ?_
               refine AW.seqR ?_
               refine Chain.runK [] 1 fun K hK => ?_; simp; refine hK _ _ ?_; clear hK K
               refine Chain.sub (S' := mk 150 [] [(4, .b false)] []) Sub.tt ?_
               refine Chain.nil ?_
               refine AW.ret ?_
               cases h
               refine thenQ_pass (by simp) ?_
               refine blockQ.ret ?_
               refine thenQ_pass (by simp) ?_
               refine PostI.out (by simp) ?_
               rintro rfl
               refine blockQ.ret ?_
               refine PostJ.out (by simp) ?_
               rintro rfl
               refine thenQ_pass (by simp) ?_
               exact FinC.ret (by simp) (by simp)
              ·have c361_ : (!r360.2.2) = false := Bool.eq_false_iff.2 c361
               refine AW.condF (b := (!r360.2.2)) rfl c361_ ?_
               refine AW.sub (Sub.bool 91 (b := (!r360.2.2)) rfl c361_) ?_
               refine AW.sub (S' := mk 150 [] [(0, .i a0), (9, .ptr 52 0 0), (11, .ptr 80 0 0), (81, .d (.sl (a1.map (cL (cI .i64))))), (82, .i (a1.length : Int)), (83, .i v155), (91, .b false)] [(52, some (.box [.ref 6040 0 r360.1.buffer.length, .ref 6041 0 r360.1.disk.length, .ref 6042 0 r360.1.log.length, .i r360.1.flushed, .i r360.1.lastID, .ref 6045 0 r360.1.active.length, .ref 6046 0 r360.1.writer.length])), (80, some (.box [.ref 6600 0 r360.2.1.Buffer.length, .ref 6601 0 r360.2.1.Disk.length, .ref 6602 0 r360.2.1.DiskLSN.length, .ref 6603 0 r360.2.1.Log.length, .i r360.2.1.Flushed, .i r360.2.1.LastID, .ref 6606 0 r360.2.1.Active.length])), (6040, R78 r360.1.buffer), (6041, R78 r360.1.disk), (6042, R80 r360.1.log), (6045, R3 r360.1.active), (6046, R3 r360.1.writer), (6600, R3 r360.2.1.Buffer), (6601, R3 r360.2.1.Disk), (6602, R3 r360.2.1.DiskLSN), (6603, R84 r360.2.1.Log), (6606, R3 r360.2.1.Active)]) (by simp; exact Sub.table (by simp) (by simp)) ?_
               refine AW.skip ?_
               refine thenQ_normal ?_
               refine AW.seqR ?_
               refine Chain.runK [] 1 fun K hK => ?_; simp; refine hK _ _ ?_; clear hK K
               refine Chain.sub (S' := mk 150 [] [(0, .i a0), (9, .ptr 52 0 0), (11, .ptr 80 0 0), (81, .d (.sl (a1.map (cL (cI .i64))))), (82, .i (a1.length : Int)), (83, .i v155), (93, .ptr 52 0 0)] [(52, some (.box [.ref 6040 0 r360.1.buffer.length, .ref 6041 0 r360.1.disk.length, .ref 6042 0 r360.1.log.length, .i r360.1.flushed, .i r360.1.lastID, .ref 6045 0 r360.1.active.length, .ref 6046 0 r360.1.writer.length])), (80, some (.box [.ref 6600 0 r360.2.1.Buffer.length, .ref 6601 0 r360.2.1.Disk.length, .ref 6602 0 r360.2.1.DiskLSN.length, .ref 6603 0 r360.2.1.Log.length, .i r360.2.1.Flushed, .i r360.2.1.LastID, .ref 6606 0 r360.2.1.Active.length])), (6040, R78 r360.1.buffer), (6041, R78 r360.1.disk), (6042, R80 r360.1.log), (6045, R3 r360.1.active), (6046, R3 r360.1.writer), (6600, R3 r360.2.1.Buffer), (6601, R3 r360.2.1.Disk), (6602, R3 r360.2.1.DiskLSN), (6603, R84 r360.2.1.Log), (6606, R3 r360.2.1.Active)]) Sub.tt ?_
               replace h := bsome h; obtain ⟨r362, hr362, h⟩ := h
               refine Chain.callL (d := 94) (p21 N r360.1 r362 hr362) (by simp) rfl rfl (by simp <;> rfl) (by simp <;> rfl) ent21 (by simp <;> rfl) ?_
               refine Chain.sub (S' := mk 150 [] [(0, .i a0), (9, .ptr 52 0 0), (11, .ptr 80 0 0), (81, .d (.sl (a1.map (cL (cI .i64))))), (82, .i (a1.length : Int)), (83, .i v155), (93, .ptr 52 0 0), (94, .tup [.i r362.1, .i r362.2])] [(52, some (.box [.ref 6040 0 r360.1.buffer.length, .ref 6041 0 r360.1.disk.length, .ref 6042 0 r360.1.log.length, .i r360.1.flushed, .i r360.1.lastID, .ref 6045 0 r360.1.active.length, .ref 6046 0 r360.1.writer.length])), (80, some (.box [.ref 6600 0 r360.2.1.Buffer.length, .ref 6601 0 r360.2.1.Disk.length, .ref 6602 0 r360.2.1.DiskLSN.length, .ref 6603 0 r360.2.1.Log.length, .i r360.2.1.Flushed, .i r360.2.1.LastID, .ref 6606 0 r360.2.1.Active.length])), (6040, R78 r360.1.buffer), (6041, R78 r360.1.disk), (6042, R80 r360.1.log), (6045, R3 r360.1.active), (6046, R3 r360.1.writer), (6600, R3 r360.2.1.Buffer), (6601, R3 r360.2.1.Disk), (6602, R3 r360.2.1.DiskLSN), (6603, R84 r360.2.1.Log), (6606, R3 r360.2.1.Active)]) (by simp; exact Sub.table (by simp) (by simp)) ?_
               refine Chain.runK [] 5 fun K hK => ?_; simp; refine hK _ _ ?_; clear hK K
               refine Chain.sub (S' := mk 150 [] [(0, .i a0), (9, .ptr 52 0 0), (11, .ptr 80 0 0), (14, .i r362.1), (15, .i r362.2), (81, .d (.sl (a1.map (cL (cI .i64))))), (82, .i (a1.length : Int)), (83, .i v155)] [(52, some (.box [.ref 6040 0 r360.1.buffer.length, .ref 6041 0 r360.1.disk.length, .ref 6042 0 r360.1.log.length, .i r360.1.flushed, .i r360.1.lastID, .ref 6045 0 r360.1.active.length, .ref 6046 0 r360.1.writer.length])), (80, some (.box [.ref 6600 0 r360.2.1.Buffer.length, .ref 6601 0 r360.2.1.Disk.length, .ref 6602 0 r360.2.1.DiskLSN.length, .ref 6603 0 r360.2.1.Log.length, .i r360.2.1.Flushed, .i r360.2.1.LastID, .ref 6606 0 r360.2.1.Active.length])), (6040, R78 r360.1.buffer), (6041, R78 r360.1.disk), (6042, R80 r360.1.log), (6045, R3 r360.1.active), (6046, R3 r360.1.writer), (6600, R3 r360.2.1.Buffer), (6601, R3 r360.2.1.Disk), (6602, R3 r360.2.1.DiskLSN), (6603, R84 r360.2.1.Log), (6606, R3 r360.2.1.Active)]) Sub.tt ?_
               refine Chain.nil ?_
               refine AW.seq ?_
               replace h := bsome h; obtain ⟨v364, hj, h⟩ := h
               refine AW.cutR (mk 150 [] [(0, .i a0), (9, .ptr 52 0 0), (11, .ptr 80 0 0), (81, .d (.sl (a1.map (cL (cI .i64))))), (82, .i (a1.length : Int)), (83, .i v155), (111, .b v364)] [(52, some (.box [.ref 6040 0 r360.1.buffer.length, .ref 6041 0 r360.1.disk.length, .ref 6042 0 r360.1.log.length, .i r360.1.flushed, .i r360.1.lastID, .ref 6045 0 r360.1.active.length, .ref 6046 0 r360.1.writer.length])), (80, some (.box [.ref 6600 0 r360.2.1.Buffer.length, .ref 6601 0 r360.2.1.Disk.length, .ref 6602 0 r360.2.1.DiskLSN.length, .ref 6603 0 r360.2.1.Log.length, .i r360.2.1.Flushed, .i r360.2.1.LastID, .ref 6606 0 r360.2.1.Active.length])), (6040, R78 r360.1.buffer), (6041, R78 r360.1.disk), (6042, R80 r360.1.log), (6045, R3 r360.1.active), (6046, R3 r360.1.writer), (6600, R3 r360.2.1.Buffer), (6601, R3 r360.2.1.Disk), (6602, R3 r360.2.1.DiskLSN), (6603, R84 r360.2.1.Log), (6606, R3 r360.2.1.Active)]) ?_ ?_
               ·clear h; have h := hj; clear hj
                refine Chain.runK [] 8 fun K hK => ?_; simp; refine hK _ _ ?_; clear hK K
                refine Chain.sub (S' := mk 150 [] [(0, .i a0), (9, .ptr 52 0 0), (11, .ptr 80 0 0), (15, .i r362.2), (81, .d (.sl (a1.map (cL (cI .i64))))), (82, .i (a1.length : Int)), (83, .i v155), (104, .b (r362.1 != (r360.2.1.Log.length : Int)))] [(52, some (.box [.ref 6040 0 r360.1.buffer.length, .ref 6041 0 r360.1.disk.length, .ref 6042 0 r360.1.log.length, .i r360.1.flushed, .i r360.1.lastID, .ref 6045 0 r360.1.active.length, .ref 6046 0 r360.1.writer.length])), (80, some (.box [.ref 6600 0 r360.2.1.Buffer.length, .ref 6601 0 r360.2.1.Disk.length, .ref 6602 0 r360.2.1.DiskLSN.length, .ref 6603 0 r360.2.1.Log.length, .i r360.2.1.Flushed, .i r360.2.1.LastID, .ref 6606 0 r360.2.1.Active.length])), (6040, R78 r360.1.buffer), (6041, R78 r360.1.disk), (6042, R80 r360.1.log), (6045, R3 r360.1.active), (6046, R3 r360.1.writer), (6600, R3 r360.2.1.Buffer), (6601, R3 r360.2.1.Disk), (6602, R3 r360.2.1.DiskLSN), (6603, R84 r360.2.1.Log), (6606, R3 r360.2.1.Active)]) Sub.tt ?_
                replace h := isome h; rcases h with ⟨c365, h⟩ | ⟨c365, h⟩
                ·have c365_ : (r362.1 != (r360.2.1.Log.length : Int)) = true := c365
                 refine Chain.sub (Sub.bool 104 (b := (r362.1 != (r360.2.1.Log.length : Int))) rfl c365_) ?_
                 refine Chain.sub (S' := mk 150 [] [(0, .i a0), (9, .ptr 52 0 0), (11, .ptr 80 0 0), (15, .i r362.2), (81, .d (.sl (a1.map (cL (cI .i64))))), (82, .i (a1.length : Int)), (83, .i v155), (104, .b true)] [(52, some (.box [.ref 6040 0 r360.1.buffer.length, .ref 6041 0 r360.1.disk.length, .ref 6042 0 r360.1.log.length, .i r360.1.flushed, .i r360.1.lastID, .ref 6045 0 r360.1.active.length, .ref 6046 0 r360.1.writer.length])), (80, some (.box [.ref 6600 0 r360.2.1.Buffer.length, .ref 6601 0 r360.2.1.Disk.length, .ref 6602 0 r360.2.1.DiskLSN.length, .ref 6603 0 r360.2.1.Log.length, .i r360.2.1.Flushed, .i r360.2.1.LastID, .ref 6606 0 r360.2.1.Active.length])), (6040, R78 r360.1.buffer), (6041, R78 r360.1.disk), (6042, R80 r360.1.log), (6045, R3 r360.1.active), (6046, R3 r360.1.writer), (6600, R3 r360.2.1.Buffer), (6601, R3 r360.2.1.Disk), (6602, R3 r360.2.1.DiskLSN), (6603, R84 r360.2.1.Log), (6606, R3 r360.2.1.Active)]) (by simp; exact Sub.table (by simp) (by simp)) ?_
                 refine Chain.runK [] 7 fun K hK => ?_; simp; refine hK _ _ ?_; clear hK K
                 refine Chain.sub (S' := mk 150 [] [(0, .i a0), (9, .ptr 52 0 0), (11, .ptr 80 0 0), (81, .d (.sl (a1.map (cL (cI .i64))))), (82, .i (a1.length : Int)), (83, .i v155), (105, .tup []), (106, .tup []), (107, .tup []), (108, .tup []), (109, .tup []), (110, .tup []), (111, .b true)] [(52, some (.box [.ref 6040 0 r360.1.buffer.length, .ref 6041 0 r360.1.disk.length, .ref 6042 0 r360.1.log.length, .i r360.1.flushed, .i r360.1.lastID, .ref 6045 0 r360.1.active.length, .ref 6046 0 r360.1.writer.length])), (80, some (.box [.ref 6600 0 r360.2.1.Buffer.length, .ref 6601 0 r360.2.1.Disk.length, .ref 6602 0 r360.2.1.DiskLSN.length, .ref 6603 0 r360.2.1.Log.length, .i r360.2.1.Flushed, .i r360.2.1.LastID, .ref 6606 0 r360.2.1.Active.length])), (6040, R78 r360.1.buffer), (6041, R78 r360.1.disk), (6042, R80 r360.1.log), (6045, R3 r360.1.active), (6046, R3 r360.1.writer), (6600, R3 r360.2.1.Buffer), (6601, R3 r360.2.1.Disk), (6602, R3 r360.2.1.DiskLSN), (6603, R84 r360.2.1.Log), (6606, R3 r360.2.1.Active)]) Sub.tt ?_
                 cases h
                 exact Chain.nil Sub.tt
                ·have c365_ : (r362.1 != (r360.2.1.Log.length : Int)) = false := Bool.eq_false_iff.2 c365
                 refine Chain.sub (Sub.bool 104 (b := (r362.1 != (r360.2.1.Log.length : Int))) rfl c365_) ?_
                 refine Chain.sub (S' := mk 150 [] [(0, .i a0), (9, .ptr 52 0 0), (11, .ptr 80 0 0), (15, .i r362.2), (81, .d (.sl (a1.map (cL (cI .i64))))), (82, .i (a1.length : Int)), (83, .i v155), (104, .b false)] [(52, some (.box [.ref 6040 0 r360.1.buffer.length, .ref 6041 0 r360.1.disk.length, .ref 6042 0 r360.1.log.length, .i r360.1.flushed, .i r360.1.lastID, .ref 6045 0 r360.1.active.length, .ref 6046 0 r360.1.writer.length])), (80, some (.box [.ref 6600 0 r360.2.1.Buffer.length, .ref 6601 0 r360.2.1.Disk.length, .ref 6602 0 r360.2.1.DiskLSN.length, .ref 6603 0 r360.2.1.Log.length, .i r360.2.1.Flushed, .i r360.2.1.LastID, .ref 6606 0 r360.2.1.Active.length])), (6040, R78 r360.1.buffer), (6041, R78 r360.1.disk), (6042, R80 r360.1.log), (6045, R3 r360.1.active), (6046, R3 r360.1.writer), (6600, R3 r360.2.1.Buffer), (6601, R3 r360.2.1.Disk), (6602, R3 r360.2.1.DiskLSN), (6603, R84 r360.2.1.Log), (6606, R3 r360.2.1.Active)]) (by simp; exact Sub.table (by simp) (by simp)) ?_
                 refine Chain.runK [] 7 fun K hK => ?_; simp; refine hK _ _ ?_; clear hK K
                 refine Chain.sub (S' := mk 150 [] [(0, .i a0), (9, .ptr 52 0 0), (11, .ptr 80 0 0), (81, .d (.sl (a1.map (cL (cI .i64))))), (82, .i (a1.length : Int)), (83, .i v155), (105, .i r362.2), (106, .ptr 80 0 0), (107, .ptr 80 0 0), (108, .ptr 80 0 4), (109, .i r360.2.1.Flushed), (110, .b (r362.2 != r360.2.1.Flushed)), (111, .b (r362.2 != r360.2.1.Flushed))] [(52, some (.box [.ref 6040 0 r360.1.buffer.length, .ref 6041 0 r360.1.disk.length, .ref 6042 0 r360.1.log.length, .i r360.1.flushed, .i r360.1.lastID, .ref 6045 0 r360.1.active.length, .ref 6046 0 r360.1.writer.length])), (80, some (.box [.ref 6600 0 r360.2.1.Buffer.length, .ref 6601 0 r360.2.1.Disk.length, .ref 6602 0 r360.2.1.DiskLSN.length, .ref 6603 0 r360.2.1.Log.length, .i r360.2.1.Flushed, .i r360.2.1.LastID, .ref 6606 0 r360.2.1.Active.length])), (6040, R78 r360.1.buffer), (6041, R78 r360.1.disk), (6042, R80 r360.1.log), (6045, R3 r360.1.active), (6046, R3 r360.1.writer), (6600, R3 r360.2.1.Buffer), (6601, R3 r360.2.1.Disk), (6602, R3 r360.2.1.DiskLSN), (6603, R84 r360.2.1.Log), (6606, R3 r360.2.1.Active)]) Sub.tt ?_
                 cases h
                 exact Chain.nil Sub.tt
               ·clear hj
                replace h := isome h; rcases h with ⟨c366, h⟩ | ⟨c366, h⟩
                ·have c366_ : v364 = true := c366
                 refine AW.condT (b := v364) rfl c366_ ?_
                 refine AW.sub (Sub.bool 111 (b := v364) rfl c366_) ?_
                 refine AW.sub (S' := mk 150 [] [(0, .i a0), (9, .ptr 52 0 0), (11, .ptr 80 0 0), (81, .d (.sl (a1.map (cL (cI .i64))))), (82, .i (a1.length : Int)), (83, .i v155), (111, .b true)] [(52, some (.box [.ref 6040 0 r360.1.buffer.length, .ref 6041 0 r360.1.disk.length, .ref 6042 0 r360.1.log.length, .i r360.1.flushed, .i r360.1.lastID, .ref 6045 0 r360.1.active.length, .ref 6046 0 r360.1.writer.length])), (80, some (.box [.ref 6600 0 r360.2.1.Buffer.length, .ref 6601 0 r360.2.1.Disk.length, .ref 6602 0 r360.2.1.DiskLSN.length, .ref 6603 0 r360.2.1.Log.length, .i r360.2.1.Flushed, .i r360.2.1.LastID, .ref 6606 0 r360.2.1.Active.length])), (6040, R78 r360.1.buffer), (6041, R78 r360.1.disk), (6042, R80 r360.1.log), (6045, R3 r360.1.active), (6046, R3 r360.1.writer), (6600, R3 r360.2.1.Buffer), (6601, R3 r360.2.1.Disk), (6602, R3 r360.2.1.DiskLSN), (6603, R84 r360.2.1.Log), (6606, R3 r360.2.1.Active)]) (by simp; exact Sub.table (by simp) (by simp)) ?_
                 refine AW.seqR ?_
                 refine Chain.runK [] 1 fun K hK => ?_; simp; refine hK _ _ ?_; clear hK K
                 refine Chain.sub (S' := mk 150 [] [(4, .b false)] []) Sub.tt ?_
                 refine Chain.nil ?_
                 refine AW.ret ?_
                 cases h
                 refine thenQ_pass (by simp) ?_
                 refine blockQ.ret ?_
                 refine thenQ_pass (by simp) ?_
                 refine PostI.out (by simp) ?_
                 rintro rfl
                 refine blockQ.ret ?_
                 refine PostJ.out (by simp) ?_
                 rintro rfl
                 refine thenQ_pass (by simp) ?_
                 exact FinC.ret (by simp) (by simp)
                ·have c366_ : v364 = false := Bool.eq_false_iff.2 c366
                 refine AW.condF (b := v364) rfl c366_ ?_
                 refine AW.sub (Sub.bool 111 (b := v364) rfl c366_) ?_
                 refine AW.sub (S' := mk 150 [] [(0, .i a0), (9, .ptr 52 0 0), (11, .ptr 80 0 0), (81, .d (.sl (a1.map (cL (cI .i64))))), (82, .i (a1.length : Int)), (83, .i v155), (111, .b false)] [(52, some (.box [.ref 6040 0 r360.1.buffer.length, .ref 6041 0 r360.1.disk.length, .ref 6042 0 r360.1.log.length, .i r360.1.flushed, .i r360.1.lastID, .ref 6045 0 r360.1.active.length, .ref 6046 0 r360.1.writer.length])), (80, some (.box [.ref 6600 0 r360.2.1.Buffer.length, .ref 6601 0 r360.2.1.Disk.length, .ref 6602 0 r360.2.1.DiskLSN.length, .ref 6603 0 r360.2.1.Log.length, .i r360.2.1.Flushed, .i r360.2.1.LastID, .ref 6606 0 r360.2.1.Active.length])), (6040, R78 r360.1.buffer), (6041, R78 r360.1.disk), (6042, R80 r360.1.log), (6045, R3 r360.1.active), (6046, R3 r360.1.writer), (6600, R3 r360.2.1.Buffer), (6601, R3 r360.2.1.Disk), (6602, R3 r360.2.1.DiskLSN), (6603, R84 r360.2.1.Log), (6606, R3 r360.2.1.Active)]) (by simp; exact Sub.table (by simp) (by simp)) ?_
                 refine AW.skip ?_
                 refine thenQ_normal ?_
                 refine AW.seqR ?_
                 refine Chain.runK [] 1 fun K hK => ?_; simp; refine hK _ _ ?_; clear hK K
                 refine Chain.sub (S' := mk 150 [] [(0, .i a0), (9, .ptr 52 0 0), (11, .ptr 80 0 0), (16, .i (-1)), (81, .d (.sl (a1.map (cL (cI .i64))))), (82, .i (a1.length : Int)), (83, .i v155)] [(52, some (.box [.ref 6040 0 r360.1.buffer.length, .ref 6041 0 r360.1.disk.length, .ref 6042 0 r360.1.log.length, .i r360.1.flushed, .i r360.1.lastID, .ref 6045 0 r360.1.active.length, .ref 6046 0 r360.1.writer.length])), (80, some (.box [.ref 6600 0 r360.2.1.Buffer.length, .ref 6601 0 r360.2.1.Disk.length, .ref 6602 0 r360.2.1.DiskLSN.length, .ref 6603 0 r360.2.1.Log.length, .i r360.2.1.Flushed, .i r360.2.1.LastID, .ref 6606 0 r360.2.1.Active.length])), (6040, R78 r360.1.buffer), (6041, R78 r360.1.disk), (6042, R80 r360.1.log), (6045, R3 r360.1.active), (6046, R3 r360.1.writer), (6600, R3 r360.2.1.Buffer), (6601, R3 r360.2.1.Disk), (6602, R3 r360.2.1.DiskLSN), (6603, R84 r360.2.1.Log), (6606, R3 r360.2.1.Active)]) Sub.tt ?_
                 refine Chain.nil ?_
                 refine AW.lastJ (fun (_ : Unit) => mk 150 [] [(0, .i a0), (9, .ptr 52 0 0), (11, .ptr 80 0 0), (81, .d (.sl (a1.map (cL (cI .i64))))), (82, .i (a1.length : Int)), (83, .i v155)] [(52, some (.box [.ref 6040 0 r360.1.buffer.length, .ref 6041 0 r360.1.disk.length, .ref 6042 0 r360.1.log.length, .i r360.1.flushed, .i r360.1.lastID, .ref 6045 0 r360.1.active.length, .ref 6046 0 r360.1.writer.length])), (80, some (.box [.ref 6600 0 r360.2.1.Buffer.length, .ref 6601 0 r360.2.1.Disk.length, .ref 6602 0 r360.2.1.DiskLSN.length, .ref 6603 0 r360.2.1.Log.length, .i r360.2.1.Flushed, .i r360.2.1.LastID, .ref 6606 0 r360.2.1.Active.length])), (6040, R78 r360.1.buffer), (6041, R78 r360.1.disk), (6042, R80 r360.1.log), (6045, R3 r360.1.active), (6046, R3 r360.1.writer), (6600, R3 r360.2.1.Buffer), (6601, R3 r360.2.1.Disk), (6602, R3 r360.2.1.DiskLSN), (6603, R84 r360.2.1.Log), (6606, R3 r360.2.1.Active)]) h ?_ ?_ <;> clear h
                 ·intro o h
                  refine AW.block ?_
                  refine AW.iter (fun (v387 : Int) => mk 150 [] [(0, .i a0), (9, .ptr 52 0 0), (11, .ptr 80 0 0), (16, .i v387), (81, .d (.sl (a1.map (cL (cI .i64))))), (82, .i (a1.length : Int)), (83, .i v155)] [(52, some (.box [.ref 6040 0 r360.1.buffer.length, .ref 6041 0 r360.1.disk.length, .ref 6042 0 r360.1.log.length, .i r360.1.flushed, .i r360.1.lastID, .ref 6045 0 r360.1.active.length, .ref 6046 0 r360.1.writer.length])), (80, some (.box [.ref 6600 0 r360.2.1.Buffer.length, .ref 6601 0 r360.2.1.Disk.length, .ref 6602 0 r360.2.1.DiskLSN.length, .ref 6603 0 r360.2.1.Log.length, .i r360.2.1.Flushed, .i r360.2.1.LastID, .ref 6606 0 r360.2.1.Active.length])), (6040, R78 r360.1.buffer), (6041, R78 r360.1.disk), (6042, R80 r360.1.log), (6045, R3 r360.1.active), (6046, R3 r360.1.writer), (6600, R3 r360.2.1.Buffer), (6601, R3 r360.2.1.Disk), (6602, R3 r360.2.1.DiskLSN), (6603, R84 r360.2.1.Log), (6606, R3 r360.2.1.Active)]) h Sub.tt ?_
                  clear h
                  rintro v387 x h
                  refine AW.seq ?_
                  refine AW.seqR ?_
                  refine Chain.runK [] 3 fun K hK => ?_; simp; refine hK _ _ ?_; clear hK K
                  refine Chain.sub (S' := mk 150 [] [(0, .i a0), (9, .ptr 52 0 0), (11, .ptr 80 0 0), (16, .i v387), (81, .d (.sl (a1.map (cL (cI .i64))))), (82, .i (a1.length : Int)), (83, .i v155), (114, .b (decide (v387 ≤ a0)))] [(52, some (.box [.ref 6040 0 r360.1.buffer.length, .ref 6041 0 r360.1.disk.length, .ref 6042 0 r360.1.log.length, .i r360.1.flushed, .i r360.1.lastID, .ref 6045 0 r360.1.active.length, .ref 6046 0 r360.1.writer.length])), (80, some (.box [.ref 6600 0 r360.2.1.Buffer.length, .ref 6601 0 r360.2.1.Disk.length, .ref 6602 0 r360.2.1.DiskLSN.length, .ref 6603 0 r360.2.1.Log.length, .i r360.2.1.Flushed, .i r360.2.1.LastID, .ref 6606 0 r360.2.1.Active.length])), (6040, R78 r360.1.buffer), (6041, R78 r360.1.disk), (6042, R80 r360.1.log), (6045, R3 r360.1.active), (6046, R3 r360.1.writer), (6600, R3 r360.2.1.Buffer), (6601, R3 r360.2.1.Disk), (6602, R3 r360.2.1.DiskLSN), (6603, R84 r360.2.1.Log), (6606, R3 r360.2.1.Active)]) Sub.tt ?_
                  refine Chain.nil ?_
                  replace h := isome h; rcases h with ⟨c429, h⟩ | ⟨c429, h⟩
                  ·have c429_ : decide (v387 ≤ a0) = true := decide_eq_true c429
                   refine AW.condT (b := decide (v387 ≤ a0)) rfl c429_ ?_
                   refine AW.sub (Sub.bool 114 (b := decide (v387 ≤ a0)) rfl c429_) ?_
                   refine AW.sub (S' := mk 150 [] [(0, .i a0), (9, .ptr 52 0 0), (11, .ptr 80 0 0), (16, .i v387), (81, .d (.sl (a1.map (cL (cI .i64))))), (82, .i (a1.length : Int)), (83, .i v155), (114, .b true)] [(52, some (.box [.ref 6040 0 r360.1.buffer.length, .ref 6041 0 r360.1.disk.length, .ref 6042 0 r360.1.log.length, .i r360.1.flushed, .i r360.1.lastID, .ref 6045 0 r360.1.active.length, .ref 6046 0 r360.1.writer.length])), (80, some (.box [.ref 6600 0 r360.2.1.Buffer.length, .ref 6601 0 r360.2.1.Disk.length, .ref 6602 0 r360.2.1.DiskLSN.length, .ref 6603 0 r360.2.1.Log.length, .i r360.2.1.Flushed, .i r360.2.1.LastID, .ref 6606 0 r360.2.1.Active.length])), (6040, R78 r360.1.buffer), (6041, R78 r360.1.disk), (6042, R80 r360.1.log), (6045, R3 r360.1.active), (6046, R3 r360.1.writer), (6600, R3 r360.2.1.Buffer), (6601, R3 r360.2.1.Disk), (6602, R3 r360.2.1.DiskLSN), (6603, R84 r360.2.1.Log), (6606, R3 r360.2.1.Active)]) (by simp; exact Sub.table (by simp) (by simp)) ?_
                   refine AW.skip ?_
                   refine thenQ_normal ?_
                   refine AW.seq ?_
                   refine AW.block ?_
                   refine AW.seqR ?_
                   refine Chain.runK [] 2 fun K hK => ?_; simp; refine hK _ _ ?_; clear hK K
                   refine Chain.sub (S' := mk 150 [] [(0, .i a0), (9, .ptr 52 0 0), (11, .ptr 80 0 0), (16, .i v387), (81, .d (.sl (a1.map (cL (cI .i64))))), (82, .i (a1.length : Int)), (83, .i v155), (118, .ptr 52 0 0), (119, .i v387)] [(52, some (.box [.ref 6040 0 r360.1.buffer.length, .ref 6041 0 r360.1.disk.length, .ref 6042 0 r360.1.log.length, .i r360.1.flushed, .i r360.1.lastID, .ref 6045 0 r360.1.active.length, .ref 6046 0 r360.1.writer.length])), (80, some (.box [.ref 6600 0 r360.2.1.Buffer.length, .ref 6601 0 r360.2.1.Disk.length, .ref 6602 0 r360.2.1.DiskLSN.length, .ref 6603 0 r360.2.1.Log.length, .i r360.2.1.Flushed, .i r360.2.1.LastID, .ref 6606 0 r360.2.1.Active.length])), (6040, R78 r360.1.buffer), (6041, R78 r360.1.disk), (6042, R80 r360.1.log), (6045, R3 r360.1.active), (6046, R3 r360.1.writer), (6600, R3 r360.2.1.Buffer), (6601, R3 r360.2.1.Disk), (6602, R3 r360.2.1.DiskLSN), (6603, R84 r360.2.1.Log), (6606, R3 r360.2.1.Active)]) Sub.tt ?_
                   replace h := bsome h; obtain ⟨r430, hr430, h⟩ := h
                   refine Chain.callL (d := 120) (p22 N r360.1 v387 r430 hr430) (by simp) rfl rfl (by simp <;> rfl) (by simp <;> rfl) ent22 (by simp <;> rfl) ?_
                   refine Chain.sub (S' := mk 150 [] [(0, .i a0), (9, .ptr 52 0 0), (11, .ptr 80 0 0), (16, .i v387), (81, .d (.sl (a1.map (cL (cI .i64))))), (82, .i (a1.length : Int)), (83, .i v155), (118, .ptr 52 0 0), (119, .i v387), (120, .tup [.i r430.1, .i r430.2])] [(52, some (.box [.ref 6040 0 r360.1.buffer.length, .ref 6041 0 r360.1.disk.length, .ref 6042 0 r360.1.log.length, .i r360.1.flushed, .i r360.1.lastID, .ref 6045 0 r360.1.active.length, .ref 6046 0 r360.1.writer.length])), (80, some (.box [.ref 6600 0 r360.2.1.Buffer.length, .ref 6601 0 r360.2.1.Disk.length, .ref 6602 0 r360.2.1.DiskLSN.length, .ref 6603 0 r360.2.1.Log.length, .i r360.2.1.Flushed, .i r360.2.1.LastID, .ref 6606 0 r360.2.1.Active.length])), (6040, R78 r360.1.buffer), (6041, R78 r360.1.disk), (6042, R80 r360.1.log), (6045, R3 r360.1.active), (6046, R3 r360.1.writer), (6600, R3 r360.2.1.Buffer), (6601, R3 r360.2.1.Disk), (6602, R3 r360.2.1.DiskLSN), (6603, R84 r360.2.1.Log), (6606, R3 r360.2.1.Active)]) (by simp; exact Sub.table (by simp) (by simp)) ?_
                   refine Chain.runK [] 5 fun K hK => ?_; simp; refine hK _ _ ?_; clear hK K
                   refine Chain.sub (S' := mk 150 [] [(0, .i a0), (9, .ptr 52 0 0), (11, .ptr 80 0 0), (16, .i v387), (17, .i r430.1), (18, .i r430.2), (81, .d (.sl (a1.map (cL (cI .i64))))), (82, .i (a1.length : Int)), (83, .i v155)] [(52, some (.box [.ref 6040 0 r360.1.buffer.length, .ref 6041 0 r360.1.disk.length, .ref 6042 0 r360.1.log.length, .i r360.1.flushed, .i r360.1.lastID, .ref 6045 0 r360.1.active.length, .ref 6046 0 r360.1.writer.length])), (80, some (.box [.ref 6600 0 r360.2.1.Buffer.length, .ref 6601 0 r360.2.1.Disk.length, .ref 6602 0 r360.2.1.DiskLSN.length, .ref 6603 0 r360.2.1.Log.length, .i r360.2.1.Flushed, .i r360.2.1.LastID, .ref 6606 0 r360.2.1.Active.length])), (6040, R78 r360.1.buffer), (6041, R78 r360.1.disk), (6042, R80 r360.1.log), (6045, R3 r360.1.active), (6046, R3 r360.1.writer), (6600, R3 r360.2.1.Buffer), (6601, R3 r360.2.1.Disk), (6602, R3 r360.2.1.DiskLSN), (6603, R84 r360.2.1.Log), (6606, R3 r360.2.1.Active)]) Sub.tt ?_
                   refine Chain.nil ?_
                   replace h := bsome h; obtain ⟨v432, hj, h⟩ := h
                   refine AW.cutR (mk 150 [] [(0, .i a0), (9, .ptr 52 0 0), (11, .ptr 80 0 0), (16, .i v387), (17, .i r430.1), (18, .i r430.2), (81, .d (.sl (a1.map (cL (cI .i64))))), (82, .i (a1.length : Int)), (83, .i v155), (129, .b v432)] [(52, some (.box [.ref 6040 0 r360.1.buffer.length, .ref 6041 0 r360.1.disk.length, .ref 6042 0 r360.1.log.length, .i r360.1.flushed, .i r360.1.lastID, .ref 6045 0 r360.1.active.length, .ref 6046 0 r360.1.writer.length])), (80, some (.box [.ref 6600 0 r360.2.1.Buffer.length, .ref 6601 0 r360.2.1.Disk.length, .ref 6602 0 r360.2.1.DiskLSN.length, .ref 6603 0 r360.2.1.Log.length, .i r360.2.1.Flushed, .i r360.2.1.LastID, .ref 6606 0 r360.2.1.Active.length])), (6040, R78 r360.1.buffer), (6041, R78 r360.1.disk), (6042, R80 r360.1.log), (6045, R3 r360.1.active), (6046, R3 r360.1.writer), (6600, R3 r360.2.1.Buffer), (6601, R3 r360.2.1.Disk), (6602, R3 r360.2.1.DiskLSN), (6603, R84 r360.2.1.Log), (6606, R3 r360.2.1.Active)]) ?_ ?_
                   ·clear h; have h := hj; clear hj
                    refine Chain.runK [] 3 fun K hK => ?_; simp; refine hK _ _ ?_; clear hK K
                    refine Chain.sub (S' := mk 150 [] [(0, .i a0), (9, .ptr 52 0 0), (11, .ptr 80 0 0), (16, .i v387), (17, .i r430.1), (18, .i r430.2), (81, .d (.sl (a1.map (cL (cI .i64))))), (82, .i (a1.length : Int)), (83, .i v155), (125, .b (decide (v387 < 0)))] [(52, some (.box [.ref 6040 0 r360.1.buffer.length, .ref 6041 0 r360.1.disk.length, .ref 6042 0 r360.1.log.length, .i r360.1.flushed, .i r360.1.lastID, .ref 6045 0 r360.1.active.length, .ref 6046 0 r360.1.writer.length])), (80, some (.box [.ref 6600 0 r360.2.1.Buffer.length, .ref 6601 0 r360.2.1.Disk.length, .ref 6602 0 r360.2.1.DiskLSN.length, .ref 6603 0 r360.2.1.Log.length, .i r360.2.1.Flushed, .i r360.2.1.LastID, .ref 6606 0 r360.2.1.Active.length])), (6040, R78 r360.1.buffer), (6041, R78 r360.1.disk), (6042, R80 r360.1.log), (6045, R3 r360.1.active), (6046, R3 r360.1.writer), (6600, R3 r360.2.1.Buffer), (6601, R3 r360.2.1.Disk), (6602, R3 r360.2.1.DiskLSN), (6603, R84 r360.2.1.Log), (6606, R3 r360.2.1.Active)]) Sub.tt ?_
                    replace h := isome h; rcases h with ⟨c433, h⟩ | ⟨c433, h⟩
                    ·have c433_ : decide (v387 < 0) = true := decide_eq_true c433
                     refine Chain.sub (Sub.bool 125 (b := decide (v387 < 0)) rfl c433_) ?_
                     refine Chain.sub (S' := mk 150 [] [(0, .i a0), (9, .ptr 52 0 0), (11, .ptr 80 0 0), (16, .i v387), (17, .i r430.1), (18, .i r430.2), (81, .d (.sl (a1.map (cL (cI .i64))))), (82, .i (a1.length : Int)), (83, .i v155), (125, .b true)] [(52, some (.box [.ref 6040 0 r360.1.buffer.length, .ref 6041 0 r360.1.disk.length, .ref 6042 0 r360.1.log.length, .i r360.1.flushed, .i r360.1.lastID, .ref 6045 0 r360.1.active.length, .ref 6046 0 r360.1.writer.length])), (80, some (.box [.ref 6600 0 r360.2.1.Buffer.length, .ref 6601 0 r360.2.1.Disk.length, .ref 6602 0 r360.2.1.DiskLSN.length, .ref 6603 0 r360.2.1.Log.length, .i r360.2.1.Flushed, .i r360.2.1.LastID, .ref 6606 0 r360.2.1.Active.length])), (6040, R78 r360.1.buffer), (6041, R78 r360.1.disk), (6042, R80 r360.1.log), (6045, R3 r360.1.active), (6046, R3 r360.1.writer), (6600, R3 r360.2.1.Buffer), (6601, R3 r360.2.1.Disk), (6602, R3 r360.2.1.DiskLSN), (6603, R84 r360.2.1.Log), (6606, R3 r360.2.1.Active)]) (by simp; exact Sub.table (by simp) (by simp)) ?_
                     refine Chain.runK [] 4 fun K hK => ?_; simp; refine hK _ _ ?_; clear hK K
                     refine Chain.sub (S' := mk 150 [] [(0, .i a0), (9, .ptr 52 0 0), (11, .ptr 80 0 0), (16, .i v387), (17, .i r430.1), (18, .i r430.2), (81, .d (.sl (a1.map (cL (cI .i64))))), (82, .i (a1.length : Int)), (83, .i v155), (126, .tup []), (127, .tup []), (128, .tup []), (129, .b true)] [(52, some (.box [.ref 6040 0 r360.1.buffer.length, .ref 6041 0 r360.1.disk.length, .ref 6042 0 r360.1.log.length, .i r360.1.flushed, .i r360.1.lastID, .ref 6045 0 r360.1.active.length, .ref 6046 0 r360.1.writer.length])), (80, some (.box [.ref 6600 0 r360.2.1.Buffer.length, .ref 6601 0 r360.2.1.Disk.length, .ref 6602 0 r360.2.1.DiskLSN.length, .ref 6603 0 r360.2.1.Log.length, .i r360.2.1.Flushed, .i r360.2.1.LastID, .ref 6606 0 r360.2.1.Active.length])), (6040, R78 r360.1.buffer), (6041, R78 r360.1.disk), (6042, R80 r360.1.log), (6045, R3 r360.1.active), (6046, R3 r360.1.writer), (6600, R3 r360.2.1.Buffer), (6601, R3 r360.2.1.Disk), (6602, R3 r360.2.1.DiskLSN), (6603, R84 r360.2.1.Log), (6606, R3 r360.2.1.Active)]) Sub.tt ?_
                     cases h
                     exact Chain.nil Sub.tt
                    ·have c433_ : decide (v387 < 0) = false := decide_eq_false c433
                     refine Chain.sub (Sub.bool 125 (b := decide (v387 < 0)) rfl c433_) ?_
                     refine Chain.sub (S' := mk 150 [] [(0, .i a0), (9, .ptr 52 0 0), (11, .ptr 80 0 0), (16, .i v387), (17, .i r430.1), (18, .i r430.2), (81, .d (.sl (a1.map (cL (cI .i64))))), (82, .i (a1.length : Int)), (83, .i v155), (125, .b false)] [(52, some (.box [.ref 6040 0 r360.1.buffer.length, .ref 6041 0 r360.1.disk.length, .ref 6042 0 r360.1.log.length, .i r360.1.flushed, .i r360.1.lastID, .ref 6045 0 r360.1.active.length, .ref 6046 0 r360.1.writer.length])), (80, some (.box [.ref 6600 0 r360.2.1.Buffer.length, .ref 6601 0 r360.2.1.Disk.length, .ref 6602 0 r360.2.1.DiskLSN.length, .ref 6603 0 r360.2.1.Log.length, .i r360.2.1.Flushed, .i r360.2.1.LastID, .ref 6606 0 r360.2.1.Active.length])), (6040, R78 r360.1.buffer), (6041, R78 r360.1.disk), (6042, R80 r360.1.log), (6045, R3 r360.1.active), (6046, R3 r360.1.writer), (6600, R3 r360.2.1.Buffer), (6601, R3 r360.2.1.Disk), (6602, R3 r360.2.1.DiskLSN), (6603, R84 r360.2.1.Log), (6606, R3 r360.2.1.Active)]) (by simp; exact Sub.table (by simp) (by simp)) ?_
                     refine Chain.runK [] 4 fun K hK => ?_; simp; refine hK _ _ ?_; clear hK K
                     refine Chain.sub (S' := mk 150 [] [(0, .i a0), (9, .ptr 52 0 0), (11, .ptr 80 0 0), (16, .i v387), (17, .i r430.1), (18, .i r430.2), (81, .d (.sl (a1.map (cL (cI .i64))))), (82, .i (a1.length : Int)), (83, .i v155), (126, .i v387), (127, .i a0), (128, .b (v387 == a0)), (129, .b (v387 == a0))] [(52, some (.box [.ref 6040 0 r360.1.buffer.length, .ref 6041 0 r360.1.disk.length, .ref 6042 0 r360.1.log.length, .i r360.1.flushed, .i r360.1.lastID, .ref 6045 0 r360.1.active.length, .ref 6046 0 r360.1.writer.length])), (80, some (.box [.ref 6600 0 r360.2.1.Buffer.length, .ref 6601 0 r360.2.1.Disk.length, .ref 6602 0 r360.2.1.DiskLSN.length, .ref 6603 0 r360.2.1.Log.length, .i r360.2.1.Flushed, .i r360.2.1.LastID, .ref 6606 0 r360.2.1.Active.length])), (6040, R78 r360.1.buffer), (6041, R78 r360.1.disk), (6042, R80 r360.1.log), (6045, R3 r360.1.active), (6046, R3 r360.1.writer), (6600, R3 r360.2.1.Buffer), (6601, R3 r360.2.1.Disk), (6602, R3 r360.2.1.DiskLSN), (6603, R84 r360.2.1.Log), (6606, R3 r360.2.1.Active)]) Sub.tt ?_
                     cases h
                     exact Chain.nil Sub.tt
                   ·clear hj
                    replace h := isome h; rcases h with ⟨c434, h⟩ | ⟨c434, h⟩
                    ·have c434_ : v432 = true := c434
                     refine AW.condT (b := v432) rfl c434_ ?_
                     refine AW.sub (Sub.bool 129 (b := v432) rfl c434_) ?_
                     refine AW.sub (S' := mk 150 [] [(0, .i a0), (9, .ptr 52 0 0), (11, .ptr 80 0 0), (16, .i v387), (17, .i r430.1), (18, .i r430.2), (81, .d (.sl (a1.map (cL (cI .i64))))), (82, .i (a1.length : Int)), (83, .i v155), (129, .b true)] [(52, some (.box [.ref 6040 0 r360.1.buffer.length, .ref 6041 0 r360.1.disk.length, .ref 6042 0 r360.1.log.length, .i r360.1.flushed, .i r360.1.lastID, .ref 6045 0 r360.1.active.length, .ref 6046 0 r360.1.writer.length])), (80, some (.box [.ref 6600 0 r360.2.1.Buffer.length, .ref 6601 0 r360.2.1.Disk.length, .ref 6602 0 r360.2.1.DiskLSN.length, .ref 6603 0 r360.2.1.Log.length, .i r360.2.1.Flushed, .i r360.2.1.LastID, .ref 6606 0 r360.2.1.Active.length])), (6040, R78 r360.1.buffer), (6041, R78 r360.1.disk), (6042, R80 r360.1.log), (6045, R3 r360.1.active), (6046, R3 r360.1.writer), (6600, R3 r360.2.1.Buffer), (6601, R3 r360.2.1.Disk), (6602, R3 r360.2.1.DiskLSN), (6603, R84 r360.2.1.Log), (6606, R3 r360.2.1.Active)]) (by simp; exact Sub.table (by simp) (by simp)) ?_
                     replace h := bsome h; obtain ⟨v436, hj, h⟩ := h
                     refine AW.cutR (mk 150 [] [(0, .i a0), (9, .ptr 52 0 0), (11, .ptr 80 0 0), (16, .i v387), (81, .d (.sl (a1.map (cL (cI .i64))))), (82, .i (a1.length : Int)), (83, .i v155), (135, .b v436)] [(52, some (.box [.ref 6040 0 r360.1.buffer.length, .ref 6041 0 r360.1.disk.length, .ref 6042 0 r360.1.log.length, .i r360.1.flushed, .i r360.1.lastID, .ref 6045 0 r360.1.active.length, .ref 6046 0 r360.1.writer.length])), (80, some (.box [.ref 6600 0 r360.2.1.Buffer.length, .ref 6601 0 r360.2.1.Disk.length, .ref 6602 0 r360.2.1.DiskLSN.length, .ref 6603 0 r360.2.1.Log.length, .i r360.2.1.Flushed, .i r360.2.1.LastID, .ref 6606 0 r360.2.1.Active.length])), (6040, R78 r360.1.buffer), (6041, R78 r360.1.disk), (6042, R80 r360.1.log), (6045, R3 r360.1.active), (6046, R3 r360.1.writer), (6600, R3 r360.2.1.Buffer), (6601, R3 r360.2.1.Disk), (6602, R3 r360.2.1.DiskLSN), (6603, R84 r360.2.1.Log), (6606, R3 r360.2.1.Active)]) ?_ ?_
                     ·clear h; have h := hj; clear hj
                      refine Chain.runK [] 3 fun K hK => ?_; simp; refine hK _ _ ?_; clear hK K
                      refine Chain.sub (S' := mk 150 [] [(0, .i a0), (9, .ptr 52 0 0), (11, .ptr 80 0 0), (16, .i v387), (17, .i r430.1), (81, .d (.sl (a1.map (cL (cI .i64))))), (82, .i (a1.length : Int)), (83, .i v155), (132, .b (r430.2 != 1))] [(52, some (.box [.ref 6040 0 r360.1.buffer.length, .ref 6041 0 r360.1.disk.length, .ref 6042 0 r360.1.log.length, .i r360.1.flushed, .i r360.1.lastID, .ref 6045 0 r360.1.active.length, .ref 6046 0 r360.1.writer.length])), (80, some (.box [.ref 6600 0 r360.2.1.Buffer.length, .ref 6601 0 r360.2.1.Disk.length, .ref 6602 0 r360.2.1.DiskLSN.length, .ref 6603 0 r360.2.1.Log.length, .i r360.2.1.Flushed, .i r360.2.1.LastID, .ref 6606 0 r360.2.1.Active.length])), (6040, R78 r360.1.buffer), (6041, R78 r360.1.disk), (6042, R80 r360.1.log), (6045, R3 r360.1.active), (6046, R3 r360.1.writer), (6600, R3 r360.2.1.Buffer), (6601, R3 r360.2.1.Disk), (6602, R3 r360.2.1.DiskLSN), (6603, R84 r360.2.1.Log), (6606, R3 r360.2.1.Active)]) Sub.tt ?_
                      replace h := isome h; rcases h with ⟨c437, h⟩ | ⟨c437, h⟩
                      ·have c437_ : (r430.2 != 1) = true := c437
                       refine Chain.sub (Sub.bool 132 (b := (r430.2 != 1)) rfl c437_) ?_
                       refine Chain.sub (S' := mk 150 [] [(0, .i a0), (9, .ptr 52 0 0), (11, .ptr 80 0 0), (16, .i v387), (17, .i r430.1), (81, .d (.sl (a1.map (cL (cI .i64))))), (82, .i (a1.length : Int)), (83, .i v155), (132, .b true)] [(52, some (.box [.ref 6040 0 r360.1.buffer.length, .ref 6041 0 r360.1.disk.length, .ref 6042 0 r360.1.log.length, .i r360.1.flushed, .i r360.1.lastID, .ref 6045 0 r360.1.active.length, .ref 6046 0 r360.1.writer.length])), (80, some (.box [.ref 6600 0 r360.2.1.Buffer.length, .ref 6601 0 r360.2.1.Disk.length, .ref 6602 0 r360.2.1.DiskLSN.length, .ref 6603 0 r360.2.1.Log.length, .i r360.2.1.Flushed, .i r360.2.1.LastID, .ref 6606 0 r360.2.1.Active.length])), (6040, R78 r360.1.buffer), (6041, R78 r360.1.disk), (6042, R80 r360.1.log), (6045, R3 r360.1.active), (6046, R3 r360.1.writer), (6600, R3 r360.2.1.Buffer), (6601, R3 r360.2.1.Disk), (6602, R3 r360.2.1.DiskLSN), (6603, R84 r360.2.1.Log), (6606, R3 r360.2.1.Active)]) (by simp; exact Sub.table (by simp) (by simp)) ?_
                       refine Chain.runK [] 3 fun K hK => ?_; simp; refine hK _ _ ?_; clear hK K
                       refine Chain.sub (S' := mk 150 [] [(0, .i a0), (9, .ptr 52 0 0), (11, .ptr 80 0 0), (16, .i v387), (81, .d (.sl (a1.map (cL (cI .i64))))), (82, .i (a1.length : Int)), (83, .i v155), (133, .tup []), (134, .tup []), (135, .b true)] [(52, some (.box [.ref 6040 0 r360.1.buffer.length, .ref 6041 0 r360.1.disk.length, .ref 6042 0 r360.1.log.length, .i r360.1.flushed, .i r360.1.lastID, .ref 6045 0 r360.1.active.length, .ref 6046 0 r360.1.writer.length])), (80, some (.box [.ref 6600 0 r360.2.1.Buffer.length, .ref 6601 0 r360.2.1.Disk.length, .ref 6602 0 r360.2.1.DiskLSN.length, .ref 6603 0 r360.2.1.Log.length, .i r360.2.1.Flushed, .i r360.2.1.LastID, .ref 6606 0 r360.2.1.Active.length])), (6040, R78 r360.1.buffer), (6041, R78 r360.1.disk), (6042, R80 r360.1.log), (6045, R3 r360.1.active), (6046, R3 r360.1.writer), (6600, R3 r360.2.1.Buffer), (6601, R3 r360.2.1.Disk), (6602, R3 r360.2.1.DiskLSN), (6603, R84 r360.2.1.Log), (6606, R3 r360.2.1.Active)]) Sub.tt ?_
                       cases h
                       exact Chain.nil Sub.tt
                      ·have c437_ : (r430.2 != 1) = false := Bool.eq_false_iff.2 c437
                       refine Chain.sub (Sub.bool 132 (b := (r430.2 != 1)) rfl c437_) ?_
                       refine Chain.sub (S' := mk 150 [] [(0, .i a0), (9, .ptr 52 0 0), (11, .ptr 80 0 0), (16, .i v387), (17, .i r430.1), (81, .d (.sl (a1.map (cL (cI .i64))))), (82, .i (a1.length : Int)), (83, .i v155), (132, .b false)] [(52, some (.box [.ref 6040 0 r360.1.buffer.length, .ref 6041 0 r360.1.disk.length, .ref 6042 0 r360.1.log.length, .i r360.1.flushed, .i r360.1.lastID, .ref 6045 0 r360.1.active.length, .ref 6046 0 r360.1.writer.length])), (80, some (.box [.ref 6600 0 r360.2.1.Buffer.length, .ref 6601 0 r360.2.1.Disk.length, .ref 6602 0 r360.2.1.DiskLSN.length, .ref 6603 0 r360.2.1.Log.length, .i r360.2.1.Flushed, .i r360.2.1.LastID, .ref 6606 0 r360.2.1.Active.length])), (6040, R78 r360.1.buffer), (6041, R78 r360.1.disk), (6042, R80 r360.1.log), (6045, R3 r360.1.active), (6046, R3 r360.1.writer), (6600, R3 r360.2.1.Buffer), (6601, R3 r360.2.1.Disk), (6602, R3 r360.2.1.DiskLSN), (6603, R84 r360.2.1.Log), (6606, R3 r360.2.1.Active)]) (by simp; exact Sub.table (by simp) (by simp)) ?_
                       refine Chain.runK [] 3 fun K hK => ?_; simp; refine hK _ _ ?_; clear hK K
                       refine Chain.sub (S' := mk 150 [] [(0, .i a0), (9, .ptr 52 0 0), (11, .ptr 80 0 0), (16, .i v387), (81, .d (.sl (a1.map (cL (cI .i64))))), (82, .i (a1.length : Int)), (83, .i v155), (133, .i r430.1), (134, .b (r430.1 != 0)), (135, .b (r430.1 != 0))] [(52, some (.box [.ref 6040 0 r360.1.buffer.length, .ref 6041 0 r360.1.disk.length, .ref 6042 0 r360.1.log.length, .i r360.1.flushed, .i r360.1.lastID, .ref 6045 0 r360.1.active.length, .ref 6046 0 r360.1.writer.length])), (80, some (.box [.ref 6600 0 r360.2.1.Buffer.length, .ref 6601 0 r360.2.1.Disk.length, .ref 6602 0 r360.2.1.DiskLSN.length, .ref 6603 0 r360.2.1.Log.length, .i r360.2.1.Flushed, .i r360.2.1.LastID, .ref 6606 0 r360.2.1.Active.length])), (6040, R78 r360.1.buffer), (6041, R78 r360.1.disk), (6042, R80 r360.1.log), (6045, R3 r360.1.active), (6046, R3 r360.1.writer), (6600, R3 r360.2.1.Buffer), (6601, R3 r360.2.1.Disk), (6602, R3 r360.2.1.DiskLSN), (6603, R84 r360.2.1.Log), (6606, R3 r360.2.1.Active)]) Sub.tt ?_
                       cases h
                       exact Chain.nil Sub.tt
                     ·clear hj
                      replace h := isome h; rcases h with ⟨c438, h⟩ | ⟨c438, h⟩
                      ·have c438_ : v436 = true := c438
                       refine AW.condT (b := v436) rfl c438_ ?_
                       refine AW.sub (Sub.bool 135 (b := v436) rfl c438_) ?_
                       refine AW.sub (S' := mk 150 [] [(0, .i a0), (9, .ptr 52 0 0), (11, .ptr 80 0 0), (16, .i v387), (81, .d (.sl (a1.map (cL (cI .i64))))), (82, .i (a1.length : Int)), (83, .i v155), (135, .b true)] [(52, some (.box [.ref 6040 0 r360.1.buffer.length, .ref 6041 0 r360.1.disk.length, .ref 6042 0 r360.1.log.length, .i r360.1.flushed, .i r360.1.lastID, .ref 6045 0 r360.1.active.length, .ref 6046 0 r360.1.writer.length])), (80, some (.box [.ref 6600 0 r360.2.1.Buffer.length, .ref 6601 0 r360.2.1.Disk.length, .ref 6602 0 r360.2.1.DiskLSN.length, .ref 6603 0 r360.2.1.Log.length, .i r360.2.1.Flushed, .i r360.2.1.LastID, .ref 6606 0 r360.2.1.Active.length])), (6040, R78 r360.1.buffer), (6041, R78 r360.1.disk), (6042, R80 r360.1.log), (6045, R3 r360.1.active), (6046, R3 r360.1.writer), (6600, R3 r360.2.1.Buffer), (6601, R3 r360.2.1.Disk), (6602, R3 r360.2.1.DiskLSN), (6603, R84 r360.2.1.Log), (6606, R3 r360.2.1.Active)]) (by simp; exact Sub.table (by simp) (by simp)) ?_
                       refine AW.seqR ?_
                       refine Chain.runK [] 1 fun K hK => ?_; simp; refine hK _ _ ?_; clear hK K
                       refine Chain.sub (S' := mk 150 [] [(4, .b false)] []) Sub.tt ?_
                       refine Chain.nil ?_
                       refine AW.ret ?_
                       cases h
                       refine blockQ.ret ?_
                       refine thenQ_pass (by simp) ?_
                       refine PostI.out (by simp) ?_
                       rintro rfl
                       refine blockQ.ret ?_
                       refine PostJ.out (by simp) ?_
                       rintro rfl
                       refine blockQ.ret ?_
                       refine thenQ_pass (by simp) ?_
                       refine PostI.out (by simp) ?_
                       rintro rfl
                       refine blockQ.ret ?_
                       refine PostJ.out (by simp) ?_
                       rintro rfl
                       refine thenQ_pass (by simp) ?_
                       exact FinC.ret (by simp) (by simp)
                      ·have c438_ : v436 = false := Bool.eq_false_iff.2 c438
                       refine AW.condF (b := v436) rfl c438_ ?_
                       refine AW.sub (Sub.bool 135 (b := v436) rfl c438_) ?_
                       refine AW.sub (S' := mk 150 [] [(0, .i a0), (9, .ptr 52 0 0), (11, .ptr 80 0 0), (16, .i v387), (81, .d (.sl (a1.map (cL (cI .i64))))), (82, .i (a1.length : Int)), (83, .i v155), (135, .b false)] [(52, some (.box [.ref 6040 0 r360.1.buffer.length, .ref 6041 0 r360.1.disk.length, .ref 6042 0 r360.1.log.length, .i r360.1.flushed, .i r360.1.lastID, .ref 6045 0 r360.1.active.length, .ref 6046 0 r360.1.writer.length])), (80, some (.box [.ref 6600 0 r360.2.1.Buffer.length, .ref 6601 0 r360.2.1.Disk.length, .ref 6602 0 r360.2.1.DiskLSN.length, .ref 6603 0 r360.2.1.Log.length, .i r360.2.1.Flushed, .i r360.2.1.LastID, .ref 6606 0 r360.2.1.Active.length])), (6040, R78 r360.1.buffer), (6041, R78 r360.1.disk), (6042, R80 r360.1.log), (6045, R3 r360.1.active), (6046, R3 r360.1.writer), (6600, R3 r360.2.1.Buffer), (6601, R3 r360.2.1.Disk), (6602, R3 r360.2.1.DiskLSN), (6603, R84 r360.2.1.Log), (6606, R3 r360.2.1.Active)]) (by simp; exact Sub.table (by simp) (by simp)) ?_
                       refine AW.skip ?_
                       refine blockQ.normal ?_
                       refine thenQ_normal ?_
                       refine AW.region ?_
                       replace h := bsome h; obtain ⟨v439, hv439, h⟩ := h
                       have hv439 := chkI_some hv439
                       refine Chain.runK [] 3 fun K hK => ?_; simp [hv439]; refine hK _ _ ?_; clear hK K
                       refine Chain.sub (S' := mk 150 [] [(0, .i a0), (9, .ptr 52 0 0), (11, .ptr 80 0 0), (16, .i v439), (81, .d (.sl (a1.map (cL (cI .i64))))), (82, .i (a1.length : Int)), (83, .i v155)] [(52, some (.box [.ref 6040 0 r360.1.buffer.length, .ref 6041 0 r360.1.disk.length, .ref 6042 0 r360.1.log.length, .i r360.1.flushed, .i r360.1.lastID, .ref 6045 0 r360.1.active.length, .ref 6046 0 r360.1.writer.length])), (80, some (.box [.ref 6600 0 r360.2.1.Buffer.length, .ref 6601 0 r360.2.1.Disk.length, .ref 6602 0 r360.2.1.DiskLSN.length, .ref 6603 0 r360.2.1.Log.length, .i r360.2.1.Flushed, .i r360.2.1.LastID, .ref 6606 0 r360.2.1.Active.length])), (6040, R78 r360.1.buffer), (6041, R78 r360.1.disk), (6042, R80 r360.1.log), (6045, R3 r360.1.active), (6046, R3 r360.1.writer), (6600, R3 r360.2.1.Buffer), (6601, R3 r360.2.1.Disk), (6602, R3 r360.2.1.DiskLSN), (6603, R84 r360.2.1.Log), (6606, R3 r360.2.1.Active)]) Sub.tt ?_
                       refine Chain.nil ?_
                       cases h
                       refine PostI.next ?_
                       exact Sub.tt
                    ·have c434_ : v432 = false := Bool.eq_false_iff.2 c434
                     refine AW.condF (b := v432) rfl c434_ ?_
                     refine AW.sub (Sub.bool 129 (b := v432) rfl c434_) ?_
                     refine AW.sub (S' := mk 150 [] [(0, .i a0), (9, .ptr 52 0 0), (11, .ptr 80 0 0), (16, .i v387), (17, .i r430.1), (18, .i r430.2), (81, .d (.sl (a1.map (cL (cI .i64))))), (82, .i (a1.length : Int)), (83, .i v155), (129, .b false)] [(52, some (.box [.ref 6040 0 r360.1.buffer.length, .ref 6041 0 r360.1.disk.length, .ref 6042 0 r360.1.log.length, .i r360.1.flushed, .i r360.1.lastID, .ref 6045 0 r360.1.active.length, .ref 6046 0 r360.1.writer.length])), (80, some (.box [.ref 6600 0 r360.2.1.Buffer.length, .ref 6601 0 r360.2.1.Disk.length, .ref 6602 0 r360.2.1.DiskLSN.length, .ref 6603 0 r360.2.1.Log.length, .i r360.2.1.Flushed, .i r360.2.1.LastID, .ref 6606 0 r360.2.1.Active.length])), (6040, R78 r360.1.buffer), (6041, R78 r360.1.disk), (6042, R80 r360.1.log), (6045, R3 r360.1.active), (6046, R3 r360.1.writer), (6600, R3 r360.2.1.Buffer), (6601, R3 r360.2.1.Disk), (6602, R3 r360.2.1.DiskLSN), (6603, R84 r360.2.1.Log), (6606, R3 r360.2.1.Active)]) (by simp; exact Sub.table (by simp) (by simp)) ?_
                     replace h := bsome h; obtain ⟨v443, hj, h⟩ := h
                     refine AW.cutR (mk 150 [] [(0, .i a0), (9, .ptr 52 0 0), (11, .ptr 80 0 0), (16, .i v387), (81, .d (.sl (a1.map (cL (cI .i64))))), (82, .i (a1.length : Int)), (83, .i v155), (148, .b v443)] [(52, some (.box [.ref 6040 0 r360.1.buffer.length, .ref 6041 0 r360.1.disk.length, .ref 6042 0 r360.1.log.length, .i r360.1.flushed, .i r360.1.lastID, .ref 6045 0 r360.1.active.length, .ref 6046 0 r360.1.writer.length])), (80, some (.box [.ref 6600 0 r360.2.1.Buffer.length, .ref 6601 0 r360.2.1.Disk.length, .ref 6602 0 r360.2.1.DiskLSN.length, .ref 6603 0 r360.2.1.Log.length, .i r360.2.1.Flushed, .i r360.2.1.LastID, .ref 6606 0 r360.2.1.Active.length])), (6040, R78 r360.1.buffer), (6041, R78 r360.1.disk), (6042, R80 r360.1.log), (6045, R3 r360.1.active), (6046, R3 r360.1.writer), (6600, R3 r360.2.1.Buffer), (6601, R3 r360.2.1.Disk), (6602, R3 r360.2.1.DiskLSN), (6603, R84 r360.2.1.Log), (6606, R3 r360.2.1.Active)]) ?_ ?_
                     ·clear h; have h := hj; clear hj
                      refine Chain.runK [] 3 fun K hK => ?_; simp; refine hK _ _ ?_; clear hK K
                      refine Chain.sub (S' := mk 150 [] [(0, .i a0), (9, .ptr 52 0 0), (11, .ptr 80 0 0), (16, .i v387), (17, .i r430.1), (81, .d (.sl (a1.map (cL (cI .i64))))), (82, .i (a1.length : Int)), (83, .i v155), (138, .b (r430.2 != 0))] [(52, some (.box [.ref 6040 0 r360.1.buffer.length, .ref 6041 0 r360.1.disk.length, .ref 6042 0 r360.1.log.length, .i r360.1.flushed, .i r360.1.lastID, .ref 6045 0 r360.1.active.length, .ref 6046 0 r360.1.writer.length])), (80, some (.box [.ref 6600 0 r360.2.1.Buffer.length, .ref 6601 0 r360.2.1.Disk.length, .ref 6602 0 r360.2.1.DiskLSN.length, .ref 6603 0 r360.2.1.Log.length, .i r360.2.1.Flushed, .i r360.2.1.LastID, .ref 6606 0 r360.2.1.Active.length])), (6040, R78 r360.1.buffer), (6041, R78 r360.1.disk), (6042, R80 r360.1.log), (6045, R3 r360.1.active), (6046, R3 r360.1.writer), (6600, R3 r360.2.1.Buffer), (6601, R3 r360.2.1.Disk), (6602, R3 r360.2.1.DiskLSN), (6603, R84 r360.2.1.Log), (6606, R3 r360.2.1.Active)]) Sub.tt ?_
                      replace h := isome h; rcases h with ⟨c444, h⟩ | ⟨c444, h⟩
                      ·have c444_ : (r430.2 != 0) = true := c444
                       refine Chain.sub (Sub.bool 138 (b := (r430.2 != 0)) rfl c444_) ?_
                       refine Chain.sub (S' := mk 150 [] [(0, .i a0), (9, .ptr 52 0 0), (11, .ptr 80 0 0), (16, .i v387), (17, .i r430.1), (81, .d (.sl (a1.map (cL (cI .i64))))), (82, .i (a1.length : Int)), (83, .i v155), (138, .b true)] [(52, some (.box [.ref 6040 0 r360.1.buffer.length, .ref 6041 0 r360.1.disk.length, .ref 6042 0 r360.1.log.length, .i r360.1.flushed, .i r360.1.lastID, .ref 6045 0 r360.1.active.length, .ref 6046 0 r360.1.writer.length])), (80, some (.box [.ref 6600 0 r360.2.1.Buffer.length, .ref 6601 0 r360.2.1.Disk.length, .ref 6602 0 r360.2.1.DiskLSN.length, .ref 6603 0 r360.2.1.Log.length, .i r360.2.1.Flushed, .i r360.2.1.LastID, .ref 6606 0 r360.2.1.Active.length])), (6040, R78 r360.1.buffer), (6041, R78 r360.1.disk), (6042, R80 r360.1.log), (6045, R3 r360.1.active), (6046, R3 r360.1.writer), (6600, R3 r360.2.1.Buffer), (6601, R3 r360.2.1.Disk), (6602, R3 r360.2.1.DiskLSN), (6603, R84 r360.2.1.Log), (6606, R3 r360.2.1.Active)]) (by simp; exact Sub.table (by simp) (by simp)) ?_
                       refine Chain.runK [] 10 fun K hK => ?_; simp; refine hK _ _ ?_; clear hK K
                       refine Chain.sub (S' := mk 150 [] [(0, .i a0), (9, .ptr 52 0 0), (11, .ptr 80 0 0), (16, .i v387), (81, .d (.sl (a1.map (cL (cI .i64))))), (82, .i (a1.length : Int)), (83, .i v155), (139, .tup []), (140, .tup []), (141, .tup []), (142, .tup []), (143, .tup []), (144, .tup []), (145, .tup []), (146, .tup []), (147, .tup []), (148, .b true)] [(52, some (.box [.ref 6040 0 r360.1.buffer.length, .ref 6041 0 r360.1.disk.length, .ref 6042 0 r360.1.log.length, .i r360.1.flushed, .i r360.1.lastID, .ref 6045 0 r360.1.active.length, .ref 6046 0 r360.1.writer.length])), (80, some (.box [.ref 6600 0 r360.2.1.Buffer.length, .ref 6601 0 r360.2.1.Disk.length, .ref 6602 0 r360.2.1.DiskLSN.length, .ref 6603 0 r360.2.1.Log.length, .i r360.2.1.Flushed, .i r360.2.1.LastID, .ref 6606 0 r360.2.1.Active.length])), (6040, R78 r360.1.buffer), (6041, R78 r360.1.disk), (6042, R80 r360.1.log), (6045, R3 r360.1.active), (6046, R3 r360.1.writer), (6600, R3 r360.2.1.Buffer), (6601, R3 r360.2.1.Disk), (6602, R3 r360.2.1.DiskLSN), (6603, R84 r360.2.1.Log), (6606, R3 r360.2.1.Active)]) Sub.tt ?_
                       cases h
                       exact Chain.nil Sub.tt
                      ·have c444_ : (r430.2 != 0) = false := Bool.eq_false_iff.2 c444
                       refine Chain.sub (Sub.bool 138 (b := (r430.2 != 0)) rfl c444_) ?_
                       refine Chain.sub (S' := mk 150 [] [(0, .i a0), (9, .ptr 52 0 0), (11, .ptr 80 0 0), (16, .i v387), (17, .i r430.1), (81, .d (.sl (a1.map (cL (cI .i64))))), (82, .i (a1.length : Int)), (83, .i v155), (138, .b false)] [(52, some (.box [.ref 6040 0 r360.1.buffer.length, .ref 6041 0 r360.1.disk.length, .ref 6042 0 r360.1.log.length, .i r360.1.flushed, .i r360.1.lastID, .ref 6045 0 r360.1.active.length, .ref 6046 0 r360.1.writer.length])), (80, some (.box [.ref 6600 0 r360.2.1.Buffer.length, .ref 6601 0 r360.2.1.Disk.length, .ref 6602 0 r360.2.1.DiskLSN.length, .ref 6603 0 r360.2.1.Log.length, .i r360.2.1.Flushed, .i r360.2.1.LastID, .ref 6606 0 r360.2.1.Active.length])), (6040, R78 r360.1.buffer), (6041, R78 r360.1.disk), (6042, R80 r360.1.log), (6045, R3 r360.1.active), (6046, R3 r360.1.writer), (6600, R3 r360.2.1.Buffer), (6601, R3 r360.2.1.Disk), (6602, R3 r360.2.1.DiskLSN), (6603, R84 r360.2.1.Log), (6606, R3 r360.2.1.Active)]) (by simp; exact Sub.table (by simp) (by simp)) ?_
                       replace h := bsome h; obtain ⟨x445, hx445, h⟩ := h
                       obtain ⟨k446, hx445k, hx445, hx445a, hx445b⟩ := idx_some hx445
                       refine Chain.runK [] 10 fun K hK => ?_; simp [hx445, hx445k, hx445a, hx445b]; refine hK _ _ ?_; clear hK K
                       refine Chain.sub (S' := mk 150 [] [(0, .i a0), (9, .ptr 52 0 0), (11, .ptr 80 0 0), (16, .i v387), (81, .d (.sl (a1.map (cL (cI .i64))))), (82, .i (a1.length : Int)), (83, .i v155), (139, .i r430.1), (140, .ptr 80 0 0), (141, .ptr 80 0 0), (142, .ptr 80 0 0), (143, .ref 6600 0 r360.2.1.Buffer.length), (144, .i v387), (145, .ptr 6600 k446 0), (146, .i x445), (147, .b (r430.1 != x445)), (148, .b (r430.1 != x445))] [(52, some (.box [.ref 6040 0 r360.1.buffer.length, .ref 6041 0 r360.1.disk.length, .ref 6042 0 r360.1.log.length, .i r360.1.flushed, .i r360.1.lastID, .ref 6045 0 r360.1.active.length, .ref 6046 0 r360.1.writer.length])), (80, some (.box [.ref 6600 0 r360.2.1.Buffer.length, .ref 6601 0 r360.2.1.Disk.length, .ref 6602 0 r360.2.1.DiskLSN.length, .ref 6603 0 r360.2.1.Log.length, .i r360.2.1.Flushed, .i r360.2.1.LastID, .ref 6606 0 r360.2.1.Active.length])), (6040, R78 r360.1.buffer), (6041, R78 r360.1.disk), (6042, R80 r360.1.log), (6045, R3 r360.1.active), (6046, R3 r360.1.writer), (6600, R3 r360.2.1.Buffer), (6601, R3 r360.2.1.Disk), (6602, R3 r360.2.1.DiskLSN), (6603, R84 r360.2.1.Log), (6606, R3 r360.2.1.Active)]) Sub.tt ?_
                       cases h
                       exact Chain.nil Sub.tt
                     ·clear hj
                      replace h := isome h; rcases h with ⟨c447, h⟩ | ⟨c447, h⟩
                      ·have c447_ : v443 = true := c447
                       refine AW.condT (b := v443) rfl c447_ ?_
                       refine AW.sub (Sub.bool 148 (b := v443) rfl c447_) ?_
                       refine AW.sub (S' := mk 150 [] [(0, .i a0), (9, .ptr 52 0 0), (11, .ptr 80 0 0), (16, .i v387), (81, .d (.sl (a1.map (cL (cI .i64))))), (82, .i (a1.length : Int)), (83, .i v155), (148, .b true)] [(52, some (.box [.ref 6040 0 r360.1.buffer.length, .ref 6041 0 r360.1.disk.length, .ref 6042 0 r360.1.log.length, .i r360.1.flushed, .i r360.1.lastID, .ref 6045 0 r360.1.active.length, .ref 6046 0 r360.1.writer.length])), (80, some (.box [.ref 6600 0 r360.2.1.Buffer.length, .ref 6601 0 r360.2.1.Disk.length, .ref 6602 0 r360.2.1.DiskLSN.length, .ref 6603 0 r360.2.1.Log.length, .i r360.2.1.Flushed, .i r360.2.1.LastID, .ref 6606 0 r360.2.1.Active.length])), (6040, R78 r360.1.buffer), (6041, R78 r360.1.disk), (6042, R80 r360.1.log), (6045, R3 r360.1.active), (6046, R3 r360.1.writer), (6600, R3 r360.2.1.Buffer), (6601, R3 r360.2.1.Disk), (6602, R3 r360.2.1.DiskLSN), (6603, R84 r360.2.1.Log), (6606, R3 r360.2.1.Active)]) (by simp; exact Sub.table (by simp) (by simp)) ?_
                       refine AW.seqR ?_
                       refine Chain.runK [] 1 fun K hK => ?_; simp; refine hK _ _ ?_; clear hK K
                       refine Chain.sub (S' := mk 150 [] [(4, .b false)] []) Sub.tt ?_
                       refine Chain.nil ?_
                       refine AW.ret ?_
                       cases h
                       refine blockQ.ret ?_
                       refine thenQ_pass (by simp) ?_
                       refine PostI.out (by simp) ?_
                       rintro rfl
                       refine blockQ.ret ?_
                       refine PostJ.out (by simp) ?_
                       rintro rfl
                       refine blockQ.ret ?_
                       refine thenQ_pass (by simp) ?_
                       refine PostI.out (by simp) ?_
                       rintro rfl
                       refine blockQ.ret ?_
                       refine PostJ.out (by simp) ?_
                       rintro rfl
                       refine thenQ_pass (by simp) ?_
                       exact FinC.ret (by simp) (by simp)
                      ·have c447_ : v443 = false := Bool.eq_false_iff.2 c447
                       refine AW.condF (b := v443) rfl c447_ ?_
                       refine AW.sub (Sub.bool 148 (b := v443) rfl c447_) ?_
                       refine AW.sub (S' := mk 150 [] [(0, .i a0), (9, .ptr 52 0 0), (11, .ptr 80 0 0), (16, .i v387), (81, .d (.sl (a1.map (cL (cI .i64))))), (82, .i (a1.length : Int)), (83, .i v155), (148, .b false)] [(52, some (.box [.ref 6040 0 r360.1.buffer.length, .ref 6041 0 r360.1.disk.length, .ref 6042 0 r360.1.log.length, .i r360.1.flushed, .i r360.1.lastID, .ref 6045 0 r360.1.active.length, .ref 6046 0 r360.1.writer.length])), (80, some (.box [.ref 6600 0 r360.2.1.Buffer.length, .ref 6601 0 r360.2.1.Disk.length, .ref 6602 0 r360.2.1.DiskLSN.length, .ref 6603 0 r360.2.1.Log.length, .i r360.2.1.Flushed, .i r360.2.1.LastID, .ref 6606 0 r360.2.1.Active.length])), (6040, R78 r360.1.buffer), (6041, R78 r360.1.disk), (6042, R80 r360.1.log), (6045, R3 r360.1.active), (6046, R3 r360.1.writer), (6600, R3 r360.2.1.Buffer), (6601, R3 r360.2.1.Disk), (6602, R3 r360.2.1.DiskLSN), (6603, R84 r360.2.1.Log), (6606, R3 r360.2.1.Active)]) (by simp; exact Sub.table (by simp) (by simp)) ?_
                       refine AW.skip ?_
                       refine blockQ.normal ?_
                       refine thenQ_normal ?_
                       refine AW.region ?_
                       replace h := bsome h; obtain ⟨v448, hv448, h⟩ := h
                       have hv448 := chkI_some hv448
                       refine Chain.runK [] 3 fun K hK => ?_; simp [hv448]; refine hK _ _ ?_; clear hK K
                       refine Chain.sub (S' := mk 150 [] [(0, .i a0), (9, .ptr 52 0 0), (11, .ptr 80 0 0), (16, .i v448), (81, .d (.sl (a1.map (cL (cI .i64))))), (82, .i (a1.length : Int)), (83, .i v155)] [(52, some (.box [.ref 6040 0 r360.1.buffer.length, .ref 6041 0 r360.1.disk.length, .ref 6042 0 r360.1.log.length, .i r360.1.flushed, .i r360.1.lastID, .ref 6045 0 r360.1.active.length, .ref 6046 0 r360.1.writer.length])), (80, some (.box [.ref 6600 0 r360.2.1.Buffer.length, .ref 6601 0 r360.2.1.Disk.length, .ref 6602 0 r360.2.1.DiskLSN.length, .ref 6603 0 r360.2.1.Log.length, .i r360.2.1.Flushed, .i r360.2.1.LastID, .ref 6606 0 r360.2.1.Active.length])), (6040, R78 r360.1.buffer), (6041, R78 r360.1.disk), (6042, R80 r360.1.log), (6045, R3 r360.1.active), (6046, R3 r360.1.writer), (6600, R3 r360.2.1.Buffer), (6601, R3 r360.2.1.Disk), (6602, R3 r360.2.1.DiskLSN), (6603, R84 r360.2.1.Log), (6606, R3 r360.2.1.Active)]) Sub.tt ?_
                       refine Chain.nil ?_
                       cases h
                       refine PostI.next ?_
                       exact Sub.tt
                  ·have c429_ : decide (v387 ≤ a0) = false := decide_eq_false c429
                   refine AW.condF (b := decide (v387 ≤ a0)) rfl c429_ ?_
                   refine AW.sub (Sub.bool 114 (b := decide (v387 ≤ a0)) rfl c429_) ?_
                   refine AW.sub (S' := mk 150 [] [(0, .i a0), (9, .ptr 52 0 0), (11, .ptr 80 0 0), (16, .i v387), (81, .d (.sl (a1.map (cL (cI .i64))))), (82, .i (a1.length : Int)), (83, .i v155), (114, .b false)] [(52, some (.box [.ref 6040 0 r360.1.buffer.length, .ref 6041 0 r360.1.disk.length, .ref 6042 0 r360.1.log.length, .i r360.1.flushed, .i r360.1.lastID, .ref 6045 0 r360.1.active.length, .ref 6046 0 r360.1.writer.length])), (80, some (.box [.ref 6600 0 r360.2.1.Buffer.length, .ref 6601 0 r360.2.1.Disk.length, .ref 6602 0 r360.2.1.DiskLSN.length, .ref 6603 0 r360.2.1.Log.length, .i r360.2.1.Flushed, .i r360.2.1.LastID, .ref 6606 0 r360.2.1.Active.length])), (6040, R78 r360.1.buffer), (6041, R78 r360.1.disk), (6042, R80 r360.1.log), (6045, R3 r360.1.active), (6046, R3 r360.1.writer), (6600, R3 r360.2.1.Buffer), (6601, R3 r360.2.1.Disk), (6602, R3 r360.2.1.DiskLSN), (6603, R84 r360.2.1.Log), (6606, R3 r360.2.1.Active)]) (by simp; exact Sub.table (by simp) (by simp)) ?_
                   refine AW.exit ?_
                   cases h
                   refine thenQ_pass (by simp) ?_
                   refine PostI.out (by simp) ?_
                   rintro rfl
                   refine blockQ.hit ?_
                   refine PostJ.next ?_
                   exact Sub.tt
                 ·rintro ⟨⟩ h
                  refine blockQ.normal ?_
                  refine thenQ_normal ?_
                  refine AW.region ?_
                  replace h := bsome h; obtain ⟨v449, hv449, h⟩ := h
                  have hv449 := chkI_some hv449
                  refine Chain.runK [] 2 fun K hK => ?_; simp [hv449]; refine hK _ _ ?_; clear hK K
                  refine Chain.sub (S' := mk 150 [] [(0, .i a0), (9, .ptr 52 0 0), (11, .ptr 80 0 0), (81, .d (.sl (a1.map (cL (cI .i64))))), (82, .i (a1.length : Int)), (83, .i v449)] [(52, some (.box [.ref 6040 0 r360.1.buffer.length, .ref 6041 0 r360.1.disk.length, .ref 6042 0 r360.1.log.length, .i r360.1.flushed, .i r360.1.lastID, .ref 6045 0 r360.1.active.length, .ref 6046 0 r360.1.writer.length])), (80, some (.box [.ref 6600 0 r360.2.1.Buffer.length, .ref 6601 0 r360.2.1.Disk.length, .ref 6602 0 r360.2.1.DiskLSN.length, .ref 6603 0 r360.2.1.Log.length, .i r360.2.1.Flushed, .i r360.2.1.LastID, .ref 6606 0 r360.2.1.Active.length])), (6040, R78 r360.1.buffer), (6041, R78 r360.1.disk), (6042, R80 r360.1.log), (6045, R3 r360.1.active), (6046, R3 r360.1.writer), (6600, R3 r360.2.1.Buffer), (6601, R3 r360.2.1.Disk), (6602, R3 r360.2.1.DiskLSN), (6603, R84 r360.2.1.Log), (6606, R3 r360.2.1.Active)]) Sub.tt ?_
                  refine Chain.nil ?_
                  cases h
                  refine PostI.next ?_
                  exact Sub.tt
             ·have c357_ : decide (v155 < (a1.length : Int)) = false := decide_eq_false c357
              refine AW.condF (b := decide (v155 < (a1.length : Int))) rfl c357_ ?_
              refine AW.sub (Sub.bool 84 (b := decide (v155 < (a1.length : Int))) rfl c357_) ?_
              refine AW.sub (S' := mk 150 [] [(0, .i a0), (9, .ptr 52 0 0), (11, .ptr 80 0 0), (81, .d (.sl (a1.map (cL (cI .i64))))), (82, .i (a1.length : Int)), (83, .i v155), (84, .b false)] [(52, some (.box [.ref 6040 0 l141.length, .ref 6041 0 l142.length, .ref 6042 0 l143.length, .i v144, .i v145, .ref 6045 0 l146.length, .ref 6046 0 l147.length])), (80, some (.box [.ref 6600 0 l148.length, .ref 6601 0 l149.length, .ref 6602 0 l150.length, .ref 6603 0 l151.length, .i v152, .i v153, .ref 6606 0 l154.length])), (6040, R78 l141), (6041, R78 l142), (6042, R80 l143), (6045, R3 l146), (6046, R3 l147), (6600, R3 l148), (6601, R3 l149), (6602, R3 l150), (6603, R84 l151), (6606, R3 l154)]) (by simp; exact Sub.table (by simp) (by simp)) ?_
              refine AW.exit ?_
              cases h
              refine thenQ_pass (by simp) ?_
              refine PostI.out (by simp) ?_
              rintro rfl
              refine blockQ.hit ?_
              refine PostJ.next ?_
              exact Sub.tt
            ·rintro ⟨⟩ h
             refine thenQ_normal ?_
             refine AW.seqR ?_
             refine Chain.runK [] 1 fun K hK => ?_; simp; refine hK _ _ ?_; clear hK K
             refine Chain.sub (S' := mk 150 [] [(4, .b true)] []) Sub.tt ?_
             refine Chain.nil ?_
             refine AW.ret ?_
             cases h
             exact FinC.ret (by simp) (by simp)

end Go.Proofs.Ytiikoldaocnilaa
