/- Functions of the program as functional programs; the code computes them. -/
import Derived.Test.YtdiekinmoklonaaLk13
namespace Go.Proofs.Ytdiekinmoklonaa
open Go.Ab Go.Rp
attribute [-simp] List.all_eq_true Array.all_toList Array.all_eq_true

/-- stemma/stemlaw5.LocksMatchReference -/
def d3 (N : Nat) (a0 : (List (List Int))) (a1 : (List ByteArray)) : Option Bool :=
 (d4 N ).bind fun r1 =>
 ocase r1 (
  some false
 ) fun r1o =>
 Option.bind (α := Bool) (
  (d5 N r1o (S29.mk 0 (ByteArray.mk #[116]) (ByteArray.mk #[]) 2)).bind fun r6 =>
  if (r6.2 != 0) then (
   some true
  ) else
  (d5 N r6.1 (S29.mk 1 (ByteArray.mk #[116]) (ByteArray.mk #[]) 1)).bind fun r8 =>
  some (r8.2 != 16)
 ) fun (v5 : Bool) =>
 if v5 = true then (
  some false
 ) else
 (d4 N ).bind fun r10 =>
 ocase r10 (
  bindO (β := Unit) (ρ := Bool) (
   iterN (σ := Unit) (ρ := (Out Unit Bool)) (fun (_ : Unit) =>
    if 0 < (a0.length : Int) then (
     (idx a0 0).bind fun x63 =>
     (d6 N x63 1).bind fun _r64 =>
     (d6 N x63 0).bind fun r65 =>
     if (r65 == 1) then (
      (d6 N x63 2).bind fun r67 =>
      (d7 N a1 r67).bind fun _r68 =>
      (d6 N x63 4).bind fun _r69 =>
      (d6 N x63 3).bind fun r70 =>
      Option.bind (α := ByteArray) (
       if r70 > 0 then (
        (d6 N x63 3).bind fun r76 =>
        (d7 N a1 r76).bind fun r77 =>
        some r77
       ) else
       some (ByteArray.mk #[])
      ) fun (_v74 : ByteArray) =>
      none
     ) else
     if (r65 == 2) then (
      none
     ) else
     none
    ) else
    some (.inr (.go ()))
   ) N ()
  ) fun (_ : Unit) =>
  some true
 ) fun r10o =>
 bindO (β := Unit) (ρ := Bool) (
  iterN (σ := ((List S29) × (List S29) × (List S29) × (List S29) × Int)) (ρ := (Out Unit Bool)) (fun ((l128, l129, l130, l131, v132) : ((List S29) × (List S29) × (List S29) × (List S29) × Int)) =>
   if v132 < (a0.length : Int) then (
    (idx a0 v132).bind fun x239 =>
    (d6 N x239 1).bind fun r241 =>
    (d6 N x239 0).bind fun r242 =>
    if (r242 == 1) then (
     (d6 N x239 2).bind fun r244 =>
     (d7 N a1 r244).bind fun r245 =>
     (d6 N x239 4).bind fun r246 =>
     (d6 N x239 3).bind fun r247 =>
     Option.bind (α := ByteArray) (
      if r247 > 0 then (
       (d6 N x239 3).bind fun r253 =>
       (d7 N a1 r253).bind fun r254 =>
       some r254
      ) else
      some (ByteArray.mk #[])
     ) fun (v251 : ByteArray) =>
     (d5 N (S48.mk l128 l129) (S29.mk r241 r245 v251 r246)).bind fun r255 =>
     (d8 N (S33.mk l130 l131) (S29.mk r241 r245 v251 r246)).bind fun r256 =>
     if (r255.2 != r256.2) then (
      some (.inr (.ret false))
     ) else
     (d13 N r255.1 r256.1 r241).bind fun r258 =>
     if (!r258.2.2) = true then (
      some (.inr (.ret false))
     ) else
     (chkI (v132 + 1)).bind fun v260 =>
     some (.inl (r258.1.granted, r258.1.queue, r258.2.1.Granted, r258.2.1.Queue, v260))
    ) else
    if (r242 == 2) then (
     (d9 N (S48.mk l128 l129) r241).bind fun r262 =>
     (d10 N r241 0 19).bind fun r263 =>
     if (!r263) = true then (
      Option.bind (α := Bool) (
       if (r262.2.2 != 1) then (
        some true
       ) else
       some ((r262.2.1.length : Int) != 0)
      ) fun (v266 : Bool) =>
      if v266 = true then (
       some (.inr (.ret false))
      ) else
      (d13 N r262.1 (S33.mk l130 l131) r241).bind fun r269 =>
      if (!r269.2.2) = true then (
       some (.inr (.ret false))
      ) else
      (chkI (v132 + 1)).bind fun v271 =>
      some (.inl (r269.1.granted, r269.1.queue, r269.2.1.Granted, r269.2.1.Queue, v271))
     ) else
     Option.bind (α := ((List S29) × (List S29) × Bool)) (
      if (r262.2.2 != 0) then (
       some (l130, l131, true)
      ) else
      (d12 N (S33.mk l130 l131) r241).bind fun r279 =>
      (d11 N r262.2.1 r279.2).bind fun r280 =>
      some (r279.1.Granted, r279.1.Queue, (!r280))
     ) fun ((l275, l276, v277) : ((List S29) × (List S29) × Bool)) =>
     if v277 = true then (
      some (.inr (.ret false))
     ) else
     (d13 N r262.1 (S33.mk l275 l276) r241).bind fun r282 =>
     if (!r282.2.2) = true then (
      some (.inr (.ret false))
     ) else
     (chkI (v132 + 1)).bind fun v284 =>
     some (.inl (r282.1.granted, r282.1.queue, r282.2.1.Granted, r282.2.1.Queue, v284))
    ) else
    (d13 N (S48.mk l128 l129) (S33.mk l130 l131) r241).bind fun r285 =>
    if (!r285.2.2) = true then (
     some (.inr (.ret false))
    ) else
    (chkI (v132 + 1)).bind fun v287 =>
    some (.inl (r285.1.granted, r285.1.queue, r285.2.1.Granted, r285.2.1.Queue, v287))
   ) else
   some (.inr (.go ()))
  ) N (r10o.granted, r10o.queue, ([] : List S29), ([] : List S29), 0)
 ) fun (_ : Unit) =>
 some true
set_option maxRecDepth 100000 in
set_option maxHeartbeats 4000000 in
theorem p3 (N : Nat) (a0 : (List (List Int))) (a1 : (List ByteArray)) (r : Bool) (h : d3 N a0 a1 = some r) : FunC Try.prog 3 [.d (.sl (a0.map (cL (cI .i64)))), .d (.sl (a1.map cS))] (.b r) := by
 unfold d3 at h
 refine FunC.enter 109 [(0, .d (.sl (a0.map (cL (cI .i64))))), (1, .d (.sl (a1.map cS)))] (by simp) Try.func3 rfl (of_decide_eq_true rfl) rfl rfl ?_
 refine AW.seqR ?_
 refine Chain.runK [] 1 fun K hK => ?_; simp; refine hK _ _ ?_; clear hK K
 refine Chain.sub (S' := mk 109 [] [(0, .d (.sl (a0.map (cL (cI .i64))))), (1, .d (.sl (a1.map cS)))] []) Sub.tt ?_
 refine Chain.nil ?_
 refine AW.seq ?_
 refine AW.seqR ?_
 replace h := bsome h; obtain ⟨r1, hr1, h⟩ := h
 have Fr1 := p4 N  r1 hr1
 rcases osome h with ⟨hr1o, h⟩ | ⟨r1o, hr1o, h⟩
 ·simp only [hr1o, List.append_nil] at Fr1
  refine Chain.callF Fr1 [] [] [] [] (.d (.lit (.pointer none))) (by simp) rfl (by simp <;> rfl) (by simp) (by simp) (by simp) (by simp) (by simp) ent4 (by simp) (by simp) (by simp) (by simp) (by simp) (by simp) ?_
  refine Chain.sub (S' := mk 109 [] [(0, .d (.sl (a0.map (cL (cI .i64))))), (1, .d (.sl (a1.map cS))), (14, .d (.lit (.pointer none)))] []) (by simp; exact Sub.table (by simp) (by simp)) ?_
  refine Chain.runK [] 1 fun K hK => ?_; simp; refine hK _ _ ?_; clear hK K
  refine Chain.sub (S' := mk 109 [] [(0, .d (.sl (a0.map (cL (cI .i64))))), (1, .d (.sl (a1.map cS))), (5, .d (.lit (.pointer none)))] []) Sub.tt ?_
  refine Chain.nil ?_
  refine AW.seqR ?_
  refine Chain.runK [] 14 fun K hK => ?_; simp; refine hK _ _ ?_; clear hK K
  refine Chain.sub (S' := mk 109 [] [(0, .d (.sl (a0.map (cL (cI .i64))))), (1, .d (.sl (a1.map cS))), (28, .b true)] []) Sub.tt ?_
  refine Chain.nil ?_
  refine AW.condK fun K1 K2 k1 k2 => ?_; simp; refine k1 ?_; clear k1 k2 K1 K2
  refine AW.seqR ?_
  refine Chain.runK [] 1 fun K hK => ?_; simp; refine hK _ _ ?_; clear hK K
  refine Chain.sub (S' := mk 109 [] [(4, .b false)] []) Sub.tt ?_
  refine Chain.nil ?_
  refine AW.ret ?_
  cases h
  refine thenQ_pass (by simp) ?_
  exact FinC.ret (by simp) (by simp)
 ·simp only [hr1o, List.nil_append] at Fr1
  refine Chain.callF Fr1 [] [] [(1000, 14), (25000, 5280), (25001, 5281)] [(14, (.box [.ref 5280 0 r1o.granted.length, .ref 5281 0 r1o.queue.length])), (5280, (.arr 29 4 (r1o.granted.map cS29))), (5281, (.arr 29 4 (r1o.queue.map cS29)))] (.ptr 14 0 0) (by simp) rfl (by simp <;> rfl) (by simp) (by simp) (by simp) (by simp) (by simp) ent4 (by simp) (by simp) (by simp) (by simp) (by simp) (by simp) ?_
  refine Chain.sub (S' := mk 109 [] [(0, .d (.sl (a0.map (cL (cI .i64))))), (1, .d (.sl (a1.map cS))), (14, .ptr 14 0 0)] [(14, some (.box [.ref 5280 0 r1o.granted.length, .ref 5281 0 r1o.queue.length])), (5280, R29 r1o.granted), (5281, R29 r1o.queue)]) (by simp; exact Sub.table (by simp) (by simp)) ?_
  refine Chain.runK [] 1 fun K hK => ?_; simp; refine hK _ _ ?_; clear hK K
  refine Chain.sub (S' := mk 109 [] [(0, .d (.sl (a0.map (cL (cI .i64))))), (1, .d (.sl (a1.map cS))), (5, .ptr 14 0 0)] [(14, some (.box [.ref 5280 0 r1o.granted.length, .ref 5281 0 r1o.queue.length])), (5280, R29 r1o.granted), (5281, R29 r1o.queue)]) Sub.tt ?_
  refine Chain.nil ?_
  replace h := bsome h; obtain ⟨v5, hj, h⟩ := h
  refine AW.cutR (mk 109 [] [(0, .d (.sl (a0.map (cL (cI .i64))))), (1, .d (.sl (a1.map cS))), (28, .b v5)] []) ?_ ?_
  ·clear h; have h := hj; clear hj
   refine Chain.runK [] 5 fun K hK => ?_; simp; refine hK _ _ ?_; clear hK K
   refine Chain.sub (S' := mk 109 [] [(0, .d (.sl (a0.map (cL (cI .i64))))), (1, .d (.sl (a1.map cS))), (5, .ptr 14 0 0), (17, .b false), (18, .ptr 14 0 0), (19, .agg [.i 0, .d (.lit (.string (ByteArray.mk #[116]))), .d (.lit (.string (ByteArray.mk #[]))), .i 2])] [(14, some (.box [.ref 5280 0 r1o.granted.length, .ref 5281 0 r1o.queue.length])), (5280, R29 r1o.granted), (5281, R29 r1o.queue)]) Sub.tt ?_
   replace h := bsome h; obtain ⟨r6, hr6, h⟩ := h
   refine Chain.callF (p5 N r1o (S29.mk 0 (ByteArray.mk #[116]) (ByteArray.mk #[]) 2) r6 hr6) [(14, 1000), (5280, 25000), (5281, 25001)] [14] [(1000, 14), (25000, 5280), (25001, 5281)] [(14, (.box [.ref 5280 0 r6.1.granted.length, .ref 5281 0 r6.1.queue.length])), (5280, (.arr 29 4 (r6.1.granted.map cS29))), (5281, (.arr 29 4 (r6.1.queue.map cS29)))] (.i r6.2) (by simp) rfl (by simp <;> rfl) (by simp) (by simp) (by simp) (by simp) (by simp) ent5 (by simp) (by simp) (by simp) (by simp) (by simp) (by simp) ?_
   refine Chain.sub (S' := mk 109 [] [(0, .d (.sl (a0.map (cL (cI .i64))))), (1, .d (.sl (a1.map cS))), (5, .ptr 14 0 0), (17, .b false), (18, .ptr 14 0 0), (19, .agg [.i 0, .d (.lit (.string (ByteArray.mk #[116]))), .d (.lit (.string (ByteArray.mk #[]))), .i 2]), (20, .i r6.2)] [(14, some (.box [.ref 5280 0 r6.1.granted.length, .ref 5281 0 r6.1.queue.length])), (5280, R29 r6.1.granted), (5281, R29 r6.1.queue)]) (by simp; exact Sub.table (by simp) (by simp)) ?_
   refine Chain.runK [] 3 fun K hK => ?_; simp; refine hK _ _ ?_; clear hK K
   refine Chain.sub (S' := mk 109 [] [(0, .d (.sl (a0.map (cL (cI .i64))))), (1, .d (.sl (a1.map cS))), (5, .ptr 14 0 0), (23, .b (r6.2 != 0))] [(14, some (.box [.ref 5280 0 r6.1.granted.length, .ref 5281 0 r6.1.queue.length])), (5280, R29 r6.1.granted), (5281, R29 r6.1.queue)]) Sub.tt ?_
   replace h := isome h; rcases h with ⟨c7, h⟩ | ⟨c7, h⟩
   ·have c7_ : (r6.2 != 0) = true := c7
    refine Chain.sub (Sub.bool 23 (b := (r6.2 != 0)) rfl c7_) ?_
    refine Chain.sub (S' := mk 109 [] [(0, .d (.sl (a0.map (cL (cI .i64))))), (1, .d (.sl (a1.map cS))), (5, .ptr 14 0 0), (23, .b true)] [(14, some (.box [.ref 5280 0 r6.1.granted.length, .ref 5281 0 r6.1.queue.length])), (5280, R29 r6.1.granted), (5281, R29 r6.1.queue)]) (by simp; exact Sub.table (by simp) (by simp)) ?_
    refine Chain.runK [] 5 fun K hK => ?_; simp; refine hK _ _ ?_; clear hK K
    refine Chain.sub (S' := mk 109 [] [(0, .d (.sl (a0.map (cL (cI .i64))))), (1, .d (.sl (a1.map cS))), (28, .b true)] []) Sub.tt ?_
    cases h
    exact Chain.nil Sub.tt
   ·have c7_ : (r6.2 != 0) = false := Bool.eq_false_iff.2 c7
    refine Chain.sub (Sub.bool 23 (b := (r6.2 != 0)) rfl c7_) ?_
    refine Chain.sub (S' := mk 109 [] [(0, .d (.sl (a0.map (cL (cI .i64))))), (1, .d (.sl (a1.map cS))), (5, .ptr 14 0 0), (23, .b false)] [(14, some (.box [.ref 5280 0 r6.1.granted.length, .ref 5281 0 r6.1.queue.length])), (5280, R29 r6.1.granted), (5281, R29 r6.1.queue)]) (by simp; exact Sub.table (by simp) (by simp)) ?_
    refine Chain.runK [] 2 fun K hK => ?_; simp; refine hK _ _ ?_; clear hK K
    refine Chain.sub (S' := mk 109 [] [(0, .d (.sl (a0.map (cL (cI .i64))))), (1, .d (.sl (a1.map cS))), (23, .b false), (24, .ptr 14 0 0), (25, .agg [.i 1, .d (.lit (.string (ByteArray.mk #[116]))), .d (.lit (.string (ByteArray.mk #[]))), .i 1])] [(14, some (.box [.ref 5280 0 r6.1.granted.length, .ref 5281 0 r6.1.queue.length])), (5280, R29 r6.1.granted), (5281, R29 r6.1.queue)]) Sub.tt ?_
    replace h := bsome h; obtain ⟨r8, hr8, h⟩ := h
    refine Chain.callF (p5 N r6.1 (S29.mk 1 (ByteArray.mk #[116]) (ByteArray.mk #[]) 1) r8 hr8) [(14, 1000), (5280, 25000), (5281, 25001)] [14] [(1000, 14), (25000, 5280), (25001, 5281)] [(14, (.box [.ref 5280 0 r8.1.granted.length, .ref 5281 0 r8.1.queue.length])), (5280, (.arr 29 4 (r8.1.granted.map cS29))), (5281, (.arr 29 4 (r8.1.queue.map cS29)))] (.i r8.2) (by simp) rfl (by simp <;> rfl) (by simp) (by simp) (by simp) (by simp) (by simp) ent5 (by simp) (by simp) (by simp) (by simp) (by simp) (by simp) ?_
    refine Chain.sub (S' := mk 109 [] [(0, .d (.sl (a0.map (cL (cI .i64))))), (1, .d (.sl (a1.map cS))), (23, .b false), (24, .ptr 14 0 0), (25, .agg [.i 1, .d (.lit (.string (ByteArray.mk #[116]))), .d (.lit (.string (ByteArray.mk #[]))), .i 1]), (26, .i r8.2)] [(14, some (.box [.ref 5280 0 r8.1.granted.length, .ref 5281 0 r8.1.queue.length])), (5280, R29 r8.1.granted), (5281, R29 r8.1.queue)]) (by simp; exact Sub.table (by simp) (by simp)) ?_
    refine Chain.runK [] 2 fun K hK => ?_; simp; refine hK _ _ ?_; clear hK K
    refine Chain.sub (S' := mk 109 [] [(0, .d (.sl (a0.map (cL (cI .i64))))), (1, .d (.sl (a1.map cS))), (28, .b (r8.2 != 16))] []) Sub.tt ?_
    cases h
    exact Chain.nil Sub.tt
  ·clear hj
   replace h := isome h; rcases h with ⟨c9, h⟩ | ⟨c9, h⟩
   ·have c9_ : v5 = true := c9
    refine AW.condT (b := v5) rfl c9_ ?_
    refine AW.sub (Sub.bool 28 (b := v5) rfl c9_) ?_
    refine AW.sub (S' := mk 109 [] [(0, .d (.sl (a0.map (cL (cI .i64))))), (1, .d (.sl (a1.map cS))), (28, .b true)] []) (by simp; exact Sub.table (by simp) (by simp)) ?_
    refine AW.seqR ?_
    refine Chain.runK [] 1 fun K hK => ?_; simp; refine hK _ _ ?_; clear hK K
    refine Chain.sub (S' := mk 109 [] [(4, .b false)] []) Sub.tt ?_
    refine Chain.nil ?_
    refine AW.ret ?_
    cases h
    refine thenQ_pass (by simp) ?_
    exact FinC.ret (by simp) (by simp)
   ·have c9_ : v5 = false := Bool.eq_false_iff.2 c9
    refine AW.condF (b := v5) rfl c9_ ?_
    refine AW.sub (Sub.bool 28 (b := v5) rfl c9_) ?_
    refine AW.sub (S' := mk 109 [] [(0, .d (.sl (a0.map (cL (cI .i64))))), (1, .d (.sl (a1.map cS))), (28, .b false)] []) (by simp; exact Sub.table (by simp) (by simp)) ?_
    refine AW.skip ?_
    refine thenQ_normal ?_
    refine AW.seqR ?_
    replace h := bsome h; obtain ⟨r10, hr10, h⟩ := h
    have Fr10 := p4 N  r10 hr10
    rcases osome h with ⟨hr10o, h⟩ | ⟨r10o, hr10o, h⟩
    ·simp only [hr10o, List.append_nil] at Fr10
     refine Chain.callF Fr10 [] [] [] [] (.d (.lit (.pointer none))) (by simp) rfl (by simp <;> rfl) (by simp) (by simp) (by simp) (by simp) (by simp) ent4 (by simp) (by simp) (by simp) (by simp) (by simp) (by simp) ?_
     refine Chain.sub (S' := mk 109 [] [(0, .d (.sl (a0.map (cL (cI .i64))))), (1, .d (.sl (a1.map cS))), (28, .b false), (29, .d (.lit (.pointer none)))] []) (by simp; exact Sub.table (by simp) (by simp)) ?_
     refine Chain.runK [] 2 fun K hK => ?_; simp; refine hK _ _ ?_; clear hK K
     refine Chain.sub (S' := mk 109 [] [(0, .d (.sl (a0.map (cL (cI .i64))))), (1, .d (.sl (a1.map cS))), (29, .d (.lit (.pointer none))), (31, .ptr 31 0 0)] [(31, some (.box [.d (.lit (.slice none 0 0)), .d (.lit (.slice none 0 0))]))]) Sub.tt ?_
     refine Chain.sub (Sub.nilOwnBox (bid := 31) (j := 0) (id := 5620) (T := 37) (n := 4) rfl rfl (by decide) rfl (by decide)) ?_
     refine Chain.sub (S' := mk 109 [] [(0, .d (.sl (a0.map (cL (cI .i64))))), (1, .d (.sl (a1.map cS))), (29, .d (.lit (.pointer none))), (31, .ptr 31 0 0)] [(31, some (.box [.ref 5620 0 (([] : List S29).length), .d (.lit (.slice none 0 0))])), (5620, R37 ([] : List S29))]) (by simp; exact Sub.table (by simp) (by simp)) ?_
     refine Chain.sub (Sub.nilOwnBox (bid := 31) (j := 1) (id := 5621) (T := 37) (n := 4) rfl rfl (by decide) rfl (by decide)) ?_
     refine Chain.sub (S' := mk 109 [] [(0, .d (.sl (a0.map (cL (cI .i64))))), (1, .d (.sl (a1.map cS))), (29, .d (.lit (.pointer none))), (31, .ptr 31 0 0)] [(31, some (.box [.ref 5620 0 (([] : List S29).length), .ref 5621 0 (([] : List S29).length)])), (5620, R37 ([] : List S29)), (5621, R37 ([] : List S29))]) (by simp; exact Sub.table (by simp) (by simp)) ?_
     refine Chain.runK [] 2 fun K hK => ?_; simp; refine hK _ _ ?_; clear hK K
     refine Chain.sub (S' := mk 109 [] [(0, .d (.sl (a0.map (cL (cI .i64))))), (1, .d (.sl (a1.map cS))), (6, .d (.lit (.pointer none))), (7, .ptr 31 0 0)] [(31, some (.box [.ref 5620 0 (([] : List S29).length), .ref 5621 0 (([] : List S29).length)])), (5620, R37 ([] : List S29)), (5621, R37 ([] : List S29))]) Sub.tt ?_
     refine Chain.nil ?_
     refine AW.seq ?_
     refine AW.seqR ?_
     refine Chain.runK [] 3 fun K hK => ?_; simp; refine hK _ _ ?_; clear hK K
     refine Chain.sub (S' := mk 109 [] [(1, .d (.sl (a1.map cS))), (6, .d (.lit (.pointer none))), (7, .ptr 31 0 0), (32, .d (.sl (a0.map (cL (cI .i64))))), (33, .i (a0.length : Int)), (34, .i 0)] [(31, some (.box [.ref 5620 0 (([] : List S29).length), .ref 5621 0 (([] : List S29).length)])), (5620, R37 ([] : List S29)), (5621, R37 ([] : List S29))]) Sub.tt ?_
     refine Chain.nil ?_
     refine AW.lastJ (fun (_ : Unit) => mk 109 [] [] []) h ?_ ?_ <;> clear h
     ·intro o h
      refine AW.block ?_
      refine AW.iter (fun (_ : Unit) => mk 109 [] [(1, .d (.sl (a1.map cS))), (6, .d (.lit (.pointer none))), (7, .ptr 31 0 0), (32, .d (.sl (a0.map (cL (cI .i64))))), (33, .i (a0.length : Int)), (34, .i 0)] [(31, some (.box [.ref 5620 0 (([] : List S29).length), .ref 5621 0 (([] : List S29).length)])), (5620, R37 ([] : List S29)), (5621, R37 ([] : List S29))]) h Sub.tt ?_
      clear h
      rintro ⟨⟩ x h
      refine AW.seqR ?_
      refine Chain.runK [] 1 fun K hK => ?_; simp; refine hK _ _ ?_; clear hK K
      refine Chain.sub (S' := mk 109 [] [(1, .d (.sl (a1.map cS))), (6, .d (.lit (.pointer none))), (7, .ptr 31 0 0), (32, .d (.sl (a0.map (cL (cI .i64))))), (33, .i (a0.length : Int)), (34, .i 0), (35, .b (decide (0 < (a0.length : Int))))] [(31, some (.box [.ref 5620 0 (([] : List S29).length), .ref 5621 0 (([] : List S29).length)])), (5620, R37 ([] : List S29)), (5621, R37 ([] : List S29))]) Sub.tt ?_
      refine Chain.nil ?_
      refine AW.seq ?_
      replace h := isome h; rcases h with ⟨c62, h⟩ | ⟨c62, h⟩
      ·have c62_ : decide (0 < (a0.length : Int)) = true := decide_eq_true c62
       refine AW.condT (b := decide (0 < (a0.length : Int))) rfl c62_ ?_
       refine AW.sub (Sub.bool 35 (b := decide (0 < (a0.length : Int))) rfl c62_) ?_
       refine AW.sub (S' := mk 109 [] [(1, .d (.sl (a1.map cS))), (6, .d (.lit (.pointer none))), (7, .ptr 31 0 0), (32, .d (.sl (a0.map (cL (cI .i64))))), (33, .i (a0.length : Int)), (34, .i 0), (35, .b true)] [(31, some (.box [.ref 5620 0 (([] : List S29).length), .ref 5621 0 (([] : List S29).length)])), (5620, R37 ([] : List S29)), (5621, R37 ([] : List S29))]) (by simp; exact Sub.table (by simp) (by simp)) ?_
       refine AW.skip ?_
       refine thenQ_normal ?_
       refine AW.seq ?_
       refine AW.block ?_
       refine AW.seqR ?_
       replace h := bsome h; obtain ⟨x63, hx63, h⟩ := h
       obtain ⟨hx63, hx63b, hx63c⟩ := idx_someN (n := 0) hx63
       refine Chain.runK [] 3 fun K hK => ?_; simp [hx63]; refine hK _ _ ?_; clear hK K
       refine Chain.sub (S' := mk 109 [] [(1, .d (.sl (a1.map cS))), (6, .d (.lit (.pointer none))), (7, .ptr 31 0 0), (9, .d (.sl (x63.map (cI .i64)))), (32, .d (.sl (a0.map (cL (cI .i64))))), (33, .i (a0.length : Int)), (34, .i 0)] [(31, some (.box [.ref 5620 0 (([] : List S29).length), .ref 5621 0 (([] : List S29).length)])), (5620, R37 ([] : List S29)), (5621, R37 ([] : List S29))]) Sub.tt ?_
       refine Chain.nil ?_
       refine AW.seqR ?_
       refine Chain.runK [] 1 fun K hK => ?_; simp; refine hK _ _ ?_; clear hK K
       refine Chain.sub (S' := mk 109 [] [(1, .d (.sl (a1.map cS))), (6, .d (.lit (.pointer none))), (7, .ptr 31 0 0), (9, .d (.sl (x63.map (cI .i64)))), (32, .d (.sl (a0.map (cL (cI .i64))))), (33, .i (a0.length : Int)), (34, .i 0), (38, .d (.sl (x63.map (cI .i64))))] [(31, some (.box [.ref 5620 0 (([] : List S29).length), .ref 5621 0 (([] : List S29).length)])), (5620, R37 ([] : List S29)), (5621, R37 ([] : List S29))]) Sub.tt ?_
       replace h := bsome h; obtain ⟨r64, hr64, h⟩ := h
       refine Chain.callL (d := 39) (p6 N x63 1 r64 hr64) (by simp) rfl rfl (by simp <;> rfl) (by simp <;> rfl) ent6 (by simp <;> rfl) ?_
       refine Chain.sub (S' := mk 109 [] [(1, .d (.sl (a1.map cS))), (6, .d (.lit (.pointer none))), (7, .ptr 31 0 0), (9, .d (.sl (x63.map (cI .i64)))), (32, .d (.sl (a0.map (cL (cI .i64))))), (33, .i (a0.length : Int)), (34, .i 0), (38, .d (.sl (x63.map (cI .i64)))), (39, .i r64)] [(31, some (.box [.ref 5620 0 (([] : List S29).length), .ref 5621 0 (([] : List S29).length)])), (5620, R37 ([] : List S29)), (5621, R37 ([] : List S29))]) (by simp; exact Sub.table (by simp) (by simp)) ?_
       refine Chain.runK [] 1 fun K hK => ?_; simp; refine hK _ _ ?_; clear hK K
       refine Chain.sub (S' := mk 109 [] [(1, .d (.sl (a1.map cS))), (6, .d (.lit (.pointer none))), (7, .ptr 31 0 0), (9, .d (.sl (x63.map (cI .i64)))), (10, .i r64), (32, .d (.sl (a0.map (cL (cI .i64))))), (33, .i (a0.length : Int)), (34, .i 0)] [(31, some (.box [.ref 5620 0 (([] : List S29).length), .ref 5621 0 (([] : List S29).length)])), (5620, R37 ([] : List S29)), (5621, R37 ([] : List S29))]) Sub.tt ?_
       refine Chain.nil ?_
       refine AW.seq ?_
       refine AW.seqR ?_
       refine Chain.runK [] 1 fun K hK => ?_; simp; refine hK _ _ ?_; clear hK K
       refine Chain.sub (S' := mk 109 [] [(1, .d (.sl (a1.map cS))), (6, .d (.lit (.pointer none))), (7, .ptr 31 0 0), (9, .d (.sl (x63.map (cI .i64)))), (10, .i r64), (32, .d (.sl (a0.map (cL (cI .i64))))), (33, .i (a0.length : Int)), (34, .i 0), (40, .d (.sl (x63.map (cI .i64))))] [(31, some (.box [.ref 5620 0 (([] : List S29).length), .ref 5621 0 (([] : List S29).length)])), (5620, R37 ([] : List S29)), (5621, R37 ([] : List S29))]) Sub.tt ?_
       replace h := bsome h; obtain ⟨r65, hr65, h⟩ := h
       refine Chain.callL (d := 41) (p6 N x63 0 r65 hr65) (by simp) rfl rfl (by simp <;> rfl) (by simp <;> rfl) ent6 (by simp <;> rfl) ?_
       refine Chain.sub (S' := mk 109 [] [(1, .d (.sl (a1.map cS))), (6, .d (.lit (.pointer none))), (7, .ptr 31 0 0), (9, .d (.sl (x63.map (cI .i64)))), (10, .i r64), (32, .d (.sl (a0.map (cL (cI .i64))))), (33, .i (a0.length : Int)), (34, .i 0), (40, .d (.sl (x63.map (cI .i64)))), (41, .i r65)] [(31, some (.box [.ref 5620 0 (([] : List S29).length), .ref 5621 0 (([] : List S29).length)])), (5620, R37 ([] : List S29)), (5621, R37 ([] : List S29))]) (by simp; exact Sub.table (by simp) (by simp)) ?_
       refine Chain.nil ?_
       refine AW.block ?_
       refine AW.seqR ?_
       refine Chain.runK [] 2 fun K hK => ?_; simp; refine hK _ _ ?_; clear hK K
       refine Chain.sub (S' := mk 109 [] [(1, .d (.sl (a1.map cS))), (6, .d (.lit (.pointer none))), (7, .ptr 31 0 0), (9, .d (.sl (x63.map (cI .i64)))), (10, .i r64), (32, .d (.sl (a0.map (cL (cI .i64))))), (33, .i (a0.length : Int)), (34, .i 0), (41, .i r65), (42, .b (r65 == 1))] [(31, some (.box [.ref 5620 0 (([] : List S29).length), .ref 5621 0 (([] : List S29).length)])), (5620, R37 ([] : List S29)), (5621, R37 ([] : List S29))]) Sub.tt ?_
       refine Chain.nil ?_
       replace h := isome h; rcases h with ⟨c66, h⟩ | ⟨c66, h⟩
       ·have c66_ : (r65 == 1) = true := c66
        refine AW.condT (b := (r65 == 1)) rfl c66_ ?_
        refine AW.sub (Sub.bool 42 (b := (r65 == 1)) rfl c66_) ?_
        refine AW.sub (S' := mk 109 [] [(1, .d (.sl (a1.map cS))), (6, .d (.lit (.pointer none))), (7, .ptr 31 0 0), (9, .d (.sl (x63.map (cI .i64)))), (10, .i r64), (32, .d (.sl (a0.map (cL (cI .i64))))), (33, .i (a0.length : Int)), (34, .i 0), (41, .i r65), (42, .b true)] [(31, some (.box [.ref 5620 0 (([] : List S29).length), .ref 5621 0 (([] : List S29).length)])), (5620, R37 ([] : List S29)), (5621, R37 ([] : List S29))]) (by simp; exact Sub.table (by simp) (by simp)) ?_
        refine AW.seqR ?_
        refine Chain.runK [] 3 fun K hK => ?_; simp; refine hK _ _ ?_; clear hK K
        refine Chain.sub (S' := mk 109 [] [(1, .d (.sl (a1.map cS))), (6, .d (.lit (.pointer none))), (7, .ptr 31 0 0), (9, .d (.sl (x63.map (cI .i64)))), (10, .i r64), (32, .d (.sl (a0.map (cL (cI .i64))))), (33, .i (a0.length : Int)), (34, .i 0), (44, .i r64), (45, .d (.sl (a1.map cS))), (46, .d (.sl (x63.map (cI .i64))))] [(31, some (.box [.ref 5620 0 (([] : List S29).length), .ref 5621 0 (([] : List S29).length)])), (5620, R37 ([] : List S29)), (5621, R37 ([] : List S29))]) Sub.tt ?_
        replace h := bsome h; obtain ⟨r67, hr67, h⟩ := h
        refine Chain.callL (d := 47) (p6 N x63 2 r67 hr67) (by simp) rfl rfl (by simp <;> rfl) (by simp <;> rfl) ent6 (by simp <;> rfl) ?_
        refine Chain.sub (S' := mk 109 [] [(1, .d (.sl (a1.map cS))), (6, .d (.lit (.pointer none))), (7, .ptr 31 0 0), (9, .d (.sl (x63.map (cI .i64)))), (10, .i r64), (32, .d (.sl (a0.map (cL (cI .i64))))), (33, .i (a0.length : Int)), (34, .i 0), (44, .i r64), (45, .d (.sl (a1.map cS))), (46, .d (.sl (x63.map (cI .i64)))), (47, .i r67)] [(31, some (.box [.ref 5620 0 (([] : List S29).length), .ref 5621 0 (([] : List S29).length)])), (5620, R37 ([] : List S29)), (5621, R37 ([] : List S29))]) (by simp; exact Sub.table (by simp) (by simp)) ?_
        replace h := bsome h; obtain ⟨r68, hr68, h⟩ := h
        refine Chain.callL (d := 48) (p7 N a1 r67 r68 hr68) (by simp) rfl rfl (by simp <;> rfl) (by simp <;> rfl) ent7 (by simp <;> rfl) ?_
        refine Chain.sub (S' := mk 109 [] [(1, .d (.sl (a1.map cS))), (6, .d (.lit (.pointer none))), (7, .ptr 31 0 0), (9, .d (.sl (x63.map (cI .i64)))), (10, .i r64), (32, .d (.sl (a0.map (cL (cI .i64))))), (33, .i (a0.length : Int)), (34, .i 0), (44, .i r64), (45, .d (.sl (a1.map cS))), (46, .d (.sl (x63.map (cI .i64)))), (47, .i r67), (48, .d (.lit (.string r68)))] [(31, some (.box [.ref 5620 0 (([] : List S29).length), .ref 5621 0 (([] : List S29).length)])), (5620, R37 ([] : List S29)), (5621, R37 ([] : List S29))]) (by simp; exact Sub.table (by simp) (by simp)) ?_
        refine Chain.runK [] 1 fun K hK => ?_; simp; refine hK _ _ ?_; clear hK K
        refine Chain.sub (S' := mk 109 [] [(1, .d (.sl (a1.map cS))), (6, .d (.lit (.pointer none))), (7, .ptr 31 0 0), (9, .d (.sl (x63.map (cI .i64)))), (10, .i r64), (32, .d (.sl (a0.map (cL (cI .i64))))), (33, .i (a0.length : Int)), (34, .i 0), (44, .i r64), (48, .d (.lit (.string r68))), (49, .d (.sl (x63.map (cI .i64))))] [(31, some (.box [.ref 5620 0 (([] : List S29).length), .ref 5621 0 (([] : List S29).length)])), (5620, R37 ([] : List S29)), (5621, R37 ([] : List S29))]) Sub.tt ?_
        replace h := bsome h; obtain ⟨r69, hr69, h⟩ := h
        refine Chain.callL (d := 50) (p6 N x63 4 r69 hr69) (by simp) rfl rfl (by simp <;> rfl) (by simp <;> rfl) ent6 (by simp <;> rfl) ?_
        refine Chain.sub (S' := mk 109 [] [(1, .d (.sl (a1.map cS))), (6, .d (.lit (.pointer none))), (7, .ptr 31 0 0), (9, .d (.sl (x63.map (cI .i64)))), (10, .i r64), (32, .d (.sl (a0.map (cL (cI .i64))))), (33, .i (a0.length : Int)), (34, .i 0), (44, .i r64), (48, .d (.lit (.string r68))), (49, .d (.sl (x63.map (cI .i64)))), (50, .i r69)] [(31, some (.box [.ref 5620 0 (([] : List S29).length), .ref 5621 0 (([] : List S29).length)])), (5620, R37 ([] : List S29)), (5621, R37 ([] : List S29))]) (by simp; exact Sub.table (by simp) (by simp)) ?_
        refine Chain.runK [] 3 fun K hK => ?_; simp; refine hK _ _ ?_; clear hK K
        refine Chain.sub (S' := mk 109 [] [(1, .d (.sl (a1.map cS))), (6, .d (.lit (.pointer none))), (7, .ptr 31 0 0), (9, .d (.sl (x63.map (cI .i64)))), (10, .i r64), (11, .ptr 11 0 0), (32, .d (.sl (a0.map (cL (cI .i64))))), (33, .i (a0.length : Int)), (34, .i 0)] [(11, some (.box [.i r64, .d (.lit (.string r68)), .d (.lit (.string (ByteArray.mk #[]))), .i r69])), (31, some (.box [.ref 5620 0 (([] : List S29).length), .ref 5621 0 (([] : List S29).length)])), (5620, R37 ([] : List S29)), (5621, R37 ([] : List S29))]) Sub.tt ?_
        refine Chain.nil ?_
        refine AW.seq ?_
        refine AW.seqR ?_
        refine Chain.runK [] 1 fun K hK => ?_; simp; refine hK _ _ ?_; clear hK K
        refine Chain.sub (S' := mk 109 [] [(1, .d (.sl (a1.map cS))), (6, .d (.lit (.pointer none))), (7, .ptr 31 0 0), (9, .d (.sl (x63.map (cI .i64)))), (10, .i r64), (11, .ptr 11 0 0), (32, .d (.sl (a0.map (cL (cI .i64))))), (33, .i (a0.length : Int)), (34, .i 0), (52, .d (.sl (x63.map (cI .i64))))] [(11, some (.box [.i r64, .d (.lit (.string r68)), .d (.lit (.string (ByteArray.mk #[]))), .i r69])), (31, some (.box [.ref 5620 0 (([] : List S29).length), .ref 5621 0 (([] : List S29).length)])), (5620, R37 ([] : List S29)), (5621, R37 ([] : List S29))]) Sub.tt ?_
        replace h := bsome h; obtain ⟨r70, hr70, h⟩ := h
        refine Chain.callL (d := 53) (p6 N x63 3 r70 hr70) (by simp) rfl rfl (by simp <;> rfl) (by simp <;> rfl) ent6 (by simp <;> rfl) ?_
        refine Chain.sub (S' := mk 109 [] [(1, .d (.sl (a1.map cS))), (6, .d (.lit (.pointer none))), (7, .ptr 31 0 0), (9, .d (.sl (x63.map (cI .i64)))), (10, .i r64), (11, .ptr 11 0 0), (32, .d (.sl (a0.map (cL (cI .i64))))), (33, .i (a0.length : Int)), (34, .i 0), (52, .d (.sl (x63.map (cI .i64)))), (53, .i r70)] [(11, some (.box [.i r64, .d (.lit (.string r68)), .d (.lit (.string (ByteArray.mk #[]))), .i r69])), (31, some (.box [.ref 5620 0 (([] : List S29).length), .ref 5621 0 (([] : List S29).length)])), (5620, R37 ([] : List S29)), (5621, R37 ([] : List S29))]) (by simp; exact Sub.table (by simp) (by simp)) ?_
        refine Chain.runK [] 1 fun K hK => ?_; simp; refine hK _ _ ?_; clear hK K
        refine Chain.sub (S' := mk 109 [] [(1, .d (.sl (a1.map cS))), (6, .d (.lit (.pointer none))), (7, .ptr 31 0 0), (9, .d (.sl (x63.map (cI .i64)))), (10, .i r64), (11, .ptr 11 0 0), (32, .d (.sl (a0.map (cL (cI .i64))))), (33, .i (a0.length : Int)), (34, .i 0), (54, .b (decide (r70 > 0)))] [(11, some (.box [.i r64, .d (.lit (.string r68)), .d (.lit (.string (ByteArray.mk #[]))), .i r69])), (31, some (.box [.ref 5620 0 (([] : List S29).length), .ref 5621 0 (([] : List S29).length)])), (5620, R37 ([] : List S29)), (5621, R37 ([] : List S29))]) Sub.tt ?_
        refine Chain.nil ?_
        refine AW.lastN (fun (v74 : ByteArray) => mk 109 [] [(1, .d (.sl (a1.map cS))), (6, .d (.lit (.pointer none))), (7, .ptr 31 0 0), (10, .i r64), (11, .ptr 11 0 0), (32, .d (.sl (a0.map (cL (cI .i64))))), (33, .i (a0.length : Int)), (34, .i 0)] [(11, some (.box [.i r64, .d (.lit (.string r68)), .d (.lit (.string v74)), .i r69])), (31, some (.box [.ref 5620 0 (([] : List S29).length), .ref 5621 0 (([] : List S29).length)])), (5620, R37 ([] : List S29)), (5621, R37 ([] : List S29))]) h ?_ ?_ <;> clear h
        ·intro o h
         replace h := isome h; rcases h with ⟨c75, h⟩ | ⟨c75, h⟩
         ·have c75_ : decide (r70 > 0) = true := decide_eq_true c75
          refine AW.condT (b := decide (r70 > 0)) rfl c75_ ?_
          refine AW.sub (Sub.bool 54 (b := decide (r70 > 0)) rfl c75_) ?_
          refine AW.sub (S' := mk 109 [] [(1, .d (.sl (a1.map cS))), (6, .d (.lit (.pointer none))), (7, .ptr 31 0 0), (9, .d (.sl (x63.map (cI .i64)))), (10, .i r64), (11, .ptr 11 0 0), (32, .d (.sl (a0.map (cL (cI .i64))))), (33, .i (a0.length : Int)), (34, .i 0), (54, .b true)] [(11, some (.box [.i r64, .d (.lit (.string r68)), .d (.lit (.string (ByteArray.mk #[]))), .i r69])), (31, some (.box [.ref 5620 0 (([] : List S29).length), .ref 5621 0 (([] : List S29).length)])), (5620, R37 ([] : List S29)), (5621, R37 ([] : List S29))]) (by simp; exact Sub.table (by simp) (by simp)) ?_
          refine AW.region ?_
          refine Chain.runK [] 2 fun K hK => ?_; simp; refine hK _ _ ?_; clear hK K
          refine Chain.sub (S' := mk 109 [] [(1, .d (.sl (a1.map cS))), (6, .d (.lit (.pointer none))), (7, .ptr 31 0 0), (10, .i r64), (11, .ptr 11 0 0), (32, .d (.sl (a0.map (cL (cI .i64))))), (33, .i (a0.length : Int)), (34, .i 0), (55, .d (.sl (a1.map cS))), (56, .d (.sl (x63.map (cI .i64))))] [(11, some (.box [.i r64, .d (.lit (.string r68)), .d (.lit (.string (ByteArray.mk #[]))), .i r69])), (31, some (.box [.ref 5620 0 (([] : List S29).length), .ref 5621 0 (([] : List S29).length)])), (5620, R37 ([] : List S29)), (5621, R37 ([] : List S29))]) Sub.tt ?_
          replace h := bsome h; obtain ⟨r76, hr76, h⟩ := h
          refine Chain.callL (d := 57) (p6 N x63 3 r76 hr76) (by simp) rfl rfl (by simp <;> rfl) (by simp <;> rfl) ent6 (by simp <;> rfl) ?_
          refine Chain.sub (S' := mk 109 [] [(1, .d (.sl (a1.map cS))), (6, .d (.lit (.pointer none))), (7, .ptr 31 0 0), (10, .i r64), (11, .ptr 11 0 0), (32, .d (.sl (a0.map (cL (cI .i64))))), (33, .i (a0.length : Int)), (34, .i 0), (55, .d (.sl (a1.map cS))), (56, .d (.sl (x63.map (cI .i64)))), (57, .i r76)] [(11, some (.box [.i r64, .d (.lit (.string r68)), .d (.lit (.string (ByteArray.mk #[]))), .i r69])), (31, some (.box [.ref 5620 0 (([] : List S29).length), .ref 5621 0 (([] : List S29).length)])), (5620, R37 ([] : List S29)), (5621, R37 ([] : List S29))]) (by simp; exact Sub.table (by simp) (by simp)) ?_
          replace h := bsome h; obtain ⟨r77, hr77, h⟩ := h
          refine Chain.callL (d := 58) (p7 N a1 r76 r77 hr77) (by simp) rfl rfl (by simp <;> rfl) (by simp <;> rfl) ent7 (by simp <;> rfl) ?_
          refine Chain.sub (S' := mk 109 [] [(1, .d (.sl (a1.map cS))), (6, .d (.lit (.pointer none))), (7, .ptr 31 0 0), (10, .i r64), (11, .ptr 11 0 0), (32, .d (.sl (a0.map (cL (cI .i64))))), (33, .i (a0.length : Int)), (34, .i 0), (55, .d (.sl (a1.map cS))), (56, .d (.sl (x63.map (cI .i64)))), (57, .i r76), (58, .d (.lit (.string r77)))] [(11, some (.box [.i r64, .d (.lit (.string r68)), .d (.lit (.string (ByteArray.mk #[]))), .i r69])), (31, some (.box [.ref 5620 0 (([] : List S29).length), .ref 5621 0 (([] : List S29).length)])), (5620, R37 ([] : List S29)), (5621, R37 ([] : List S29))]) (by simp; exact Sub.table (by simp) (by simp)) ?_
          refine Chain.runK [] 2 fun K hK => ?_; simp; refine hK _ _ ?_; clear hK K
          refine Chain.sub (S' := mk 109 [] [(1, .d (.sl (a1.map cS))), (6, .d (.lit (.pointer none))), (7, .ptr 31 0 0), (10, .i r64), (11, .ptr 11 0 0), (32, .d (.sl (a0.map (cL (cI .i64))))), (33, .i (a0.length : Int)), (34, .i 0)] [(11, some (.box [.i r64, .d (.lit (.string r68)), .d (.lit (.string r77)), .i r69])), (31, some (.box [.ref 5620 0 (([] : List S29).length), .ref 5621 0 (([] : List S29).length)])), (5620, R37 ([] : List S29)), (5621, R37 ([] : List S29))]) Sub.tt ?_
          refine Chain.nil ?_
          cases h
          refine PostN.next ?_
          exact Sub.tt
         ·have c75_ : decide (r70 > 0) = false := decide_eq_false c75
          refine AW.condF (b := decide (r70 > 0)) rfl c75_ ?_
          refine AW.sub (Sub.bool 54 (b := decide (r70 > 0)) rfl c75_) ?_
          refine AW.sub (S' := mk 109 [] [(1, .d (.sl (a1.map cS))), (6, .d (.lit (.pointer none))), (7, .ptr 31 0 0), (9, .d (.sl (x63.map (cI .i64)))), (10, .i r64), (11, .ptr 11 0 0), (32, .d (.sl (a0.map (cL (cI .i64))))), (33, .i (a0.length : Int)), (34, .i 0), (54, .b false)] [(11, some (.box [.i r64, .d (.lit (.string r68)), .d (.lit (.string (ByteArray.mk #[]))), .i r69])), (31, some (.box [.ref 5620 0 (([] : List S29).length), .ref 5621 0 (([] : List S29).length)])), (5620, R37 ([] : List S29)), (5621, R37 ([] : List S29))]) (by simp; exact Sub.table (by simp) (by simp)) ?_
          refine AW.skip ?_
          cases h
          refine PostN.next ?_
          exact Sub.tt
        ·rintro v74 h
         refine thenQ_normal ?_
         cases h
       ·have c66_ : (r65 == 1) = false := Bool.eq_false_iff.2 c66
        refine AW.condF (b := (r65 == 1)) rfl c66_ ?_
        refine AW.sub (Sub.bool 42 (b := (r65 == 1)) rfl c66_) ?_
        refine AW.sub (S' := mk 109 [] [(1, .d (.sl (a1.map cS))), (6, .d (.lit (.pointer none))), (7, .ptr 31 0 0), (9, .d (.sl (x63.map (cI .i64)))), (10, .i r64), (32, .d (.sl (a0.map (cL (cI .i64))))), (33, .i (a0.length : Int)), (34, .i 0), (41, .i r65), (42, .b false)] [(31, some (.box [.ref 5620 0 (([] : List S29).length), .ref 5621 0 (([] : List S29).length)])), (5620, R37 ([] : List S29)), (5621, R37 ([] : List S29))]) (by simp; exact Sub.table (by simp) (by simp)) ?_
        refine AW.seqR ?_
        refine Chain.runK [] 2 fun K hK => ?_; simp; refine hK _ _ ?_; clear hK K
        refine Chain.sub (S' := mk 109 [] [(1, .d (.sl (a1.map cS))), (6, .d (.lit (.pointer none))), (7, .ptr 31 0 0), (10, .i r64), (32, .d (.sl (a0.map (cL (cI .i64))))), (33, .i (a0.length : Int)), (34, .i 0), (75, .b (r65 == 2))] [(31, some (.box [.ref 5620 0 (([] : List S29).length), .ref 5621 0 (([] : List S29).length)])), (5620, R37 ([] : List S29)), (5621, R37 ([] : List S29))]) Sub.tt ?_
        refine Chain.nil ?_
        replace h := isome h; rcases h with ⟨c78, h⟩ | ⟨c78, h⟩
        ·have c78_ : (r65 == 2) = true := c78
         refine AW.condT (b := (r65 == 2)) rfl c78_ ?_
         refine AW.sub (Sub.bool 75 (b := (r65 == 2)) rfl c78_) ?_
         refine AW.sub (S' := mk 109 [] [(1, .d (.sl (a1.map cS))), (6, .d (.lit (.pointer none))), (7, .ptr 31 0 0), (10, .i r64), (32, .d (.sl (a0.map (cL (cI .i64))))), (33, .i (a0.length : Int)), (34, .i 0), (75, .b true)] [(31, some (.box [.ref 5620 0 (([] : List S29).length), .ref 5621 0 (([] : List S29).length)])), (5620, R37 ([] : List S29)), (5621, R37 ([] : List S29))]) (by simp; exact Sub.table (by simp) (by simp)) ?_
         cases h
        ·have c78_ : (r65 == 2) = false := Bool.eq_false_iff.2 c78
         refine AW.condF (b := (r65 == 2)) rfl c78_ ?_
         refine AW.sub (Sub.bool 75 (b := (r65 == 2)) rfl c78_) ?_
         refine AW.sub (S' := mk 109 [] [(1, .d (.sl (a1.map cS))), (6, .d (.lit (.pointer none))), (7, .ptr 31 0 0), (10, .i r64), (32, .d (.sl (a0.map (cL (cI .i64))))), (33, .i (a0.length : Int)), (34, .i 0), (75, .b false)] [(31, some (.box [.ref 5620 0 (([] : List S29).length), .ref 5621 0 (([] : List S29).length)])), (5620, R37 ([] : List S29)), (5621, R37 ([] : List S29))]) (by simp; exact Sub.table (by simp) (by simp)) ?_
         refine AW.skip ?_
         refine blockQ.normal ?_
         refine thenQ_normal ?_
         cases h
      ·have c62_ : decide (0 < (a0.length : Int)) = false := decide_eq_false c62
       refine AW.condF (b := decide (0 < (a0.length : Int))) rfl c62_ ?_
       refine AW.sub (Sub.bool 35 (b := decide (0 < (a0.length : Int))) rfl c62_) ?_
       refine AW.sub (S' := mk 109 [] [(1, .d (.sl (a1.map cS))), (6, .d (.lit (.pointer none))), (7, .ptr 31 0 0), (32, .d (.sl (a0.map (cL (cI .i64))))), (33, .i (a0.length : Int)), (34, .i 0), (35, .b false)] [(31, some (.box [.ref 5620 0 (([] : List S29).length), .ref 5621 0 (([] : List S29).length)])), (5620, R37 ([] : List S29)), (5621, R37 ([] : List S29))]) (by simp; exact Sub.table (by simp) (by simp)) ?_
       refine AW.exit ?_
       cases h
       refine thenQ_pass (by simp) ?_
       refine PostI.out (by simp) ?_
       rintro rfl
       refine blockQ.hit ?_
       refine PostJ.next ?_
       exact Sub.tt
     ·rintro ⟨⟩ h
      refine thenQ_normal ?_
      refine AW.seqR ?_
      refine Chain.runK [] 1 fun K hK => ?_; simp; refine hK _ _ ?_; clear hK K
      refine Chain.sub (S' := mk 109 [] [(4, .b true)] []) Sub.tt ?_
      refine Chain.nil ?_
      refine AW.ret ?_
      cases h
      exact FinC.ret (by simp) (by simp)
    ·simp only [hr10o, List.nil_append] at Fr10
     refine Chain.callF Fr10 [] [] [(1000, 29), (25000, 5580), (25001, 5581)] [(29, (.box [.ref 5580 0 r10o.granted.length, .ref 5581 0 r10o.queue.length])), (5580, (.arr 29 4 (r10o.granted.map cS29))), (5581, (.arr 29 4 (r10o.queue.map cS29)))] (.ptr 29 0 0) (by simp) rfl (by simp <;> rfl) (by simp) (by simp) (by simp) (by simp) (by simp) ent4 (by simp) (by simp) (by simp) (by simp) (by simp) (by simp) ?_
     refine Chain.sub (S' := mk 109 [] [(0, .d (.sl (a0.map (cL (cI .i64))))), (1, .d (.sl (a1.map cS))), (28, .b false), (29, .ptr 29 0 0)] [(29, some (.box [.ref 5580 0 r10o.granted.length, .ref 5581 0 r10o.queue.length])), (5580, R29 r10o.granted), (5581, R29 r10o.queue)]) (by simp; exact Sub.table (by simp) (by simp)) ?_
     refine Chain.runK [] 2 fun K hK => ?_; simp; refine hK _ _ ?_; clear hK K
     refine Chain.sub (S' := mk 109 [] [(0, .d (.sl (a0.map (cL (cI .i64))))), (1, .d (.sl (a1.map cS))), (29, .ptr 29 0 0), (31, .ptr 31 0 0)] [(29, some (.box [.ref 5580 0 r10o.granted.length, .ref 5581 0 r10o.queue.length])), (31, some (.box [.d (.lit (.slice none 0 0)), .d (.lit (.slice none 0 0))])), (5580, R29 r10o.granted), (5581, R29 r10o.queue)]) Sub.tt ?_
     refine Chain.sub (Sub.nilOwnBox (bid := 31) (j := 0) (id := 5620) (T := 37) (n := 4) rfl rfl (by decide) rfl (by decide)) ?_
     refine Chain.sub (S' := mk 109 [] [(0, .d (.sl (a0.map (cL (cI .i64))))), (1, .d (.sl (a1.map cS))), (29, .ptr 29 0 0), (31, .ptr 31 0 0)] [(29, some (.box [.ref 5580 0 r10o.granted.length, .ref 5581 0 r10o.queue.length])), (31, some (.box [.ref 5620 0 (([] : List S29).length), .d (.lit (.slice none 0 0))])), (5580, R29 r10o.granted), (5581, R29 r10o.queue), (5620, R37 ([] : List S29))]) (by simp; exact Sub.table (by simp) (by simp)) ?_
     refine Chain.sub (Sub.nilOwnBox (bid := 31) (j := 1) (id := 5621) (T := 37) (n := 4) rfl rfl (by decide) rfl (by decide)) ?_
     refine Chain.sub (S' := mk 109 [] [(0, .d (.sl (a0.map (cL (cI .i64))))), (1, .d (.sl (a1.map cS))), (29, .ptr 29 0 0), (31, .ptr 31 0 0)] [(29, some (.box [.ref 5580 0 r10o.granted.length, .ref 5581 0 r10o.queue.length])), (31, some (.box [.ref 5620 0 (([] : List S29).length), .ref 5621 0 (([] : List S29).length)])), (5580, R29 r10o.granted), (5581, R29 r10o.queue), (5620, R37 ([] : List S29)), (5621, R37 ([] : List S29))]) (by simp; exact Sub.table (by simp) (by simp)) ?_
     refine Chain.runK [] 2 fun K hK => ?_; simp; refine hK _ _ ?_; clear hK K
     refine Chain.sub (S' := mk 109 [] [(0, .d (.sl (a0.map (cL (cI .i64))))), (1, .d (.sl (a1.map cS))), (6, .ptr 29 0 0), (7, .ptr 31 0 0)] [(29, some (.box [.ref 5580 0 r10o.granted.length, .ref 5581 0 r10o.queue.length])), (31, some (.box [.ref 5620 0 (([] : List S29).length), .ref 5621 0 (([] : List S29).length)])), (5580, R29 r10o.granted), (5581, R29 r10o.queue), (5620, R37 ([] : List S29)), (5621, R37 ([] : List S29))]) Sub.tt ?_
     refine Chain.nil ?_
     refine AW.seq ?_
     refine AW.seqR ?_
     refine Chain.runK [] 3 fun K hK => ?_; simp; refine hK _ _ ?_; clear hK K
     refine Chain.sub (S' := mk 109 [] [(1, .d (.sl (a1.map cS))), (6, .ptr 29 0 0), (7, .ptr 31 0 0), (32, .d (.sl (a0.map (cL (cI .i64))))), (33, .i (a0.length : Int)), (34, .i 0)] [(29, some (.box [.ref 5580 0 r10o.granted.length, .ref 5581 0 r10o.queue.length])), (31, some (.box [.ref 5620 0 (([] : List S29).length), .ref 5621 0 (([] : List S29).length)])), (5580, R29 r10o.granted), (5581, R29 r10o.queue), (5620, R37 ([] : List S29)), (5621, R37 ([] : List S29))]) Sub.tt ?_
     refine Chain.nil ?_
     refine AW.lastJ (fun (_ : Unit) => mk 109 [] [] []) h ?_ ?_ <;> clear h
     ·intro o h
      refine AW.block ?_
      refine AW.iter (fun ((l128, l129, l130, l131, v132) : ((List S29) × (List S29) × (List S29) × (List S29) × Int)) => mk 109 [] [(1, .d (.sl (a1.map cS))), (6, .ptr 29 0 0), (7, .ptr 31 0 0), (32, .d (.sl (a0.map (cL (cI .i64))))), (33, .i (a0.length : Int)), (34, .i v132)] [(29, some (.box [.ref 5580 0 l128.length, .ref 5581 0 l129.length])), (31, some (.box [.ref 5620 0 l130.length, .ref 5621 0 l131.length])), (5580, R29 l128), (5581, R29 l129), (5620, R37 l130), (5621, R37 l131)]) h Sub.tt ?_
      clear h
      rintro ⟨l128, l129, l130, l131, v132⟩ x h
      dsimp only at h ⊢
      refine AW.seqR ?_
      refine Chain.runK [] 1 fun K hK => ?_; simp; refine hK _ _ ?_; clear hK K
      refine Chain.sub (S' := mk 109 [] [(1, .d (.sl (a1.map cS))), (6, .ptr 29 0 0), (7, .ptr 31 0 0), (32, .d (.sl (a0.map (cL (cI .i64))))), (33, .i (a0.length : Int)), (34, .i v132), (35, .b (decide (v132 < (a0.length : Int))))] [(29, some (.box [.ref 5580 0 l128.length, .ref 5581 0 l129.length])), (31, some (.box [.ref 5620 0 l130.length, .ref 5621 0 l131.length])), (5580, R29 l128), (5581, R29 l129), (5620, R37 l130), (5621, R37 l131)]) Sub.tt ?_
      refine Chain.nil ?_
      refine AW.seq ?_
      replace h := isome h; rcases h with ⟨c238, h⟩ | ⟨c238, h⟩
      ·have c238_ : decide (v132 < (a0.length : Int)) = true := decide_eq_true c238
       refine AW.condT (b := decide (v132 < (a0.length : Int))) rfl c238_ ?_
       refine AW.sub (Sub.bool 35 (b := decide (v132 < (a0.length : Int))) rfl c238_) ?_
       refine AW.sub (S' := mk 109 [] [(1, .d (.sl (a1.map cS))), (6, .ptr 29 0 0), (7, .ptr 31 0 0), (32, .d (.sl (a0.map (cL (cI .i64))))), (33, .i (a0.length : Int)), (34, .i v132), (35, .b true)] [(29, some (.box [.ref 5580 0 l128.length, .ref 5581 0 l129.length])), (31, some (.box [.ref 5620 0 l130.length, .ref 5621 0 l131.length])), (5580, R29 l128), (5581, R29 l129), (5620, R37 l130), (5621, R37 l131)]) (by simp; exact Sub.table (by simp) (by simp)) ?_
       refine AW.skip ?_
       refine thenQ_normal ?_
       refine AW.seq ?_
       refine AW.block ?_
       refine AW.seqR ?_
       replace h := bsome h; obtain ⟨x239, hx239, h⟩ := h
       obtain ⟨k240, hx239k, hx239, hx239a, hx239b⟩ := idx_some hx239
       refine Chain.runK [] 3 fun K hK => ?_; simp [hx239, hx239k, hx239a]; refine hK _ _ ?_; clear hK K
       refine Chain.sub (S' := mk 109 [] [(1, .d (.sl (a1.map cS))), (6, .ptr 29 0 0), (7, .ptr 31 0 0), (9, .d (.sl (x239.map (cI .i64)))), (32, .d (.sl (a0.map (cL (cI .i64))))), (33, .i (a0.length : Int)), (34, .i v132)] [(29, some (.box [.ref 5580 0 l128.length, .ref 5581 0 l129.length])), (31, some (.box [.ref 5620 0 l130.length, .ref 5621 0 l131.length])), (5580, R29 l128), (5581, R29 l129), (5620, R37 l130), (5621, R37 l131)]) Sub.tt ?_
       refine Chain.nil ?_
       refine AW.seqR ?_
       refine Chain.runK [] 1 fun K hK => ?_; simp; refine hK _ _ ?_; clear hK K
       refine Chain.sub (S' := mk 109 [] [(1, .d (.sl (a1.map cS))), (6, .ptr 29 0 0), (7, .ptr 31 0 0), (9, .d (.sl (x239.map (cI .i64)))), (32, .d (.sl (a0.map (cL (cI .i64))))), (33, .i (a0.length : Int)), (34, .i v132), (38, .d (.sl (x239.map (cI .i64))))] [(29, some (.box [.ref 5580 0 l128.length, .ref 5581 0 l129.length])), (31, some (.box [.ref 5620 0 l130.length, .ref 5621 0 l131.length])), (5580, R29 l128), (5581, R29 l129), (5620, R37 l130), (5621, R37 l131)]) Sub.tt ?_
       replace h := bsome h; obtain ⟨r241, hr241, h⟩ := h
       refine Chain.callL (d := 39) (p6 N x239 1 r241 hr241) (by simp) rfl rfl (by simp <;> rfl) (by simp <;> rfl) ent6 (by simp <;> rfl) ?_
       refine Chain.sub (S' := mk 109 [] [(1, .d (.sl (a1.map cS))), (6, .ptr 29 0 0), (7, .ptr 31 0 0), (9, .d (.sl (x239.map (cI .i64)))), (32, .d (.sl (a0.map (cL (cI .i64))))), (33, .i (a0.length : Int)), (34, .i v132), (38, .d (.sl (x239.map (cI .i64)))), (39, .i r241)] [(29, some (.box [.ref 5580 0 l128.length, .ref 5581 0 l129.length])), (31, some (.box [.ref 5620 0 l130.length, .ref 5621 0 l131.length])), (5580, R29 l128), (5581, R29 l129), (5620, R37 l130), (5621, R37 l131)]) (by simp; exact Sub.table (by simp) (by simp)) ?_
       refine Chain.runK [] 1 fun K hK => ?_; simp; refine hK _ _ ?_; clear hK K
       refine Chain.sub (S' := mk 109 [] [(1, .d (.sl (a1.map cS))), (6, .ptr 29 0 0), (7, .ptr 31 0 0), (9, .d (.sl (x239.map (cI .i64)))), (10, .i r241), (32, .d (.sl (a0.map (cL (cI .i64))))), (33, .i (a0.length : Int)), (34, .i v132)] [(29, some (.box [.ref 5580 0 l128.length, .ref 5581 0 l129.length])), (31, some (.box [.ref 5620 0 l130.length, .ref 5621 0 l131.length])), (5580, R29 l128), (5581, R29 l129), (5620, R37 l130), (5621, R37 l131)]) Sub.tt ?_
       refine Chain.nil ?_
       refine AW.seq ?_
       refine AW.seqR ?_
       refine Chain.runK [] 1 fun K hK => ?_; simp; refine hK _ _ ?_; clear hK K
       refine Chain.sub (S' := mk 109 [] [(1, .d (.sl (a1.map cS))), (6, .ptr 29 0 0), (7, .ptr 31 0 0), (9, .d (.sl (x239.map (cI .i64)))), (10, .i r241), (32, .d (.sl (a0.map (cL (cI .i64))))), (33, .i (a0.length : Int)), (34, .i v132), (40, .d (.sl (x239.map (cI .i64))))] [(29, some (.box [.ref 5580 0 l128.length, .ref 5581 0 l129.length])), (31, some (.box [.ref 5620 0 l130.length, .ref 5621 0 l131.length])), (5580, R29 l128), (5581, R29 l129), (5620, R37 l130), (5621, R37 l131)]) Sub.tt ?_
       replace h := bsome h; obtain ⟨r242, hr242, h⟩ := h
       refine Chain.callL (d := 41) (p6 N x239 0 r242 hr242) (by simp) rfl rfl (by simp <;> rfl) (by simp <;> rfl) ent6 (by simp <;> rfl) ?_
       refine Chain.sub (S' := mk 109 [] [(1, .d (.sl (a1.map cS))), (6, .ptr 29 0 0), (7, .ptr 31 0 0), (9, .d (.sl (x239.map (cI .i64)))), (10, .i r241), (32, .d (.sl (a0.map (cL (cI .i64))))), (33, .i (a0.length : Int)), (34, .i v132), (40, .d (.sl (x239.map (cI .i64)))), (41, .i r242)] [(29, some (.box [.ref 5580 0 l128.length, .ref 5581 0 l129.length])), (31, some (.box [.ref 5620 0 l130.length, .ref 5621 0 l131.length])), (5580, R29 l128), (5581, R29 l129), (5620, R37 l130), (5621, R37 l131)]) (by simp; exact Sub.table (by simp) (by simp)) ?_
       refine Chain.nil ?_
       refine AW.block ?_
       refine AW.seqR ?_
       refine Chain.runK [] 2 fun K hK => ?_; simp; refine hK _ _ ?_; clear hK K
       refine Chain.sub (S' := mk 109 [] [(1, .d (.sl (a1.map cS))), (6, .ptr 29 0 0), (7, .ptr 31 0 0), (9, .d (.sl (x239.map (cI .i64)))), (10, .i r241), (32, .d (.sl (a0.map (cL (cI .i64))))), (33, .i (a0.length : Int)), (34, .i v132), (41, .i r242), (42, .b (r242 == 1))] [(29, some (.box [.ref 5580 0 l128.length, .ref 5581 0 l129.length])), (31, some (.box [.ref 5620 0 l130.length, .ref 5621 0 l131.length])), (5580, R29 l128), (5581, R29 l129), (5620, R37 l130), (5621, R37 l131)]) Sub.tt ?_
       refine Chain.nil ?_
       replace h := isome h; rcases h with ⟨c243, h⟩ | ⟨c243, h⟩
       ·have c243_ : (r242 == 1) = true := c243
        refine AW.condT (b := (r242 == 1)) rfl c243_ ?_
        refine AW.sub (Sub.bool 42 (b := (r242 == 1)) rfl c243_) ?_
        refine AW.sub (S' := mk 109 [] [(1, .d (.sl (a1.map cS))), (6, .ptr 29 0 0), (7, .ptr 31 0 0), (9, .d (.sl (x239.map (cI .i64)))), (10, .i r241), (32, .d (.sl (a0.map (cL (cI .i64))))), (33, .i (a0.length : Int)), (34, .i v132), (41, .i r242), (42, .b true)] [(29, some (.box [.ref 5580 0 l128.length, .ref 5581 0 l129.length])), (31, some (.box [.ref 5620 0 l130.length, .ref 5621 0 l131.length])), (5580, R29 l128), (5581, R29 l129), (5620, R37 l130), (5621, R37 l131)]) (by simp; exact Sub.table (by simp) (by simp)) ?_
        refine AW.seqR ?_
        refine Chain.runK [] 3 fun K hK => ?_; simp; refine hK _ _ ?_; clear hK K
        refine Chain.sub (S' := mk 109 [] [(1, .d (.sl (a1.map cS))), (6, .ptr 29 0 0), (7, .ptr 31 0 0), (9, .d (.sl (x239.map (cI .i64)))), (10, .i r241), (32, .d (.sl (a0.map (cL (cI .i64))))), (33, .i (a0.length : Int)), (34, .i v132), (44, .i r241), (45, .d (.sl (a1.map cS))), (46, .d (.sl (x239.map (cI .i64))))] [(29, some (.box [.ref 5580 0 l128.length, .ref 5581 0 l129.length])), (31, some (.box [.ref 5620 0 l130.length, .ref 5621 0 l131.length])), (5580, R29 l128), (5581, R29 l129), (5620, R37 l130), (5621, R37 l131)]) Sub.tt ?_
        replace h := bsome h; obtain ⟨r244, hr244, h⟩ := h
        refine Chain.callL (d := 47) (p6 N x239 2 r244 hr244) (by simp) rfl rfl (by simp <;> rfl) (by simp <;> rfl) ent6 (by simp <;> rfl) ?_
        refine Chain.sub (S' := mk 109 [] [(1, .d (.sl (a1.map cS))), (6, .ptr 29 0 0), (7, .ptr 31 0 0), (9, .d (.sl (x239.map (cI .i64)))), (10, .i r241), (32, .d (.sl (a0.map (cL (cI .i64))))), (33, .i (a0.length : Int)), (34, .i v132), (44, .i r241), (45, .d (.sl (a1.map cS))), (46, .d (.sl (x239.map (cI .i64)))), (47, .i r244)] [(29, some (.box [.ref 5580 0 l128.length, .ref 5581 0 l129.length])), (31, some (.box [.ref 5620 0 l130.length, .ref 5621 0 l131.length])), (5580, R29 l128), (5581, R29 l129), (5620, R37 l130), (5621, R37 l131)]) (by simp; exact Sub.table (by simp) (by simp)) ?_
        replace h := bsome h; obtain ⟨r245, hr245, h⟩ := h
        refine Chain.callL (d := 48) (p7 N a1 r244 r245 hr245) (by simp) rfl rfl (by simp <;> rfl) (by simp <;> rfl) ent7 (by simp <;> rfl) ?_
        refine Chain.sub (S' := mk 109 [] [(1, .d (.sl (a1.map cS))), (6, .ptr 29 0 0), (7, .ptr 31 0 0), (9, .d (.sl (x239.map (cI .i64)))), (10, .i r241), (32, .d (.sl (a0.map (cL (cI .i64))))), (33, .i (a0.length : Int)), (34, .i v132), (44, .i r241), (45, .d (.sl (a1.map cS))), (46, .d (.sl (x239.map (cI .i64)))), (47, .i r244), (48, .d (.lit (.string r245)))] [(29, some (.box [.ref 5580 0 l128.length, .ref 5581 0 l129.length])), (31, some (.box [.ref 5620 0 l130.length, .ref 5621 0 l131.length])), (5580, R29 l128), (5581, R29 l129), (5620, R37 l130), (5621, R37 l131)]) (by simp; exact Sub.table (by simp) (by simp)) ?_
        refine Chain.runK [] 1 fun K hK => ?_; simp; refine hK _ _ ?_; clear hK K
        refine Chain.sub (S' := mk 109 [] [(1, .d (.sl (a1.map cS))), (6, .ptr 29 0 0), (7, .ptr 31 0 0), (9, .d (.sl (x239.map (cI .i64)))), (10, .i r241), (32, .d (.sl (a0.map (cL (cI .i64))))), (33, .i (a0.length : Int)), (34, .i v132), (44, .i r241), (48, .d (.lit (.string r245))), (49, .d (.sl (x239.map (cI .i64))))] [(29, some (.box [.ref 5580 0 l128.length, .ref 5581 0 l129.length])), (31, some (.box [.ref 5620 0 l130.length, .ref 5621 0 l131.length])), (5580, R29 l128), (5581, R29 l129), (5620, R37 l130), (5621, R37 l131)]) Sub.tt ?_
        replace h := bsome h; obtain ⟨r246, hr246, h⟩ := h
        refine Chain.callL (d := 50) (p6 N x239 4 r246 hr246) (by simp) rfl rfl (by simp <;> rfl) (by simp <;> rfl) ent6 (by simp <;> rfl) ?_
        refine Chain.sub (S' := mk 109 [] [(1, .d (.sl (a1.map cS))), (6, .ptr 29 0 0), (7, .ptr 31 0 0), (9, .d (.sl (x239.map (cI .i64)))), (10, .i r241), (32, .d (.sl (a0.map (cL (cI .i64))))), (33, .i (a0.length : Int)), (34, .i v132), (44, .i r241), (48, .d (.lit (.string r245))), (49, .d (.sl (x239.map (cI .i64)))), (50, .i r246)] [(29, some (.box [.ref 5580 0 l128.length, .ref 5581 0 l129.length])), (31, some (.box [.ref 5620 0 l130.length, .ref 5621 0 l131.length])), (5580, R29 l128), (5581, R29 l129), (5620, R37 l130), (5621, R37 l131)]) (by simp; exact Sub.table (by simp) (by simp)) ?_
        refine Chain.runK [] 3 fun K hK => ?_; simp; refine hK _ _ ?_; clear hK K
        refine Chain.sub (S' := mk 109 [] [(1, .d (.sl (a1.map cS))), (6, .ptr 29 0 0), (7, .ptr 31 0 0), (9, .d (.sl (x239.map (cI .i64)))), (10, .i r241), (11, .ptr 11 0 0), (32, .d (.sl (a0.map (cL (cI .i64))))), (33, .i (a0.length : Int)), (34, .i v132)] [(11, some (.box [.i r241, .d (.lit (.string r245)), .d (.lit (.string (ByteArray.mk #[]))), .i r246])), (29, some (.box [.ref 5580 0 l128.length, .ref 5581 0 l129.length])), (31, some (.box [.ref 5620 0 l130.length, .ref 5621 0 l131.length])), (5580, R29 l128), (5581, R29 l129), (5620, R37 l130), (5621, R37 l131)]) Sub.tt ?_
        refine Chain.nil ?_
        refine AW.seq ?_
        refine AW.seqR ?_
        refine Chain.runK [] 1 fun K hK => ?_; simp; refine hK _ _ ?_; clear hK K
        refine Chain.sub (S' := mk 109 [] [(1, .d (.sl (a1.map cS))), (6, .ptr 29 0 0), (7, .ptr 31 0 0), (9, .d (.sl (x239.map (cI .i64)))), (10, .i r241), (11, .ptr 11 0 0), (32, .d (.sl (a0.map (cL (cI .i64))))), (33, .i (a0.length : Int)), (34, .i v132), (52, .d (.sl (x239.map (cI .i64))))] [(11, some (.box [.i r241, .d (.lit (.string r245)), .d (.lit (.string (ByteArray.mk #[]))), .i r246])), (29, some (.box [.ref 5580 0 l128.length, .ref 5581 0 l129.length])), (31, some (.box [.ref 5620 0 l130.length, .ref 5621 0 l131.length])), (5580, R29 l128), (5581, R29 l129), (5620, R37 l130), (5621, R37 l131)]) Sub.tt ?_
        replace h := bsome h; obtain ⟨r247, hr247, h⟩ := h
        refine Chain.callL (d := 53) (p6 N x239 3 r247 hr247) (by simp) rfl rfl (by simp <;> rfl) (by simp <;> rfl) ent6 (by simp <;> rfl) ?_
        refine Chain.sub (S' := mk 109 [] [(1, .d (.sl (a1.map cS))), (6, .ptr 29 0 0), (7, .ptr 31 0 0), (9, .d (.sl (x239.map (cI .i64)))), (10, .i r241), (11, .ptr 11 0 0), (32, .d (.sl (a0.map (cL (cI .i64))))), (33, .i (a0.length : Int)), (34, .i v132), (52, .d (.sl (x239.map (cI .i64)))), (53, .i r247)] [(11, some (.box [.i r241, .d (.lit (.string r245)), .d (.lit (.string (ByteArray.mk #[]))), .i r246])), (29, some (.box [.ref 5580 0 l128.length, .ref 5581 0 l129.length])), (31, some (.box [.ref 5620 0 l130.length, .ref 5621 0 l131.length])), (5580, R29 l128), (5581, R29 l129), (5620, R37 l130), (5621, R37 l131)]) (by simp; exact Sub.table (by simp) (by simp)) ?_
        refine Chain.runK [] 1 fun K hK => ?_; simp; refine hK _ _ ?_; clear hK K
        refine Chain.sub (S' := mk 109 [] [(1, .d (.sl (a1.map cS))), (6, .ptr 29 0 0), (7, .ptr 31 0 0), (9, .d (.sl (x239.map (cI .i64)))), (10, .i r241), (11, .ptr 11 0 0), (32, .d (.sl (a0.map (cL (cI .i64))))), (33, .i (a0.length : Int)), (34, .i v132), (54, .b (decide (r247 > 0)))] [(11, some (.box [.i r241, .d (.lit (.string r245)), .d (.lit (.string (ByteArray.mk #[]))), .i r246])), (29, some (.box [.ref 5580 0 l128.length, .ref 5581 0 l129.length])), (31, some (.box [.ref 5620 0 l130.length, .ref 5621 0 l131.length])), (5580, R29 l128), (5581, R29 l129), (5620, R37 l130), (5621, R37 l131)]) Sub.tt ?_
        refine Chain.nil ?_
        refine AW.lastN (fun (v251 : ByteArray) => mk 109 [] [(1, .d (.sl (a1.map cS))), (6, .ptr 29 0 0), (7, .ptr 31 0 0), (10, .i r241), (11, .ptr 11 0 0), (32, .d (.sl (a0.map (cL (cI .i64))))), (33, .i (a0.length : Int)), (34, .i v132)] [(11, some (.box [.i r241, .d (.lit (.string r245)), .d (.lit (.string v251)), .i r246])), (29, some (.box [.ref 5580 0 l128.length, .ref 5581 0 l129.length])), (31, some (.box [.ref 5620 0 l130.length, .ref 5621 0 l131.length])), (5580, R29 l128), (5581, R29 l129), (5620, R37 l130), (5621, R37 l131)]) h ?_ ?_ <;> clear h
        ·intro o h
         replace h := isome h; rcases h with ⟨c252, h⟩ | ⟨c252, h⟩
         ·have c252_ : decide (r247 > 0) = true := decide_eq_true c252
          refine AW.condT (b := decide (r247 > 0)) rfl c252_ ?_
          refine AW.sub (Sub.bool 54 (b := decide (r247 > 0)) rfl c252_) ?_
          refine AW.sub (S' := mk 109 [] [(1, .d (.sl (a1.map cS))), (6, .ptr 29 0 0), (7, .ptr 31 0 0), (9, .d (.sl (x239.map (cI .i64)))), (10, .i r241), (11, .ptr 11 0 0), (32, .d (.sl (a0.map (cL (cI .i64))))), (33, .i (a0.length : Int)), (34, .i v132), (54, .b true)] [(11, some (.box [.i r241, .d (.lit (.string r245)), .d (.lit (.string (ByteArray.mk #[]))), .i r246])), (29, some (.box [.ref 5580 0 l128.length, .ref 5581 0 l129.length])), (31, some (.box [.ref 5620 0 l130.length, .ref 5621 0 l131.length])), (5580, R29 l128), (5581, R29 l129), (5620, R37 l130), (5621, R37 l131)]) (by simp; exact Sub.table (by simp) (by simp)) ?_
          refine AW.region ?_
          refine Chain.runK [] 2 fun K hK => ?_; simp; refine hK _ _ ?_; clear hK K
          refine Chain.sub (S' := mk 109 [] [(1, .d (.sl (a1.map cS))), (6, .ptr 29 0 0), (7, .ptr 31 0 0), (10, .i r241), (11, .ptr 11 0 0), (32, .d (.sl (a0.map (cL (cI .i64))))), (33, .i (a0.length : Int)), (34, .i v132), (55, .d (.sl (a1.map cS))), (56, .d (.sl (x239.map (cI .i64))))] [(11, some (.box [.i r241, .d (.lit (.string r245)), .d (.lit (.string (ByteArray.mk #[]))), .i r246])), (29, some (.box [.ref 5580 0 l128.length, .ref 5581 0 l129.length])), (31, some (.box [.ref 5620 0 l130.length, .ref 5621 0 l131.length])), (5580, R29 l128), (5581, R29 l129), (5620, R37 l130), (5621, R37 l131)]) Sub.tt ?_
          replace h := bsome h; obtain ⟨r253, hr253, h⟩ := h
          refine Chain.callL (d := 57) (p6 N x239 3 r253 hr253) (by simp) rfl rfl (by simp <;> rfl) (by simp <;> rfl) ent6 (by simp <;> rfl) ?_
          refine Chain.sub (S' := mk 109 [] [(1, .d (.sl (a1.map cS))), (6, .ptr 29 0 0), (7, .ptr 31 0 0), (10, .i r241), (11, .ptr 11 0 0), (32, .d (.sl (a0.map (cL (cI .i64))))), (33, .i (a0.length : Int)), (34, .i v132), (55, .d (.sl (a1.map cS))), (56, .d (.sl (x239.map (cI .i64)))), (57, .i r253)] [(11, some (.box [.i r241, .d (.lit (.string r245)), .d (.lit (.string (ByteArray.mk #[]))), .i r246])), (29, some (.box [.ref 5580 0 l128.length, .ref 5581 0 l129.length])), (31, some (.box [.ref 5620 0 l130.length, .ref 5621 0 l131.length])), (5580, R29 l128), (5581, R29 l129), (5620, R37 l130), (5621, R37 l131)]) (by simp; exact Sub.table (by simp) (by simp)) ?_
          replace h := bsome h; obtain ⟨r254, hr254, h⟩ := h
          refine Chain.callL (d := 58) (p7 N a1 r253 r254 hr254) (by simp) rfl rfl (by simp <;> rfl) (by simp <;> rfl) ent7 (by simp <;> rfl) ?_
          refine Chain.sub (S' := mk 109 [] [(1, .d (.sl (a1.map cS))), (6, .ptr 29 0 0), (7, .ptr 31 0 0), (10, .i r241), (11, .ptr 11 0 0), (32, .d (.sl (a0.map (cL (cI .i64))))), (33, .i (a0.length : Int)), (34, .i v132), (55, .d (.sl (a1.map cS))), (56, .d (.sl (x239.map (cI .i64)))), (57, .i r253), (58, .d (.lit (.string r254)))] [(11, some (.box [.i r241, .d (.lit (.string r245)), .d (.lit (.string (ByteArray.mk #[]))), .i r246])), (29, some (.box [.ref 5580 0 l128.length, .ref 5581 0 l129.length])), (31, some (.box [.ref 5620 0 l130.length, .ref 5621 0 l131.length])), (5580, R29 l128), (5581, R29 l129), (5620, R37 l130), (5621, R37 l131)]) (by simp; exact Sub.table (by simp) (by simp)) ?_
          refine Chain.runK [] 2 fun K hK => ?_; simp; refine hK _ _ ?_; clear hK K
          refine Chain.sub (S' := mk 109 [] [(1, .d (.sl (a1.map cS))), (6, .ptr 29 0 0), (7, .ptr 31 0 0), (10, .i r241), (11, .ptr 11 0 0), (32, .d (.sl (a0.map (cL (cI .i64))))), (33, .i (a0.length : Int)), (34, .i v132)] [(11, some (.box [.i r241, .d (.lit (.string r245)), .d (.lit (.string r254)), .i r246])), (29, some (.box [.ref 5580 0 l128.length, .ref 5581 0 l129.length])), (31, some (.box [.ref 5620 0 l130.length, .ref 5621 0 l131.length])), (5580, R29 l128), (5581, R29 l129), (5620, R37 l130), (5621, R37 l131)]) Sub.tt ?_
          refine Chain.nil ?_
          cases h
          refine PostN.next ?_
          exact Sub.tt
         ·have c252_ : decide (r247 > 0) = false := decide_eq_false c252
          refine AW.condF (b := decide (r247 > 0)) rfl c252_ ?_
          refine AW.sub (Sub.bool 54 (b := decide (r247 > 0)) rfl c252_) ?_
          refine AW.sub (S' := mk 109 [] [(1, .d (.sl (a1.map cS))), (6, .ptr 29 0 0), (7, .ptr 31 0 0), (9, .d (.sl (x239.map (cI .i64)))), (10, .i r241), (11, .ptr 11 0 0), (32, .d (.sl (a0.map (cL (cI .i64))))), (33, .i (a0.length : Int)), (34, .i v132), (54, .b false)] [(11, some (.box [.i r241, .d (.lit (.string r245)), .d (.lit (.string (ByteArray.mk #[]))), .i r246])), (29, some (.box [.ref 5580 0 l128.length, .ref 5581 0 l129.length])), (31, some (.box [.ref 5620 0 l130.length, .ref 5621 0 l131.length])), (5580, R29 l128), (5581, R29 l129), (5620, R37 l130), (5621, R37 l131)]) (by simp; exact Sub.table (by simp) (by simp)) ?_
          refine AW.skip ?_
          cases h
          refine PostN.next ?_
          exact Sub.tt
        ·rintro v251 h
         refine thenQ_normal ?_
         replace h := bsome h; obtain ⟨r255, hr255, h⟩ := h
         replace h := bsome h; obtain ⟨r256, hr256, h⟩ := h
         refine AW.seqAnyS [[], [], [1], [], [3], [], [5], [], [7], [1, 2, 3, 4, 5, 6, 7, 8], [0, 1, 2, 3, 4, 5, 6, 7, 8, 9], [], [], [0, 1, 2, 3, 4, 5, 6, 7, 8, 9, 10, 11, 12], [0, 1, 2, 3, 4, 5, 6, 7, 8, 9, 10, 11, 12, 13]] (fun (b : Nat → Bool) => mk 109 [] [(1, .d (.sl (a1.map cS))), (6, .ptr 29 0 0), (7, .ptr 31 0 0), (10, .i r241), (11, .ptr 11 0 0), (32, .d (.sl (a0.map (cL (cI .i64))))), (33, .i (a0.length : Int)), (34, .i v132), (60, (if b 0 then .ptr 29 0 0 else .junk)), (61, (if b 1 then .ptr 11 0 0 else .junk)), (62, (if b 2 then .i r241 else .junk)), (63, (if b 3 then .ptr 11 0 1 else .junk)), (64, (if b 4 then .d (.lit (.string r245)) else .junk)), (65, (if b 5 then .ptr 11 0 2 else .junk)), (66, (if b 6 then .d (.lit (.string v251)) else .junk)), (67, (if b 7 then .ptr 11 0 3 else .junk)), (68, (if b 8 then .i r246 else .junk)), (69, (if b 9 then .agg [.i r241, .d (.lit (.string r245)), .d (.lit (.string v251)), .i r246] else .junk)), (70, (if b 10 then .i r255.2 else .junk)), (71, (if b 11 then .ptr 31 0 0 else .junk)), (72, (if b 12 then .agg [.i r241, .d (.lit (.string r245)), .d (.lit (.string v251)), .i r246] else .junk)), (73, (if b 13 then .i r256.2 else .junk)), (74, (if b 14 then .b (r255.2 != r256.2) else .junk))] [(11, some (.box [.i r241, .d (.lit (.string r245)), .d (.lit (.string v251)), .i r246])), (29, (if b 10 then some (.box [.ref 5580 0 r255.1.granted.length, .ref 5581 0 r255.1.queue.length]) else some (.box [.ref 5580 0 l128.length, .ref 5581 0 l129.length]))), (31, (if b 13 then some (.box [.ref 5620 0 r256.1.Granted.length, .ref 5621 0 r256.1.Queue.length]) else some (.box [.ref 5620 0 l130.length, .ref 5621 0 l131.length]))), (5580, (if b 10 then R29 r255.1.granted else R29 l128)), (5581, (if b 10 then R29 r255.1.queue else R29 l129)), (5620, (if b 13 then R37 r256.1.Granted else R37 l130)), (5621, (if b 13 then R37 r256.1.Queue else R37 l131))]) (mk 109 [] [(1, .d (.sl (a1.map cS))), (6, .ptr 29 0 0), (7, .ptr 31 0 0), (10, .i r241), (32, .d (.sl (a0.map (cL (cI .i64))))), (33, .i (a0.length : Int)), (34, .i v132), (74, .b (r255.2 != r256.2))] [(29, some (.box [.ref 5580 0 r255.1.granted.length, .ref 5581 0 r255.1.queue.length])), (31, some (.box [.ref 5620 0 r256.1.Granted.length, .ref 5621 0 r256.1.Queue.length])), (5580, R29 r255.1.granted), (5581, R29 r255.1.queue), (5620, R37 r256.1.Granted), (5621, R37 r256.1.Queue)]) (by kernel_rfl) (by kernel_rfl) Sub.tt (Steps.cons ?_ (Steps.cons ?_ (Steps.cons ?_ (Steps.cons ?_ (Steps.cons ?_ (Steps.cons ?_ (Steps.cons ?_ (Steps.cons ?_ (Steps.cons ?_ (Steps.cons ?_ (Steps.cons ?_ (Steps.cons ?_ (Steps.cons ?_ (Steps.cons ?_ (Steps.cons ?_ (Steps.nil)))))))))))))))) ?_ ?_
         ·intro b h0 ha hd
          have f10 : b 10 = false := hd 10 (by decide)
          have f13 : b 13 = false := hd 13 (by decide)
          have f14 : b 14 = false := hd 14 (by decide)
          refine Chain.runK [] 1 fun K hK => ?_; simp [h0, f10, f13, f14]; refine hK _ _ ?_; clear hK K
          exact Chain.nil (Sub.table (by simp [f10, f13, f14]) (by simp [f10, f13]))
         ·intro b h0 ha hd
          have f2 : b 2 = false := hd 2 (by decide)
          have f9 : b 9 = false := hd 9 (by decide)
          have f10 : b 10 = false := hd 10 (by decide)
          have f13 : b 13 = false := hd 13 (by decide)
          have f14 : b 14 = false := hd 14 (by decide)
          refine Chain.runK [] 1 fun K hK => ?_; simp [h0, f2, f9, f10, f13, f14]; refine hK _ _ ?_; clear hK K
          exact Chain.nil (Sub.table (by simp [f2, f9, f10, f13, f14]) (by simp [f10, f13]))
         ·intro b h0 ha hd
          have t1 : b 1 = true := ha 1 (by decide)
          have f9 : b 9 = false := hd 9 (by decide)
          have f10 : b 10 = false := hd 10 (by decide)
          have f13 : b 13 = false := hd 13 (by decide)
          have f14 : b 14 = false := hd 14 (by decide)
          refine Chain.runK [] 1 fun K hK => ?_; simp [h0, t1, f9, f10, f13, f14]; refine hK _ _ ?_; clear hK K
          exact Chain.nil (Sub.table (by simp [t1, f9, f10, f13, f14]) (by simp [f10, f13]))
         ·intro b h0 ha hd
          have f4 : b 4 = false := hd 4 (by decide)
          have f9 : b 9 = false := hd 9 (by decide)
          have f10 : b 10 = false := hd 10 (by decide)
          have f13 : b 13 = false := hd 13 (by decide)
          have f14 : b 14 = false := hd 14 (by decide)
          refine Chain.runK [] 1 fun K hK => ?_; simp [h0, f4, f9, f10, f13, f14]; refine hK _ _ ?_; clear hK K
          exact Chain.nil (Sub.table (by simp [f4, f9, f10, f13, f14]) (by simp [f10, f13]))
         ·intro b h0 ha hd
          have t3 : b 3 = true := ha 3 (by decide)
          have f9 : b 9 = false := hd 9 (by decide)
          have f10 : b 10 = false := hd 10 (by decide)
          have f13 : b 13 = false := hd 13 (by decide)
          have f14 : b 14 = false := hd 14 (by decide)
          refine Chain.runK [] 1 fun K hK => ?_; simp [h0, t3, f9, f10, f13, f14]; refine hK _ _ ?_; clear hK K
          exact Chain.nil (Sub.table (by simp [t3, f9, f10, f13, f14]) (by simp [f10, f13]))
         ·intro b h0 ha hd
          have f6 : b 6 = false := hd 6 (by decide)
          have f9 : b 9 = false := hd 9 (by decide)
          have f10 : b 10 = false := hd 10 (by decide)
          have f13 : b 13 = false := hd 13 (by decide)
          have f14 : b 14 = false := hd 14 (by decide)
          refine Chain.runK [] 1 fun K hK => ?_; simp [h0, f6, f9, f10, f13, f14]; refine hK _ _ ?_; clear hK K
          exact Chain.nil (Sub.table (by simp [f6, f9, f10, f13, f14]) (by simp [f10, f13]))
         ·intro b h0 ha hd
          have t5 : b 5 = true := ha 5 (by decide)
          have f9 : b 9 = false := hd 9 (by decide)
          have f10 : b 10 = false := hd 10 (by decide)
          have f13 : b 13 = false := hd 13 (by decide)
          have f14 : b 14 = false := hd 14 (by decide)
          refine Chain.runK [] 1 fun K hK => ?_; simp [h0, t5, f9, f10, f13, f14]; refine hK _ _ ?_; clear hK K
          exact Chain.nil (Sub.table (by simp [t5, f9, f10, f13, f14]) (by simp [f10, f13]))
         ·intro b h0 ha hd
          have f8 : b 8 = false := hd 8 (by decide)
          have f9 : b 9 = false := hd 9 (by decide)
          have f10 : b 10 = false := hd 10 (by decide)
          have f13 : b 13 = false := hd 13 (by decide)
          have f14 : b 14 = false := hd 14 (by decide)
          refine Chain.runK [] 1 fun K hK => ?_; simp [h0, f8, f9, f10, f13, f14]; refine hK _ _ ?_; clear hK K
          exact Chain.nil (Sub.table (by simp [f8, f9, f10, f13, f14]) (by simp [f10, f13]))
         ·intro b h0 ha hd
          have t7 : b 7 = true := ha 7 (by decide)
          have f9 : b 9 = false := hd 9 (by decide)
          have f10 : b 10 = false := hd 10 (by decide)
          have f13 : b 13 = false := hd 13 (by decide)
          have f14 : b 14 = false := hd 14 (by decide)
          refine Chain.runK [] 1 fun K hK => ?_; simp [h0, t7, f9, f10, f13, f14]; refine hK _ _ ?_; clear hK K
          exact Chain.nil (Sub.table (by simp [t7, f9, f10, f13, f14]) (by simp [f10, f13]))
         ·intro b h0 ha hd
          have t1 : b 1 = true := ha 1 (by decide)
          have t2 : b 2 = true := ha 2 (by decide)
          have t3 : b 3 = true := ha 3 (by decide)
          have t4 : b 4 = true := ha 4 (by decide)
          have t5 : b 5 = true := ha 5 (by decide)
          have t6 : b 6 = true := ha 6 (by decide)
          have t7 : b 7 = true := ha 7 (by decide)
          have t8 : b 8 = true := ha 8 (by decide)
          have f10 : b 10 = false := hd 10 (by decide)
          have f13 : b 13 = false := hd 13 (by decide)
          have f14 : b 14 = false := hd 14 (by decide)
          refine Chain.runK [] 1 fun K hK => ?_; simp [h0, t1, t2, t3, t4, t5, t6, t7, t8, f10, f13, f14]; refine hK _ _ ?_; clear hK K
          exact Chain.nil (Sub.table (by simp [t1, t2, t3, t4, t5, t6, t7, t8, f10, f13, f14]) (by simp [f10, f13]))
         ·intro b h0 ha hd
          have t0 : b 0 = true := ha 0 (by decide)
          have t1 : b 1 = true := ha 1 (by decide)
          have t2 : b 2 = true := ha 2 (by decide)
          have t3 : b 3 = true := ha 3 (by decide)
          have t4 : b 4 = true := ha 4 (by decide)
          have t5 : b 5 = true := ha 5 (by decide)
          have t6 : b 6 = true := ha 6 (by decide)
          have t7 : b 7 = true := ha 7 (by decide)
          have t8 : b 8 = true := ha 8 (by decide)
          have t9 : b 9 = true := ha 9 (by decide)
          have f13 : b 13 = false := hd 13 (by decide)
          have f14 : b 14 = false := hd 14 (by decide)
          simp only [h0, t0, t1, t2, t3, t4, t5, t6, t7, t8, t9, f13, f14, if_true, if_false, Bool.false_eq_true]
          refine Chain.callF (p5 N (S48.mk l128 l129) (S29.mk r241 r245 v251 r246) r255 hr255) [(29, 1000), (5580, 25000), (5581, 25001)] [29] [(1000, 29), (25000, 5580), (25001, 5581)] [(29, (.box [.ref 5580 0 r255.1.granted.length, .ref 5581 0 r255.1.queue.length])), (5580, (.arr 29 4 (r255.1.granted.map cS29))), (5581, (.arr 29 4 (r255.1.queue.map cS29)))] (.i r255.2) (by simp) rfl (by simp <;> rfl) (by simp) (by simp) (by simp) (by simp) (by simp) ent5 (by simp) (by simp) (by simp) (by simp) (by simp) (by simp) ?_
          exact Chain.nil (by simp [t0, t1, t2, t3, t4, t5, t6, t7, t8, t9, f13, f14]; exact Sub.table (by simp) (by simp))
         ·intro b h0 ha hd
          have f13 : b 13 = false := hd 13 (by decide)
          have f14 : b 14 = false := hd 14 (by decide)
          refine Chain.runK [] 1 fun K hK => ?_; simp [h0, f13, f14]; refine hK _ _ ?_; clear hK K
          exact Chain.nil (Sub.table (by simp [f13, f14]) (by simp [f13]))
         ·intro b h0 ha hd
          have f13 : b 13 = false := hd 13 (by decide)
          have f14 : b 14 = false := hd 14 (by decide)
          refine Chain.runK [] 1 fun K hK => ?_; simp [h0, f13, f14]; refine hK _ _ ?_; clear hK K
          exact Chain.nil (Sub.table (by simp [f13, f14]) (by simp [f13]))
         ·intro b h0 ha hd
          have t0 : b 0 = true := ha 0 (by decide)
          have t1 : b 1 = true := ha 1 (by decide)
          have t2 : b 2 = true := ha 2 (by decide)
          have t3 : b 3 = true := ha 3 (by decide)
          have t4 : b 4 = true := ha 4 (by decide)
          have t5 : b 5 = true := ha 5 (by decide)
          have t6 : b 6 = true := ha 6 (by decide)
          have t7 : b 7 = true := ha 7 (by decide)
          have t8 : b 8 = true := ha 8 (by decide)
          have t9 : b 9 = true := ha 9 (by decide)
          have t10 : b 10 = true := ha 10 (by decide)
          have t11 : b 11 = true := ha 11 (by decide)
          have t12 : b 12 = true := ha 12 (by decide)
          have f14 : b 14 = false := hd 14 (by decide)
          simp only [h0, t0, t1, t2, t3, t4, t5, t6, t7, t8, t9, t10, t11, t12, f14, if_true, if_false, Bool.false_eq_true]
          refine Chain.callF (p8 N (S33.mk l130 l131) (S29.mk r241 r245 v251 r246) r256 hr256) [(31, 1000), (5620, 25000), (5621, 25001)] [31] [(1000, 31), (25000, 5620), (25001, 5621)] [(31, (.box [.ref 5620 0 r256.1.Granted.length, .ref 5621 0 r256.1.Queue.length])), (5620, (.arr 37 4 (r256.1.Granted.map cS29))), (5621, (.arr 37 4 (r256.1.Queue.map cS29)))] (.i r256.2) (by simp) rfl (by simp <;> rfl) (by simp) (by simp) (by simp) (by simp) (by simp) ent8 (by simp) (by simp) (by simp) (by simp) (by simp) (by simp) ?_
          exact Chain.nil (by simp [t0, t1, t2, t3, t4, t5, t6, t7, t8, t9, t10, t11, t12, f14]; exact Sub.table (by simp) (by simp))
         ·intro b h0 ha hd
          have t0 : b 0 = true := ha 0 (by decide)
          have t1 : b 1 = true := ha 1 (by decide)
          have t2 : b 2 = true := ha 2 (by decide)
          have t3 : b 3 = true := ha 3 (by decide)
          have t4 : b 4 = true := ha 4 (by decide)
          have t5 : b 5 = true := ha 5 (by decide)
          have t6 : b 6 = true := ha 6 (by decide)
          have t7 : b 7 = true := ha 7 (by decide)
          have t8 : b 8 = true := ha 8 (by decide)
          have t9 : b 9 = true := ha 9 (by decide)
          have t10 : b 10 = true := ha 10 (by decide)
          have t11 : b 11 = true := ha 11 (by decide)
          have t12 : b 12 = true := ha 12 (by decide)
          have t13 : b 13 = true := ha 13 (by decide)
          refine Chain.runK [] 1 fun K hK => ?_; simp [h0, t0, t1, t2, t3, t4, t5, t6, t7, t8, t9, t10, t11, t12, t13]; refine hK _ _ ?_; clear hK K
          exact Chain.nil (Sub.table (by simp [t0, t1, t2, t3, t4, t5, t6, t7, t8, t9, t10, t11, t12, t13]) (by simp [t10, t13]))
         ·intro b hb
          have t0 := hb 0 (by decide)
          have t1 := hb 1 (by decide)
          have t2 := hb 2 (by decide)
          have t3 := hb 3 (by decide)
          have t4 := hb 4 (by decide)
          have t5 := hb 5 (by decide)
          have t6 := hb 6 (by decide)
          have t7 := hb 7 (by decide)
          have t8 := hb 8 (by decide)
          have t9 := hb 9 (by decide)
          have t10 := hb 10 (by decide)
          have t11 := hb 11 (by decide)
          have t12 := hb 12 (by decide)
          have t13 := hb 13 (by decide)
          have t14 := hb 14 (by decide)
          exact Sub.table (by simp [t0, t1, t2, t3, t4, t5, t6, t7, t8, t9, t10, t11, t12, t13, t14]) (by simp [t10, t13])
         ·skip
          replace h := isome h; rcases h with ⟨c257, h⟩ | ⟨c257, h⟩
          ·have c257_ : (r255.2 != r256.2) = true := c257
           refine AW.condT (b := (r255.2 != r256.2)) rfl c257_ ?_
           refine AW.sub (Sub.bool 74 (b := (r255.2 != r256.2)) rfl c257_) ?_
           refine AW.sub (S' := mk 109 [] [(1, .d (.sl (a1.map cS))), (6, .ptr 29 0 0), (7, .ptr 31 0 0), (10, .i r241), (32, .d (.sl (a0.map (cL (cI .i64))))), (33, .i (a0.length : Int)), (34, .i v132), (74, .b true)] [(29, some (.box [.ref 5580 0 r255.1.granted.length, .ref 5581 0 r255.1.queue.length])), (31, some (.box [.ref 5620 0 r256.1.Granted.length, .ref 5621 0 r256.1.Queue.length])), (5580, R29 r255.1.granted), (5581, R29 r255.1.queue), (5620, R37 r256.1.Granted), (5621, R37 r256.1.Queue)]) (by simp; exact Sub.table (by simp) (by simp)) ?_
           refine AW.seqR ?_
           refine Chain.runK [] 1 fun K hK => ?_; simp; refine hK _ _ ?_; clear hK K
           refine Chain.sub (S' := mk 109 [] [(4, .b false)] []) Sub.tt ?_
           refine Chain.nil ?_
           refine AW.ret ?_
           cases h
           refine blockQ.ret ?_
           refine thenQ_pass (by simp) ?_
           refine blockQ.ret ?_
           refine thenQ_pass (by simp) ?_
           refine PostI.out (by simp) ?_
           rintro rfl
           refine blockQ.ret ?_
           refine PostJ.out (by simp) ?_
           rintro rfl
           refine thenQ_pass (by simp) ?_
           exact FinC.ret (by simp) (by simp)
          ·have c257_ : (r255.2 != r256.2) = false := Bool.eq_false_iff.2 c257
           refine AW.condF (b := (r255.2 != r256.2)) rfl c257_ ?_
           refine AW.sub (Sub.bool 74 (b := (r255.2 != r256.2)) rfl c257_) ?_
           refine AW.sub (S' := mk 109 [] [(1, .d (.sl (a1.map cS))), (6, .ptr 29 0 0), (7, .ptr 31 0 0), (10, .i r241), (32, .d (.sl (a0.map (cL (cI .i64))))), (33, .i (a0.length : Int)), (34, .i v132), (74, .b false)] [(29, some (.box [.ref 5580 0 r255.1.granted.length, .ref 5581 0 r255.1.queue.length])), (31, some (.box [.ref 5620 0 r256.1.Granted.length, .ref 5621 0 r256.1.Queue.length])), (5580, R29 r255.1.granted), (5581, R29 r255.1.queue), (5620, R37 r256.1.Granted), (5621, R37 r256.1.Queue)]) (by simp; exact Sub.table (by simp) (by simp)) ?_
           refine AW.skip ?_
           refine blockQ.normal ?_
           refine thenQ_normal ?_
           refine AW.seqR ?_
           refine Chain.runK [] 3 fun K hK => ?_; simp; refine hK _ _ ?_; clear hK K
           refine Chain.sub (S' := mk 109 [] [(1, .d (.sl (a1.map cS))), (6, .ptr 29 0 0), (7, .ptr 31 0 0), (32, .d (.sl (a0.map (cL (cI .i64))))), (33, .i (a0.length : Int)), (34, .i v132), (103, .ptr 29 0 0), (104, .ptr 31 0 0), (105, .i r241)] [(29, some (.box [.ref 5580 0 r255.1.granted.length, .ref 5581 0 r255.1.queue.length])), (31, some (.box [.ref 5620 0 r256.1.Granted.length, .ref 5621 0 r256.1.Queue.length])), (5580, R29 r255.1.granted), (5581, R29 r255.1.queue), (5620, R37 r256.1.Granted), (5621, R37 r256.1.Queue)]) Sub.tt ?_
           replace h := bsome h; obtain ⟨r258, hr258, h⟩ := h
           refine Chain.callF (p13 N r255.1 r256.1 r241 r258 hr258) [(29, 1000), (5580, 25000), (5581, 25001), (31, 2000), (5620, 45000), (5621, 45001)] [29, 31] [(1000, 29), (25000, 5580), (25001, 5581), (2000, 31), (45000, 5620), (45001, 5621)] [(29, (.box [.ref 5580 0 r258.1.granted.length, .ref 5581 0 r258.1.queue.length])), (5580, (.arr 29 4 (r258.1.granted.map cS29))), (5581, (.arr 29 4 (r258.1.queue.map cS29))), (31, (.box [.ref 5620 0 r258.2.1.Granted.length, .ref 5621 0 r258.2.1.Queue.length])), (5620, (.arr 37 4 (r258.2.1.Granted.map cS29))), (5621, (.arr 37 4 (r258.2.1.Queue.map cS29)))] (.d (.lit (.bool r258.2.2))) (by simp) rfl (by simp <;> rfl) (by simp) (by simp) (by simp) (by simp) (by simp) ent13 (by simp) (by simp) (by simp) (by simp) (by simp) (by simp) ?_
           refine Chain.sub (S' := mk 109 [] [(1, .d (.sl (a1.map cS))), (6, .ptr 29 0 0), (7, .ptr 31 0 0), (32, .d (.sl (a0.map (cL (cI .i64))))), (33, .i (a0.length : Int)), (34, .i v132), (103, .ptr 29 0 0), (104, .ptr 31 0 0), (105, .i r241), (106, .b r258.2.2)] [(29, some (.box [.ref 5580 0 r258.1.granted.length, .ref 5581 0 r258.1.queue.length])), (31, some (.box [.ref 5620 0 r258.2.1.Granted.length, .ref 5621 0 r258.2.1.Queue.length])), (5580, R29 r258.1.granted), (5581, R29 r258.1.queue), (5620, R37 r258.2.1.Granted), (5621, R37 r258.2.1.Queue)]) (by simp; exact Sub.table (by simp) (by simp)) ?_
           refine Chain.runK [] 1 fun K hK => ?_; simp; refine hK _ _ ?_; clear hK K
           refine Chain.sub (S' := mk 109 [] [(1, .d (.sl (a1.map cS))), (6, .ptr 29 0 0), (7, .ptr 31 0 0), (32, .d (.sl (a0.map (cL (cI .i64))))), (33, .i (a0.length : Int)), (34, .i v132), (107, .b (!r258.2.2))] [(29, some (.box [.ref 5580 0 r258.1.granted.length, .ref 5581 0 r258.1.queue.length])), (31, some (.box [.ref 5620 0 r258.2.1.Granted.length, .ref 5621 0 r258.2.1.Queue.length])), (5580, R29 r258.1.granted), (5581, R29 r258.1.queue), (5620, R37 r258.2.1.Granted), (5621, R37 r258.2.1.Queue)]) Sub.tt ?_
           refine Chain.nil ?_
           replace h := isome h; rcases h with ⟨c259, h⟩ | ⟨c259, h⟩
           ·have c259_ : (!r258.2.2) = true := c259
            refine AW.condT (b := (!r258.2.2)) rfl c259_ ?_
            refine AW.sub (Sub.bool 107 (b := (!r258.2.2)) rfl c259_) ?_
            refine AW.sub (S' := mk 109 [] [(1, .d (.sl (a1.map cS))), (6, .ptr 29 0 0), (7, .ptr 31 0 0), (32, .d (.sl (a0.map (cL (cI .i64))))), (33, .i (a0.length : Int)), (34, .i v132), (107, .b true)] [(29, some (.box [.ref 5580 0 r258.1.granted.length, .ref 5581 0 r258.1.queue.length])), (31, some (.box [.ref 5620 0 r258.2.1.Granted.length, .ref 5621 0 r258.2.1.Queue.length])), (5580, R29 r258.1.granted), (5581, R29 r258.1.queue), (5620, R37 r258.2.1.Granted), (5621, R37 r258.2.1.Queue)]) (by simp; exact Sub.table (by simp) (by simp)) ?_
            refine AW.seqR ?_
            refine Chain.runK [] 1 fun K hK => ?_; simp; refine hK _ _ ?_; clear hK K
            refine Chain.sub (S' := mk 109 [] [(4, .b false)] []) Sub.tt ?_
            refine Chain.nil ?_
            refine AW.ret ?_
            cases h
            refine blockQ.ret ?_
            refine thenQ_pass (by simp) ?_
            refine PostI.out (by simp) ?_
            rintro rfl
            refine blockQ.ret ?_
            refine PostJ.out (by simp) ?_
            rintro rfl
            refine thenQ_pass (by simp) ?_
            exact FinC.ret (by simp) (by simp)
           ·have c259_ : (!r258.2.2) = false := Bool.eq_false_iff.2 c259
            refine AW.condF (b := (!r258.2.2)) rfl c259_ ?_
            refine AW.sub (Sub.bool 107 (b := (!r258.2.2)) rfl c259_) ?_
            refine AW.sub (S' := mk 109 [] [(1, .d (.sl (a1.map cS))), (6, .ptr 29 0 0), (7, .ptr 31 0 0), (32, .d (.sl (a0.map (cL (cI .i64))))), (33, .i (a0.length : Int)), (34, .i v132), (107, .b false)] [(29, some (.box [.ref 5580 0 r258.1.granted.length, .ref 5581 0 r258.1.queue.length])), (31, some (.box [.ref 5620 0 r258.2.1.Granted.length, .ref 5621 0 r258.2.1.Queue.length])), (5580, R29 r258.1.granted), (5581, R29 r258.1.queue), (5620, R37 r258.2.1.Granted), (5621, R37 r258.2.1.Queue)]) (by simp; exact Sub.table (by simp) (by simp)) ?_
            refine AW.skip ?_
            refine blockQ.normal ?_
            refine thenQ_normal ?_
            refine AW.region ?_
            replace h := bsome h; obtain ⟨v260, hv260, h⟩ := h
            have hv260 := chkI_some hv260
            refine Chain.runK [] 2 fun K hK => ?_; simp [hv260]; refine hK _ _ ?_; clear hK K
            refine Chain.sub (S' := mk 109 [] [(1, .d (.sl (a1.map cS))), (6, .ptr 29 0 0), (7, .ptr 31 0 0), (32, .d (.sl (a0.map (cL (cI .i64))))), (33, .i (a0.length : Int)), (34, .i v260)] [(29, some (.box [.ref 5580 0 r258.1.granted.length, .ref 5581 0 r258.1.queue.length])), (31, some (.box [.ref 5620 0 r258.2.1.Granted.length, .ref 5621 0 r258.2.1.Queue.length])), (5580, R29 r258.1.granted), (5581, R29 r258.1.queue), (5620, R37 r258.2.1.Granted), (5621, R37 r258.2.1.Queue)]) Sub.tt ?_
            refine Chain.nil ?_
            cases h
            refine PostI.next ?_
            exact Sub.tt
       ·have c243_ : (r242 == 1) = false := Bool.eq_false_iff.2 c243
        refine AW.condF (b := (r242 == 1)) rfl c243_ ?_
        refine AW.sub (Sub.bool 42 (b := (r242 == 1)) rfl c243_) ?_
        refine AW.sub (S' := mk 109 [] [(1, .d (.sl (a1.map cS))), (6, .ptr 29 0 0), (7, .ptr 31 0 0), (9, .d (.sl (x239.map (cI .i64)))), (10, .i r241), (32, .d (.sl (a0.map (cL (cI .i64))))), (33, .i (a0.length : Int)), (34, .i v132), (41, .i r242), (42, .b false)] [(29, some (.box [.ref 5580 0 l128.length, .ref 5581 0 l129.length])), (31, some (.box [.ref 5620 0 l130.length, .ref 5621 0 l131.length])), (5580, R29 l128), (5581, R29 l129), (5620, R37 l130), (5621, R37 l131)]) (by simp; exact Sub.table (by simp) (by simp)) ?_
        refine AW.seqR ?_
        refine Chain.runK [] 2 fun K hK => ?_; simp; refine hK _ _ ?_; clear hK K
        refine Chain.sub (S' := mk 109 [] [(1, .d (.sl (a1.map cS))), (6, .ptr 29 0 0), (7, .ptr 31 0 0), (10, .i r241), (32, .d (.sl (a0.map (cL (cI .i64))))), (33, .i (a0.length : Int)), (34, .i v132), (75, .b (r242 == 2))] [(29, some (.box [.ref 5580 0 l128.length, .ref 5581 0 l129.length])), (31, some (.box [.ref 5620 0 l130.length, .ref 5621 0 l131.length])), (5580, R29 l128), (5581, R29 l129), (5620, R37 l130), (5621, R37 l131)]) Sub.tt ?_
        refine Chain.nil ?_
        replace h := isome h; rcases h with ⟨c261, h⟩ | ⟨c261, h⟩
        ·have c261_ : (r242 == 2) = true := c261
         refine AW.condT (b := (r242 == 2)) rfl c261_ ?_
         refine AW.sub (Sub.bool 75 (b := (r242 == 2)) rfl c261_) ?_
         refine AW.sub (S' := mk 109 [] [(1, .d (.sl (a1.map cS))), (6, .ptr 29 0 0), (7, .ptr 31 0 0), (10, .i r241), (32, .d (.sl (a0.map (cL (cI .i64))))), (33, .i (a0.length : Int)), (34, .i v132), (75, .b true)] [(29, some (.box [.ref 5580 0 l128.length, .ref 5581 0 l129.length])), (31, some (.box [.ref 5620 0 l130.length, .ref 5621 0 l131.length])), (5580, R29 l128), (5581, R29 l129), (5620, R37 l130), (5621, R37 l131)]) (by simp; exact Sub.table (by simp) (by simp)) ?_
         refine AW.seqR ?_
         refine Chain.runK [] 2 fun K hK => ?_; simp; refine hK _ _ ?_; clear hK K
         refine Chain.sub (S' := mk 109 [] [(1, .d (.sl (a1.map cS))), (6, .ptr 29 0 0), (7, .ptr 31 0 0), (10, .i r241), (32, .d (.sl (a0.map (cL (cI .i64))))), (33, .i (a0.length : Int)), (34, .i v132), (78, .ptr 29 0 0), (79, .i r241)] [(29, some (.box [.ref 5580 0 l128.length, .ref 5581 0 l129.length])), (31, some (.box [.ref 5620 0 l130.length, .ref 5621 0 l131.length])), (5580, R29 l128), (5581, R29 l129), (5620, R37 l130), (5621, R37 l131)]) Sub.tt ?_
         replace h := bsome h; obtain ⟨r262, hr262, h⟩ := h
         refine Chain.callF (p9 N (S48.mk l128 l129) r241 r262 hr262) [(29, 1000), (5580, 25000), (5581, 25001)] [29] [(1000, 29), (25000, 5580), (25001, 5581)] [(29, (.box [.ref 5580 0 r262.1.granted.length, .ref 5581 0 r262.1.queue.length])), (5580, (.arr 29 4 (r262.1.granted.map cS29))), (5581, (.arr 29 4 (r262.1.queue.map cS29)))] (.tup [.d (.sl (r262.2.1.map (cI .i64))), .i r262.2.2]) (by simp) rfl (by simp <;> rfl) (by simp) (by simp) (by simp) (by simp) (by simp) ent9 (by simp) (by simp) (by simp) (by simp) (by simp) (by simp) ?_
         refine Chain.sub (S' := mk 109 [] [(1, .d (.sl (a1.map cS))), (6, .ptr 29 0 0), (7, .ptr 31 0 0), (10, .i r241), (32, .d (.sl (a0.map (cL (cI .i64))))), (33, .i (a0.length : Int)), (34, .i v132), (78, .ptr 29 0 0), (79, .i r241), (80, .tup [.d (.sl (r262.2.1.map (cI .i64))), .i r262.2.2])] [(29, some (.box [.ref 5580 0 r262.1.granted.length, .ref 5581 0 r262.1.queue.length])), (31, some (.box [.ref 5620 0 l130.length, .ref 5621 0 l131.length])), (5580, R29 r262.1.granted), (5581, R29 r262.1.queue), (5620, R37 l130), (5621, R37 l131)]) (by simp; exact Sub.table (by simp) (by simp)) ?_
         refine Chain.runK [] 5 fun K hK => ?_; simp; refine hK _ _ ?_; clear hK K
         refine Chain.sub (S' := mk 109 [] [(1, .d (.sl (a1.map cS))), (6, .ptr 29 0 0), (7, .ptr 31 0 0), (10, .i r241), (12, .d (.sl (r262.2.1.map (cI .i64)))), (13, .i r262.2.2), (32, .d (.sl (a0.map (cL (cI .i64))))), (33, .i (a0.length : Int)), (34, .i v132)] [(29, some (.box [.ref 5580 0 r262.1.granted.length, .ref 5581 0 r262.1.queue.length])), (31, some (.box [.ref 5620 0 l130.length, .ref 5621 0 l131.length])), (5580, R29 r262.1.granted), (5581, R29 r262.1.queue), (5620, R37 l130), (5621, R37 l131)]) Sub.tt ?_
         refine Chain.nil ?_
         refine AW.seqR ?_
         refine Chain.runK [] 1 fun K hK => ?_; simp; refine hK _ _ ?_; clear hK K
         refine Chain.sub (S' := mk 109 [] [(1, .d (.sl (a1.map cS))), (6, .ptr 29 0 0), (7, .ptr 31 0 0), (10, .i r241), (12, .d (.sl (r262.2.1.map (cI .i64)))), (13, .i r262.2.2), (32, .d (.sl (a0.map (cL (cI .i64))))), (33, .i (a0.length : Int)), (34, .i v132), (83, .i r241)] [(29, some (.box [.ref 5580 0 r262.1.granted.length, .ref 5581 0 r262.1.queue.length])), (31, some (.box [.ref 5620 0 l130.length, .ref 5621 0 l131.length])), (5580, R29 r262.1.granted), (5581, R29 r262.1.queue), (5620, R37 l130), (5621, R37 l131)]) Sub.tt ?_
         replace h := bsome h; obtain ⟨r263, hr263, h⟩ := h
         refine Chain.callL (d := 84) (p10 N r241 0 19 r263 hr263) (by simp) rfl rfl (by simp <;> rfl) (by simp <;> rfl) ent10 (by simp <;> rfl) ?_
         refine Chain.sub (S' := mk 109 [] [(1, .d (.sl (a1.map cS))), (6, .ptr 29 0 0), (7, .ptr 31 0 0), (10, .i r241), (12, .d (.sl (r262.2.1.map (cI .i64)))), (13, .i r262.2.2), (32, .d (.sl (a0.map (cL (cI .i64))))), (33, .i (a0.length : Int)), (34, .i v132), (83, .i r241), (84, .b r263)] [(29, some (.box [.ref 5580 0 r262.1.granted.length, .ref 5581 0 r262.1.queue.length])), (31, some (.box [.ref 5620 0 l130.length, .ref 5621 0 l131.length])), (5580, R29 r262.1.granted), (5581, R29 r262.1.queue), (5620, R37 l130), (5621, R37 l131)]) (by simp; exact Sub.table (by simp) (by simp)) ?_
         refine Chain.runK [] 1 fun K hK => ?_; simp; refine hK _ _ ?_; clear hK K
         refine Chain.sub (S' := mk 109 [] [(1, .d (.sl (a1.map cS))), (6, .ptr 29 0 0), (7, .ptr 31 0 0), (10, .i r241), (12, .d (.sl (r262.2.1.map (cI .i64)))), (13, .i r262.2.2), (32, .d (.sl (a0.map (cL (cI .i64))))), (33, .i (a0.length : Int)), (34, .i v132), (85, .b (!r263))] [(29, some (.box [.ref 5580 0 r262.1.granted.length, .ref 5581 0 r262.1.queue.length])), (31, some (.box [.ref 5620 0 l130.length, .ref 5621 0 l131.length])), (5580, R29 r262.1.granted), (5581, R29 r262.1.queue), (5620, R37 l130), (5621, R37 l131)]) Sub.tt ?_
         refine Chain.nil ?_
         replace h := isome h; rcases h with ⟨c264, h⟩ | ⟨c264, h⟩
         ·have c264_ : (!r263) = true := c264
          refine AW.condT (b := (!r263)) rfl c264_ ?_
          refine AW.sub (Sub.bool 85 (b := (!r263)) rfl c264_) ?_
          refine AW.sub (S' := mk 109 [] [(1, .d (.sl (a1.map cS))), (6, .ptr 29 0 0), (7, .ptr 31 0 0), (10, .i r241), (12, .d (.sl (r262.2.1.map (cI .i64)))), (13, .i r262.2.2), (32, .d (.sl (a0.map (cL (cI .i64))))), (33, .i (a0.length : Int)), (34, .i v132), (85, .b true)] [(29, some (.box [.ref 5580 0 r262.1.granted.length, .ref 5581 0 r262.1.queue.length])), (31, some (.box [.ref 5620 0 l130.length, .ref 5621 0 l131.length])), (5580, R29 r262.1.granted), (5581, R29 r262.1.queue), (5620, R37 l130), (5621, R37 l131)]) (by simp; exact Sub.table (by simp) (by simp)) ?_
          replace h := bsome h; obtain ⟨v266, hj, h⟩ := h
          refine AW.cutR (mk 109 [] [(1, .d (.sl (a1.map cS))), (6, .ptr 29 0 0), (7, .ptr 31 0 0), (10, .i r241), (32, .d (.sl (a0.map (cL (cI .i64))))), (33, .i (a0.length : Int)), (34, .i v132), (92, .b v266)] [(29, some (.box [.ref 5580 0 r262.1.granted.length, .ref 5581 0 r262.1.queue.length])), (31, some (.box [.ref 5620 0 l130.length, .ref 5621 0 l131.length])), (5580, R29 r262.1.granted), (5581, R29 r262.1.queue), (5620, R37 l130), (5621, R37 l131)]) ?_ ?_
          ·clear h; have h := hj; clear hj
           refine Chain.runK [] 3 fun K hK => ?_; simp; refine hK _ _ ?_; clear hK K
           refine Chain.sub (S' := mk 109 [] [(1, .d (.sl (a1.map cS))), (6, .ptr 29 0 0), (7, .ptr 31 0 0), (10, .i r241), (12, .d (.sl (r262.2.1.map (cI .i64)))), (32, .d (.sl (a0.map (cL (cI .i64))))), (33, .i (a0.length : Int)), (34, .i v132), (88, .b (r262.2.2 != 1))] [(29, some (.box [.ref 5580 0 r262.1.granted.length, .ref 5581 0 r262.1.queue.length])), (31, some (.box [.ref 5620 0 l130.length, .ref 5621 0 l131.length])), (5580, R29 r262.1.granted), (5581, R29 r262.1.queue), (5620, R37 l130), (5621, R37 l131)]) Sub.tt ?_
           replace h := isome h; rcases h with ⟨c267, h⟩ | ⟨c267, h⟩
           ·have c267_ : (r262.2.2 != 1) = true := c267
            refine Chain.sub (Sub.bool 88 (b := (r262.2.2 != 1)) rfl c267_) ?_
            refine Chain.sub (S' := mk 109 [] [(1, .d (.sl (a1.map cS))), (6, .ptr 29 0 0), (7, .ptr 31 0 0), (10, .i r241), (12, .d (.sl (r262.2.1.map (cI .i64)))), (32, .d (.sl (a0.map (cL (cI .i64))))), (33, .i (a0.length : Int)), (34, .i v132), (88, .b true)] [(29, some (.box [.ref 5580 0 r262.1.granted.length, .ref 5581 0 r262.1.queue.length])), (31, some (.box [.ref 5620 0 l130.length, .ref 5621 0 l131.length])), (5580, R29 r262.1.granted), (5581, R29 r262.1.queue), (5620, R37 l130), (5621, R37 l131)]) (by simp; exact Sub.table (by simp) (by simp)) ?_
            refine Chain.runK [] 4 fun K hK => ?_; simp; refine hK _ _ ?_; clear hK K
            refine Chain.sub (S' := mk 109 [] [(1, .d (.sl (a1.map cS))), (6, .ptr 29 0 0), (7, .ptr 31 0 0), (10, .i r241), (32, .d (.sl (a0.map (cL (cI .i64))))), (33, .i (a0.length : Int)), (34, .i v132), (89, .tup []), (90, .tup []), (91, .tup []), (92, .b true)] [(29, some (.box [.ref 5580 0 r262.1.granted.length, .ref 5581 0 r262.1.queue.length])), (31, some (.box [.ref 5620 0 l130.length, .ref 5621 0 l131.length])), (5580, R29 r262.1.granted), (5581, R29 r262.1.queue), (5620, R37 l130), (5621, R37 l131)]) Sub.tt ?_
            cases h
            exact Chain.nil Sub.tt
           ·have c267_ : (r262.2.2 != 1) = false := Bool.eq_false_iff.2 c267
            refine Chain.sub (Sub.bool 88 (b := (r262.2.2 != 1)) rfl c267_) ?_
            refine Chain.sub (S' := mk 109 [] [(1, .d (.sl (a1.map cS))), (6, .ptr 29 0 0), (7, .ptr 31 0 0), (10, .i r241), (12, .d (.sl (r262.2.1.map (cI .i64)))), (32, .d (.sl (a0.map (cL (cI .i64))))), (33, .i (a0.length : Int)), (34, .i v132), (88, .b false)] [(29, some (.box [.ref 5580 0 r262.1.granted.length, .ref 5581 0 r262.1.queue.length])), (31, some (.box [.ref 5620 0 l130.length, .ref 5621 0 l131.length])), (5580, R29 r262.1.granted), (5581, R29 r262.1.queue), (5620, R37 l130), (5621, R37 l131)]) (by simp; exact Sub.table (by simp) (by simp)) ?_
            refine Chain.runK [] 4 fun K hK => ?_; simp; refine hK _ _ ?_; clear hK K
            refine Chain.sub (S' := mk 109 [] [(1, .d (.sl (a1.map cS))), (6, .ptr 29 0 0), (7, .ptr 31 0 0), (10, .i r241), (32, .d (.sl (a0.map (cL (cI .i64))))), (33, .i (a0.length : Int)), (34, .i v132), (89, .d (.sl (r262.2.1.map (cI .i64)))), (90, .i (r262.2.1.length : Int)), (91, .b ((r262.2.1.length : Int) != 0)), (92, .b ((r262.2.1.length : Int) != 0))] [(29, some (.box [.ref 5580 0 r262.1.granted.length, .ref 5581 0 r262.1.queue.length])), (31, some (.box [.ref 5620 0 l130.length, .ref 5621 0 l131.length])), (5580, R29 r262.1.granted), (5581, R29 r262.1.queue), (5620, R37 l130), (5621, R37 l131)]) Sub.tt ?_
            cases h
            exact Chain.nil Sub.tt
          ·clear hj
           replace h := isome h; rcases h with ⟨c268, h⟩ | ⟨c268, h⟩
           ·have c268_ : v266 = true := c268
            refine AW.condT (b := v266) rfl c268_ ?_
            refine AW.sub (Sub.bool 92 (b := v266) rfl c268_) ?_
            refine AW.sub (S' := mk 109 [] [(1, .d (.sl (a1.map cS))), (6, .ptr 29 0 0), (7, .ptr 31 0 0), (10, .i r241), (32, .d (.sl (a0.map (cL (cI .i64))))), (33, .i (a0.length : Int)), (34, .i v132), (92, .b true)] [(29, some (.box [.ref 5580 0 r262.1.granted.length, .ref 5581 0 r262.1.queue.length])), (31, some (.box [.ref 5620 0 l130.length, .ref 5621 0 l131.length])), (5580, R29 r262.1.granted), (5581, R29 r262.1.queue), (5620, R37 l130), (5621, R37 l131)]) (by simp; exact Sub.table (by simp) (by simp)) ?_
            refine AW.seqR ?_
            refine Chain.runK [] 1 fun K hK => ?_; simp; refine hK _ _ ?_; clear hK K
            refine Chain.sub (S' := mk 109 [] [(4, .b false)] []) Sub.tt ?_
            refine Chain.nil ?_
            refine AW.ret ?_
            cases h
            refine blockQ.ret ?_
            refine thenQ_pass (by simp) ?_
            refine blockQ.ret ?_
            refine thenQ_pass (by simp) ?_
            refine PostI.out (by simp) ?_
            rintro rfl
            refine blockQ.ret ?_
            refine PostJ.out (by simp) ?_
            rintro rfl
            refine thenQ_pass (by simp) ?_
            exact FinC.ret (by simp) (by simp)
           ·have c268_ : v266 = false := Bool.eq_false_iff.2 c268
            refine AW.condF (b := v266) rfl c268_ ?_
            refine AW.sub (Sub.bool 92 (b := v266) rfl c268_) ?_
            refine AW.sub (S' := mk 109 [] [(1, .d (.sl (a1.map cS))), (6, .ptr 29 0 0), (7, .ptr 31 0 0), (10, .i r241), (32, .d (.sl (a0.map (cL (cI .i64))))), (33, .i (a0.length : Int)), (34, .i v132), (92, .b false)] [(29, some (.box [.ref 5580 0 r262.1.granted.length, .ref 5581 0 r262.1.queue.length])), (31, some (.box [.ref 5620 0 l130.length, .ref 5621 0 l131.length])), (5580, R29 r262.1.granted), (5581, R29 r262.1.queue), (5620, R37 l130), (5621, R37 l131)]) (by simp; exact Sub.table (by simp) (by simp)) ?_
            refine AW.skip ?_
            refine blockQ.normal ?_
            refine thenQ_normal ?_
            refine AW.seqR ?_
            refine Chain.runK [] 3 fun K hK => ?_; simp; refine hK _ _ ?_; clear hK K
            refine Chain.sub (S' := mk 109 [] [(1, .d (.sl (a1.map cS))), (6, .ptr 29 0 0), (7, .ptr 31 0 0), (32, .d (.sl (a0.map (cL (cI .i64))))), (33, .i (a0.length : Int)), (34, .i v132), (103, .ptr 29 0 0), (104, .ptr 31 0 0), (105, .i r241)] [(29, some (.box [.ref 5580 0 r262.1.granted.length, .ref 5581 0 r262.1.queue.length])), (31, some (.box [.ref 5620 0 l130.length, .ref 5621 0 l131.length])), (5580, R29 r262.1.granted), (5581, R29 r262.1.queue), (5620, R37 l130), (5621, R37 l131)]) Sub.tt ?_
            replace h := bsome h; obtain ⟨r269, hr269, h⟩ := h
            refine Chain.callF (p13 N r262.1 (S33.mk l130 l131) r241 r269 hr269) [(29, 1000), (5580, 25000), (5581, 25001), (31, 2000), (5620, 45000), (5621, 45001)] [29, 31] [(1000, 29), (25000, 5580), (25001, 5581), (2000, 31), (45000, 5620), (45001, 5621)] [(29, (.box [.ref 5580 0 r269.1.granted.length, .ref 5581 0 r269.1.queue.length])), (5580, (.arr 29 4 (r269.1.granted.map cS29))), (5581, (.arr 29 4 (r269.1.queue.map cS29))), (31, (.box [.ref 5620 0 r269.2.1.Granted.length, .ref 5621 0 r269.2.1.Queue.length])), (5620, (.arr 37 4 (r269.2.1.Granted.map cS29))), (5621, (.arr 37 4 (r269.2.1.Queue.map cS29)))] (.b r269.2.2) (by simp) rfl (by simp <;> rfl) (by simp) (by simp) (by simp) (by simp) (by simp) ent13 (by simp) (by simp) (by simp) (by simp) (by simp) (by simp) ?_
            refine Chain.sub (S' := mk 109 [] [(1, .d (.sl (a1.map cS))), (6, .ptr 29 0 0), (7, .ptr 31 0 0), (32, .d (.sl (a0.map (cL (cI .i64))))), (33, .i (a0.length : Int)), (34, .i v132), (103, .ptr 29 0 0), (104, .ptr 31 0 0), (105, .i r241), (106, .b r269.2.2)] [(29, some (.box [.ref 5580 0 r269.1.granted.length, .ref 5581 0 r269.1.queue.length])), (31, some (.box [.ref 5620 0 r269.2.1.Granted.length, .ref 5621 0 r269.2.1.Queue.length])), (5580, R29 r269.1.granted), (5581, R29 r269.1.queue), (5620, R37 r269.2.1.Granted), (5621, R37 r269.2.1.Queue)]) (by simp; exact Sub.table (by simp) (by simp)) ?_
            refine Chain.runK [] 1 fun K hK => ?_; simp; refine hK _ _ ?_; clear hK K
            refine Chain.sub (S' := mk 109 [] [(1, .d (.sl (a1.map cS))), (6, .ptr 29 0 0), (7, .ptr 31 0 0), (32, .d (.sl (a0.map (cL (cI .i64))))), (33, .i (a0.length : Int)), (34, .i v132), (107, .b (!r269.2.2))] [(29, some (.box [.ref 5580 0 r269.1.granted.length, .ref 5581 0 r269.1.queue.length])), (31, some (.box [.ref 5620 0 r269.2.1.Granted.length, .ref 5621 0 r269.2.1.Queue.length])), (5580, R29 r269.1.granted), (5581, R29 r269.1.queue), (5620, R37 r269.2.1.Granted), (5621, R37 r269.2.1.Queue)]) Sub.tt ?_
            refine Chain.nil ?_
            replace h := isome h; rcases h with ⟨c270, h⟩ | ⟨c270, h⟩
            ·have c270_ : (!r269.2.2) = true := c270
             refine AW.condT (b := (!r269.2.2)) rfl c270_ ?_
             refine AW.sub (Sub.bool 107 (b := (!r269.2.2)) rfl c270_) ?_
             refine AW.sub (S' := mk 109 [] [(1, .d (.sl (a1.map cS))), (6, .ptr 29 0 0), (7, .ptr 31 0 0), (32, .d (.sl (a0.map (cL (cI .i64))))), (33, .i (a0.length : Int)), (34, .i v132), (107, .b true)] [(29, some (.box [.ref 5580 0 r269.1.granted.length, .ref 5581 0 r269.1.queue.length])), (31, some (.box [.ref 5620 0 r269.2.1.Granted.length, .ref 5621 0 r269.2.1.Queue.length])), (5580, R29 r269.1.granted), (5581, R29 r269.1.queue), (5620, R37 r269.2.1.Granted), (5621, R37 r269.2.1.Queue)]) (by simp; exact Sub.table (by simp) (by simp)) ?_
             refine AW.seqR ?_
             refine Chain.runK [] 1 fun K hK => ?_; simp; refine hK _ _ ?_; clear hK K
             refine Chain.sub (S' := mk 109 [] [(4, .b false)] []) Sub.tt ?_
             refine Chain.nil ?_
             refine AW.ret ?_
             cases h
             refine blockQ.ret ?_
             refine thenQ_pass (by simp) ?_
             refine PostI.out (by simp) ?_
             rintro rfl
             refine blockQ.ret ?_
             refine PostJ.out (by simp) ?_
             rintro rfl
             refine thenQ_pass (by simp) ?_
             exact FinC.ret (by simp) (by simp)
            ·have c270_ : (!r269.2.2) = false := Bool.eq_false_iff.2 c270
             refine AW.condF (b := (!r269.2.2)) rfl c270_ ?_
             refine AW.sub (Sub.bool 107 (b := (!r269.2.2)) rfl c270_) ?_
             refine AW.sub (S' := mk 109 [] [(1, .d (.sl (a1.map cS))), (6, .ptr 29 0 0), (7, .ptr 31 0 0), (32, .d (.sl (a0.map (cL (cI .i64))))), (33, .i (a0.length : Int)), (34, .i v132), (107, .b false)] [(29, some (.box [.ref 5580 0 r269.1.granted.length, .ref 5581 0 r269.1.queue.length])), (31, some (.box [.ref 5620 0 r269.2.1.Granted.length, .ref 5621 0 r269.2.1.Queue.length])), (5580, R29 r269.1.granted), (5581, R29 r269.1.queue), (5620, R37 r269.2.1.Granted), (5621, R37 r269.2.1.Queue)]) (by simp; exact Sub.table (by simp) (by simp)) ?_
             refine AW.skip ?_
             refine blockQ.normal ?_
             refine thenQ_normal ?_
             refine AW.region ?_
             replace h := bsome h; obtain ⟨v271, hv271, h⟩ := h
             have hv271 := chkI_some hv271
             refine Chain.runK [] 2 fun K hK => ?_; simp [hv271]; refine hK _ _ ?_; clear hK K
             refine Chain.sub (S' := mk 109 [] [(1, .d (.sl (a1.map cS))), (6, .ptr 29 0 0), (7, .ptr 31 0 0), (32, .d (.sl (a0.map (cL (cI .i64))))), (33, .i (a0.length : Int)), (34, .i v271)] [(29, some (.box [.ref 5580 0 r269.1.granted.length, .ref 5581 0 r269.1.queue.length])), (31, some (.box [.ref 5620 0 r269.2.1.Granted.length, .ref 5621 0 r269.2.1.Queue.length])), (5580, R29 r269.1.granted), (5581, R29 r269.1.queue), (5620, R37 r269.2.1.Granted), (5621, R37 r269.2.1.Queue)]) Sub.tt ?_
             refine Chain.nil ?_
             cases h
             refine PostI.next ?_
             exact Sub.tt
         ·have c264_ : (!r263) = false := Bool.eq_false_iff.2 c264
          refine AW.condF (b := (!r263)) rfl c264_ ?_
          refine AW.sub (Sub.bool 85 (b := (!r263)) rfl c264_) ?_
          refine AW.sub (S' := mk 109 [] [(1, .d (.sl (a1.map cS))), (6, .ptr 29 0 0), (7, .ptr 31 0 0), (10, .i r241), (12, .d (.sl (r262.2.1.map (cI .i64)))), (13, .i r262.2.2), (32, .d (.sl (a0.map (cL (cI .i64))))), (33, .i (a0.length : Int)), (34, .i v132), (85, .b false)] [(29, some (.box [.ref 5580 0 r262.1.granted.length, .ref 5581 0 r262.1.queue.length])), (31, some (.box [.ref 5620 0 l130.length, .ref 5621 0 l131.length])), (5580, R29 r262.1.granted), (5581, R29 r262.1.queue), (5620, R37 l130), (5621, R37 l131)]) (by simp; exact Sub.table (by simp) (by simp)) ?_
          replace h := bsome h; obtain ⟨⟨l275, l276, v277⟩, hj, h⟩ := h
          dsimp only at h
          refine AW.cutR (mk 109 [] [(1, .d (.sl (a1.map cS))), (6, .ptr 29 0 0), (7, .ptr 31 0 0), (10, .i r241), (32, .d (.sl (a0.map (cL (cI .i64))))), (33, .i (a0.length : Int)), (34, .i v132), (102, .b v277)] [(29, some (.box [.ref 5580 0 r262.1.granted.length, .ref 5581 0 r262.1.queue.length])), (31, some (.box [.ref 5620 0 l275.length, .ref 5621 0 l276.length])), (5580, R29 r262.1.granted), (5581, R29 r262.1.queue), (5620, R37 l275), (5621, R37 l276)]) ?_ ?_
          ·clear h; have h := hj; clear hj
           refine Chain.runK [] 3 fun K hK => ?_; simp; refine hK _ _ ?_; clear hK K
           refine Chain.sub (S' := mk 109 [] [(1, .d (.sl (a1.map cS))), (6, .ptr 29 0 0), (7, .ptr 31 0 0), (10, .i r241), (12, .d (.sl (r262.2.1.map (cI .i64)))), (32, .d (.sl (a0.map (cL (cI .i64))))), (33, .i (a0.length : Int)), (34, .i v132), (95, .b (r262.2.2 != 0))] [(29, some (.box [.ref 5580 0 r262.1.granted.length, .ref 5581 0 r262.1.queue.length])), (31, some (.box [.ref 5620 0 l130.length, .ref 5621 0 l131.length])), (5580, R29 r262.1.granted), (5581, R29 r262.1.queue), (5620, R37 l130), (5621, R37 l131)]) Sub.tt ?_
           replace h := isome h; rcases h with ⟨c278, h⟩ | ⟨c278, h⟩
           ·have c278_ : (r262.2.2 != 0) = true := c278
            refine Chain.sub (Sub.bool 95 (b := (r262.2.2 != 0)) rfl c278_) ?_
            refine Chain.sub (S' := mk 109 [] [(1, .d (.sl (a1.map cS))), (6, .ptr 29 0 0), (7, .ptr 31 0 0), (10, .i r241), (12, .d (.sl (r262.2.1.map (cI .i64)))), (32, .d (.sl (a0.map (cL (cI .i64))))), (33, .i (a0.length : Int)), (34, .i v132), (95, .b true)] [(29, some (.box [.ref 5580 0 r262.1.granted.length, .ref 5581 0 r262.1.queue.length])), (31, some (.box [.ref 5620 0 l130.length, .ref 5621 0 l131.length])), (5580, R29 r262.1.granted), (5581, R29 r262.1.queue), (5620, R37 l130), (5621, R37 l131)]) (by simp; exact Sub.table (by simp) (by simp)) ?_
            refine Chain.runK [] 7 fun K hK => ?_; simp; refine hK _ _ ?_; clear hK K
            refine Chain.sub (S' := mk 109 [] [(1, .d (.sl (a1.map cS))), (6, .ptr 29 0 0), (7, .ptr 31 0 0), (10, .i r241), (32, .d (.sl (a0.map (cL (cI .i64))))), (33, .i (a0.length : Int)), (34, .i v132), (96, .tup []), (97, .tup []), (98, .tup []), (99, .tup []), (100, .tup []), (101, .tup []), (102, .b true)] [(29, some (.box [.ref 5580 0 r262.1.granted.length, .ref 5581 0 r262.1.queue.length])), (31, some (.box [.ref 5620 0 l130.length, .ref 5621 0 l131.length])), (5580, R29 r262.1.granted), (5581, R29 r262.1.queue), (5620, R37 l130), (5621, R37 l131)]) Sub.tt ?_
            cases h
            exact Chain.nil Sub.tt
           ·have c278_ : (r262.2.2 != 0) = false := Bool.eq_false_iff.2 c278
            refine Chain.sub (Sub.bool 95 (b := (r262.2.2 != 0)) rfl c278_) ?_
            refine Chain.sub (S' := mk 109 [] [(1, .d (.sl (a1.map cS))), (6, .ptr 29 0 0), (7, .ptr 31 0 0), (10, .i r241), (12, .d (.sl (r262.2.1.map (cI .i64)))), (32, .d (.sl (a0.map (cL (cI .i64))))), (33, .i (a0.length : Int)), (34, .i v132), (95, .b false)] [(29, some (.box [.ref 5580 0 r262.1.granted.length, .ref 5581 0 r262.1.queue.length])), (31, some (.box [.ref 5620 0 l130.length, .ref 5621 0 l131.length])), (5580, R29 r262.1.granted), (5581, R29 r262.1.queue), (5620, R37 l130), (5621, R37 l131)]) (by simp; exact Sub.table (by simp) (by simp)) ?_
            refine Chain.runK [] 3 fun K hK => ?_; simp; refine hK _ _ ?_; clear hK K
            refine Chain.sub (S' := mk 109 [] [(1, .d (.sl (a1.map cS))), (6, .ptr 29 0 0), (7, .ptr 31 0 0), (10, .i r241), (32, .d (.sl (a0.map (cL (cI .i64))))), (33, .i (a0.length : Int)), (34, .i v132), (95, .b false), (96, .d (.sl (r262.2.1.map (cI .i64)))), (97, .ptr 31 0 0), (98, .i r241)] [(29, some (.box [.ref 5580 0 r262.1.granted.length, .ref 5581 0 r262.1.queue.length])), (31, some (.box [.ref 5620 0 l130.length, .ref 5621 0 l131.length])), (5580, R29 r262.1.granted), (5581, R29 r262.1.queue), (5620, R37 l130), (5621, R37 l131)]) Sub.tt ?_
            replace h := bsome h; obtain ⟨r279, hr279, h⟩ := h
            refine Chain.callF (p12 N (S33.mk l130 l131) r241 r279 hr279) [(31, 1000), (5620, 25000), (5621, 25001)] [31] [(1000, 31), (25000, 5620), (25001, 5621)] [(31, (.box [.ref 5620 0 r279.1.Granted.length, .ref 5621 0 r279.1.Queue.length])), (5620, (.arr 37 4 (r279.1.Granted.map cS29))), (5621, (.arr 37 4 (r279.1.Queue.map cS29)))] (.d (.sl (r279.2.map (cI .i64)))) (by simp) rfl (by simp <;> rfl) (by simp) (by simp) (by simp) (by simp) (by simp) ent12 (by simp) (by simp) (by simp) (by simp) (by simp) (by simp) ?_
            refine Chain.sub (S' := mk 109 [] [(1, .d (.sl (a1.map cS))), (6, .ptr 29 0 0), (7, .ptr 31 0 0), (10, .i r241), (32, .d (.sl (a0.map (cL (cI .i64))))), (33, .i (a0.length : Int)), (34, .i v132), (95, .b false), (96, .d (.sl (r262.2.1.map (cI .i64)))), (97, .ptr 31 0 0), (98, .i r241), (99, .d (.sl (r279.2.map (cI .i64))))] [(29, some (.box [.ref 5580 0 r262.1.granted.length, .ref 5581 0 r262.1.queue.length])), (31, some (.box [.ref 5620 0 r279.1.Granted.length, .ref 5621 0 r279.1.Queue.length])), (5580, R29 r262.1.granted), (5581, R29 r262.1.queue), (5620, R37 r279.1.Granted), (5621, R37 r279.1.Queue)]) (by simp; exact Sub.table (by simp) (by simp)) ?_
            replace h := bsome h; obtain ⟨r280, hr280, h⟩ := h
            refine Chain.callL (d := 100) (p11 N r262.2.1 r279.2 r280 hr280) (by simp) rfl rfl (by simp <;> rfl) (by simp <;> rfl) ent11 (by simp <;> rfl) ?_
            refine Chain.sub (S' := mk 109 [] [(1, .d (.sl (a1.map cS))), (6, .ptr 29 0 0), (7, .ptr 31 0 0), (10, .i r241), (32, .d (.sl (a0.map (cL (cI .i64))))), (33, .i (a0.length : Int)), (34, .i v132), (95, .b false), (96, .d (.sl (r262.2.1.map (cI .i64)))), (97, .ptr 31 0 0), (98, .i r241), (99, .d (.sl (r279.2.map (cI .i64)))), (100, .b r280)] [(29, some (.box [.ref 5580 0 r262.1.granted.length, .ref 5581 0 r262.1.queue.length])), (31, some (.box [.ref 5620 0 r279.1.Granted.length, .ref 5621 0 r279.1.Queue.length])), (5580, R29 r262.1.granted), (5581, R29 r262.1.queue), (5620, R37 r279.1.Granted), (5621, R37 r279.1.Queue)]) (by simp; exact Sub.table (by simp) (by simp)) ?_
            refine Chain.runK [] 2 fun K hK => ?_; simp; refine hK _ _ ?_; clear hK K
            refine Chain.sub (S' := mk 109 [] [(1, .d (.sl (a1.map cS))), (6, .ptr 29 0 0), (7, .ptr 31 0 0), (10, .i r241), (32, .d (.sl (a0.map (cL (cI .i64))))), (33, .i (a0.length : Int)), (34, .i v132), (96, .d (.sl (r262.2.1.map (cI .i64)))), (97, .ptr 31 0 0), (98, .i r241), (99, .d (.sl (r279.2.map (cI .i64)))), (100, .b r280), (101, .b (!r280)), (102, .b (!r280))] [(29, some (.box [.ref 5580 0 r262.1.granted.length, .ref 5581 0 r262.1.queue.length])), (31, some (.box [.ref 5620 0 r279.1.Granted.length, .ref 5621 0 r279.1.Queue.length])), (5580, R29 r262.1.granted), (5581, R29 r262.1.queue), (5620, R37 r279.1.Granted), (5621, R37 r279.1.Queue)]) Sub.tt ?_
            cases h
            exact Chain.nil Sub.tt
          ·clear hj
           replace h := isome h; rcases h with ⟨c281, h⟩ | ⟨c281, h⟩
           ·have c281_ : v277 = true := c281
            refine AW.condT (b := v277) rfl c281_ ?_
            refine AW.sub (Sub.bool 102 (b := v277) rfl c281_) ?_
            refine AW.sub (S' := mk 109 [] [(1, .d (.sl (a1.map cS))), (6, .ptr 29 0 0), (7, .ptr 31 0 0), (10, .i r241), (32, .d (.sl (a0.map (cL (cI .i64))))), (33, .i (a0.length : Int)), (34, .i v132), (102, .b true)] [(29, some (.box [.ref 5580 0 r262.1.granted.length, .ref 5581 0 r262.1.queue.length])), (31, some (.box [.ref 5620 0 l275.length, .ref 5621 0 l276.length])), (5580, R29 r262.1.granted), (5581, R29 r262.1.queue), (5620, R37 l275), (5621, R37 l276)]) (by simp; exact Sub.table (by simp) (by simp)) ?_
            refine AW.seqR ?_
            refine Chain.runK [] 1 fun K hK => ?_; simp; refine hK _ _ ?_; clear hK K
            refine Chain.sub (S' := mk 109 [] [(4, .b false)] []) Sub.tt ?_
            refine Chain.nil ?_
            refine AW.ret ?_
            cases h
            refine blockQ.ret ?_
            refine thenQ_pass (by simp) ?_
            refine blockQ.ret ?_
            refine thenQ_pass (by simp) ?_
            refine PostI.out (by simp) ?_
            rintro rfl
            refine blockQ.ret ?_
            refine PostJ.out (by simp) ?_
            rintro rfl
            refine thenQ_pass (by simp) ?_
            exact FinC.ret (by simp) (by simp)
           ·have c281_ : v277 = false := Bool.eq_false_iff.2 c281
            refine AW.condF (b := v277) rfl c281_ ?_
            refine AW.sub (Sub.bool 102 (b := v277) rfl c281_) ?_
            refine AW.sub (S' := mk 109 [] [(1, .d (.sl (a1.map cS))), (6, .ptr 29 0 0), (7, .ptr 31 0 0), (10, .i r241), (32, .d (.sl (a0.map (cL (cI .i64))))), (33, .i (a0.length : Int)), (34, .i v132), (102, .b false)] [(29, some (.box [.ref 5580 0 r262.1.granted.length, .ref 5581 0 r262.1.queue.length])), (31, some (.box [.ref 5620 0 l275.length, .ref 5621 0 l276.length])), (5580, R29 r262.1.granted), (5581, R29 r262.1.queue), (5620, R37 l275), (5621, R37 l276)]) (by simp; exact Sub.table (by simp) (by simp)) ?_
            refine AW.skip ?_
            refine blockQ.normal ?_
            refine thenQ_normal ?_
            refine AW.seqR ?_
            refine Chain.runK [] 3 fun K hK => ?_; simp; refine hK _ _ ?_; clear hK K
            refine Chain.sub (S' := mk 109 [] [(1, .d (.sl (a1.map cS))), (6, .ptr 29 0 0), (7, .ptr 31 0 0), (32, .d (.sl (a0.map (cL (cI .i64))))), (33, .i (a0.length : Int)), (34, .i v132), (103, .ptr 29 0 0), (104, .ptr 31 0 0), (105, .i r241)] [(29, some (.box [.ref 5580 0 r262.1.granted.length, .ref 5581 0 r262.1.queue.length])), (31, some (.box [.ref 5620 0 l275.length, .ref 5621 0 l276.length])), (5580, R29 r262.1.granted), (5581, R29 r262.1.queue), (5620, R37 l275), (5621, R37 l276)]) Sub.tt ?_
            replace h := bsome h; obtain ⟨r282, hr282, h⟩ := h
            refine Chain.callF (p13 N r262.1 (S33.mk l275 l276) r241 r282 hr282) [(29, 1000), (5580, 25000), (5581, 25001), (31, 2000), (5620, 45000), (5621, 45001)] [29, 31] [(1000, 29), (25000, 5580), (25001, 5581), (2000, 31), (45000, 5620), (45001, 5621)] [(29, (.box [.ref 5580 0 r282.1.granted.length, .ref 5581 0 r282.1.queue.length])), (5580, (.arr 29 4 (r282.1.granted.map cS29))), (5581, (.arr 29 4 (r282.1.queue.map cS29))), (31, (.box [.ref 5620 0 r282.2.1.Granted.length, .ref 5621 0 r282.2.1.Queue.length])), (5620, (.arr 37 4 (r282.2.1.Granted.map cS29))), (5621, (.arr 37 4 (r282.2.1.Queue.map cS29)))] (.b r282.2.2) (by simp) rfl (by simp <;> rfl) (by simp) (by simp) (by simp) (by simp) (by simp) ent13 (by simp) (by simp) (by simp) (by simp) (by simp) (by simp) ?_
            refine Chain.sub (S' := mk 109 [] [(1, .d (.sl (a1.map cS))), (6, .ptr 29 0 0), (7, .ptr 31 0 0), (32, .d (.sl (a0.map (cL (cI .i64))))), (33, .i (a0.length : Int)), (34, .i v132), (103, .ptr 29 0 0), (104, .ptr 31 0 0), (105, .i r241), (106, .b r282.2.2)] [(29, some (.box [.ref 5580 0 r282.1.granted.length, .ref 5581 0 r282.1.queue.length])), (31, some (.box [.ref 5620 0 r282.2.1.Granted.length, .ref 5621 0 r282.2.1.Queue.length])), (5580, R29 r282.1.granted), (5581, R29 r282.1.queue), (5620, R37 r282.2.1.Granted), (5621, R37 r282.2.1.Queue)]) (by simp; exact Sub.table (by simp) (by simp)) ?_
            refine Chain.runK [] 1 fun K hK => ?_; simp; refine hK _ _ ?_; clear hK K
            refine Chain.sub (S' := mk 109 [] [(1, .d (.sl (a1.map cS))), (6, .ptr 29 0 0), (7, .ptr 31 0 0), (32, .d (.sl (a0.map (cL (cI .i64))))), (33, .i (a0.length : Int)), (34, .i v132), (107, .b (!r282.2.2))] [(29, some (.box [.ref 5580 0 r282.1.granted.length, .ref 5581 0 r282.1.queue.length])), (31, some (.box [.ref 5620 0 r282.2.1.Granted.length, .ref 5621 0 r282.2.1.Queue.length])), (5580, R29 r282.1.granted), (5581, R29 r282.1.queue), (5620, R37 r282.2.1.Granted), (5621, R37 r282.2.1.Queue)]) Sub.tt ?_
            refine Chain.nil ?_
            replace h := isome h; rcases h with ⟨c283, h⟩ | ⟨c283, h⟩
            ·have c283_ : (!r282.2.2) = true := c283
             refine AW.condT (b := (!r282.2.2)) rfl c283_ ?_
             refine AW.sub (Sub.bool 107 (b := (!r282.2.2)) rfl c283_) ?_
             refine AW.sub (S' := mk 109 [] [(1, .d (.sl (a1.map cS))), (6, .ptr 29 0 0), (7, .ptr 31 0 0), (32, .d (.sl (a0.map (cL (cI .i64))))), (33, .i (a0.length : Int)), (34, .i v132), (107, .b true)] [(29, some (.box [.ref 5580 0 r282.1.granted.length, .ref 5581 0 r282.1.queue.length])), (31, some (.box [.ref 5620 0 r282.2.1.Granted.length, .ref 5621 0 r282.2.1.Queue.length])), (5580, R29 r282.1.granted), (5581, R29 r282.1.queue), (5620, R37 r282.2.1.Granted), (5621, R37 r282.2.1.Queue)]) (by simp; exact Sub.table (by simp) (by simp)) ?_
             refine AW.seqR ?_
             refine Chain.runK [] 1 fun K hK => ?_; simp; refine hK _ _ ?_; clear hK K
             refine Chain.sub (S' := mk 109 [] [(4, .b false)] []) Sub.tt ?_
             refine Chain.nil ?_
             refine AW.ret ?_
             cases h
             refine blockQ.ret ?_
             refine thenQ_pass (by simp) ?_
             refine PostI.out (by simp) ?_
             rintro rfl
             refine blockQ.ret ?_
             refine PostJ.out (by simp) ?_
             rintro rfl
             refine thenQ_pass (by simp) ?_
             exact FinC.ret (by simp) (by simp)
            ·have c283_ : (!r282.2.2) = false := Bool.eq_false_iff.2 c283
             refine AW.condF (b := (!r282.2.2)) rfl c283_ ?_
             refine AW.sub (Sub.bool 107 (b := (!r282.2.2)) rfl c283_) ?_
             refine AW.sub (S' := mk 109 [] [(1, .d (.sl (a1.map cS))), (6, .ptr 29 0 0), (7, .ptr 31 0 0), (32, .d (.sl (a0.map (cL (cI .i64))))), (33, .i (a0.length : Int)), (34, .i v132), (107, .b false)] [(29, some (.box [.ref 5580 0 r282.1.granted.length, .ref 5581 0 r282.1.queue.length])), (31, some (.box [.ref 5620 0 r282.2.1.Granted.length, .ref 5621 0 r282.2.1.Queue.length])), (5580, R29 r282.1.granted), (5581, R29 r282.1.queue), (5620, R37 r282.2.1.Granted), (5621, R37 r282.2.1.Queue)]) (by simp; exact Sub.table (by simp) (by simp)) ?_
             refine AW.skip ?_
             refine blockQ.normal ?_
             refine thenQ_normal ?_
             refine AW.region ?_
             replace h := bsome h; obtain ⟨v284, hv284, h⟩ := h
             have hv284 := chkI_some hv284
             refine Chain.runK [] 2 fun K hK => ?_; simp [hv284]; refine hK _ _ ?_; clear hK K
             refine Chain.sub (S' := mk 109 [] [(1, .d (.sl (a1.map cS))), (6, .ptr 29 0 0), (7, .ptr 31 0 0), (32, .d (.sl (a0.map (cL (cI .i64))))), (33, .i (a0.length : Int)), (34, .i v284)] [(29, some (.box [.ref 5580 0 r282.1.granted.length, .ref 5581 0 r282.1.queue.length])), (31, some (.box [.ref 5620 0 r282.2.1.Granted.length, .ref 5621 0 r282.2.1.Queue.length])), (5580, R29 r282.1.granted), (5581, R29 r282.1.queue), (5620, R37 r282.2.1.Granted), (5621, R37 r282.2.1.Queue)]) Sub.tt ?_
             refine Chain.nil ?_
             cases h
             refine PostI.next ?_
             exact Sub.tt
        ·have c261_ : (r242 == 2) = false := Bool.eq_false_iff.2 c261
         refine AW.condF (b := (r242 == 2)) rfl c261_ ?_
         refine AW.sub (Sub.bool 75 (b := (r242 == 2)) rfl c261_) ?_
         refine AW.sub (S' := mk 109 [] [(1, .d (.sl (a1.map cS))), (6, .ptr 29 0 0), (7, .ptr 31 0 0), (10, .i r241), (32, .d (.sl (a0.map (cL (cI .i64))))), (33, .i (a0.length : Int)), (34, .i v132), (75, .b false)] [(29, some (.box [.ref 5580 0 l128.length, .ref 5581 0 l129.length])), (31, some (.box [.ref 5620 0 l130.length, .ref 5621 0 l131.length])), (5580, R29 l128), (5581, R29 l129), (5620, R37 l130), (5621, R37 l131)]) (by simp; exact Sub.table (by simp) (by simp)) ?_
         refine AW.skip ?_
         refine blockQ.normal ?_
         refine thenQ_normal ?_
         refine AW.seqR ?_
         refine Chain.runK [] 3 fun K hK => ?_; simp; refine hK _ _ ?_; clear hK K
         refine Chain.sub (S' := mk 109 [] [(1, .d (.sl (a1.map cS))), (6, .ptr 29 0 0), (7, .ptr 31 0 0), (32, .d (.sl (a0.map (cL (cI .i64))))), (33, .i (a0.length : Int)), (34, .i v132), (103, .ptr 29 0 0), (104, .ptr 31 0 0), (105, .i r241)] [(29, some (.box [.ref 5580 0 l128.length, .ref 5581 0 l129.length])), (31, some (.box [.ref 5620 0 l130.length, .ref 5621 0 l131.length])), (5580, R29 l128), (5581, R29 l129), (5620, R37 l130), (5621, R37 l131)]) Sub.tt ?_
         replace h := bsome h; obtain ⟨r285, hr285, h⟩ := h
         refine Chain.callF (p13 N (S48.mk l128 l129) (S33.mk l130 l131) r241 r285 hr285) [(29, 1000), (5580, 25000), (5581, 25001), (31, 2000), (5620, 45000), (5621, 45001)] [29, 31] [(1000, 29), (25000, 5580), (25001, 5581), (2000, 31), (45000, 5620), (45001, 5621)] [(29, (.box [.ref 5580 0 r285.1.granted.length, .ref 5581 0 r285.1.queue.length])), (5580, (.arr 29 4 (r285.1.granted.map cS29))), (5581, (.arr 29 4 (r285.1.queue.map cS29))), (31, (.box [.ref 5620 0 r285.2.1.Granted.length, .ref 5621 0 r285.2.1.Queue.length])), (5620, (.arr 37 4 (r285.2.1.Granted.map cS29))), (5621, (.arr 37 4 (r285.2.1.Queue.map cS29)))] (.b r285.2.2) (by simp) rfl (by simp <;> rfl) (by simp) (by simp) (by simp) (by simp) (by simp) ent13 (by simp) (by simp) (by simp) (by simp) (by simp) (by simp) ?_
         refine Chain.sub (S' := mk 109 [] [(1, .d (.sl (a1.map cS))), (6, .ptr 29 0 0), (7, .ptr 31 0 0), (32, .d (.sl (a0.map (cL (cI .i64))))), (33, .i (a0.length : Int)), (34, .i v132), (103, .ptr 29 0 0), (104, .ptr 31 0 0), (105, .i r241), (106, .b r285.2.2)] [(29, some (.box [.ref 5580 0 r285.1.granted.length, .ref 5581 0 r285.1.queue.length])), (31, some (.box [.ref 5620 0 r285.2.1.Granted.length, .ref 5621 0 r285.2.1.Queue.length])), (5580, R29 r285.1.granted), (5581, R29 r285.1.queue), (5620, R37 r285.2.1.Granted), (5621, R37 r285.2.1.Queue)]) (by simp; exact Sub.table (by simp) (by simp)) ?_
         refine Chain.runK [] 1 fun K hK => ?_; simp; refine hK _ _ ?_; clear hK K
         refine Chain.sub (S' := mk 109 [] [(1, .d (.sl (a1.map cS))), (6, .ptr 29 0 0), (7, .ptr 31 0 0), (32, .d (.sl (a0.map (cL (cI .i64))))), (33, .i (a0.length : Int)), (34, .i v132), (107, .b (!r285.2.2))] [(29, some (.box [.ref 5580 0 r285.1.granted.length, .ref 5581 0 r285.1.queue.length])), (31, some (.box [.ref 5620 0 r285.2.1.Granted.length, .ref 5621 0 r285.2.1.Queue.length])), (5580, R29 r285.1.granted), (5581, R29 r285.1.queue), (5620, R37 r285.2.1.Granted), (5621, R37 r285.2.1.Queue)]) Sub.tt ?_
         refine Chain.nil ?_
         replace h := isome h; rcases h with ⟨c286, h⟩ | ⟨c286, h⟩
         ·have c286_ : (!r285.2.2) = true := c286
          refine AW.condT (b := (!r285.2.2)) rfl c286_ ?_
          refine AW.sub (Sub.bool 107 (b := (!r285.2.2)) rfl c286_) ?_
          refine AW.sub (S' := mk 109 [] [(1, .d (.sl (a1.map cS))), (6, .ptr 29 0 0), (7, .ptr 31 0 0), (32, .d (.sl (a0.map (cL (cI .i64))))), (33, .i (a0.length : Int)), (34, .i v132), (107, .b true)] [(29, some (.box [.ref 5580 0 r285.1.granted.length, .ref 5581 0 r285.1.queue.length])), (31, some (.box [.ref 5620 0 r285.2.1.Granted.length, .ref 5621 0 r285.2.1.Queue.length])), (5580, R29 r285.1.granted), (5581, R29 r285.1.queue), (5620, R37 r285.2.1.Granted), (5621, R37 r285.2.1.Queue)]) (by simp; exact Sub.table (by simp) (by simp)) ?_
          refine AW.seqR ?_
          refine Chain.runK [] 1 fun K hK => ?_; simp; refine hK _ _ ?_; clear hK K
          refine Chain.sub (S' := mk 109 [] [(4, .b false)] []) Sub.tt ?_
          refine Chain.nil ?_
          refine AW.ret ?_
          cases h
          refine blockQ.ret ?_
          refine thenQ_pass (by simp) ?_
          refine PostI.out (by simp) ?_
          rintro rfl
          refine blockQ.ret ?_
          refine PostJ.out (by simp) ?_
          rintro rfl
          refine thenQ_pass (by simp) ?_
          exact FinC.ret (by simp) (by simp)
         ·have c286_ : (!r285.2.2) = false := Bool.eq_false_iff.2 c286
          refine AW.condF (b := (!r285.2.2)) rfl c286_ ?_
          refine AW.sub (Sub.bool 107 (b := (!r285.2.2)) rfl c286_) ?_
          refine AW.sub (S' := mk 109 [] [(1, .d (.sl (a1.map cS))), (6, .ptr 29 0 0), (7, .ptr 31 0 0), (32, .d (.sl (a0.map (cL (cI .i64))))), (33, .i (a0.length : Int)), (34, .i v132), (107, .b false)] [(29, some (.box [.ref 5580 0 r285.1.granted.length, .ref 5581 0 r285.1.queue.length])), (31, some (.box [.ref 5620 0 r285.2.1.Granted.length, .ref 5621 0 r285.2.1.Queue.length])), (5580, R29 r285.1.granted), (5581, R29 r285.1.queue), (5620, R37 r285.2.1.Granted), (5621, R37 r285.2.1.Queue)]) (by simp; exact Sub.table (by simp) (by simp)) ?_
          refine AW.skip ?_
          refine blockQ.normal ?_
          refine thenQ_normal ?_
          refine AW.region ?_
          replace h := bsome h; obtain ⟨v287, hv287, h⟩ := h
          have hv287 := chkI_some hv287
          refine Chain.runK [] 2 fun K hK => ?_; simp [hv287]; refine hK _ _ ?_; clear hK K
          refine Chain.sub (S' := mk 109 [] [(1, .d (.sl (a1.map cS))), (6, .ptr 29 0 0), (7, .ptr 31 0 0), (32, .d (.sl (a0.map (cL (cI .i64))))), (33, .i (a0.length : Int)), (34, .i v287)] [(29, some (.box [.ref 5580 0 r285.1.granted.length, .ref 5581 0 r285.1.queue.length])), (31, some (.box [.ref 5620 0 r285.2.1.Granted.length, .ref 5621 0 r285.2.1.Queue.length])), (5580, R29 r285.1.granted), (5581, R29 r285.1.queue), (5620, R37 r285.2.1.Granted), (5621, R37 r285.2.1.Queue)]) Sub.tt ?_
          refine Chain.nil ?_
          cases h
          refine PostI.next ?_
          exact Sub.tt
      ·have c238_ : decide (v132 < (a0.length : Int)) = false := decide_eq_false c238
       refine AW.condF (b := decide (v132 < (a0.length : Int))) rfl c238_ ?_
       refine AW.sub (Sub.bool 35 (b := decide (v132 < (a0.length : Int))) rfl c238_) ?_
       refine AW.sub (S' := mk 109 [] [(1, .d (.sl (a1.map cS))), (6, .ptr 29 0 0), (7, .ptr 31 0 0), (32, .d (.sl (a0.map (cL (cI .i64))))), (33, .i (a0.length : Int)), (34, .i v132), (35, .b false)] [(29, some (.box [.ref 5580 0 l128.length, .ref 5581 0 l129.length])), (31, some (.box [.ref 5620 0 l130.length, .ref 5621 0 l131.length])), (5580, R29 l128), (5581, R29 l129), (5620, R37 l130), (5621, R37 l131)]) (by simp; exact Sub.table (by simp) (by simp)) ?_
       refine AW.exit ?_
       cases h
       refine thenQ_pass (by simp) ?_
       refine PostI.out (by simp) ?_
       rintro rfl
       refine blockQ.hit ?_
       refine PostJ.next ?_
       exact Sub.tt
     ·rintro ⟨⟩ h
      refine thenQ_normal ?_
      refine AW.seqR ?_
      refine Chain.runK [] 1 fun K hK => ?_; simp; refine hK _ _ ?_; clear hK K
      refine Chain.sub (S' := mk 109 [] [(4, .b true)] []) Sub.tt ?_
      refine Chain.nil ?_
      refine AW.ret ?_
      cases h
      exact FinC.ret (by simp) (by simp)

end Go.Proofs.Ytdiekinmoklonaa
