/- Functions of the program as functional programs; the code computes them. -/
import Derived.Test.YtimkkjiplioohaaGreatDoorCe0
namespace Go.Proofs.YtimkkjiplioohaaGreatDoor
open Go.Ab Go.Rp
attribute [-simp] List.all_eq_true Array.all_toList Array.all_eq_true

/-- stemma/joinorder.LeafSet -/
def d15 : (N : Nat) → (a0 : S25) → (a1 : S28) → Option (Int × Bool)
 | 0, _, _ => none
 | N + 1, a0, a1 =>
  if ((a1.Children.length : Int) == 0) then (
   Option.bind (α := (Int × Bool)) (
    letv (minI a1.Leaf 8) fun v8 =>
    letv (maxI 0 v8) fun v9 =>
    (shiftB .i64 v9).bind fun _ =>
    letv (shlI .i64 1 v9) fun v10 =>
    if a1.Leaf ≥ 0 then (
     some (v10, decide (a1.Leaf < (a0.Sizes.length : Int)))
    ) else
    some (v10, false)
   ) fun ((v6, v7) : (Int × Bool)) =>
   some (v6, v7)
  ) else
  Option.bind (α := Bool) (
   if ((a1.Children.length : Int) != 2) then (
    some true
   ) else
   some (a1.Leaf != 0)
  ) fun (v13 : Bool) =>
  if v13 = true then (
   some (0, false)
  ) else
  (idx a1.Children 0).bind fun x16 =>
  (d15 N a0 x16).bind fun r17 =>
  (idx a1.Children 1).bind fun x18 =>
  (d15 N a0 x18).bind fun r19 =>
  Option.bind (α := (Int × Bool)) (
   letv (bitI .or .i64 r17.1 r19.1) fun v26 =>
   if r17.2 = true then (
    if r19.2 = true then (
     letv (bitI .and .i64 r17.1 r19.1) fun v29 =>
     some (v26, (v29 == 0))
    ) else
    some (v26, false)
   ) else
   some (v26, false)
  ) fun ((v24, v25) : (Int × Bool)) =>
  some (v24, v25)
/-- stemma/joinorder.size -/
def d53 (N : Nat) (a0 : S25) (a1 : Int) : Option Int :=
 Option.bind (α := Int) (
  iterN (σ := (Int × Int)) (ρ := Int) (fun ((v152, v153) : (Int × Int)) =>
   if v153 < (a0.Sizes.length : Int) then (
    Option.bind (α := Int) (
     (idx a0.Sizes v153).bind fun x540 =>
     (shiftB .i64 v153).bind fun _ =>
     letv (shrI a1 v153) fun v542 =>
     letv (bitI .and .i64 v542 1) fun v543 =>
     if (v543 == 0) then (
      some v152
     ) else
     (chkI (v152 * x540)).bind fun v545 =>
     letv (minI 1073741824 v545) fun v546 =>
     Option.bind (α := Int) (
      iterN (σ := (Int × Int)) (ρ := Int) (fun ((v562, v563) : (Int × Int)) =>
       if v563 < (a0.Selectivities.length : Int) then (
        (idx a0.Selectivities v563).bind fun x600 =>
        Option.bind (α := Bool) (
         if (x600.B == v153) then (
          (shiftB .i64 x600.A).bind fun _ =>
          letv (shrI a1 x600.A) fun v607 =>
          letv (bitI .and .i64 v607 1) fun v608 =>
          some (v608 == 1)
         ) else
         some false
        ) fun (v605 : Bool) =>
        if v605 = true then (
         (chkI (v562 + x600.Divisor)).bind fun v610 =>
         (chkI (v610 - 1)).bind fun v611 =>
         (quoI v611 x600.Divisor).bind fun v612 =>
         (chkI (v563 + 1)).bind fun v613 =>
         some (.inl (v612, v613))
        ) else
        (chkI (v563 + 1)).bind fun v614 =>
        some (.inl (v562, v614))
       ) else
       some (.inr v562)
      ) N (v546, 0)
     ) fun (v598 : Int) =>
     some v598
    ) fun (v539 : Int) =>
    (chkI (v153 + 1)).bind fun v615 =>
    some (.inl (v539, v615))
   ) else
   some (.inr v152)
  ) N (1, 0)
 ) fun (v462 : Int) =>
 some v462
set_option maxRecDepth 100000 in
set_option maxHeartbeats 4000000 in
theorem p53 (N : Nat) (a0 : S25) (a1 : Int) (r : Int) (h : d53 N a0 a1 = some r) : FunC Tryz.prog 53 [.agg [.d (.sl (a0.Sizes.map (cI .i64))), .d (.sl (a0.Selectivities.map cS115))], .d (.lit (.int .i64 a1))] (.d (.lit (.int .i64 r))) := by
 unfold d53 at h
 refine FunC.enter 57 [(0, .agg [.d (.sl (a0.Sizes.map (cI .i64))), .d (.sl (a0.Selectivities.map cS115))]), (1, .d (.lit (.int .i64 a1)))] (by simp) Tryz.func53 rfl (of_decide_eq_true rfl) rfl rfl ?_
 refine AW.seqR ?_
 refine Chain.runK [] 2 fun K hK => ?_; simp; refine hK _ _ ?_; clear hK K
 refine Chain.sub (S' := mk 57 [] [(1, .d (.lit (.int .i64 a1))), (2, .ptr 2 0 0)] [(2, some (.box [.d (.sl (a0.Sizes.map (cI .i64))), .d (.sl (a0.Selectivities.map cS115))]))]) Sub.tt ?_
 refine Chain.nil ?_
 refine AW.seqR ?_
 refine Chain.runK [] 1 fun K hK => ?_; simp; refine hK _ _ ?_; clear hK K
 refine Chain.sub (S' := mk 57 [] [(1, .d (.lit (.int .i64 a1))), (2, .ptr 2 0 0), (5, .d (.lit (.int .i64 1)))] [(2, some (.box [.d (.sl (a0.Sizes.map (cI .i64))), .d (.sl (a0.Selectivities.map cS115))]))]) Sub.tt ?_
 refine Chain.nil ?_
 refine AW.seq ?_
 refine AW.seqR ?_
 refine Chain.runK [] 4 fun K hK => ?_; simp; refine hK _ _ ?_; clear hK K
 refine Chain.sub (S' := mk 57 [] [(1, .d (.lit (.int .i64 a1))), (2, .ptr 2 0 0), (5, .d (.lit (.int .i64 1))), (11, .d (.sl (a0.Sizes.map (cI .i64)))), (12, .d (.lit (.int .i64 (a0.Sizes.length : Int)))), (13, .d (.lit (.int .i64 0)))] [(2, some (.box [.d (.sl (a0.Sizes.map (cI .i64))), .d (.sl (a0.Selectivities.map cS115))]))]) Sub.tt ?_
 refine Chain.nil ?_
 refine AW.lastN (fun (v462 : Int) => mk 57 [] [(5, .d (.lit (.int .i64 v462)))] []) h ?_ ?_ <;> clear h
 ·intro o h
  refine AW.block ?_
  refine AW.iter (fun ((v152, v153) : (Int × Int)) => mk 57 [] [(1, .d (.lit (.int .i64 a1))), (2, .ptr 2 0 0), (5, .d (.lit (.int .i64 v152))), (11, .d (.sl (a0.Sizes.map (cI .i64)))), (12, .d (.lit (.int .i64 (a0.Sizes.length : Int)))), (13, .d (.lit (.int .i64 v153)))] [(2, some (.box [.d (.sl (a0.Sizes.map (cI .i64))), .d (.sl (a0.Selectivities.map cS115))]))]) h Sub.tt ?_
  clear h
  rintro ⟨v152, v153⟩ x h
  dsimp only at h ⊢
  refine AW.seqR ?_
  refine Chain.runK [] 1 fun K hK => ?_; simp; refine hK _ _ ?_; clear hK K
  refine Chain.sub (S' := mk 57 [] [(1, .d (.lit (.int .i64 a1))), (2, .ptr 2 0 0), (5, .d (.lit (.int .i64 v152))), (11, .d (.sl (a0.Sizes.map (cI .i64)))), (12, .d (.lit (.int .i64 (a0.Sizes.length : Int)))), (13, .d (.lit (.int .i64 v153))), (14, .d (.lit (.bool (decide (v153 < (a0.Sizes.length : Int))))))] [(2, some (.box [.d (.sl (a0.Sizes.map (cI .i64))), .d (.sl (a0.Selectivities.map cS115))]))]) Sub.tt ?_
  refine Chain.nil ?_
  refine AW.seq ?_
  replace h := isome h; rcases h with ⟨c463, h⟩ | ⟨c463, h⟩
  ·have c463_ : decide (v153 < (a0.Sizes.length : Int)) = true := decide_eq_true c463
   refine AW.condT (b := decide (v153 < (a0.Sizes.length : Int))) rfl c463_ ?_
   refine AW.sub (Sub.bool 14 (b := decide (v153 < (a0.Sizes.length : Int))) rfl c463_) ?_
   refine AW.sub (S' := mk 57 [] [(1, .d (.lit (.int .i64 a1))), (2, .ptr 2 0 0), (5, .d (.lit (.int .i64 v152))), (11, .d (.sl (a0.Sizes.map (cI .i64)))), (12, .d (.lit (.int .i64 (a0.Sizes.length : Int)))), (13, .d (.lit (.int .i64 v153))), (14, .d (.lit (.bool true)))] [(2, some (.box [.d (.sl (a0.Sizes.map (cI .i64))), .d (.sl (a0.Selectivities.map cS115))]))]) (by simp; exact Sub.table (by simp) (by simp)) ?_
   refine AW.skip ?_
   refine thenQ_normal ?_
   refine AW.seqN (fun (v539 : Int) => mk 57 [] [(1, .d (.lit (.int .i64 a1))), (2, .ptr 2 0 0), (5, .d (.lit (.int .i64 v539))), (11, .d (.sl (a0.Sizes.map (cI .i64)))), (12, .d (.lit (.int .i64 (a0.Sizes.length : Int)))), (13, .d (.lit (.int .i64 v153)))] [(2, some (.box [.d (.sl (a0.Sizes.map (cI .i64))), .d (.sl (a0.Selectivities.map cS115))]))]) h ?_ ?_ <;> clear h
   ·intro o h
    refine AW.block ?_
    refine AW.seqR ?_
    replace h := bsome h; obtain ⟨x540, hx540, h⟩ := h
    obtain ⟨k541, hx540k, hx540, hx540a, hx540b⟩ := idx_some hx540
    refine Chain.runK [] 5 fun K hK => ?_; simp [hx540, hx540k, hx540a]; refine hK _ _ ?_; clear hK K
    refine Chain.sub (S' := mk 57 [] [(1, .d (.lit (.int .i64 a1))), (2, .ptr 2 0 0), (5, .d (.lit (.int .i64 v152))), (6, .d (.lit (.int .i64 v153))), (7, .d (.lit (.int .i64 x540))), (11, .d (.sl (a0.Sizes.map (cI .i64)))), (12, .d (.lit (.int .i64 (a0.Sizes.length : Int)))), (13, .d (.lit (.int .i64 v153)))] [(2, some (.box [.d (.sl (a0.Sizes.map (cI .i64))), .d (.sl (a0.Selectivities.map cS115))]))]) Sub.tt ?_
    refine Chain.nil ?_
    refine AW.seq ?_
    refine AW.seqR ?_
    replace h := bsome h; obtain ⟨_, gv542, h⟩ := h
    have hv542a := shiftB_some gv542
    try simp at hv542a
    replace h := lsome h; obtain ⟨v542, hv542, h⟩ := h
    replace h := lsome h; obtain ⟨v543, hv543, h⟩ := h
    refine Chain.runK [] 5 fun K hK => ?_; simp [hv542a, hv542, hv543]; refine hK _ _ ?_; clear hK K
    refine Chain.sub (S' := mk 57 [] [(1, .d (.lit (.int .i64 a1))), (2, .ptr 2 0 0), (5, .d (.lit (.int .i64 v152))), (6, .d (.lit (.int .i64 v153))), (7, .d (.lit (.int .i64 x540))), (11, .d (.sl (a0.Sizes.map (cI .i64)))), (12, .d (.lit (.int .i64 (a0.Sizes.length : Int)))), (13, .d (.lit (.int .i64 v153))), (22, .d (.lit (.bool (v543 == 0))))] [(2, some (.box [.d (.sl (a0.Sizes.map (cI .i64))), .d (.sl (a0.Selectivities.map cS115))]))]) Sub.tt ?_
    refine Chain.nil ?_
    replace h := isome h; rcases h with ⟨c544, h⟩ | ⟨c544, h⟩
    ·have c544_ : (v543 == 0) = true := c544
     refine AW.condT (b := (v543 == 0)) rfl c544_ ?_
     refine AW.sub (Sub.bool 22 (b := (v543 == 0)) rfl c544_) ?_
     refine AW.sub (S' := mk 57 [] [(1, .d (.lit (.int .i64 a1))), (2, .ptr 2 0 0), (5, .d (.lit (.int .i64 v152))), (6, .d (.lit (.int .i64 v153))), (7, .d (.lit (.int .i64 x540))), (11, .d (.sl (a0.Sizes.map (cI .i64)))), (12, .d (.lit (.int .i64 (a0.Sizes.length : Int)))), (13, .d (.lit (.int .i64 v153))), (22, .d (.lit (.bool true)))] [(2, some (.box [.d (.sl (a0.Sizes.map (cI .i64))), .d (.sl (a0.Selectivities.map cS115))]))]) (by simp; exact Sub.table (by simp) (by simp)) ?_
     refine AW.exit ?_
     cases h
     refine thenQ_pass (by simp) ?_
     refine blockQ.hit ?_
     refine PostN.next ?_
     exact Sub.tt
    ·have c544_ : (v543 == 0) = false := Bool.eq_false_iff.2 c544
     refine AW.condF (b := (v543 == 0)) rfl c544_ ?_
     refine AW.sub (Sub.bool 22 (b := (v543 == 0)) rfl c544_) ?_
     refine AW.sub (S' := mk 57 [] [(1, .d (.lit (.int .i64 a1))), (2, .ptr 2 0 0), (5, .d (.lit (.int .i64 v152))), (6, .d (.lit (.int .i64 v153))), (7, .d (.lit (.int .i64 x540))), (11, .d (.sl (a0.Sizes.map (cI .i64)))), (12, .d (.lit (.int .i64 (a0.Sizes.length : Int)))), (13, .d (.lit (.int .i64 v153))), (22, .d (.lit (.bool false)))] [(2, some (.box [.d (.sl (a0.Sizes.map (cI .i64))), .d (.sl (a0.Selectivities.map cS115))]))]) (by simp; exact Sub.table (by simp) (by simp)) ?_
     refine AW.skip ?_
     refine thenQ_normal ?_
     refine AW.seqR ?_
     replace h := bsome h; obtain ⟨v545, hv545, h⟩ := h
     have hv545 := chkI_some hv545
     replace h := lsome h; obtain ⟨v546, hv546, h⟩ := h
     unfold minI at hv546
     refine Chain.runK [] 5 fun K hK => ?_; simp [hv545, hv546]; refine hK _ _ ?_; clear hK K
     refine Chain.sub (S' := mk 57 [] [(1, .d (.lit (.int .i64 a1))), (2, .ptr 2 0 0), (5, .d (.lit (.int .i64 v546))), (6, .d (.lit (.int .i64 v153))), (11, .d (.sl (a0.Sizes.map (cI .i64)))), (12, .d (.lit (.int .i64 (a0.Sizes.length : Int)))), (13, .d (.lit (.int .i64 v153)))] [(2, some (.box [.d (.sl (a0.Sizes.map (cI .i64))), .d (.sl (a0.Selectivities.map cS115))]))]) Sub.tt ?_
     refine Chain.nil ?_
     refine AW.seqR ?_
     refine Chain.runK [] 4 fun K hK => ?_; simp; refine hK _ _ ?_; clear hK K
     refine Chain.sub (S' := mk 57 [] [(1, .d (.lit (.int .i64 a1))), (2, .ptr 2 0 0), (5, .d (.lit (.int .i64 v546))), (6, .d (.lit (.int .i64 v153))), (11, .d (.sl (a0.Sizes.map (cI .i64)))), (12, .d (.lit (.int .i64 (a0.Sizes.length : Int)))), (13, .d (.lit (.int .i64 v153))), (28, .d (.sl (a0.Selectivities.map cS115))), (29, .d (.lit (.int .i64 (a0.Selectivities.length : Int)))), (30, .d (.lit (.int .i64 0)))] [(2, some (.box [.d (.sl (a0.Sizes.map (cI .i64))), .d (.sl (a0.Selectivities.map cS115))]))]) Sub.tt ?_
     refine Chain.nil ?_
     refine AW.lastN (fun (v598 : Int) => mk 57 [] [(1, .d (.lit (.int .i64 a1))), (2, .ptr 2 0 0), (5, .d (.lit (.int .i64 v598))), (11, .d (.sl (a0.Sizes.map (cI .i64)))), (12, .d (.lit (.int .i64 (a0.Sizes.length : Int)))), (13, .d (.lit (.int .i64 v153)))] [(2, some (.box [.d (.sl (a0.Sizes.map (cI .i64))), .d (.sl (a0.Selectivities.map cS115))]))]) h ?_ ?_ <;> clear h
     ·intro o h
      refine AW.block ?_
      refine AW.iter (fun ((v562, v563) : (Int × Int)) => mk 57 [] [(1, .d (.lit (.int .i64 a1))), (2, .ptr 2 0 0), (5, .d (.lit (.int .i64 v562))), (6, .d (.lit (.int .i64 v153))), (11, .d (.sl (a0.Sizes.map (cI .i64)))), (12, .d (.lit (.int .i64 (a0.Sizes.length : Int)))), (13, .d (.lit (.int .i64 v153))), (28, .d (.sl (a0.Selectivities.map cS115))), (29, .d (.lit (.int .i64 (a0.Selectivities.length : Int)))), (30, .d (.lit (.int .i64 v563)))] [(2, some (.box [.d (.sl (a0.Sizes.map (cI .i64))), .d (.sl (a0.Selectivities.map cS115))]))]) h Sub.tt ?_
      clear h
      rintro ⟨v562, v563⟩ x h
      dsimp only at h ⊢
      refine AW.seqR ?_
      refine Chain.runK [] 1 fun K hK => ?_; simp; refine hK _ _ ?_; clear hK K
      refine Chain.sub (S' := mk 57 [] [(1, .d (.lit (.int .i64 a1))), (2, .ptr 2 0 0), (5, .d (.lit (.int .i64 v562))), (6, .d (.lit (.int .i64 v153))), (11, .d (.sl (a0.Sizes.map (cI .i64)))), (12, .d (.lit (.int .i64 (a0.Sizes.length : Int)))), (13, .d (.lit (.int .i64 v153))), (28, .d (.sl (a0.Selectivities.map cS115))), (29, .d (.lit (.int .i64 (a0.Selectivities.length : Int)))), (30, .d (.lit (.int .i64 v563))), (31, .d (.lit (.bool (decide (v563 < (a0.Selectivities.length : Int))))))] [(2, some (.box [.d (.sl (a0.Sizes.map (cI .i64))), .d (.sl (a0.Selectivities.map cS115))]))]) Sub.tt ?_
      refine Chain.nil ?_
      refine AW.seq ?_
      replace h := isome h; rcases h with ⟨c599, h⟩ | ⟨c599, h⟩
      ·have c599_ : decide (v563 < (a0.Selectivities.length : Int)) = true := decide_eq_true c599
       refine AW.condT (b := decide (v563 < (a0.Selectivities.length : Int))) rfl c599_ ?_
       refine AW.sub (Sub.bool 31 (b := decide (v563 < (a0.Selectivities.length : Int))) rfl c599_) ?_
       refine AW.sub (S' := mk 57 [] [(1, .d (.lit (.int .i64 a1))), (2, .ptr 2 0 0), (5, .d (.lit (.int .i64 v562))), (6, .d (.lit (.int .i64 v153))), (11, .d (.sl (a0.Sizes.map (cI .i64)))), (12, .d (.lit (.int .i64 (a0.Sizes.length : Int)))), (13, .d (.lit (.int .i64 v153))), (28, .d (.sl (a0.Selectivities.map cS115))), (29, .d (.lit (.int .i64 (a0.Selectivities.length : Int)))), (30, .d (.lit (.int .i64 v563))), (31, .d (.lit (.bool true)))] [(2, some (.box [.d (.sl (a0.Sizes.map (cI .i64))), .d (.sl (a0.Selectivities.map cS115))]))]) (by simp; exact Sub.table (by simp) (by simp)) ?_
       refine AW.skip ?_
       refine thenQ_normal ?_
       refine AW.seq ?_
       refine AW.block ?_
       refine AW.seqR ?_
       replace h := bsome h; obtain ⟨x600, hx600, h⟩ := h
       obtain ⟨k601, hx600k, hx600, hx600a, hx600b⟩ := idx_some hx600
       refine Chain.runK [] 4 fun K hK => ?_; simp [hx600, hx600k, hx600a]; refine hK _ _ ?_; clear hK K
       refine Chain.sub (S' := mk 57 [] [(1, .d (.lit (.int .i64 a1))), (2, .ptr 2 0 0), (5, .d (.lit (.int .i64 v562))), (6, .d (.lit (.int .i64 v153))), (9, .ptr 9 0 0), (11, .d (.sl (a0.Sizes.map (cI .i64)))), (12, .d (.lit (.int .i64 (a0.Sizes.length : Int)))), (13, .d (.lit (.int .i64 v153))), (28, .d (.sl (a0.Selectivities.map cS115))), (29, .d (.lit (.int .i64 (a0.Selectivities.length : Int)))), (30, .d (.lit (.int .i64 v563)))] [(2, some (.box [.d (.sl (a0.Sizes.map (cI .i64))), .d (.sl (a0.Selectivities.map cS115))])), (9, some (.box [.d (.lit (.int .i64 x600.A)), .d (.lit (.int .i64 x600.B)), .d (.lit (.int .i64 x600.Divisor))]))]) Sub.tt ?_
       refine Chain.nil ?_
       replace h := bsome h; obtain ⟨v605, hj, h⟩ := h
       refine AW.cutR (mk 57 [] [(1, .d (.lit (.int .i64 a1))), (2, .ptr 2 0 0), (5, .d (.lit (.int .i64 v562))), (6, .d (.lit (.int .i64 v153))), (9, .ptr 9 0 0), (11, .d (.sl (a0.Sizes.map (cI .i64)))), (12, .d (.lit (.int .i64 (a0.Sizes.length : Int)))), (13, .d (.lit (.int .i64 v153))), (28, .d (.sl (a0.Selectivities.map cS115))), (29, .d (.lit (.int .i64 (a0.Selectivities.length : Int)))), (30, .d (.lit (.int .i64 v563))), (45, .d (.lit (.bool v605)))] [(2, some (.box [.d (.sl (a0.Sizes.map (cI .i64))), .d (.sl (a0.Selectivities.map cS115))])), (9, some (.box [.d (.lit (.int .i64 x600.A)), .d (.lit (.int .i64 x600.B)), .d (.lit (.int .i64 x600.Divisor))]))]) ?_ ?_
       ·clear h; have h := hj; clear hj
        refine Chain.runK [] 5 fun K hK => ?_; simp; refine hK _ _ ?_; clear hK K
        refine Chain.sub (S' := mk 57 [] [(1, .d (.lit (.int .i64 a1))), (2, .ptr 2 0 0), (5, .d (.lit (.int .i64 v562))), (6, .d (.lit (.int .i64 v153))), (9, .ptr 9 0 0), (11, .d (.sl (a0.Sizes.map (cI .i64)))), (12, .d (.lit (.int .i64 (a0.Sizes.length : Int)))), (13, .d (.lit (.int .i64 v153))), (28, .d (.sl (a0.Selectivities.map cS115))), (29, .d (.lit (.int .i64 (a0.Selectivities.length : Int)))), (30, .d (.lit (.int .i64 v563))), (38, .d (.lit (.bool (x600.B == v153))))] [(2, some (.box [.d (.sl (a0.Sizes.map (cI .i64))), .d (.sl (a0.Selectivities.map cS115))])), (9, some (.box [.d (.lit (.int .i64 x600.A)), .d (.lit (.int .i64 x600.B)), .d (.lit (.int .i64 x600.Divisor))]))]) Sub.tt ?_
        replace h := isome h; rcases h with ⟨c606, h⟩ | ⟨c606, h⟩
        ·have c606_ : (x600.B == v153) = true := c606
         refine Chain.sub (Sub.bool 38 (b := (x600.B == v153)) rfl c606_) ?_
         refine Chain.sub (S' := mk 57 [] [(1, .d (.lit (.int .i64 a1))), (2, .ptr 2 0 0), (5, .d (.lit (.int .i64 v562))), (6, .d (.lit (.int .i64 v153))), (9, .ptr 9 0 0), (11, .d (.sl (a0.Sizes.map (cI .i64)))), (12, .d (.lit (.int .i64 (a0.Sizes.length : Int)))), (13, .d (.lit (.int .i64 v153))), (28, .d (.sl (a0.Selectivities.map cS115))), (29, .d (.lit (.int .i64 (a0.Selectivities.length : Int)))), (30, .d (.lit (.int .i64 v563))), (38, .d (.lit (.bool true)))] [(2, some (.box [.d (.sl (a0.Sizes.map (cI .i64))), .d (.sl (a0.Selectivities.map cS115))])), (9, some (.box [.d (.lit (.int .i64 x600.A)), .d (.lit (.int .i64 x600.B)), .d (.lit (.int .i64 x600.Divisor))]))]) (by simp; exact Sub.table (by simp) (by simp)) ?_
         replace h := bsome h; obtain ⟨_, gv607, h⟩ := h
         have hv607a := shiftB_some gv607
         try simp at hv607a
         replace h := lsome h; obtain ⟨v607, hv607, h⟩ := h
         replace h := lsome h; obtain ⟨v608, hv608, h⟩ := h
         refine Chain.runK [] 7 fun K hK => ?_; simp [hv607a, hv607, hv608]; refine hK _ _ ?_; clear hK K
         refine Chain.sub (S' := mk 57 [] [(1, .d (.lit (.int .i64 a1))), (2, .ptr 2 0 0), (5, .d (.lit (.int .i64 v562))), (6, .d (.lit (.int .i64 v153))), (9, .ptr 9 0 0), (11, .d (.sl (a0.Sizes.map (cI .i64)))), (12, .d (.lit (.int .i64 (a0.Sizes.length : Int)))), (13, .d (.lit (.int .i64 v153))), (28, .d (.sl (a0.Selectivities.map cS115))), (29, .d (.lit (.int .i64 (a0.Selectivities.length : Int)))), (30, .d (.lit (.int .i64 v563))), (39, .d (.lit (.int .i64 a1))), (40, .ptr 9 0 0), (41, .d (.lit (.int .i64 x600.A))), (42, .d (.lit (.int .i64 v607))), (43, .d (.lit (.int .i64 v608))), (44, .d (.lit (.bool (v608 == 1)))), (45, .d (.lit (.bool (v608 == 1))))] [(2, some (.box [.d (.sl (a0.Sizes.map (cI .i64))), .d (.sl (a0.Selectivities.map cS115))])), (9, some (.box [.d (.lit (.int .i64 x600.A)), .d (.lit (.int .i64 x600.B)), .d (.lit (.int .i64 x600.Divisor))]))]) Sub.tt ?_
         cases h
         exact Chain.nil Sub.tt
        ·have c606_ : (x600.B == v153) = false := Bool.eq_false_iff.2 c606
         refine Chain.sub (Sub.bool 38 (b := (x600.B == v153)) rfl c606_) ?_
         refine Chain.sub (S' := mk 57 [] [(1, .d (.lit (.int .i64 a1))), (2, .ptr 2 0 0), (5, .d (.lit (.int .i64 v562))), (6, .d (.lit (.int .i64 v153))), (9, .ptr 9 0 0), (11, .d (.sl (a0.Sizes.map (cI .i64)))), (12, .d (.lit (.int .i64 (a0.Sizes.length : Int)))), (13, .d (.lit (.int .i64 v153))), (28, .d (.sl (a0.Selectivities.map cS115))), (29, .d (.lit (.int .i64 (a0.Selectivities.length : Int)))), (30, .d (.lit (.int .i64 v563))), (38, .d (.lit (.bool false)))] [(2, some (.box [.d (.sl (a0.Sizes.map (cI .i64))), .d (.sl (a0.Selectivities.map cS115))])), (9, some (.box [.d (.lit (.int .i64 x600.A)), .d (.lit (.int .i64 x600.B)), .d (.lit (.int .i64 x600.Divisor))]))]) (by simp; exact Sub.table (by simp) (by simp)) ?_
         refine Chain.runK [] 7 fun K hK => ?_; simp; refine hK _ _ ?_; clear hK K
         refine Chain.sub (S' := mk 57 [] [(1, .d (.lit (.int .i64 a1))), (2, .ptr 2 0 0), (5, .d (.lit (.int .i64 v562))), (6, .d (.lit (.int .i64 v153))), (9, .ptr 9 0 0), (11, .d (.sl (a0.Sizes.map (cI .i64)))), (12, .d (.lit (.int .i64 (a0.Sizes.length : Int)))), (13, .d (.lit (.int .i64 v153))), (28, .d (.sl (a0.Selectivities.map cS115))), (29, .d (.lit (.int .i64 (a0.Selectivities.length : Int)))), (30, .d (.lit (.int .i64 v563))), (39, .tup []), (40, .tup []), (41, .tup []), (42, .tup []), (43, .tup []), (44, .tup []), (45, .d (.lit (.bool false)))] [(2, some (.box [.d (.sl (a0.Sizes.map (cI .i64))), .d (.sl (a0.Selectivities.map cS115))])), (9, some (.box [.d (.lit (.int .i64 x600.A)), .d (.lit (.int .i64 x600.B)), .d (.lit (.int .i64 x600.Divisor))]))]) Sub.tt ?_
         cases h
         exact Chain.nil Sub.tt
       ·clear hj
        replace h := isome h; rcases h with ⟨c609, h⟩ | ⟨c609, h⟩
        ·have c609_ : v605 = true := c609
         refine AW.condT (b := v605) rfl c609_ ?_
         refine AW.sub (Sub.bool 45 (b := v605) rfl c609_) ?_
         refine AW.sub (S' := mk 57 [] [(1, .d (.lit (.int .i64 a1))), (2, .ptr 2 0 0), (5, .d (.lit (.int .i64 v562))), (6, .d (.lit (.int .i64 v153))), (9, .ptr 9 0 0), (11, .d (.sl (a0.Sizes.map (cI .i64)))), (12, .d (.lit (.int .i64 (a0.Sizes.length : Int)))), (13, .d (.lit (.int .i64 v153))), (28, .d (.sl (a0.Selectivities.map cS115))), (29, .d (.lit (.int .i64 (a0.Selectivities.length : Int)))), (30, .d (.lit (.int .i64 v563))), (45, .d (.lit (.bool true)))] [(2, some (.box [.d (.sl (a0.Sizes.map (cI .i64))), .d (.sl (a0.Selectivities.map cS115))])), (9, some (.box [.d (.lit (.int .i64 x600.A)), .d (.lit (.int .i64 x600.B)), .d (.lit (.int .i64 x600.Divisor))]))]) (by simp; exact Sub.table (by simp) (by simp)) ?_
         refine AW.region ?_
         replace h := bsome h; obtain ⟨v610, hv610, h⟩ := h
         have hv610 := chkI_some hv610
         replace h := bsome h; obtain ⟨v611, hv611, h⟩ := h
         have hv611 := chkI_some hv611
         replace h := bsome h; obtain ⟨v612, hv612, h⟩ := h
         obtain ⟨hv612a, hv612⟩ := quoI_some hv612
         refine Chain.runK [] 9 fun K hK => ?_; simp [hv610, hv611, hv612, hv612a]; refine hK _ _ ?_; clear hK K
         refine Chain.sub (S' := mk 57 [] [(1, .d (.lit (.int .i64 a1))), (2, .ptr 2 0 0), (5, .d (.lit (.int .i64 v612))), (6, .d (.lit (.int .i64 v153))), (11, .d (.sl (a0.Sizes.map (cI .i64)))), (12, .d (.lit (.int .i64 (a0.Sizes.length : Int)))), (13, .d (.lit (.int .i64 v153))), (28, .d (.sl (a0.Selectivities.map cS115))), (29, .d (.lit (.int .i64 (a0.Selectivities.length : Int)))), (30, .d (.lit (.int .i64 v563)))] [(2, some (.box [.d (.sl (a0.Sizes.map (cI .i64))), .d (.sl (a0.Selectivities.map cS115))]))]) Sub.tt ?_
         refine Chain.nil ?_
         refine blockQ.normal ?_
         refine thenQ_normal ?_
         refine AW.region ?_
         replace h := bsome h; obtain ⟨v613, hv613, h⟩ := h
         have hv613 := chkI_some hv613
         refine Chain.runK [] 2 fun K hK => ?_; simp [hv613]; refine hK _ _ ?_; clear hK K
         refine Chain.sub (S' := mk 57 [] [(1, .d (.lit (.int .i64 a1))), (2, .ptr 2 0 0), (5, .d (.lit (.int .i64 v612))), (6, .d (.lit (.int .i64 v153))), (11, .d (.sl (a0.Sizes.map (cI .i64)))), (12, .d (.lit (.int .i64 (a0.Sizes.length : Int)))), (13, .d (.lit (.int .i64 v153))), (28, .d (.sl (a0.Selectivities.map cS115))), (29, .d (.lit (.int .i64 (a0.Selectivities.length : Int)))), (30, .d (.lit (.int .i64 v613)))] [(2, some (.box [.d (.sl (a0.Sizes.map (cI .i64))), .d (.sl (a0.Selectivities.map cS115))]))]) Sub.tt ?_
         refine Chain.nil ?_
         cases h
         refine PostI.next ?_
         exact Sub.tt
        ·have c609_ : v605 = false := Bool.eq_false_iff.2 c609
         refine AW.condF (b := v605) rfl c609_ ?_
         refine AW.sub (Sub.bool 45 (b := v605) rfl c609_) ?_
         refine AW.sub (S' := mk 57 [] [(1, .d (.lit (.int .i64 a1))), (2, .ptr 2 0 0), (5, .d (.lit (.int .i64 v562))), (6, .d (.lit (.int .i64 v153))), (9, .ptr 9 0 0), (11, .d (.sl (a0.Sizes.map (cI .i64)))), (12, .d (.lit (.int .i64 (a0.Sizes.length : Int)))), (13, .d (.lit (.int .i64 v153))), (28, .d (.sl (a0.Selectivities.map cS115))), (29, .d (.lit (.int .i64 (a0.Selectivities.length : Int)))), (30, .d (.lit (.int .i64 v563))), (45, .d (.lit (.bool false)))] [(2, some (.box [.d (.sl (a0.Sizes.map (cI .i64))), .d (.sl (a0.Selectivities.map cS115))])), (9, some (.box [.d (.lit (.int .i64 x600.A)), .d (.lit (.int .i64 x600.B)), .d (.lit (.int .i64 x600.Divisor))]))]) (by simp; exact Sub.table (by simp) (by simp)) ?_
         refine AW.skip ?_
         refine blockQ.normal ?_
         refine thenQ_normal ?_
         refine AW.region ?_
         replace h := bsome h; obtain ⟨v614, hv614, h⟩ := h
         have hv614 := chkI_some hv614
         refine Chain.runK [] 2 fun K hK => ?_; simp [hv614]; refine hK _ _ ?_; clear hK K
         refine Chain.sub (S' := mk 57 [] [(1, .d (.lit (.int .i64 a1))), (2, .ptr 2 0 0), (5, .d (.lit (.int .i64 v562))), (6, .d (.lit (.int .i64 v153))), (11, .d (.sl (a0.Sizes.map (cI .i64)))), (12, .d (.lit (.int .i64 (a0.Sizes.length : Int)))), (13, .d (.lit (.int .i64 v153))), (28, .d (.sl (a0.Selectivities.map cS115))), (29, .d (.lit (.int .i64 (a0.Selectivities.length : Int)))), (30, .d (.lit (.int .i64 v614)))] [(2, some (.box [.d (.sl (a0.Sizes.map (cI .i64))), .d (.sl (a0.Selectivities.map cS115))]))]) Sub.tt ?_
         refine Chain.nil ?_
         cases h
         refine PostI.next ?_
         exact Sub.tt
      ·have c599_ : decide (v563 < (a0.Selectivities.length : Int)) = false := decide_eq_false c599
       refine AW.condF (b := decide (v563 < (a0.Selectivities.length : Int))) rfl c599_ ?_
       refine AW.sub (Sub.bool 31 (b := decide (v563 < (a0.Selectivities.length : Int))) rfl c599_) ?_
       refine AW.sub (S' := mk 57 [] [(1, .d (.lit (.int .i64 a1))), (2, .ptr 2 0 0), (5, .d (.lit (.int .i64 v562))), (6, .d (.lit (.int .i64 v153))), (11, .d (.sl (a0.Sizes.map (cI .i64)))), (12, .d (.lit (.int .i64 (a0.Sizes.length : Int)))), (13, .d (.lit (.int .i64 v153))), (28, .d (.sl (a0.Selectivities.map cS115))), (29, .d (.lit (.int .i64 (a0.Selectivities.length : Int)))), (30, .d (.lit (.int .i64 v563))), (31, .d (.lit (.bool false)))] [(2, some (.box [.d (.sl (a0.Sizes.map (cI .i64))), .d (.sl (a0.Selectivities.map cS115))]))]) (by simp; exact Sub.table (by simp) (by simp)) ?_
       refine AW.exit ?_
       cases h
       refine thenQ_pass (by simp) ?_
       refine PostI.out (by simp) ?_
       rintro rfl
       refine blockQ.hit ?_
       refine PostN.next ?_
       exact Sub.tt
     ·rintro v598 h
      cases h
      refine blockQ.normal ?_
      refine PostN.next ?_
      exact Sub.tt
   ·rintro v539 h
    refine AW.region ?_
    replace h := bsome h; obtain ⟨v615, hv615, h⟩ := h
    have hv615 := chkI_some hv615
    refine Chain.runK [] 2 fun K hK => ?_; simp [hv615]; refine hK _ _ ?_; clear hK K
    refine Chain.sub (S' := mk 57 [] [(1, .d (.lit (.int .i64 a1))), (2, .ptr 2 0 0), (5, .d (.lit (.int .i64 v539))), (11, .d (.sl (a0.Sizes.map (cI .i64)))), (12, .d (.lit (.int .i64 (a0.Sizes.length : Int)))), (13, .d (.lit (.int .i64 v615)))] [(2, some (.box [.d (.sl (a0.Sizes.map (cI .i64))), .d (.sl (a0.Selectivities.map cS115))]))]) Sub.tt ?_
    refine Chain.nil ?_
    cases h
    refine PostI.next ?_
    exact Sub.tt
  ·have c463_ : decide (v153 < (a0.Sizes.length : Int)) = false := decide_eq_false c463
   refine AW.condF (b := decide (v153 < (a0.Sizes.length : Int))) rfl c463_ ?_
   refine AW.sub (Sub.bool 14 (b := decide (v153 < (a0.Sizes.length : Int))) rfl c463_) ?_
   refine AW.sub (S' := mk 57 [] [(1, .d (.lit (.int .i64 a1))), (2, .ptr 2 0 0), (5, .d (.lit (.int .i64 v152))), (11, .d (.sl (a0.Sizes.map (cI .i64)))), (12, .d (.lit (.int .i64 (a0.Sizes.length : Int)))), (13, .d (.lit (.int .i64 v153))), (14, .d (.lit (.bool false)))] [(2, some (.box [.d (.sl (a0.Sizes.map (cI .i64))), .d (.sl (a0.Selectivities.map cS115))]))]) (by simp; exact Sub.table (by simp) (by simp)) ?_
   refine AW.exit ?_
   cases h
   refine thenQ_pass (by simp) ?_
   refine PostI.out (by simp) ?_
   rintro rfl
   refine blockQ.hit ?_
   refine PostN.next ?_
   exact Sub.tt
 ·rintro v462 h
  refine thenQ_normal ?_
  refine AW.seqR ?_
  refine Chain.runK [] 2 fun K hK => ?_; simp; refine hK _ _ ?_; clear hK K
  refine Chain.sub (S' := mk 57 [] [(4, .d (.lit (.int .i64 v462)))] []) Sub.tt ?_
  refine Chain.nil ?_
  refine AW.ret ?_
  cases h
  exact FinC.ret (by simp) (by simp)

/-- stemma/joinorder.cost -/
def d48 : (N : Nat) → (a0 : S25) → (a1 : S28) → Option Int
 | 0, _, _ => none
 | N + 1, a0, a1 =>
  if ((a1.Children.length : Int) == 0) then (
   some 0
  ) else
  (d15 N a0 a1).bind fun r2 =>
  (idx a1.Children 0).bind fun x3 =>
  (d48 N a0 x3).bind fun r4 =>
  (idx a1.Children 1).bind fun x5 =>
  (d48 N a0 x5).bind fun r6 =>
  (chkI (r4 + r6)).bind fun v7 =>
  (d53 N a0 r2.1).bind fun r8 =>
  (chkI (v7 + r8)).bind fun v9 =>
  some v9