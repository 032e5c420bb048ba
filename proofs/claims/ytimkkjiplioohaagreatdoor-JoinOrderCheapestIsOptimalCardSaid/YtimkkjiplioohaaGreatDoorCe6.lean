/- Functions of the program as functional programs; the code computes them. -/
import Derived.Test.YtimkkjiplioohaaGreatDoorCe5
import Derived.Test.YtimkkjiplioohaaGreatDoorCeS
import Derived.Test.YtimkkjiplioohaaGreatDoorX4
namespace Go.Proofs.YtimkkjiplioohaaGreatDoor
open Go.Ab Go.Rp
attribute [-simp] List.all_eq_true Array.all_toList Array.all_eq_true

/-- stemma/stemlaw3.JoinOrderCheapestIsOptimal -/
def d4 (N : Nat) (a0 : S25) (a1 : Bool) : Option Bool :=
 (d9 N ).bind fun r1 =>
 if (!r1) = true then (
  some false
 ) else
 Option.bind (α := Bool) (
  if (a0.Sizes.length : Int) > 5 then (
   some true
  ) else
  (d12 N a0).bind fun r7 =>
  some (r7 != 0)
 ) fun (v5 : Bool) =>
 if v5 = true then (
  some true
 ) else
 Option.bind (α := List Int) (
  iterN (σ := ((List Int) × Int)) (ρ := List Int) (fun ((l12, v13) : ((List Int) × Int)) =>
   if v13 < (a0.Sizes.length : Int) then (
    (appL 8 l12 [v13]).bind fun _l24 =>
    (chkI (v13 + 1)).bind fun v25 =>
    some (.inl ((l12 ++ [v13]), v25))
   ) else
   some (.inr l12)
  ) N (([] : List Int), 0)
 ) fun (l22 : List Int) =>
 (d17 N a0 a1).bind fun r26 =>
 (mkL 1 (a0.Sizes.length : Int) (false : Bool)).bind fun l27 =>
 Option.bind (α := Bool) (
  if (r26.2.2 != 0) then (
   some true
  ) else
  (d13 N a0 r26.1 l27).bind fun r36 =>
  if (!r36.2) = true then (
   some true
  ) else
  (d14 N r36.1 false).bind fun r38 =>
  if r38 = true then (
   some true
  ) else
  (d16 N a0 r26.1).bind fun r40 =>
  some (r40 != r26.2.1)
 ) fun (v34 : Bool) =>
 if v34 = true then (
  some false
 ) else
 bindO (β := Bool) (ρ := Bool) (
  iterN (σ := (Bool × Int × (List S28))) (ρ := (Out Bool Bool)) (fun ((v50, _v51, l52) : (Bool × Int × (List S28))) =>
   Option.bind (α := (Bool × Bool)) (
    if v50 = true then (
     some (true, ((l52.length : Int) == 2))
    ) else
    some (false, false)
   ) fun ((v74, v75) : (Bool × Bool)) =>
   if v75 = true then (
    (idx l52 1).bind fun x78 =>
    if (x78.Children.length : Int) > 0 then (
     some (.inr (.ret false))
    ) else
    (idx l52 0).bind fun x80 =>
    some (.inl (v74, x80.Leaf, x80.Children))
   ) else
   some (.inr (.go v74))
  ) N (a1, r26.1.Leaf, r26.1.Children)
 ) fun (v72 : Bool) =>
 (d19 N l22 v72).bind fun r81 =>
 (d18 N r81 (fun b0 => d20 N b0 a0 r26.2.1)).bind fun r82 =>
 some (!r82)
set_option maxRecDepth 100000 in
set_option maxHeartbeats 4000000 in
theorem p4 (N : Nat) (a0 : S25) (a1 : Bool) (r : Bool) (h : d4 N a0 a1 = some r) : FunC Tryz.prog 4 [.agg [.d (.sl (a0.Sizes.map (cI .i64))), .d (.sl (a0.Selectivities.map cS115))], .d (.lit (.bool a1))] (.d (.lit (.bool r))) := by
 unfold d4 at h
 refine FunC.enter 91 [(0, .agg [.d (.sl (a0.Sizes.map (cI .i64))), .d (.sl (a0.Selectivities.map cS115))]), (1, .d (.lit (.bool a1)))] (by simp) Tryz.func4 rfl (of_decide_eq_true rfl) rfl rfl ?_
 refine AW.seqR ?_
 refine Chain.runK [] 2 fun K hK => ?_; simp; refine hK _ _ ?_; clear hK K
 refine Chain.sub (S' := mk 91 [] [(1, .d (.lit (.bool a1))), (2, .ptr 2 0 0)] [(2, some (.box [.d (.sl (a0.Sizes.map (cI .i64))), .d (.sl (a0.Selectivities.map cS115))]))]) Sub.tt ?_
 refine Chain.nil ?_
 refine AW.seq ?_
 refine AW.seqR ?_
 replace h := bsome h; obtain ⟨r1, hr1, h⟩ := h
 refine Chain.callL (d := 12) (p9 N  r1 hr1) (by simp) rfl rfl (by simp <;> rfl) (by simp <;> rfl) ent9 (by simp <;> rfl) ?_
 refine Chain.sub (S' := mk 91 [] [(1, .d (.lit (.bool a1))), (2, .ptr 2 0 0), (12, .d (.lit (.bool r1)))] [(2, some (.box [.d (.sl (a0.Sizes.map (cI .i64))), .d (.sl (a0.Selectivities.map cS115))]))]) (by simp; exact Sub.table (by simp) (by simp)) ?_
 refine Chain.runK [] 1 fun K hK => ?_; simp; refine hK _ _ ?_; clear hK K
 refine Chain.sub (S' := mk 91 [] [(1, .d (.lit (.bool a1))), (2, .ptr 2 0 0), (13, .d (.lit (.bool (!r1))))] [(2, some (.box [.d (.sl (a0.Sizes.map (cI .i64))), .d (.sl (a0.Selectivities.map cS115))]))]) Sub.tt ?_
 refine Chain.nil ?_
 replace h := isome h; rcases h with ⟨c2, h⟩ | ⟨c2, h⟩
 ·have c2_ : (!r1) = true := c2
  refine AW.condT (b := (!r1)) rfl c2_ ?_
  refine AW.sub (Sub.bool 13 (b := (!r1)) rfl c2_) ?_
  refine AW.sub (S' := mk 91 [] [(1, .d (.lit (.bool a1))), (2, .ptr 2 0 0), (13, .d (.lit (.bool true)))] [(2, some (.box [.d (.sl (a0.Sizes.map (cI .i64))), .d (.sl (a0.Selectivities.map cS115))]))]) (by simp; exact Sub.table (by simp) (by simp)) ?_
  refine AW.seqR ?_
  refine Chain.runK [] 1 fun K hK => ?_; simp; refine hK _ _ ?_; clear hK K
  refine Chain.sub (S' := mk 91 [] [(4, .d (.lit (.bool false)))] []) Sub.tt ?_
  refine Chain.nil ?_
  refine AW.ret ?_
  cases h
  refine thenQ_pass (by simp) ?_
  exact FinC.ret (by simp) (by simp)
 ·have c2_ : (!r1) = false := Bool.eq_false_iff.2 c2
  refine AW.condF (b := (!r1)) rfl c2_ ?_
  refine AW.sub (Sub.bool 13 (b := (!r1)) rfl c2_) ?_
  refine AW.sub (S' := mk 91 [] [(1, .d (.lit (.bool a1))), (2, .ptr 2 0 0), (13, .d (.lit (.bool false)))] [(2, some (.box [.d (.sl (a0.Sizes.map (cI .i64))), .d (.sl (a0.Selectivities.map cS115))]))]) (by simp; exact Sub.table (by simp) (by simp)) ?_
  refine AW.skip ?_
  refine thenQ_normal ?_
  refine AW.seq ?_
  replace h := bsome h; obtain ⟨v5, hj, h⟩ := h
  refine AW.cutR (mk 91 [] [(1, .d (.lit (.bool a1))), (2, .ptr 2 0 0), (22, .d (.lit (.bool v5)))] [(2, some (.box [.d (.sl (a0.Sizes.map (cI .i64))), .d (.sl (a0.Selectivities.map cS115))]))]) ?_ ?_
  ·clear h; have h := hj; clear hj
   refine Chain.runK [] 5 fun K hK => ?_; simp; refine hK _ _ ?_; clear hK K
   refine Chain.sub (S' := mk 91 [] [(1, .d (.lit (.bool a1))), (2, .ptr 2 0 0), (18, .d (.lit (.bool (decide ((a0.Sizes.length : Int) > 5)))))] [(2, some (.box [.d (.sl (a0.Sizes.map (cI .i64))), .d (.sl (a0.Selectivities.map cS115))]))]) Sub.tt ?_
   replace h := isome h; rcases h with ⟨c6, h⟩ | ⟨c6, h⟩
   ·have c6_ : decide ((a0.Sizes.length : Int) > 5) = true := decide_eq_true c6
    refine Chain.sub (Sub.bool 18 (b := decide ((a0.Sizes.length : Int) > 5)) rfl c6_) ?_
    refine Chain.sub (S' := mk 91 [] [(1, .d (.lit (.bool a1))), (2, .ptr 2 0 0), (18, .d (.lit (.bool true)))] [(2, some (.box [.d (.sl (a0.Sizes.map (cI .i64))), .d (.sl (a0.Selectivities.map cS115))]))]) (by simp; exact Sub.table (by simp) (by simp)) ?_
    refine Chain.runK [] 4 fun K hK => ?_; simp; refine hK _ _ ?_; clear hK K
    refine Chain.sub (S' := mk 91 [] [(1, .d (.lit (.bool a1))), (2, .ptr 2 0 0), (22, .d (.lit (.bool true)))] [(2, some (.box [.d (.sl (a0.Sizes.map (cI .i64))), .d (.sl (a0.Selectivities.map cS115))]))]) Sub.tt ?_
    cases h
    exact Chain.nil Sub.tt
   ·have c6_ : decide ((a0.Sizes.length : Int) > 5) = false := decide_eq_false c6
    refine Chain.sub (Sub.bool 18 (b := decide ((a0.Sizes.length : Int) > 5)) rfl c6_) ?_
    refine Chain.sub (S' := mk 91 [] [(1, .d (.lit (.bool a1))), (2, .ptr 2 0 0), (18, .d (.lit (.bool false)))] [(2, some (.box [.d (.sl (a0.Sizes.map (cI .i64))), .d (.sl (a0.Selectivities.map cS115))]))]) (by simp; exact Sub.table (by simp) (by simp)) ?_
    refine Chain.runK [] 1 fun K hK => ?_; simp; refine hK _ _ ?_; clear hK K
    refine Chain.sub (S' := mk 91 [] [(1, .d (.lit (.bool a1))), (2, .ptr 2 0 0), (18, .d (.lit (.bool false))), (19, .agg [.d (.sl (a0.Sizes.map (cI .i64))), .d (.sl (a0.Selectivities.map cS115))])] [(2, some (.box [.d (.sl (a0.Sizes.map (cI .i64))), .d (.sl (a0.Selectivities.map cS115))]))]) Sub.tt ?_
    replace h := bsome h; obtain ⟨r7, hr7, h⟩ := h
    refine Chain.callL (d := 20) (p12 N a0 r7 hr7) (by simp) rfl rfl (by simp <;> rfl) (by simp <;> rfl) ent12 (by simp <;> rfl) ?_
    refine Chain.sub (S' := mk 91 [] [(1, .d (.lit (.bool a1))), (2, .ptr 2 0 0), (18, .d (.lit (.bool false))), (19, .agg [.d (.sl (a0.Sizes.map (cI .i64))), .d (.sl (a0.Selectivities.map cS115))]), (20, .d (.lit (.int .i64 r7)))] [(2, some (.box [.d (.sl (a0.Sizes.map (cI .i64))), .d (.sl (a0.Selectivities.map cS115))]))]) (by simp; exact Sub.table (by simp) (by simp)) ?_
    refine Chain.runK [] 2 fun K hK => ?_; simp; refine hK _ _ ?_; clear hK K
    refine Chain.sub (S' := mk 91 [] [(1, .d (.lit (.bool a1))), (2, .ptr 2 0 0), (22, .d (.lit (.bool (r7 != 0))))] [(2, some (.box [.d (.sl (a0.Sizes.map (cI .i64))), .d (.sl (a0.Selectivities.map cS115))]))]) Sub.tt ?_
    cases h
    exact Chain.nil Sub.tt
  ·clear hj
   replace h := isome h; rcases h with ⟨c8, h⟩ | ⟨c8, h⟩
   ·have c8_ : v5 = true := c8
    refine AW.condT (b := v5) rfl c8_ ?_
    refine AW.sub (Sub.bool 22 (b := v5) rfl c8_) ?_
    refine AW.sub (S' := mk 91 [] [(1, .d (.lit (.bool a1))), (2, .ptr 2 0 0), (22, .d (.lit (.bool true)))] [(2, some (.box [.d (.sl (a0.Sizes.map (cI .i64))), .d (.sl (a0.Selectivities.map cS115))]))]) (by simp; exact Sub.table (by simp) (by simp)) ?_
    refine AW.seqR ?_
    refine Chain.runK [] 1 fun K hK => ?_; simp; refine hK _ _ ?_; clear hK K
    refine Chain.sub (S' := mk 91 [] [(4, .d (.lit (.bool true)))] []) Sub.tt ?_
    refine Chain.nil ?_
    refine AW.ret ?_
    cases h
    refine thenQ_pass (by simp) ?_
    exact FinC.ret (by simp) (by simp)
   ·have c8_ : v5 = false := Bool.eq_false_iff.2 c8
    refine AW.condF (b := v5) rfl c8_ ?_
    refine AW.sub (Sub.bool 22 (b := v5) rfl c8_) ?_
    refine AW.sub (S' := mk 91 [] [(1, .d (.lit (.bool a1))), (2, .ptr 2 0 0), (22, .d (.lit (.bool false)))] [(2, some (.box [.d (.sl (a0.Sizes.map (cI .i64))), .d (.sl (a0.Selectivities.map cS115))]))]) (by simp; exact Sub.table (by simp) (by simp)) ?_
    refine AW.skip ?_
    refine thenQ_normal ?_
    refine AW.seqR ?_
    refine Chain.runK [] 1 fun K hK => ?_; simp; refine hK _ _ ?_; clear hK K
    refine Chain.sub (S' := mk 91 [] [(1, .d (.lit (.bool a1))), (2, .ptr 2 0 0), (5, .d (.lit (.slice none 0 0)))] [(2, some (.box [.d (.sl (a0.Sizes.map (cI .i64))), .d (.sl (a0.Selectivities.map cS115))]))]) Sub.tt ?_
    refine Chain.nil ?_
    refine AW.seq ?_
    refine AW.seqR ?_
    refine Chain.runK [] 4 fun K hK => ?_; simp; refine hK _ _ ?_; clear hK K
    refine Chain.sub (S' := mk 91 [] [(1, .d (.lit (.bool a1))), (2, .ptr 2 0 0), (5, .d (.lit (.slice none 0 0))), (25, .d (.lit (.int .i64 (a0.Sizes.length : Int)))), (26, .d (.lit (.int .i64 0)))] [(2, some (.box [.d (.sl (a0.Sizes.map (cI .i64))), .d (.sl (a0.Selectivities.map cS115))]))]) Sub.tt ?_
    refine Chain.nil ?_
    refine AW.lastN (fun (l22 : List Int) => mk 91 [] [(1, .d (.lit (.bool a1))), (2, .ptr 2 0 0), (5, .ref 32 0 l22.length)] [(2, some (.box [.d (.sl (a0.Sizes.map (cI .i64))), .d (.sl (a0.Selectivities.map cS115))])), (32, some (.arr 3 1 (l22.map (cI .i64))))]) h ?_ ?_ <;> clear h
    ·intro o h
     refine AW.block ?_
     refine AW.iter (fun ((l12, v13) : ((List Int) × Int)) => mk 91 [] [(1, .d (.lit (.bool a1))), (2, .ptr 2 0 0), (5, .ref 32 0 l12.length), (25, .d (.lit (.int .i64 (a0.Sizes.length : Int)))), (26, .d (.lit (.int .i64 v13)))] [(2, some (.box [.d (.sl (a0.Sizes.map (cI .i64))), .d (.sl (a0.Selectivities.map cS115))])), (32, some (.arr 3 1 (l12.map (cI .i64))))]) h (Sub.trans (Sub.nilOwn (t := 5) (id := 32) (T := 3) (n := 1) rfl rfl (by decide)) (by simp; exact Sub.table (by simp) (by simp))) ?_
     clear h
     rintro ⟨l12, v13⟩ x h
     dsimp only at h ⊢
     refine AW.seqR ?_
     refine Chain.runK [] 1 fun K hK => ?_; simp; refine hK _ _ ?_; clear hK K
     refine Chain.sub (S' := mk 91 [] [(1, .d (.lit (.bool a1))), (2, .ptr 2 0 0), (5, .ref 32 0 l12.length), (25, .d (.lit (.int .i64 (a0.Sizes.length : Int)))), (26, .d (.lit (.int .i64 v13))), (27, .d (.lit (.bool (decide (v13 < (a0.Sizes.length : Int))))))] [(2, some (.box [.d (.sl (a0.Sizes.map (cI .i64))), .d (.sl (a0.Selectivities.map cS115))])), (32, some (.arr 3 1 (l12.map (cI .i64))))]) Sub.tt ?_
     refine Chain.nil ?_
     refine AW.seq ?_
     replace h := isome h; rcases h with ⟨c23, h⟩ | ⟨c23, h⟩
     ·have c23_ : decide (v13 < (a0.Sizes.length : Int)) = true := decide_eq_true c23
      refine AW.condT (b := decide (v13 < (a0.Sizes.length : Int))) rfl c23_ ?_
      refine AW.sub (Sub.bool 27 (b := decide (v13 < (a0.Sizes.length : Int))) rfl c23_) ?_
      refine AW.sub (S' := mk 91 [] [(1, .d (.lit (.bool a1))), (2, .ptr 2 0 0), (5, .ref 32 0 l12.length), (25, .d (.lit (.int .i64 (a0.Sizes.length : Int)))), (26, .d (.lit (.int .i64 v13))), (27, .d (.lit (.bool true)))] [(2, some (.box [.d (.sl (a0.Sizes.map (cI .i64))), .d (.sl (a0.Selectivities.map cS115))])), (32, some (.arr 3 1 (l12.map (cI .i64))))]) (by simp; exact Sub.table (by simp) (by simp)) ?_
      refine AW.skip ?_
      refine thenQ_normal ?_
      refine AW.seq ?_
      refine AW.block ?_
      refine AW.seqR ?_
      refine Chain.runK [] 2 fun K hK => ?_; simp; refine hK _ _ ?_; clear hK K
      refine Chain.sub (S' := mk 91 [] [(1, .d (.lit (.bool a1))), (2, .ptr 2 0 0), (5, .ref 32 0 l12.length), (6, .d (.lit (.int .i64 v13))), (25, .d (.lit (.int .i64 (a0.Sizes.length : Int)))), (26, .d (.lit (.int .i64 v13)))] [(2, some (.box [.d (.sl (a0.Sizes.map (cI .i64))), .d (.sl (a0.Selectivities.map cS115))])), (32, some (.arr 3 1 (l12.map (cI .i64))))]) Sub.tt ?_
      refine Chain.nil ?_
      refine AW.region ?_
      replace h := bsome h; obtain ⟨l24, hl24, h⟩ := h
      obtain ⟨hl24a, hl24⟩ := appL_some hl24
      subst hl24
      try simp only [List.length_cons, List.length_nil, Nat.zero_add] at hl24a
      refine Chain.runK [31] 5 fun K hK => ?_; simp [hl24a]; refine hK _ _ ?_; clear hK K
      refine Chain.sub (S' := mk 91 [] [(1, .d (.lit (.bool a1))), (2, .ptr 2 0 0), (5, .ref 32 0 ((l12 ++ [v13]).length)), (25, .d (.lit (.int .i64 (a0.Sizes.length : Int)))), (26, .d (.lit (.int .i64 v13)))] [(2, some (.box [.d (.sl (a0.Sizes.map (cI .i64))), .d (.sl (a0.Selectivities.map cS115))])), (32, some (.arr 3 1 ((l12 ++ [v13]).map (cI .i64))))]) Sub.tt ?_
      refine Chain.nil ?_
      refine blockQ.normal ?_
      refine thenQ_normal ?_
      refine AW.region ?_
      replace h := bsome h; obtain ⟨v25, hv25, h⟩ := h
      have hv25 := chkI_some hv25
      refine Chain.runK [] 2 fun K hK => ?_; simp [hv25]; refine hK _ _ ?_; clear hK K
      refine Chain.sub (S' := mk 91 [] [(1, .d (.lit (.bool a1))), (2, .ptr 2 0 0), (5, .ref 32 0 ((l12 ++ [v13]).length)), (25, .d (.lit (.int .i64 (a0.Sizes.length : Int)))), (26, .d (.lit (.int .i64 v25)))] [(2, some (.box [.d (.sl (a0.Sizes.map (cI .i64))), .d (.sl (a0.Selectivities.map cS115))])), (32, some (.arr 3 1 ((l12 ++ [v13]).map (cI .i64))))]) Sub.tt ?_
      refine Chain.nil ?_
      cases h
      refine PostI.next ?_
      exact Sub.tt
     ·have c23_ : decide (v13 < (a0.Sizes.length : Int)) = false := decide_eq_false c23
      refine AW.condF (b := decide (v13 < (a0.Sizes.length : Int))) rfl c23_ ?_
      refine AW.sub (Sub.bool 27 (b := decide (v13 < (a0.Sizes.length : Int))) rfl c23_) ?_
      refine AW.sub (S' := mk 91 [] [(1, .d (.lit (.bool a1))), (2, .ptr 2 0 0), (5, .ref 32 0 l12.length), (25, .d (.lit (.int .i64 (a0.Sizes.length : Int)))), (26, .d (.lit (.int .i64 v13))), (27, .d (.lit (.bool false)))] [(2, some (.box [.d (.sl (a0.Sizes.map (cI .i64))), .d (.sl (a0.Selectivities.map cS115))])), (32, some (.arr 3 1 (l12.map (cI .i64))))]) (by simp; exact Sub.table (by simp) (by simp)) ?_
      refine AW.exit ?_
      cases h
      refine thenQ_pass (by simp) ?_
      refine PostI.out (by simp) ?_
      rintro rfl
      refine blockQ.hit ?_
      refine PostN.next ?_
      exact Sub.tt
    ·rintro l22 h
     refine thenQ_normal ?_
     refine AW.seqR ?_
     refine Chain.runK [] 2 fun K hK => ?_; simp; refine hK _ _ ?_; clear hK K
     refine Chain.sub (S' := mk 91 [] [(1, .d (.lit (.bool a1))), (2, .ptr 2 0 0), (5, .ref 32 0 l22.length), (35, .agg [.d (.sl (a0.Sizes.map (cI .i64))), .d (.sl (a0.Selectivities.map cS115))]), (36, .d (.lit (.bool a1)))] [(2, some (.box [.d (.sl (a0.Sizes.map (cI .i64))), .d (.sl (a0.Selectivities.map cS115))])), (32, some (.arr 3 1 (l22.map (cI .i64))))]) Sub.tt ?_
     replace h := bsome h; obtain ⟨r26, hr26, h⟩ := h
     refine Chain.callC (d := 37) (p17 N a0 a1 r26 hr26) (by simp) rfl rfl (by simp <;> rfl) (by simp <;> rfl) ent17 (by simp) (.inl ⟨by simp, by simp⟩) ?_
     refine Chain.sub (S' := mk 91 [] [(1, .d (.lit (.bool a1))), (2, .ptr 2 0 0), (5, .ref 32 0 l22.length), (35, .agg [.d (.sl (a0.Sizes.map (cI .i64))), .d (.sl (a0.Selectivities.map cS115))]), (36, .d (.lit (.bool a1))), (37, .tup [.agg [.d (.lit (.int .i64 r26.1.Leaf)), .d (.sl (r26.1.Children.map cS28))], .d (.lit (.int .i64 r26.2.1)), .d (.lit (.int .i64 r26.2.2))])] [(2, some (.box [.d (.sl (a0.Sizes.map (cI .i64))), .d (.sl (a0.Selectivities.map cS115))])), (32, some (.arr 3 1 (l22.map (cI .i64))))]) (by simp; exact Sub.table (by simp) (by simp)) ?_
     refine Chain.runK [] 9 fun K hK => ?_; simp; refine hK _ _ ?_; clear hK K
     refine Chain.sub (S' := mk 91 [] [(1, .d (.lit (.bool a1))), (2, .ptr 2 0 0), (5, .ref 32 0 l22.length), (7, .ptr 7 0 0), (8, .ptr 8 0 0), (9, .d (.lit (.int .i64 r26.2.2)))] [(2, some (.box [.d (.sl (a0.Sizes.map (cI .i64))), .d (.sl (a0.Selectivities.map cS115))])), (7, some (.box [.d (.lit (.int .i64 r26.1.Leaf)), .d (.sl (r26.1.Children.map cS28))])), (8, some (.box [.d (.lit (.int .i64 r26.2.1))])), (32, some (.arr 3 1 (l22.map (cI .i64))))]) Sub.tt ?_
     refine Chain.nil ?_
     refine AW.seqR ?_
     replace h := bsome h; obtain ⟨l27, gl27, h⟩ := h
     obtain ⟨hl27a, hl27b, hl27c, hl27d⟩ := mkL_some cB gl27
     clear gl27
     replace hl27c : List.replicate l27.length [.lit (.bool false)] = l27.map cB := hl27c
     simp only [Nat.mul_one] at hl27b
     refine Chain.runK [] 5 fun K hK => ?_; simp [hl27a, hl27b, hl27c, hl27d]; refine hK _ _ ?_; clear hK K
     refine Chain.sub (S' := mk 91 [] [(1, .d (.lit (.bool a1))), (2, .ptr 2 0 0), (5, .ref 32 0 l22.length), (7, .ptr 7 0 0), (8, .ptr 8 0 0), (9, .d (.lit (.int .i64 r26.2.2))), (10, .ref 44 0 l27.length)] [(2, some (.box [.d (.sl (a0.Sizes.map (cI .i64))), .d (.sl (a0.Selectivities.map cS115))])), (7, some (.box [.d (.lit (.int .i64 r26.1.Leaf)), .d (.sl (r26.1.Children.map cS28))])), (8, some (.box [.d (.lit (.int .i64 r26.2.1))])), (32, some (.arr 3 1 (l22.map (cI .i64)))), (44, some (.arr 4 1 (l27.map cB)))]) Sub.tt ?_
     refine Chain.nil ?_
     refine AW.seq ?_
     replace h := bsome h; obtain ⟨v34, hj, h⟩ := h
     refine AW.cutBT [6, 11] 12 (by kernel_rfl) (by kernel_rfl) (mk 91 [] [(1, .d (.lit (.bool a1))), (2, .ptr 2 0 0), (5, .ref 32 0 l22.length), (7, .ptr 7 0 0), (8, .ptr 8 0 0), (64, .d (.lit (.bool v34)))] [(2, some (.box [.d (.sl (a0.Sizes.map (cI .i64))), .d (.sl (a0.Selectivities.map cS115))])), (7, some (.box [.d (.lit (.int .i64 r26.1.Leaf)), .d (.sl (r26.1.Children.map cS28))])), (8, some (.box [.d (.lit (.int .i64 r26.2.1))])), (32, some (.arr 3 1 (l22.map (cI .i64))))]) (by kernel_rfl) ?_ ?_
     ·clear h; have h := hj; clear hj
      refine MixT.segN 6 rfl rfl rfl rfl ?_
      simp only [List.take_succ_cons, List.take_zero, List.drop_succ_cons, List.drop_zero]
      refine Chain.runQ 3 fun K hK => ?_; simp; refine hK _ _ ?_; clear hK K
      refine Chain.sub (S' := mk 91 [] [(1, .d (.lit (.bool a1))), (2, .ptr 2 0 0), (5, .ref 32 0 l22.length), (7, .ptr 7 0 0), (8, .ptr 8 0 0), (10, .ref 44 0 l27.length), (47, .d (.lit (.bool (r26.2.2 != 0))))] [(2, some (.box [.d (.sl (a0.Sizes.map (cI .i64))), .d (.sl (a0.Selectivities.map cS115))])), (7, some (.box [.d (.lit (.int .i64 r26.1.Leaf)), .d (.sl (r26.1.Children.map cS28))])), (8, some (.box [.d (.lit (.int .i64 r26.2.1))])), (32, some (.arr 3 1 (l22.map (cI .i64)))), (44, some (.arr 4 1 (l27.map cB)))]) Sub.tt ?_
      replace h := isome h; rcases h with ⟨c35, h⟩ | ⟨c35, h⟩
      ·have c35_ : (r26.2.2 != 0) = true := c35
       refine Chain.sub (Sub.bool 47 (b := (r26.2.2 != 0)) rfl c35_) ?_
       refine Chain.sub (S' := mk 91 [] [(1, .d (.lit (.bool a1))), (2, .ptr 2 0 0), (5, .ref 32 0 l22.length), (7, .ptr 7 0 0), (8, .ptr 8 0 0), (10, .ref 44 0 l27.length), (47, .d (.lit (.bool true)))] [(2, some (.box [.d (.sl (a0.Sizes.map (cI .i64))), .d (.sl (a0.Selectivities.map cS115))])), (7, some (.box [.d (.lit (.int .i64 r26.1.Leaf)), .d (.sl (r26.1.Children.map cS28))])), (8, some (.box [.d (.lit (.int .i64 r26.2.1))])), (32, some (.arr 3 1 (l22.map (cI .i64)))), (44, some (.arr 4 1 (l27.map cB)))]) (by simp; exact Sub.table (by simp) (by simp)) ?_
       refine Chain.runQ 3 fun K hK => ?_; simp; refine hK _ _ ?_; clear hK K
       refine Chain.nil ?_
       refine MixT.bar rfl rfl ?_
       refine Chain.runK [] 1 fun K hK => ?_; simp; refine hK _ _ ?_; clear hK K
       refine Chain.nil ?_
       refine MixT.segN 4 rfl rfl rfl rfl ?_
       simp only [List.take_succ_cons, List.take_zero, List.drop_succ_cons, List.drop_zero]
       refine Chain.runQ 4 fun K hK => ?_; simp; refine hK _ _ ?_; clear hK K
       refine Chain.nil ?_
       refine MixT.bar rfl rfl ?_
       refine Chain.runK [] 1 fun K hK => ?_; simp; refine hK _ _ ?_; clear hK K
       refine Chain.nil ?_
       refine MixT.tail rfl rfl ?_
       refine Chain.runQ 8 fun K hK => ?_; simp; refine hK _ _ ?_; clear hK K
       refine Chain.sub (S' := mk 91 [] [(1, .d (.lit (.bool a1))), (2, .ptr 2 0 0), (5, .ref 32 0 l22.length), (7, .ptr 7 0 0), (8, .ptr 8 0 0), (64, .d (.lit (.bool true)))] [(2, some (.box [.d (.sl (a0.Sizes.map (cI .i64))), .d (.sl (a0.Selectivities.map cS115))])), (7, some (.box [.d (.lit (.int .i64 r26.1.Leaf)), .d (.sl (r26.1.Children.map cS28))])), (8, some (.box [.d (.lit (.int .i64 r26.2.1))])), (32, some (.arr 3 1 (l22.map (cI .i64))))]) Sub.tt ?_
       cases h
       exact Chain.nil Sub.tt
      ·have c35_ : (r26.2.2 != 0) = false := Bool.eq_false_iff.2 c35
       refine Chain.sub (Sub.bool 47 (b := (r26.2.2 != 0)) rfl c35_) ?_
       refine Chain.sub (S' := mk 91 [] [(1, .d (.lit (.bool a1))), (2, .ptr 2 0 0), (5, .ref 32 0 l22.length), (7, .ptr 7 0 0), (8, .ptr 8 0 0), (10, .ref 44 0 l27.length), (47, .d (.lit (.bool false)))] [(2, some (.box [.d (.sl (a0.Sizes.map (cI .i64))), .d (.sl (a0.Selectivities.map cS115))])), (7, some (.box [.d (.lit (.int .i64 r26.1.Leaf)), .d (.sl (r26.1.Children.map cS28))])), (8, some (.box [.d (.lit (.int .i64 r26.2.1))])), (32, some (.arr 3 1 (l22.map (cI .i64)))), (44, some (.arr 4 1 (l27.map cB)))]) (by simp; exact Sub.table (by simp) (by simp)) ?_
       refine Chain.runQ 3 fun K hK => ?_; simp; refine hK _ _ ?_; clear hK K
       refine Chain.sub (S' := mk 91 [] [(1, .d (.lit (.bool a1))), (2, .ptr 2 0 0), (5, .ref 32 0 l22.length), (7, .ptr 7 0 0), (8, .ptr 8 0 0), (10, .ref 44 0 l27.length), (47, .d (.lit (.bool false))), (48, .agg [.d (.sl (a0.Sizes.map (cI .i64))), .d (.sl (a0.Selectivities.map cS115))]), (49, .agg [.d (.lit (.int .i64 r26.1.Leaf)), .d (.sl (r26.1.Children.map cS28))]), (50, .ref 44 0 l27.length)] [(2, some (.box [.d (.sl (a0.Sizes.map (cI .i64))), .d (.sl (a0.Selectivities.map cS115))])), (7, some (.box [.d (.lit (.int .i64 r26.1.Leaf)), .d (.sl (r26.1.Children.map cS28))])), (8, some (.box [.d (.lit (.int .i64 r26.2.1))])), (32, some (.arr 3 1 (l22.map (cI .i64)))), (44, some (.arr 4 1 (l27.map cB)))]) Sub.tt ?_
       replace h := bsome h; obtain ⟨r36, hr36, h⟩ := h
       refine Chain.nil ?_
       refine MixT.bar rfl rfl ?_
       refine Chain.callF (p13 N a0 r26.1 l27 r36 hr36) [(44, 1000)] [44] [(1000, 44)] [(44, .arr 4 1 (r36.1.map cB))] (.d (.lit (.bool r36.2))) (by simp) rfl (by simp <;> rfl) (by simp) (by simp) (by simp) (by simp) (by simp) ent13 (by simp) (by simp) (by simp) (by simp) (by simp) (by simp) ?_
       have hlr36 := l13 N a0 r26.1 l27 r36 hr36
       refine Chain.sub (S' := mk 91 [] [(1, .d (.lit (.bool a1))), (2, .ptr 2 0 0), (5, .ref 32 0 l22.length), (7, .ptr 7 0 0), (8, .ptr 8 0 0), (10, .ref 44 0 r36.1.length), (47, .d (.lit (.bool false))), (48, .agg [.d (.sl (a0.Sizes.map (cI .i64))), .d (.sl (a0.Selectivities.map cS115))]), (49, .agg [.d (.lit (.int .i64 r26.1.Leaf)), .d (.sl (r26.1.Children.map cS28))]), (50, .ref 44 0 r36.1.length), (51, .d (.lit (.bool r36.2)))] [(2, some (.box [.d (.sl (a0.Sizes.map (cI .i64))), .d (.sl (a0.Selectivities.map cS115))])), (7, some (.box [.d (.lit (.int .i64 r26.1.Leaf)), .d (.sl (r26.1.Children.map cS28))])), (8, some (.box [.d (.lit (.int .i64 r26.2.1))])), (32, some (.arr 3 1 (l22.map (cI .i64)))), (44, some (.arr 4 1 (r36.1.map cB)))]) (by simp [hlr36]; exact Sub.table (by simp) (by simp)) ?_
       refine Chain.nil ?_
       refine MixT.segN 4 rfl rfl rfl rfl ?_
       simp only [List.take_succ_cons, List.take_zero, List.drop_succ_cons, List.drop_zero]
       refine Chain.runQ 3 fun K hK => ?_; simp; refine hK _ _ ?_; clear hK K
       refine Chain.sub (S' := mk 91 [] [(1, .d (.lit (.bool a1))), (2, .ptr 2 0 0), (5, .ref 32 0 l22.length), (7, .ptr 7 0 0), (8, .ptr 8 0 0), (10, .ref 44 0 r36.1.length), (54, .d (.lit (.bool (!r36.2))))] [(2, some (.box [.d (.sl (a0.Sizes.map (cI .i64))), .d (.sl (a0.Selectivities.map cS115))])), (7, some (.box [.d (.lit (.int .i64 r26.1.Leaf)), .d (.sl (r26.1.Children.map cS28))])), (8, some (.box [.d (.lit (.int .i64 r26.2.1))])), (32, some (.arr 3 1 (l22.map (cI .i64)))), (44, some (.arr 4 1 (r36.1.map cB)))]) Sub.tt ?_
       replace h := isome h; rcases h with ⟨c37, h⟩ | ⟨c37, h⟩
       ·have c37_ : (!r36.2) = true := c37
        refine Chain.sub (Sub.bool 54 (b := (!r36.2)) rfl c37_) ?_
        refine Chain.sub (S' := mk 91 [] [(1, .d (.lit (.bool a1))), (2, .ptr 2 0 0), (5, .ref 32 0 l22.length), (7, .ptr 7 0 0), (8, .ptr 8 0 0), (10, .ref 44 0 r36.1.length), (54, .d (.lit (.bool true)))] [(2, some (.box [.d (.sl (a0.Sizes.map (cI .i64))), .d (.sl (a0.Selectivities.map cS115))])), (7, some (.box [.d (.lit (.int .i64 r26.1.Leaf)), .d (.sl (r26.1.Children.map cS28))])), (8, some (.box [.d (.lit (.int .i64 r26.2.1))])), (32, some (.arr 3 1 (l22.map (cI .i64)))), (44, some (.arr 4 1 (r36.1.map cB)))]) (by simp; exact Sub.table (by simp) (by simp)) ?_
        refine Chain.runQ 1 fun K hK => ?_; simp; refine hK _ _ ?_; clear hK K
        refine Chain.nil ?_
        refine MixT.bar rfl rfl ?_
        refine Chain.runK [] 1 fun K hK => ?_; simp; refine hK _ _ ?_; clear hK K
        refine Chain.nil ?_
        refine MixT.tail rfl rfl ?_
        refine Chain.runQ 8 fun K hK => ?_; simp; refine hK _ _ ?_; clear hK K
        refine Chain.sub (S' := mk 91 [] [(1, .d (.lit (.bool a1))), (2, .ptr 2 0 0), (5, .ref 32 0 l22.length), (7, .ptr 7 0 0), (8, .ptr 8 0 0), (64, .d (.lit (.bool true)))] [(2, some (.box [.d (.sl (a0.Sizes.map (cI .i64))), .d (.sl (a0.Selectivities.map cS115))])), (7, some (.box [.d (.lit (.int .i64 r26.1.Leaf)), .d (.sl (r26.1.Children.map cS28))])), (8, some (.box [.d (.lit (.int .i64 r26.2.1))])), (32, some (.arr 3 1 (l22.map (cI .i64))))]) Sub.tt ?_
        cases h
        exact Chain.nil Sub.tt
       ·have c37_ : (!r36.2) = false := Bool.eq_false_iff.2 c37
        refine Chain.sub (Sub.bool 54 (b := (!r36.2)) rfl c37_) ?_
        refine Chain.sub (S' := mk 91 [] [(1, .d (.lit (.bool a1))), (2, .ptr 2 0 0), (5, .ref 32 0 l22.length), (7, .ptr 7 0 0), (8, .ptr 8 0 0), (10, .ref 44 0 r36.1.length), (54, .d (.lit (.bool false)))] [(2, some (.box [.d (.sl (a0.Sizes.map (cI .i64))), .d (.sl (a0.Selectivities.map cS115))])), (7, some (.box [.d (.lit (.int .i64 r26.1.Leaf)), .d (.sl (r26.1.Children.map cS28))])), (8, some (.box [.d (.lit (.int .i64 r26.2.1))])), (32, some (.arr 3 1 (l22.map (cI .i64)))), (44, some (.arr 4 1 (r36.1.map cB)))]) (by simp; exact Sub.table (by simp) (by simp)) ?_
        refine Chain.runQ 1 fun K hK => ?_; simp; refine hK _ _ ?_; clear hK K
        refine Chain.sub (S' := mk 91 [] [(1, .d (.lit (.bool a1))), (2, .ptr 2 0 0), (5, .ref 32 0 l22.length), (7, .ptr 7 0 0), (8, .ptr 8 0 0), (54, .d (.lit (.bool false))), (55, .ref 44 0 r36.1.length)] [(2, some (.box [.d (.sl (a0.Sizes.map (cI .i64))), .d (.sl (a0.Selectivities.map cS115))])), (7, some (.box [.d (.lit (.int .i64 r26.1.Leaf)), .d (.sl (r26.1.Children.map cS28))])), (8, some (.box [.d (.lit (.int .i64 r26.2.1))])), (32, some (.arr 3 1 (l22.map (cI .i64)))), (44, some (.arr 4 1 (r36.1.map cB)))]) Sub.tt ?_
        replace h := bsome h; obtain ⟨r38, hr38, h⟩ := h
        refine Chain.nil ?_
        refine MixT.bar rfl rfl ?_
        refine Chain.callL (d := 56) (p14 N r36.1 false r38 hr38) (by simp) rfl rfl (by simp <;> rfl) (by simp <;> rfl) ent14 (by simp <;> rfl) ?_
        refine Chain.sub (S' := mk 91 [] [(1, .d (.lit (.bool a1))), (2, .ptr 2 0 0), (5, .ref 32 0 l22.length), (7, .ptr 7 0 0), (8, .ptr 8 0 0), (54, .d (.lit (.bool false))), (55, .ref 44 0 r36.1.length), (56, .d (.lit (.bool r38)))] [(2, some (.box [.d (.sl (a0.Sizes.map (cI .i64))), .d (.sl (a0.Selectivities.map cS115))])), (7, some (.box [.d (.lit (.int .i64 r26.1.Leaf)), .d (.sl (r26.1.Children.map cS28))])), (8, some (.box [.d (.lit (.int .i64 r26.2.1))])), (32, some (.arr 3 1 (l22.map (cI .i64)))), (44, some (.arr 4 1 (r36.1.map cB)))]) (by simp; exact Sub.table (by simp) (by simp)) ?_
        refine Chain.nil ?_
        refine MixT.tail rfl rfl ?_
        refine Chain.runQ 2 fun K hK => ?_; simp; refine hK _ _ ?_; clear hK K
        refine Chain.sub (S' := mk 91 [] [(1, .d (.lit (.bool a1))), (2, .ptr 2 0 0), (5, .ref 32 0 l22.length), (7, .ptr 7 0 0), (8, .ptr 8 0 0), (58, .d (.lit (.bool r38)))] [(2, some (.box [.d (.sl (a0.Sizes.map (cI .i64))), .d (.sl (a0.Selectivities.map cS115))])), (7, some (.box [.d (.lit (.int .i64 r26.1.Leaf)), .d (.sl (r26.1.Children.map cS28))])), (8, some (.box [.d (.lit (.int .i64 r26.2.1))])), (32, some (.arr 3 1 (l22.map (cI .i64))))]) Sub.tt ?_
        replace h := isome h; rcases h with ⟨c39, h⟩ | ⟨c39, h⟩
        ·have c39_ : r38 = true := c39
         refine Chain.sub (Sub.bool 58 (b := r38) rfl c39_) ?_
         refine Chain.sub (S' := mk 91 [] [(1, .d (.lit (.bool a1))), (2, .ptr 2 0 0), (5, .ref 32 0 l22.length), (7, .ptr 7 0 0), (8, .ptr 8 0 0), (58, .d (.lit (.bool true)))] [(2, some (.box [.d (.sl (a0.Sizes.map (cI .i64))), .d (.sl (a0.Selectivities.map cS115))])), (7, some (.box [.d (.lit (.int .i64 r26.1.Leaf)), .d (.sl (r26.1.Children.map cS28))])), (8, some (.box [.d (.lit (.int .i64 r26.2.1))])), (32, some (.arr 3 1 (l22.map (cI .i64))))]) (by simp; exact Sub.table (by simp) (by simp)) ?_
         refine Chain.runQ 6 fun K hK => ?_; simp; refine hK _ _ ?_; clear hK K
         refine Chain.sub (S' := mk 91 [] [(1, .d (.lit (.bool a1))), (2, .ptr 2 0 0), (5, .ref 32 0 l22.length), (7, .ptr 7 0 0), (8, .ptr 8 0 0), (64, .d (.lit (.bool true)))] [(2, some (.box [.d (.sl (a0.Sizes.map (cI .i64))), .d (.sl (a0.Selectivities.map cS115))])), (7, some (.box [.d (.lit (.int .i64 r26.1.Leaf)), .d (.sl (r26.1.Children.map cS28))])), (8, some (.box [.d (.lit (.int .i64 r26.2.1))])), (32, some (.arr 3 1 (l22.map (cI .i64))))]) Sub.tt ?_
         cases h
         exact Chain.nil Sub.tt
        ·have c39_ : r38 = false := Bool.eq_false_iff.2 c39
         refine Chain.sub (Sub.bool 58 (b := r38) rfl c39_) ?_
         refine Chain.sub (S' := mk 91 [] [(1, .d (.lit (.bool a1))), (2, .ptr 2 0 0), (5, .ref 32 0 l22.length), (7, .ptr 7 0 0), (8, .ptr 8 0 0), (58, .d (.lit (.bool false)))] [(2, some (.box [.d (.sl (a0.Sizes.map (cI .i64))), .d (.sl (a0.Selectivities.map cS115))])), (7, some (.box [.d (.lit (.int .i64 r26.1.Leaf)), .d (.sl (r26.1.Children.map cS28))])), (8, some (.box [.d (.lit (.int .i64 r26.2.1))])), (32, some (.arr 3 1 (l22.map (cI .i64))))]) (by simp; exact Sub.table (by simp) (by simp)) ?_
         refine Chain.runQ 2 fun K hK => ?_; simp; refine hK _ _ ?_; clear hK K
         refine Chain.sub (S' := mk 91 [] [(1, .d (.lit (.bool a1))), (2, .ptr 2 0 0), (5, .ref 32 0 l22.length), (7, .ptr 7 0 0), (8, .ptr 8 0 0), (58, .d (.lit (.bool false))), (59, .agg [.d (.sl (a0.Sizes.map (cI .i64))), .d (.sl (a0.Selectivities.map cS115))]), (60, .agg [.d (.lit (.int .i64 r26.1.Leaf)), .d (.sl (r26.1.Children.map cS28))])] [(2, some (.box [.d (.sl (a0.Sizes.map (cI .i64))), .d (.sl (a0.Selectivities.map cS115))])), (7, some (.box [.d (.lit (.int .i64 r26.1.Leaf)), .d (.sl (r26.1.Children.map cS28))])), (8, some (.box [.d (.lit (.int .i64 r26.2.1))])), (32, some (.arr 3 1 (l22.map (cI .i64))))]) Sub.tt ?_
         replace h := bsome h; obtain ⟨r40, hr40, h⟩ := h
         refine Chain.callL (d := 61) (p16 N a0 r26.1 r40 hr40) (by simp) rfl rfl (by simp <;> rfl) (by simp <;> rfl) ent16 (by simp <;> rfl) ?_
         refine Chain.sub (S' := mk 91 [] [(1, .d (.lit (.bool a1))), (2, .ptr 2 0 0), (5, .ref 32 0 l22.length), (7, .ptr 7 0 0), (8, .ptr 8 0 0), (58, .d (.lit (.bool false))), (59, .agg [.d (.sl (a0.Sizes.map (cI .i64))), .d (.sl (a0.Selectivities.map cS115))]), (60, .agg [.d (.lit (.int .i64 r26.1.Leaf)), .d (.sl (r26.1.Children.map cS28))]), (61, .d (.lit (.int .i64 r40)))] [(2, some (.box [.d (.sl (a0.Sizes.map (cI .i64))), .d (.sl (a0.Selectivities.map cS115))])), (7, some (.box [.d (.lit (.int .i64 r26.1.Leaf)), .d (.sl (r26.1.Children.map cS28))])), (8, some (.box [.d (.lit (.int .i64 r26.2.1))])), (32, some (.arr 3 1 (l22.map (cI .i64))))]) (by simp; exact Sub.table (by simp) (by simp)) ?_
         refine Chain.runQ 3 fun K hK => ?_; simp; refine hK _ _ ?_; clear hK K
         refine Chain.sub (S' := mk 91 [] [(1, .d (.lit (.bool a1))), (2, .ptr 2 0 0), (5, .ref 32 0 l22.length), (7, .ptr 7 0 0), (8, .ptr 8 0 0), (64, .d (.lit (.bool (r40 != r26.2.1))))] [(2, some (.box [.d (.sl (a0.Sizes.map (cI .i64))), .d (.sl (a0.Selectivities.map cS115))])), (7, some (.box [.d (.lit (.int .i64 r26.1.Leaf)), .d (.sl (r26.1.Children.map cS28))])), (8, some (.box [.d (.lit (.int .i64 r26.2.1))])), (32, some (.arr 3 1 (l22.map (cI .i64))))]) Sub.tt ?_
         cases h
         exact Chain.nil Sub.tt
     ·clear hj
      replace h := isome h; rcases h with ⟨c41, h⟩ | ⟨c41, h⟩
      ·have c41_ : v34 = true := c41
       refine AW.condT (b := v34) rfl c41_ ?_
       refine AW.sub (Sub.bool 64 (b := v34) rfl c41_) ?_
       refine AW.sub (S' := mk 91 [] [(1, .d (.lit (.bool a1))), (2, .ptr 2 0 0), (5, .ref 32 0 l22.length), (7, .ptr 7 0 0), (8, .ptr 8 0 0), (64, .d (.lit (.bool true)))] [(2, some (.box [.d (.sl (a0.Sizes.map (cI .i64))), .d (.sl (a0.Selectivities.map cS115))])), (7, some (.box [.d (.lit (.int .i64 r26.1.Leaf)), .d (.sl (r26.1.Children.map cS28))])), (8, some (.box [.d (.lit (.int .i64 r26.2.1))])), (32, some (.arr 3 1 (l22.map (cI .i64))))]) (by simp; exact Sub.table (by simp) (by simp)) ?_
       refine AW.seqR ?_
       refine Chain.runK [] 1 fun K hK => ?_; simp; refine hK _ _ ?_; clear hK K
       refine Chain.sub (S' := mk 91 [] [(4, .d (.lit (.bool false)))] []) Sub.tt ?_
       refine Chain.nil ?_
       refine AW.ret ?_
       cases h
       refine thenQ_pass (by simp) ?_
       exact FinC.ret (by simp) (by simp)
      ·have c41_ : v34 = false := Bool.eq_false_iff.2 c41
       refine AW.condF (b := v34) rfl c41_ ?_
       refine AW.sub (Sub.bool 64 (b := v34) rfl c41_) ?_
       refine AW.sub (S' := mk 91 [] [(1, .d (.lit (.bool a1))), (2, .ptr 2 0 0), (5, .ref 32 0 l22.length), (7, .ptr 7 0 0), (8, .ptr 8 0 0), (64, .d (.lit (.bool false)))] [(2, some (.box [.d (.sl (a0.Sizes.map (cI .i64))), .d (.sl (a0.Selectivities.map cS115))])), (7, some (.box [.d (.lit (.int .i64 r26.1.Leaf)), .d (.sl (r26.1.Children.map cS28))])), (8, some (.box [.d (.lit (.int .i64 r26.2.1))])), (32, some (.arr 3 1 (l22.map (cI .i64))))]) (by simp; exact Sub.table (by simp) (by simp)) ?_
       refine AW.skip ?_
       refine thenQ_normal ?_
       refine AW.seq ?_
       refine AW.seqR ?_
       refine Chain.runK [] 3 fun K hK => ?_; simp; refine hK _ _ ?_; clear hK K
       refine Chain.sub (S' := mk 91 [] [(1, .d (.lit (.bool a1))), (2, .ptr 2 0 0), (5, .ref 32 0 l22.length), (8, .ptr 8 0 0), (11, .ptr 11 0 0)] [(2, some (.box [.d (.sl (a0.Sizes.map (cI .i64))), .d (.sl (a0.Selectivities.map cS115))])), (8, some (.box [.d (.lit (.int .i64 r26.2.1))])), (11, some (.box [.d (.lit (.int .i64 r26.1.Leaf)), .d (.sl (r26.1.Children.map cS28))])), (32, some (.arr 3 1 (l22.map (cI .i64))))]) Sub.tt ?_
       refine Chain.nil ?_
       refine AW.lastJ (fun (v72 : Bool) => mk 91 [] [(1, .d (.lit (.bool v72))), (2, .ptr 2 0 0), (5, .ref 32 0 l22.length), (8, .ptr 8 0 0)] [(2, some (.box [.d (.sl (a0.Sizes.map (cI .i64))), .d (.sl (a0.Selectivities.map cS115))])), (8, some (.box [.d (.lit (.int .i64 r26.2.1))])), (32, some (.arr 3 1 (l22.map (cI .i64))))]) h ?_ ?_ <;> clear h
       ·intro o h
        refine AW.block ?_
        refine AW.iter (fun ((v50, v51, l52) : (Bool × Int × (List S28))) => mk 91 [] [(1, .d (.lit (.bool v50))), (2, .ptr 2 0 0), (5, .ref 32 0 l22.length), (8, .ptr 8 0 0), (11, .ptr 11 0 0)] [(2, some (.box [.d (.sl (a0.Sizes.map (cI .i64))), .d (.sl (a0.Selectivities.map cS115))])), (8, some (.box [.d (.lit (.int .i64 r26.2.1))])), (11, some (.box [.d (.lit (.int .i64 v51)), .d (.sl (l52.map cS28))])), (32, some (.arr 3 1 (l22.map (cI .i64))))]) h Sub.tt ?_
        clear h
        rintro ⟨v50, v51, l52⟩ x h
        dsimp only at h ⊢
        refine AW.seq ?_
        replace h := bsome h; obtain ⟨⟨v74, v75⟩, hj, h⟩ := h
        dsimp only at h
        refine AW.cutR (mk 91 [] [(1, .d (.lit (.bool v74))), (2, .ptr 2 0 0), (5, .ref 32 0 l22.length), (8, .ptr 8 0 0), (11, .ptr 11 0 0), (72, .d (.lit (.bool v75)))] [(2, some (.box [.d (.sl (a0.Sizes.map (cI .i64))), .d (.sl (a0.Selectivities.map cS115))])), (8, some (.box [.d (.lit (.int .i64 r26.2.1))])), (11, some (.box [.d (.lit (.int .i64 v51)), .d (.sl (l52.map cS28))])), (32, some (.arr 3 1 (l22.map (cI .i64))))]) ?_ ?_
        ·clear h; have h := hj; clear hj
         refine Chain.runK [] 2 fun K hK => ?_; simp; refine hK _ _ ?_; clear hK K
         refine Chain.sub (S' := mk 91 [] [(1, .d (.lit (.bool v50))), (2, .ptr 2 0 0), (5, .ref 32 0 l22.length), (8, .ptr 8 0 0), (11, .ptr 11 0 0), (67, .d (.lit (.bool v50)))] [(2, some (.box [.d (.sl (a0.Sizes.map (cI .i64))), .d (.sl (a0.Selectivities.map cS115))])), (8, some (.box [.d (.lit (.int .i64 r26.2.1))])), (11, some (.box [.d (.lit (.int .i64 v51)), .d (.sl (l52.map cS28))])), (32, some (.arr 3 1 (l22.map (cI .i64))))]) Sub.tt ?_
         replace h := isome h; rcases h with ⟨c76, h⟩ | ⟨c76, h⟩
         ·have c76_ : v50 = true := c76
          refine Chain.sub (Sub.bool 1 (b := v50) rfl c76_) ?_
          refine Chain.sub (Sub.bool 67 (b := v50) rfl c76_) ?_
          refine Chain.sub (S' := mk 91 [] [(1, .d (.lit (.bool true))), (2, .ptr 2 0 0), (5, .ref 32 0 l22.length), (8, .ptr 8 0 0), (11, .ptr 11 0 0), (67, .d (.lit (.bool true)))] [(2, some (.box [.d (.sl (a0.Sizes.map (cI .i64))), .d (.sl (a0.Selectivities.map cS115))])), (8, some (.box [.d (.lit (.int .i64 r26.2.1))])), (11, some (.box [.d (.lit (.int .i64 v51)), .d (.sl (l52.map cS28))])), (32, some (.arr 3 1 (l22.map (cI .i64))))]) (by simp; exact Sub.table (by simp) (by simp)) ?_
          refine Chain.runK [] 5 fun K hK => ?_; simp; refine hK _ _ ?_; clear hK K
          refine Chain.sub (S' := mk 91 [] [(1, .d (.lit (.bool true))), (2, .ptr 2 0 0), (5, .ref 32 0 l22.length), (8, .ptr 8 0 0), (11, .ptr 11 0 0), (68, .ptr 11 0 1), (69, .d (.sl (l52.map cS28))), (70, .d (.lit (.int .i64 (l52.length : Int)))), (71, .d (.lit (.bool ((l52.length : Int) == 2)))), (72, .d (.lit (.bool ((l52.length : Int) == 2))))] [(2, some (.box [.d (.sl (a0.Sizes.map (cI .i64))), .d (.sl (a0.Selectivities.map cS115))])), (8, some (.box [.d (.lit (.int .i64 r26.2.1))])), (11, some (.box [.d (.lit (.int .i64 v51)), .d (.sl (l52.map cS28))])), (32, some (.arr 3 1 (l22.map (cI .i64))))]) Sub.tt ?_
          cases h
          exact Chain.nil Sub.tt
         ·have c76_ : v50 = false := Bool.eq_false_iff.2 c76
          refine Chain.sub (Sub.bool 1 (b := v50) rfl c76_) ?_
          refine Chain.sub (Sub.bool 67 (b := v50) rfl c76_) ?_
          refine Chain.sub (S' := mk 91 [] [(1, .d (.lit (.bool false))), (2, .ptr 2 0 0), (5, .ref 32 0 l22.length), (8, .ptr 8 0 0), (11, .ptr 11 0 0), (67, .d (.lit (.bool false)))] [(2, some (.box [.d (.sl (a0.Sizes.map (cI .i64))), .d (.sl (a0.Selectivities.map cS115))])), (8, some (.box [.d (.lit (.int .i64 r26.2.1))])), (11, some (.box [.d (.lit (.int .i64 v51)), .d (.sl (l52.map cS28))])), (32, some (.arr 3 1 (l22.map (cI .i64))))]) (by simp; exact Sub.table (by simp) (by simp)) ?_
          refine Chain.runK [] 5 fun K hK => ?_; simp; refine hK _ _ ?_; clear hK K
          refine Chain.sub (S' := mk 91 [] [(1, .d (.lit (.bool false))), (2, .ptr 2 0 0), (5, .ref 32 0 l22.length), (8, .ptr 8 0 0), (11, .ptr 11 0 0), (68, .tup []), (69, .tup []), (70, .tup []), (71, .tup []), (72, .d (.lit (.bool false)))] [(2, some (.box [.d (.sl (a0.Sizes.map (cI .i64))), .d (.sl (a0.Selectivities.map cS115))])), (8, some (.box [.d (.lit (.int .i64 r26.2.1))])), (11, some (.box [.d (.lit (.int .i64 v51)), .d (.sl (l52.map cS28))])), (32, some (.arr 3 1 (l22.map (cI .i64))))]) Sub.tt ?_
          cases h
          exact Chain.nil Sub.tt
        ·clear hj
         replace h := isome h; rcases h with ⟨c77, h⟩ | ⟨c77, h⟩
         ·have c77_ : v75 = true := c77
          refine AW.condT (b := v75) rfl c77_ ?_
          refine AW.sub (Sub.bool 72 (b := v75) rfl c77_) ?_
          refine AW.sub (S' := mk 91 [] [(1, .d (.lit (.bool v74))), (2, .ptr 2 0 0), (5, .ref 32 0 l22.length), (8, .ptr 8 0 0), (11, .ptr 11 0 0), (72, .d (.lit (.bool true)))] [(2, some (.box [.d (.sl (a0.Sizes.map (cI .i64))), .d (.sl (a0.Selectivities.map cS115))])), (8, some (.box [.d (.lit (.int .i64 r26.2.1))])), (11, some (.box [.d (.lit (.int .i64 v51)), .d (.sl (l52.map cS28))])), (32, some (.arr 3 1 (l22.map (cI .i64))))]) (by simp; exact Sub.table (by simp) (by simp)) ?_
          refine AW.skip ?_
          refine thenQ_normal ?_
          refine AW.seq ?_
          refine AW.block ?_
          refine AW.seqR ?_
          replace h := bsome h; obtain ⟨x78, hx78, h⟩ := h
          obtain ⟨hx78, hx78b, hx78c⟩ := idx_someN (n := 1) hx78
          refine Chain.runK [] 7 fun K hK => ?_; simp [hx78]; refine hK _ _ ?_; clear hK K
          refine Chain.sub (S' := mk 91 [] [(1, .d (.lit (.bool v74))), (2, .ptr 2 0 0), (5, .ref 32 0 l22.length), (8, .ptr 8 0 0), (11, .ptr 11 0 0), (83, .d (.lit (.bool (decide ((x78.Children.length : Int) > 0)))))] [(2, some (.box [.d (.sl (a0.Sizes.map (cI .i64))), .d (.sl (a0.Selectivities.map cS115))])), (8, some (.box [.d (.lit (.int .i64 r26.2.1))])), (11, some (.box [.d (.lit (.int .i64 v51)), .d (.sl (l52.map cS28))])), (32, some (.arr 3 1 (l22.map (cI .i64))))]) Sub.tt ?_
          refine Chain.nil ?_
          replace h := isome h; rcases h with ⟨c79, h⟩ | ⟨c79, h⟩
          ·have c79_ : decide ((x78.Children.length : Int) > 0) = true := decide_eq_true c79
           refine AW.condT (b := decide ((x78.Children.length : Int) > 0)) rfl c79_ ?_
           refine AW.sub (Sub.bool 83 (b := decide ((x78.Children.length : Int) > 0)) rfl c79_) ?_
           refine AW.sub (S' := mk 91 [] [(1, .d (.lit (.bool v74))), (2, .ptr 2 0 0), (5, .ref 32 0 l22.length), (8, .ptr 8 0 0), (11, .ptr 11 0 0), (83, .d (.lit (.bool true)))] [(2, some (.box [.d (.sl (a0.Sizes.map (cI .i64))), .d (.sl (a0.Selectivities.map cS115))])), (8, some (.box [.d (.lit (.int .i64 r26.2.1))])), (11, some (.box [.d (.lit (.int .i64 v51)), .d (.sl (l52.map cS28))])), (32, some (.arr 3 1 (l22.map (cI .i64))))]) (by simp; exact Sub.table (by simp) (by simp)) ?_
           refine AW.seqR ?_
           refine Chain.runK [] 1 fun K hK => ?_; simp; refine hK _ _ ?_; clear hK K
           refine Chain.sub (S' := mk 91 [] [(4, .d (.lit (.bool false)))] []) Sub.tt ?_
           refine Chain.nil ?_
           refine AW.ret ?_
           cases h
           refine blockQ.ret ?_
           refine thenQ_pass (by simp) ?_
           refine PostI.out (by simp) ?_
           rintro rfl
           refine blockQ.ret ?_
           refine PostJ.out (by simp) ?_
           rintro rfl
           refine thenQ_pass (by simp) ?_
           exact FinC.ret (by simp) (by simp)
          ·have c79_ : decide ((x78.Children.length : Int) > 0) = false := decide_eq_false c79
           refine AW.condF (b := decide ((x78.Children.length : Int) > 0)) rfl c79_ ?_
           refine AW.sub (Sub.bool 83 (b := decide ((x78.Children.length : Int) > 0)) rfl c79_) ?_
           refine AW.sub (S' := mk 91 [] [(1, .d (.lit (.bool v74))), (2, .ptr 2 0 0), (5, .ref 32 0 l22.length), (8, .ptr 8 0 0), (11, .ptr 11 0 0), (83, .d (.lit (.bool false)))] [(2, some (.box [.d (.sl (a0.Sizes.map (cI .i64))), .d (.sl (a0.Selectivities.map cS115))])), (8, some (.box [.d (.lit (.int .i64 r26.2.1))])), (11, some (.box [.d (.lit (.int .i64 v51)), .d (.sl (l52.map cS28))])), (32, some (.arr 3 1 (l22.map (cI .i64))))]) (by simp; exact Sub.table (by simp) (by simp)) ?_
           refine AW.skip ?_
           refine blockQ.normal ?_
           refine thenQ_normal ?_
           refine AW.seq ?_
           refine AW.seqR ?_
           refine Chain.runK [] 1 fun K hK => ?_; simp; refine hK _ _ ?_; clear hK K
           refine Chain.sub (S' := mk 91 [] [(1, .d (.lit (.bool v74))), (2, .ptr 2 0 0), (5, .ref 32 0 l22.length), (8, .ptr 8 0 0), (84, .agg [.d (.lit (.int .i64 v51)), .d (.sl (l52.map cS28))])] [(2, some (.box [.d (.sl (a0.Sizes.map (cI .i64))), .d (.sl (a0.Selectivities.map cS115))])), (8, some (.box [.d (.lit (.int .i64 r26.2.1))])), (32, some (.arr 3 1 (l22.map (cI .i64))))]) Sub.tt ?_
           refine Chain.nil ?_
           refine AW.region ?_
           refine Chain.runK [] 2 fun K hK => ?_; simp; refine hK _ _ ?_; clear hK K
           refine Chain.sub (S' := mk 91 [] [(1, .d (.lit (.bool v74))), (2, .ptr 2 0 0), (5, .ref 32 0 l22.length), (8, .ptr 8 0 0), (11, .ptr 11 0 0)] [(2, some (.box [.d (.sl (a0.Sizes.map (cI .i64))), .d (.sl (a0.Selectivities.map cS115))])), (8, some (.box [.d (.lit (.int .i64 r26.2.1))])), (11, some (.box [.d (.lit (.int .i64 v51)), .d (.sl (l52.map cS28))])), (32, some (.arr 3 1 (l22.map (cI .i64))))]) Sub.tt ?_
           refine Chain.nil ?_
           refine thenQ_normal ?_
           refine AW.region ?_
           replace h := bsome h; obtain ⟨x80, hx80, h⟩ := h
           obtain ⟨hx80, hx80b, hx80c⟩ := idx_someN (n := 0) hx80
           refine Chain.runK [] 5 fun K hK => ?_; simp [hx80]; refine hK _ _ ?_; clear hK K
           refine Chain.sub (S' := mk 91 [] [(1, .d (.lit (.bool v74))), (2, .ptr 2 0 0), (5, .ref 32 0 l22.length), (8, .ptr 8 0 0), (11, .ptr 11 0 0)] [(2, some (.box [.d (.sl (a0.Sizes.map (cI .i64))), .d (.sl (a0.Selectivities.map cS115))])), (8, some (.box [.d (.lit (.int .i64 r26.2.1))])), (11, some (.box [.d (.lit (.int .i64 x80.Leaf)), .d (.sl (x80.Children.map cS28))])), (32, some (.arr 3 1 (l22.map (cI .i64))))]) Sub.tt ?_
           refine Chain.nil ?_
           cases h
           refine PostI.next ?_
           exact Sub.tt
         ·have c77_ : v75 = false := Bool.eq_false_iff.2 c77
          refine AW.condF (b := v75) rfl c77_ ?_
          refine AW.sub (Sub.bool 72 (b := v75) rfl c77_) ?_
          refine AW.sub (S' := mk 91 [] [(1, .d (.lit (.bool v74))), (2, .ptr 2 0 0), (5, .ref 32 0 l22.length), (8, .ptr 8 0 0), (11, .ptr 11 0 0), (72, .d (.lit (.bool false)))] [(2, some (.box [.d (.sl (a0.Sizes.map (cI .i64))), .d (.sl (a0.Selectivities.map cS115))])), (8, some (.box [.d (.lit (.int .i64 r26.2.1))])), (11, some (.box [.d (.lit (.int .i64 v51)), .d (.sl (l52.map cS28))])), (32, some (.arr 3 1 (l22.map (cI .i64))))]) (by simp; exact Sub.table (by simp) (by simp)) ?_
          refine AW.exit ?_
          cases h
          refine thenQ_pass (by simp) ?_
          refine PostI.out (by simp) ?_
          rintro rfl
          refine blockQ.hit ?_
          refine PostJ.next ?_
          exact Sub.tt
       ·rintro v72 h
        refine thenQ_normal ?_
        refine AW.seqR ?_
        refine Chain.runK [] 2 fun K hK => ?_; simp; refine hK _ _ ?_; clear hK K
        refine Chain.sub (S' := mk 91 [] [(2, .ptr 2 0 0), (8, .ptr 8 0 0), (85, .ref 32 0 l22.length), (86, .d (.lit (.bool v72)))] [(2, some (.box [.d (.sl (a0.Sizes.map (cI .i64))), .d (.sl (a0.Selectivities.map cS115))])), (8, some (.box [.d (.lit (.int .i64 r26.2.1))])), (32, some (.arr 3 1 (l22.map (cI .i64))))]) Sub.tt ?_
        refine Chain.sub (Sub.freeze 32 rfl) ?_
        refine Chain.sub (S' := mk 91 [] [(2, .ptr 2 0 0), (8, .ptr 8 0 0), (85, .d (.sl (l22.map (cI .i64)))), (86, .d (.lit (.bool v72)))] [(2, some (.box [.d (.sl (a0.Sizes.map (cI .i64))), .d (.sl (a0.Selectivities.map cS115))])), (8, some (.box [.d (.lit (.int .i64 r26.2.1))]))]) (by simp; exact Sub.table (by simp) (by simp)) ?_
        replace h := bsome h; obtain ⟨r81, hr81, h⟩ := h
        refine Chain.callC (d := 87) (p19 N l22 v72 r81 hr81) (by simp) rfl rfl (by simp <;> rfl) (by simp <;> rfl) ent19 (by simp) (.inl ⟨by simp, by simp⟩) ?_
        refine Chain.sub (S' := mk 91 [] [(2, .ptr 2 0 0), (8, .ptr 8 0 0), (85, .d (.sl (l22.map (cI .i64)))), (86, .d (.lit (.bool v72))), (87, .d (.sl (r81.map cS28)))] [(2, some (.box [.d (.sl (a0.Sizes.map (cI .i64))), .d (.sl (a0.Selectivities.map cS115))])), (8, some (.box [.d (.lit (.int .i64 r26.2.1))]))]) (by simp; exact Sub.table (by simp) (by simp)) ?_
        refine Chain.runK [] 1 fun K hK => ?_; simp; refine hK _ _ ?_; clear hK K
        refine Chain.sub (S' := mk 91 [] [(87, .d (.sl (r81.map cS28))), (88, .fn (.func 20) [.ptr 2 0 0, .ptr 8 0 0])] [(2, some (.box [.d (.sl (a0.Sizes.map (cI .i64))), .d (.sl (a0.Selectivities.map cS115))])), (8, some (.box [.d (.lit (.int .i64 r26.2.1))]))]) Sub.tt ?_
        replace h := bsome h; obtain ⟨r82, hr82, h⟩ := h
        refine Chain.callL (d := 89) (p18 N r81 20 [.pim [.sl (a0.Sizes.map (cI .i64)), .sl (a0.Selectivities.map cS115)], .pim [.lit (.int .i64 r26.2.1)]] (fun b0 => d20 N b0 a0 r26.2.1) ent20 (fun b0 r h => p20 N b0 a0 r26.2.1 r h) r82 hr82) (by simp) rfl rfl (by simp <;> rfl) (by simp <;> rfl) ent18 (by simp <;> rfl) ?_
        refine Chain.sub (S' := mk 91 [] [(87, .d (.sl (r81.map cS28))), (88, .fn (.func 20) [.ptr 2 0 0, .ptr 8 0 0]), (89, .d (.lit (.bool r82)))] [(2, some (.box [.d (.sl (a0.Sizes.map (cI .i64))), .d (.sl (a0.Selectivities.map cS115))])), (8, some (.box [.d (.lit (.int .i64 r26.2.1))]))]) (by simp; exact Sub.table (by simp) (by simp)) ?_
        refine Chain.runK [] 2 fun K hK => ?_; simp; refine hK _ _ ?_; clear hK K
        refine Chain.sub (S' := mk 91 [] [(4, .d (.lit (.bool (!r82))))] []) Sub.tt ?_
        refine Chain.nil ?_
        refine AW.ret ?_
        cases h
        exact FinC.ret (by simp) (by simp)

end Go.Proofs.YtimkkjiplioohaaGreatDoor
