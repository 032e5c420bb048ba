/- Functions of the program as functional programs; the code computes them. -/
import Derived.Test.YtimkkjiplioohaaGreatDoorCe0
import Derived.Test.YtimkkjiplioohaaGreatDoorX4
namespace Go.Proofs.YtimkkjiplioohaaGreatDoor
open Go.Ab Go.Rp
attribute [-simp] List.all_eq_true Array.all_toList Array.all_eq_true

/-- stemma/stemref3.Leaves -/
def d13 : (N : Nat) → (a0 : S25) → (a1 : S28) → (a2 : (List Bool)) → Option ((List Bool) × Bool)
  | 0, _, _, _ => none
  | N + 1, a0, a1, a2 =>
    if ((a1.Children.length : Int) == 0) then (
      Option.bind (α := Bool) (
        if a1.Leaf < 0 then (
          some true
        ) else
        if a1.Leaf ≥ (a2.length : Int) then (
          some true
        ) else
        (idx a2 a1.Leaf).bind fun x9 =>
        some x9
      ) fun (v6 : Bool) =>
      if v6 = true then (
        some (a2, false)
      ) else
      (idx a2 a1.Leaf).bind fun _x12 =>
      letv (setI a2 a1.Leaf true) fun l14 =>
      some (l14, true)
    ) else
    Option.bind (α := (Bool × (List Bool))) (
      if ((a1.Children.length : Int) == 2) then (
        if (a1.Leaf == 0) then (
          (idx a1.Children 0).bind fun x26 =>
          (d13 N a0 x26 a2).bind fun r27 =>
          if r27.2 = true then (
            (idx a1.Children 1).bind fun x29 =>
            (d13 N a0 x29 r27.1).bind fun r30 =>
            some (r30.2, r30.1)
          ) else
          some (false, r27.1)
        ) else
        some (false, a2)
      ) else
      some (false, a2)
    ) fun ((v22, l23) : (Bool × (List Bool))) =>
    some (l23, v22)
theorem l13 : ∀ (N : Nat) (a0 : S25) (a1 : S28) (a2 : List Bool) (r : List Bool × Bool), d13 N a0 a1 a2 = some r → r.1.length = a2.length
  | 0, a0, a1, a2, r, h => by cases h
  | N + 1, a0, a1, a2, r, h => by
    unfold d13 at h
    split at h
    · obtain ⟨v6, _, h⟩ := bsome h
      split at h
      · cases h; rfl
      · obtain ⟨x12, hx12, h⟩ := bsome h
        obtain ⟨k13, hx12k, _⟩ := idx_some hx12
        obtain ⟨l14, gl14, h⟩ := lsome h
        obtain ⟨_, hl14n⟩ := setI_some cB gl14 hx12k
        cases h
        exact hl14n
    · obtain ⟨⟨v22, l23⟩, hj, h⟩ := bsome h
      dsimp only at h
      cases h
      split at hj
      · split at hj
        · obtain ⟨x26, _, hj⟩ := bsome hj
          obtain ⟨r27, hr27, hj⟩ := bsome hj
          have h1 := l13 N a0 x26 a2 r27 hr27
          split at hj
          · obtain ⟨x29, _, hj⟩ := bsome hj
            obtain ⟨r30, hr30, hj⟩ := bsome hj
            have h2 := l13 N a0 x29 r27.1 r30 hr30
            cases hj
            exact h2.trans h1
          · cases hj
            exact h1
        · cases hj; rfl
      · cases hj; rfl
set_option maxRecDepth 100000 in
set_option maxHeartbeats 4000000 in
theorem p13 (N : Nat) : ∀ (a0 : S25) (a1 : S28) (a2 : (List Bool)) (r : ((List Bool) × Bool)) (_ : d13 N a0 a1 a2 = some r), FunM Tryz.prog 13 [.agg [.d (.sl (a0.Sizes.map (cI .i64))), .d (.sl (a0.Selectivities.map cS115))], .agg [.d (.lit (.int .i64 a1.Leaf)), .d (.sl (a1.Children.map cS28))], .ref 1000 0 a2.length] [(1000, some (.arr 4 1 (a2.map cB)))] [1000] (.d (.lit (.bool r.2))) ([(1000, .arr 4 1 (r.1.map cB))]) := by
  induction N with
  | zero => intro a0 a1 a2 r h; cases h
  | succ N ih =>
  intro a0 a1 a2 r h
  unfold d13 at h
  refine FunM.enter 59 [(0, .agg [.d (.sl (a0.Sizes.map (cI .i64))), .d (.sl (a0.Selectivities.map cS115))]), (1, .agg [.d (.lit (.int .i64 a1.Leaf)), .d (.sl (a1.Children.map cS28))]), (2, .ref 1000 0 a2.length)] Tryz.func13 rfl (of_decide_eq_true rfl) rfl rfl ?_
  refine AW.seqR ?_
  refine Chain.runK [] 3 fun K hK => ?_; simp; refine hK _ _ ?_; clear hK K
  refine Chain.sub (S' := mk 59 [1000] [(2, .ref 1000 0 a2.length), (3, .ptr 3 0 0), (4, .ptr 4 0 0)] [(3, some (.box [.d (.sl (a0.Sizes.map (cI .i64))), .d (.sl (a0.Selectivities.map cS115))])), (4, some (.box [.d (.lit (.int .i64 a1.Leaf)), .d (.sl (a1.Children.map cS28))])), (1000, some (.arr 4 1 (a2.map cB)))]) Sub.tt ?_
  refine Chain.nil ?_
  refine AW.seq ?_
  refine AW.seqR ?_
  refine Chain.runK [] 4 fun K hK => ?_; simp; refine hK _ _ ?_; clear hK K
  refine Chain.sub (S' := mk 59 [1000] [(2, .ref 1000 0 a2.length), (3, .ptr 3 0 0), (4, .ptr 4 0 0), (10, .d (.lit (.bool ((a1.Children.length : Int) == 0))))] [(3, some (.box [.d (.sl (a0.Sizes.map (cI .i64))), .d (.sl (a0.Selectivities.map cS115))])), (4, some (.box [.d (.lit (.int .i64 a1.Leaf)), .d (.sl (a1.Children.map cS28))])), (1000, some (.arr 4 1 (a2.map cB)))]) Sub.tt ?_
  refine Chain.nil ?_
  replace h := isome h; rcases h with ⟨c1, h⟩ | ⟨c1, h⟩
  · have c1_ : ((a1.Children.length : Int) == 0) = true := c1
    refine AW.condT (b := ((a1.Children.length : Int) == 0)) rfl c1_ ?_
    refine AW.sub (Sub.bool 10 (b := ((a1.Children.length : Int) == 0)) rfl c1_) ?_
    refine AW.sub (S' := mk 59 [1000] [(2, .ref 1000 0 a2.length), (3, .ptr 3 0 0), (4, .ptr 4 0 0), (10, .d (.lit (.bool true)))] [(3, some (.box [.d (.sl (a0.Sizes.map (cI .i64))), .d (.sl (a0.Selectivities.map cS115))])), (4, some (.box [.d (.lit (.int .i64 a1.Leaf)), .d (.sl (a1.Children.map cS28))])), (1000, some (.arr 4 1 (a2.map cB)))]) (by simp; exact Sub.table (by simp) (by simp)) ?_
    refine AW.seq ?_
    replace h := bsome h; obtain ⟨v6, hj, h⟩ := h
    refine AW.cutR (mk 59 [1000] [(2, .ref 1000 0 a2.length), (4, .ptr 4 0 0), (27, .d (.lit (.bool v6)))] [(4, some (.box [.d (.lit (.int .i64 a1.Leaf)), .d (.sl (a1.Children.map cS28))])), (1000, some (.arr 4 1 (a2.map cB)))]) ?_ ?_
    · clear h; have h := hj; clear hj
      refine Chain.runK [] 4 fun K hK => ?_; simp; refine hK _ _ ?_; clear hK K
      refine Chain.sub (S' := mk 59 [1000] [(2, .ref 1000 0 a2.length), (4, .ptr 4 0 0), (14, .d (.lit (.bool (decide (a1.Leaf < 0)))))] [(4, some (.box [.d (.lit (.int .i64 a1.Leaf)), .d (.sl (a1.Children.map cS28))])), (1000, some (.arr 4 1 (a2.map cB)))]) Sub.tt ?_
      replace h := isome h; rcases h with ⟨c7, h⟩ | ⟨c7, h⟩
      · have c7_ : decide (a1.Leaf < 0) = true := decide_eq_true c7
        refine Chain.sub (Sub.bool 14 (b := decide (a1.Leaf < 0)) rfl c7_) ?_
        refine Chain.sub (S' := mk 59 [1000] [(2, .ref 1000 0 a2.length), (4, .ptr 4 0 0), (14, .d (.lit (.bool true)))] [(4, some (.box [.d (.lit (.int .i64 a1.Leaf)), .d (.sl (a1.Children.map cS28))])), (1000, some (.arr 4 1 (a2.map cB)))]) (by simp; exact Sub.table (by simp) (by simp)) ?_
        refine Chain.runK [] 13 fun K hK => ?_; simp; refine hK _ _ ?_; clear hK K
        refine Chain.sub (S' := mk 59 [1000] [(2, .ref 1000 0 a2.length), (4, .ptr 4 0 0), (27, .d (.lit (.bool true)))] [(4, some (.box [.d (.lit (.int .i64 a1.Leaf)), .d (.sl (a1.Children.map cS28))])), (1000, some (.arr 4 1 (a2.map cB)))]) Sub.tt ?_
        cases h
        exact Chain.nil Sub.tt
      · have c7_ : decide (a1.Leaf < 0) = false := decide_eq_false c7
        refine Chain.sub (Sub.bool 14 (b := decide (a1.Leaf < 0)) rfl c7_) ?_
        refine Chain.sub (S' := mk 59 [1000] [(2, .ref 1000 0 a2.length), (4, .ptr 4 0 0), (14, .d (.lit (.bool false)))] [(4, some (.box [.d (.lit (.int .i64 a1.Leaf)), .d (.sl (a1.Children.map cS28))])), (1000, some (.arr 4 1 (a2.map cB)))]) (by simp; exact Sub.table (by simp) (by simp)) ?_
        refine Chain.runK [] 7 fun K hK => ?_; simp; refine hK _ _ ?_; clear hK K
        refine Chain.sub (S' := mk 59 [1000] [(2, .ref 1000 0 a2.length), (4, .ptr 4 0 0), (21, .d (.lit (.bool (decide (a1.Leaf ≥ (a2.length : Int))))))] [(4, some (.box [.d (.lit (.int .i64 a1.Leaf)), .d (.sl (a1.Children.map cS28))])), (1000, some (.arr 4 1 (a2.map cB)))]) Sub.tt ?_
        replace h := isome h; rcases h with ⟨c8, h⟩ | ⟨c8, h⟩
        · have c8_ : decide (a1.Leaf ≥ (a2.length : Int)) = true := decide_eq_true c8
          refine Chain.sub (Sub.bool 21 (b := decide (a1.Leaf ≥ (a2.length : Int))) rfl c8_) ?_
          refine Chain.sub (S' := mk 59 [1000] [(2, .ref 1000 0 a2.length), (4, .ptr 4 0 0), (21, .d (.lit (.bool true)))] [(4, some (.box [.d (.lit (.int .i64 a1.Leaf)), .d (.sl (a1.Children.map cS28))])), (1000, some (.arr 4 1 (a2.map cB)))]) (by simp; exact Sub.table (by simp) (by simp)) ?_
          refine Chain.runK [] 6 fun K hK => ?_; simp; refine hK _ _ ?_; clear hK K
          refine Chain.sub (S' := mk 59 [1000] [(2, .ref 1000 0 a2.length), (4, .ptr 4 0 0), (27, .d (.lit (.bool true)))] [(4, some (.box [.d (.lit (.int .i64 a1.Leaf)), .d (.sl (a1.Children.map cS28))])), (1000, some (.arr 4 1 (a2.map cB)))]) Sub.tt ?_
          cases h
          exact Chain.nil Sub.tt
        · have c8_ : decide (a1.Leaf ≥ (a2.length : Int)) = false := decide_eq_false c8
          refine Chain.sub (Sub.bool 21 (b := decide (a1.Leaf ≥ (a2.length : Int))) rfl c8_) ?_
          refine Chain.sub (S' := mk 59 [1000] [(2, .ref 1000 0 a2.length), (4, .ptr 4 0 0), (21, .d (.lit (.bool false)))] [(4, some (.box [.d (.lit (.int .i64 a1.Leaf)), .d (.sl (a1.Children.map cS28))])), (1000, some (.arr 4 1 (a2.map cB)))]) (by simp; exact Sub.table (by simp) (by simp)) ?_
          replace h := bsome h; obtain ⟨x9, hx9, h⟩ := h
          obtain ⟨k10, hx9k, hx9, hx9a, hx9b⟩ := idx_some hx9
          refine Chain.runK [] 6 fun K hK => ?_; simp [hx9, hx9k, hx9a, hx9b]; refine hK _ _ ?_; clear hK K
          refine Chain.sub (S' := mk 59 [1000] [(2, .ref 1000 0 a2.length), (4, .ptr 4 0 0), (27, .d (.lit (.bool x9)))] [(4, some (.box [.d (.lit (.int .i64 a1.Leaf)), .d (.sl (a1.Children.map cS28))])), (1000, some (.arr 4 1 (a2.map cB)))]) Sub.tt ?_
          cases h
          exact Chain.nil Sub.tt
    · clear hj
      replace h := isome h; rcases h with ⟨c11, h⟩ | ⟨c11, h⟩
      · have c11_ : v6 = true := c11
        refine AW.condT (b := v6) rfl c11_ ?_
        refine AW.sub (Sub.bool 27 (b := v6) rfl c11_) ?_
        refine AW.sub (S' := mk 59 [1000] [(2, .ref 1000 0 a2.length), (4, .ptr 4 0 0), (27, .d (.lit (.bool true)))] [(4, some (.box [.d (.lit (.int .i64 a1.Leaf)), .d (.sl (a1.Children.map cS28))])), (1000, some (.arr 4 1 (a2.map cB)))]) (by simp; exact Sub.table (by simp) (by simp)) ?_
        refine AW.seqR ?_
        refine Chain.runK [] 1 fun K hK => ?_; simp; refine hK _ _ ?_; clear hK K
        refine Chain.sub (S' := mk 59 [1000] [(6, .d (.lit (.bool false)))] [(1000, some (.arr 4 1 (a2.map cB)))]) Sub.tt ?_
        refine Chain.nil ?_
        refine AW.ret ?_
        cases h
        refine thenQ_pass (by simp) ?_
        refine thenQ_pass (by simp) ?_
        exact FinF.ret (by simp) (by simp)
      · have c11_ : v6 = false := Bool.eq_false_iff.2 c11
        refine AW.condF (b := v6) rfl c11_ ?_
        refine AW.sub (Sub.bool 27 (b := v6) rfl c11_) ?_
        refine AW.sub (S' := mk 59 [1000] [(2, .ref 1000 0 a2.length), (4, .ptr 4 0 0), (27, .d (.lit (.bool false)))] [(4, some (.box [.d (.lit (.int .i64 a1.Leaf)), .d (.sl (a1.Children.map cS28))])), (1000, some (.arr 4 1 (a2.map cB)))]) (by simp; exact Sub.table (by simp) (by simp)) ?_
        refine AW.skip ?_
        refine thenQ_normal ?_
        refine AW.seqR ?_
        replace h := bsome h; obtain ⟨x12, hx12, h⟩ := h
        obtain ⟨k13, hx12k, hx12, hx12a, hx12b⟩ := idx_some hx12
        replace h := lsome h; obtain ⟨l14, gl14, h⟩ := h
        obtain ⟨hl14, hl14n⟩ := setI_some cB gl14 hx12k
        replace hl14 : (a2.map cB).set k13 [.lit (.bool true)] = l14.map cB := hl14
        clear gl14
        refine Chain.runK [] 5 fun K hK => ?_; simp [hx12, hx12k, hx12a, hx12b, hl14]; refine hK _ _ ?_; clear hK K
        refine Chain.sub (S' := mk 59 [1000] [] [(1000, some (.arr 4 1 (l14.map cB)))]) (Sub.table (by simp) (by simp)) ?_
        refine Chain.nil ?_
        refine AW.seqR ?_
        refine Chain.runK [] 1 fun K hK => ?_; simp; refine hK _ _ ?_; clear hK K
        refine Chain.sub (S' := mk 59 [1000] [(6, .d (.lit (.bool true)))] [(1000, some (.arr 4 1 (l14.map cB)))]) Sub.tt ?_
        refine Chain.nil ?_
        refine AW.ret ?_
        cases h
        refine thenQ_pass (by simp) ?_
        exact FinF.ret (by simp) (by simp)
  · have c1_ : ((a1.Children.length : Int) == 0) = false := Bool.eq_false_iff.2 c1
    refine AW.condF (b := ((a1.Children.length : Int) == 0)) rfl c1_ ?_
    refine AW.sub (Sub.bool 10 (b := ((a1.Children.length : Int) == 0)) rfl c1_) ?_
    refine AW.sub (S' := mk 59 [1000] [(2, .ref 1000 0 a2.length), (3, .ptr 3 0 0), (4, .ptr 4 0 0), (10, .d (.lit (.bool false)))] [(3, some (.box [.d (.sl (a0.Sizes.map (cI .i64))), .d (.sl (a0.Selectivities.map cS115))])), (4, some (.box [.d (.lit (.int .i64 a1.Leaf)), .d (.sl (a1.Children.map cS28))])), (1000, some (.arr 4 1 (a2.map cB)))]) (by simp; exact Sub.table (by simp) (by simp)) ?_
    refine AW.skip ?_
    refine thenQ_normal ?_
    replace h := bsome h; obtain ⟨⟨v22, l23⟩, hj, h⟩ := h
    dsimp only at h
    refine AW.cutB [16, 25] (by kernel_rfl) (by kernel_rfl) (mk 59 [1000] [(6, .d (.lit (.bool v22)))] [(1000, some (.arr 4 1 (l23.map cB)))]) ?_ ?_
    · clear h; have h := hj; clear hj
      refine MixS.segN 16 rfl rfl rfl ?_
      simp only [List.take_succ_cons, List.take_zero, List.drop_succ_cons, List.drop_zero]
      refine Chain.runQ 5 fun K hK => ?_; simp; refine hK _ _ ?_; clear hK K
      refine Chain.sub (S' := mk 59 [1000] [(2, .ref 1000 0 a2.length), (3, .ptr 3 0 0), (4, .ptr 4 0 0), (36, .d (.lit (.bool ((a1.Children.length : Int) == 2))))] [(3, some (.box [.d (.sl (a0.Sizes.map (cI .i64))), .d (.sl (a0.Selectivities.map cS115))])), (4, some (.box [.d (.lit (.int .i64 a1.Leaf)), .d (.sl (a1.Children.map cS28))])), (1000, some (.arr 4 1 (a2.map cB)))]) Sub.tt ?_
      replace h := isome h; rcases h with ⟨c24, h⟩ | ⟨c24, h⟩
      · have c24_ : ((a1.Children.length : Int) == 2) = true := c24
        refine Chain.sub (Sub.bool 36 (b := ((a1.Children.length : Int) == 2)) rfl c24_) ?_
        refine Chain.sub (S' := mk 59 [1000] [(2, .ref 1000 0 a2.length), (3, .ptr 3 0 0), (4, .ptr 4 0 0), (36, .d (.lit (.bool true)))] [(3, some (.box [.d (.sl (a0.Sizes.map (cI .i64))), .d (.sl (a0.Selectivities.map cS115))])), (4, some (.box [.d (.lit (.int .i64 a1.Leaf)), .d (.sl (a1.Children.map cS28))])), (1000, some (.arr 4 1 (a2.map cB)))]) (by simp; exact Sub.table (by simp) (by simp)) ?_
        refine Chain.runQ 5 fun K hK => ?_; simp; refine hK _ _ ?_; clear hK K
        refine Chain.sub (S' := mk 59 [1000] [(2, .ref 1000 0 a2.length), (3, .ptr 3 0 0), (4, .ptr 4 0 0), (41, .d (.lit (.bool (a1.Leaf == 0))))] [(3, some (.box [.d (.sl (a0.Sizes.map (cI .i64))), .d (.sl (a0.Selectivities.map cS115))])), (4, some (.box [.d (.lit (.int .i64 a1.Leaf)), .d (.sl (a1.Children.map cS28))])), (1000, some (.arr 4 1 (a2.map cB)))]) Sub.tt ?_
        replace h := isome h; rcases h with ⟨c25, h⟩ | ⟨c25, h⟩
        · have c25_ : (a1.Leaf == 0) = true := c25
          refine Chain.sub (Sub.bool 41 (b := (a1.Leaf == 0)) rfl c25_) ?_
          refine Chain.sub (S' := mk 59 [1000] [(2, .ref 1000 0 a2.length), (3, .ptr 3 0 0), (4, .ptr 4 0 0), (41, .d (.lit (.bool true)))] [(3, some (.box [.d (.sl (a0.Sizes.map (cI .i64))), .d (.sl (a0.Selectivities.map cS115))])), (4, some (.box [.d (.lit (.int .i64 a1.Leaf)), .d (.sl (a1.Children.map cS28))])), (1000, some (.arr 4 1 (a2.map cB)))]) (by simp; exact Sub.table (by simp) (by simp)) ?_
          replace h := bsome h; obtain ⟨x26, hx26, h⟩ := h
          obtain ⟨hx26, hx26b, hx26c⟩ := idx_someN (n := 0) hx26
          refine Chain.runQ 6 fun K hK => ?_; simp [hx26]; refine hK _ _ ?_; clear hK K
          refine Chain.sub (S' := mk 59 [1000] [(2, .ref 1000 0 a2.length), (3, .ptr 3 0 0), (4, .ptr 4 0 0), (41, .d (.lit (.bool true))), (42, .agg [.d (.sl (a0.Sizes.map (cI .i64))), .d (.sl (a0.Selectivities.map cS115))]), (46, .agg [.d (.lit (.int .i64 x26.Leaf)), .d (.sl (x26.Children.map cS28))]), (47, .ref 1000 0 a2.length)] [(3, some (.box [.d (.sl (a0.Sizes.map (cI .i64))), .d (.sl (a0.Selectivities.map cS115))])), (4, some (.box [.d (.lit (.int .i64 a1.Leaf)), .d (.sl (a1.Children.map cS28))])), (1000, some (.arr 4 1 (a2.map cB)))]) Sub.tt ?_
          replace h := bsome h; obtain ⟨r27, hr27, h⟩ := h
          refine Chain.nil ?_
          refine MixS.bar rfl ?_
          refine Chain.callF (ih a0 x26 a2 r27 hr27) [(1000, 1000)] [1000] [(1000, 1000)] [(1000, .arr 4 1 (r27.1.map cB))] (.d (.lit (.bool r27.2))) (by simp) rfl (by simp <;> rfl) (by simp) (by simp) (by simp) (by simp) (by simp) ent13 (by simp) (by simp) (by simp) (by simp) (by simp) (by simp) ?_
          have hlr27 := l13 N a0 x26 a2 r27 hr27
          refine Chain.sub (S' := mk 59 [1000] [(2, .ref 1000 0 r27.1.length), (3, .ptr 3 0 0), (4, .ptr 4 0 0), (41, .d (.lit (.bool true))), (42, .agg [.d (.sl (a0.Sizes.map (cI .i64))), .d (.sl (a0.Selectivities.map cS115))]), (46, .agg [.d (.lit (.int .i64 x26.Leaf)), .d (.sl (x26.Children.map cS28))]), (47, .ref 1000 0 r27.1.length), (48, .d (.lit (.bool r27.2)))] [(3, some (.box [.d (.sl (a0.Sizes.map (cI .i64))), .d (.sl (a0.Selectivities.map cS115))])), (4, some (.box [.d (.lit (.int .i64 a1.Leaf)), .d (.sl (a1.Children.map cS28))])), (1000, some (.arr 4 1 (r27.1.map cB)))]) (by simp [hlr27]; exact Sub.table (by simp) (by simp)) ?_
          refine Chain.nil ?_
          refine MixS.segN 8 rfl rfl rfl ?_
          simp only [List.take_succ_cons, List.take_zero, List.drop_succ_cons, List.drop_zero]
          refine Chain.runQ 2 fun K hK => ?_; simp; refine hK _ _ ?_; clear hK K
          refine Chain.sub (S' := mk 59 [1000] [(2, .ref 1000 0 r27.1.length), (3, .ptr 3 0 0), (4, .ptr 4 0 0), (50, .d (.lit (.bool r27.2)))] [(3, some (.box [.d (.sl (a0.Sizes.map (cI .i64))), .d (.sl (a0.Selectivities.map cS115))])), (4, some (.box [.d (.lit (.int .i64 a1.Leaf)), .d (.sl (a1.Children.map cS28))])), (1000, some (.arr 4 1 (r27.1.map cB)))]) Sub.tt ?_
          replace h := isome h; rcases h with ⟨c28, h⟩ | ⟨c28, h⟩
          · have c28_ : r27.2 = true := c28
            refine Chain.sub (Sub.bool 50 (b := r27.2) rfl c28_) ?_
            refine Chain.sub (S' := mk 59 [1000] [(2, .ref 1000 0 r27.1.length), (3, .ptr 3 0 0), (4, .ptr 4 0 0), (50, .d (.lit (.bool true)))] [(3, some (.box [.d (.sl (a0.Sizes.map (cI .i64))), .d (.sl (a0.Selectivities.map cS115))])), (4, some (.box [.d (.lit (.int .i64 a1.Leaf)), .d (.sl (a1.Children.map cS28))])), (1000, some (.arr 4 1 (r27.1.map cB)))]) (by simp; exact Sub.table (by simp) (by simp)) ?_
            replace h := bsome h; obtain ⟨x29, hx29, h⟩ := h
            obtain ⟨hx29, hx29b, hx29c⟩ := idx_someN (n := 1) hx29
            refine Chain.runQ 6 fun K hK => ?_; simp [hx29]; refine hK _ _ ?_; clear hK K
            refine Chain.sub (S' := mk 59 [1000] [(50, .d (.lit (.bool true))), (51, .agg [.d (.sl (a0.Sizes.map (cI .i64))), .d (.sl (a0.Selectivities.map cS115))]), (55, .agg [.d (.lit (.int .i64 x29.Leaf)), .d (.sl (x29.Children.map cS28))]), (56, .ref 1000 0 r27.1.length)] [(1000, some (.arr 4 1 (r27.1.map cB)))]) Sub.tt ?_
            replace h := bsome h; obtain ⟨r30, hr30, h⟩ := h
            refine Chain.nil ?_
            refine MixS.bar rfl ?_
            refine Chain.callF (ih a0 x29 r27.1 r30 hr30) [(1000, 1000)] [1000] [(1000, 1000)] [(1000, .arr 4 1 (r30.1.map cB))] (.d (.lit (.bool r30.2))) (by simp) rfl (by simp <;> rfl) (by simp) (by simp) (by simp) (by simp) (by simp) ent13 (by simp) (by simp) (by simp) (by simp) (by simp) (by simp) ?_
            have hlr30 := l13 N a0 x29 r27.1 r30 hr30
            refine Chain.sub (S' := mk 59 [1000] [(50, .d (.lit (.bool true))), (51, .agg [.d (.sl (a0.Sizes.map (cI .i64))), .d (.sl (a0.Selectivities.map cS115))]), (55, .agg [.d (.lit (.int .i64 x29.Leaf)), .d (.sl (x29.Children.map cS28))]), (56, .ref 1000 0 r30.1.length), (57, .d (.lit (.bool r30.2)))] [(1000, some (.arr 4 1 (r30.1.map cB)))]) (by simp [hlr30]; exact Sub.table (by simp) (by simp)) ?_
            refine Chain.nil ?_
            refine MixS.segN 2 rfl rfl rfl ?_
            simp only [List.take_succ_cons, List.take_zero, List.drop_succ_cons, List.drop_zero]
            refine Chain.runQ 2 fun K hK => ?_; simp; refine hK _ _ ?_; clear hK K
            refine Chain.sub (S' := mk 59 [1000] [(6, .d (.lit (.bool r30.2)))] [(1000, some (.arr 4 1 (r30.1.map cB)))]) Sub.tt ?_
            cases h
            exact Chain.nil (MixS.nil Sub.tt)
          · have c28_ : r27.2 = false := Bool.eq_false_iff.2 c28
            refine Chain.sub (Sub.bool 50 (b := r27.2) rfl c28_) ?_
            refine Chain.sub (S' := mk 59 [1000] [(2, .ref 1000 0 r27.1.length), (3, .ptr 3 0 0), (4, .ptr 4 0 0), (50, .d (.lit (.bool false)))] [(3, some (.box [.d (.sl (a0.Sizes.map (cI .i64))), .d (.sl (a0.Selectivities.map cS115))])), (4, some (.box [.d (.lit (.int .i64 a1.Leaf)), .d (.sl (a1.Children.map cS28))])), (1000, some (.arr 4 1 (r27.1.map cB)))]) (by simp; exact Sub.table (by simp) (by simp)) ?_
            refine Chain.runQ 6 fun K hK => ?_; simp; refine hK _ _ ?_; clear hK K
            refine Chain.nil ?_
            refine MixS.bar rfl ?_
            refine Chain.runK [] 1 fun K hK => ?_; simp; refine hK _ _ ?_; clear hK K
            refine Chain.nil ?_
            refine MixS.segN 2 rfl rfl rfl ?_
            simp only [List.take_succ_cons, List.take_zero, List.drop_succ_cons, List.drop_zero]
            refine Chain.runQ 2 fun K hK => ?_; simp; refine hK _ _ ?_; clear hK K
            refine Chain.sub (S' := mk 59 [1000] [(6, .d (.lit (.bool false)))] [(1000, some (.arr 4 1 (r27.1.map cB)))]) Sub.tt ?_
            cases h
            exact Chain.nil (MixS.nil Sub.tt)
        · have c25_ : (a1.Leaf == 0) = false := Bool.eq_false_iff.2 c25
          refine Chain.sub (Sub.bool 41 (b := (a1.Leaf == 0)) rfl c25_) ?_
          refine Chain.sub (S' := mk 59 [1000] [(2, .ref 1000 0 a2.length), (3, .ptr 3 0 0), (4, .ptr 4 0 0), (41, .d (.lit (.bool false)))] [(3, some (.box [.d (.sl (a0.Sizes.map (cI .i64))), .d (.sl (a0.Selectivities.map cS115))])), (4, some (.box [.d (.lit (.int .i64 a1.Leaf)), .d (.sl (a1.Children.map cS28))])), (1000, some (.arr 4 1 (a2.map cB)))]) (by simp; exact Sub.table (by simp) (by simp)) ?_
          refine Chain.runQ 6 fun K hK => ?_; simp; refine hK _ _ ?_; clear hK K
          refine Chain.nil ?_
          refine MixS.bar rfl ?_
          refine Chain.runK [] 1 fun K hK => ?_; simp; refine hK _ _ ?_; clear hK K
          refine Chain.nil ?_
          refine MixS.segN 8 rfl rfl rfl ?_
          simp only [List.take_succ_cons, List.take_zero, List.drop_succ_cons, List.drop_zero]
          refine Chain.runQ 8 fun K hK => ?_; simp; refine hK _ _ ?_; clear hK K
          refine Chain.nil ?_
          refine MixS.bar rfl ?_
          refine Chain.runK [] 1 fun K hK => ?_; simp; refine hK _ _ ?_; clear hK K
          refine Chain.nil ?_
          refine MixS.segN 2 rfl rfl rfl ?_
          simp only [List.take_succ_cons, List.take_zero, List.drop_succ_cons, List.drop_zero]
          refine Chain.runQ 2 fun K hK => ?_; simp; refine hK _ _ ?_; clear hK K
          refine Chain.sub (S' := mk 59 [1000] [(6, .d (.lit (.bool false)))] [(1000, some (.arr 4 1 (a2.map cB)))]) Sub.tt ?_
          cases h
          exact Chain.nil (MixS.nil Sub.tt)
      · have c24_ : ((a1.Children.length : Int) == 2) = false := Bool.eq_false_iff.2 c24
        refine Chain.sub (Sub.bool 36 (b := ((a1.Children.length : Int) == 2)) rfl c24_) ?_
        refine Chain.sub (S' := mk 59 [1000] [(2, .ref 1000 0 a2.length), (3, .ptr 3 0 0), (4, .ptr 4 0 0), (36, .d (.lit (.bool false)))] [(3, some (.box [.d (.sl (a0.Sizes.map (cI .i64))), .d (.sl (a0.Selectivities.map cS115))])), (4, some (.box [.d (.lit (.int .i64 a1.Leaf)), .d (.sl (a1.Children.map cS28))])), (1000, some (.arr 4 1 (a2.map cB)))]) (by simp; exact Sub.table (by simp) (by simp)) ?_
        refine Chain.runQ 11 fun K hK => ?_; simp; refine hK _ _ ?_; clear hK K
        refine Chain.nil ?_
        refine MixS.bar rfl ?_
        refine Chain.runK [] 1 fun K hK => ?_; simp; refine hK _ _ ?_; clear hK K
        refine Chain.nil ?_
        refine MixS.segN 8 rfl rfl rfl ?_
        simp only [List.take_succ_cons, List.take_zero, List.drop_succ_cons, List.drop_zero]
        refine Chain.runQ 8 fun K hK => ?_; simp; refine hK _ _ ?_; clear hK K
        refine Chain.nil ?_
        refine MixS.bar rfl ?_
        refine Chain.runK [] 1 fun K hK => ?_; simp; refine hK _ _ ?_; clear hK K
        refine Chain.nil ?_
        refine MixS.segN 2 rfl rfl rfl ?_
        simp only [List.take_succ_cons, List.take_zero, List.drop_succ_cons, List.drop_zero]
        refine Chain.runQ 2 fun K hK => ?_; simp; refine hK _ _ ?_; clear hK K
        refine Chain.sub (S' := mk 59 [1000] [(6, .d (.lit (.bool false)))] [(1000, some (.arr 4 1 (a2.map cB)))]) Sub.tt ?_
        cases h
        exact Chain.nil (MixS.nil Sub.tt)
    · clear hj
      refine AW.ret ?_
      cases h
      exact FinF.ret (by simp) (by simp)

end Go.Proofs.YtimkkjiplioohaaGreatDoor
