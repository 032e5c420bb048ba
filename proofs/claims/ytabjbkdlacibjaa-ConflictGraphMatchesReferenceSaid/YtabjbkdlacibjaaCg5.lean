/- Functions of the program as functional programs; the code computes them. -/
import Derived.Test.YtabjbkdlacibjaaCg4
namespace Go.Proofs.Ytabjbkdlacibjaa
open Go.Ab Go.Rp
attribute [-simp] List.all_eq_true Array.all_toList Array.all_eq_true

/-- stemma/stemref5.TransactionsOf -/
def d23 (N : Nat) (a0 : (List S27)) : Option (List Int) :=
  Option.bind (α := List Int) (
    iterN (σ := ((List Int) × Int)) (ρ := List Int) (fun ((l30, v31) : ((List Int) × Int)) =>
      if v31 < 20 then (
        Option.bind (α := List Int) (
          iterN (σ := Int) (ρ := List Int) (fun (v100 : Int) =>
            if v100 < (a0.length : Int) then (
              (idx a0 v100).bind fun x116 =>
              if (x116.Tx == v31) then (
                (appL 8 l30 [v31]).bind fun l119 =>
                some (.inr (l30 ++ [v31]))
              ) else
              (chkI (v100 + 1)).bind fun v120 =>
              some (.inl v120)
            ) else
            some (.inr l30)
          ) N 0
        ) fun (l114 : List Int) =>
        (chkI (v31 + 1)).bind fun v121 =>
        some (.inl (l114, v121))
      ) else
      some (.inr l30)
    ) N (([] : List Int), 0)
  ) fun (l92 : List Int) =>
  some l92
set_option maxRecDepth 100000 in
set_option maxHeartbeats 4000000 in
theorem p23 (N : Nat) (a0 : (List S27)) (r : (List Int)) (h : d23 N a0 = some r) : FunC Try.prog 23 [.d (.sl (a0.map cS27))] (.d (.sl (r.map (cI .i64)))) := by
  unfold d23 at h
  refine FunC.enter 27 [(0, .d (.sl (a0.map cS27)))] (by simp) Try.func23 rfl (of_decide_eq_true rfl) rfl rfl ?_
  refine AW.seqR ?_
  refine Chain.runK [] 1 fun K hK => ?_; simp; refine hK _ _ ?_; clear hK K
  refine Chain.sub (S' := mk 27 [] [(0, .d (.sl (a0.map cS27)))] []) (Sub.table (by simp) (by simp)) ?_
  refine Chain.nil ?_
  refine AW.seqR ?_
  refine Chain.runK [] 1 fun K hK => ?_; simp; refine hK _ _ ?_; clear hK K
  refine Chain.sub (S' := mk 27 [] [(0, .d (.sl (a0.map cS27))), (3, .d (.lit (.slice none 0 0)))] []) (Sub.table (by simp) (by simp)) ?_
  refine Chain.nil ?_
  refine AW.seq ?_
  refine AW.seqR ?_
  refine Chain.runK [] 1 fun K hK => ?_; simp; refine hK _ _ ?_; clear hK K
  refine Chain.sub (S' := mk 27 [] [(0, .d (.sl (a0.map cS27))), (3, .d (.lit (.slice none 0 0))), (7, .d (.lit (.int .i64 0)))] []) (Sub.table (by simp) (by simp)) ?_
  refine Chain.nil ?_
  refine AW.lastN (fun (l92 : List Int) => mk 27 [] [(3, .ref 23 0 l92.length)] [(23, some (.arr 3 1 (l92.map (cI .i64))))]) h ?_ ?_ <;> clear h
  · intro o h
    refine AW.block ?_
    refine AW.iter (fun ((l30, v31) : ((List Int) × Int)) => mk 27 [] [(0, .d (.sl (a0.map cS27))), (3, .ref 23 0 l30.length), (7, .d (.lit (.int .i64 v31)))] [(23, some (.arr 3 1 (l30.map (cI .i64))))]) h (Sub.trans (Sub.nilOwn (t := 3) (id := 23) (T := 3) (n := 1) rfl rfl (by decide)) (by simp; exact Sub.table (by simp) (by simp))) ?_
    clear h
    rintro ⟨l30, v31⟩ x h
    dsimp only at h ⊢
    refine AW.seqR ?_
    refine Chain.runK [] 1 fun K hK => ?_; simp; refine hK _ _ ?_; clear hK K
    refine Chain.sub (S' := mk 27 [] [(0, .d (.sl (a0.map cS27))), (3, .ref 23 0 l30.length), (7, .d (.lit (.int .i64 v31))), (8, .d (.lit (.bool (decide (v31 < 20)))))] [(23, some (.arr 3 1 (l30.map (cI .i64))))]) (Sub.table (by simp) (by simp)) ?_
    refine Chain.nil ?_
    refine AW.seq ?_
    replace h := isome h; rcases h with ⟨c93, h⟩ | ⟨c93, h⟩
    · have c93_ : decide (v31 < 20) = true := decide_eq_true c93
      refine AW.condT (b := decide (v31 < 20)) rfl c93_ ?_
      refine AW.sub (Sub.bool 8 (b := decide (v31 < 20)) rfl c93_) ?_
      refine AW.sub (S' := mk 27 [] [(0, .d (.sl (a0.map cS27))), (3, .ref 23 0 l30.length), (7, .d (.lit (.int .i64 v31))), (8, .d (.lit (.bool true)))] [(23, some (.arr 3 1 (l30.map (cI .i64))))]) (by simp; exact Sub.table (by simp) (by simp)) ?_
      refine AW.skip ?_
      refine thenQ_normal ?_
      refine AW.seq ?_
      refine AW.block ?_
      refine AW.seqR ?_
      refine Chain.runK [] 2 fun K hK => ?_; simp; refine hK _ _ ?_; clear hK K
      refine Chain.sub (S' := mk 27 [] [(0, .d (.sl (a0.map cS27))), (3, .ref 23 0 l30.length), (4, .d (.lit (.int .i64 v31))), (7, .d (.lit (.int .i64 v31)))] [(23, some (.arr 3 1 (l30.map (cI .i64))))]) (Sub.table (by simp) (by simp)) ?_
      refine Chain.nil ?_
      refine AW.seqR ?_
      refine Chain.runK [] 3 fun K hK => ?_; simp; refine hK _ _ ?_; clear hK K
      refine Chain.sub (S' := mk 27 [] [(0, .d (.sl (a0.map cS27))), (3, .ref 23 0 l30.length), (4, .d (.lit (.int .i64 v31))), (7, .d (.lit (.int .i64 v31))), (10, .d (.sl (a0.map cS27))), (11, .d (.lit (.int .i64 (a0.length : Int)))), (12, .d (.lit (.int .i64 0)))] [(23, some (.arr 3 1 (l30.map (cI .i64))))]) (Sub.table (by simp) (by simp)) ?_
      refine Chain.nil ?_
      refine AW.lastN (fun (l114 : List Int) => mk 27 [] [(0, .d (.sl (a0.map cS27))), (3, .ref 23 0 l114.length), (7, .d (.lit (.int .i64 v31)))] [(23, some (.arr 3 1 (l114.map (cI .i64))))]) h ?_ ?_ <;> clear h
      · intro o h
        refine AW.block ?_
        refine AW.iter (fun (v100 : Int) => mk 27 [] [(0, .d (.sl (a0.map cS27))), (3, .ref 23 0 l30.length), (4, .d (.lit (.int .i64 v31))), (7, .d (.lit (.int .i64 v31))), (10, .d (.sl (a0.map cS27))), (11, .d (.lit (.int .i64 (a0.length : Int)))), (12, .d (.lit (.int .i64 v100)))] [(23, some (.arr 3 1 (l30.map (cI .i64))))]) h (Sub.table (by simp) (by simp)) ?_
        clear h
        rintro v100 x h
        refine AW.seqR ?_
        refine Chain.runK [] 1 fun K hK => ?_; simp; refine hK _ _ ?_; clear hK K
        refine Chain.sub (S' := mk 27 [] [(0, .d (.sl (a0.map cS27))), (3, .ref 23 0 l30.length), (4, .d (.lit (.int .i64 v31))), (7, .d (.lit (.int .i64 v31))), (10, .d (.sl (a0.map cS27))), (11, .d (.lit (.int .i64 (a0.length : Int)))), (12, .d (.lit (.int .i64 v100))), (13, .d (.lit (.bool (decide (v100 < (a0.length : Int))))))] [(23, some (.arr 3 1 (l30.map (cI .i64))))]) (Sub.table (by simp) (by simp)) ?_
        refine Chain.nil ?_
        refine AW.seq ?_
        replace h := isome h; rcases h with ⟨c115, h⟩ | ⟨c115, h⟩
        · have c115_ : decide (v100 < (a0.length : Int)) = true := decide_eq_true c115
          refine AW.condT (b := decide (v100 < (a0.length : Int))) rfl c115_ ?_
          refine AW.sub (Sub.bool 13 (b := decide (v100 < (a0.length : Int))) rfl c115_) ?_
          refine AW.sub (S' := mk 27 [] [(0, .d (.sl (a0.map cS27))), (3, .ref 23 0 l30.length), (4, .d (.lit (.int .i64 v31))), (7, .d (.lit (.int .i64 v31))), (10, .d (.sl (a0.map cS27))), (11, .d (.lit (.int .i64 (a0.length : Int)))), (12, .d (.lit (.int .i64 v100))), (13, .d (.lit (.bool true)))] [(23, some (.arr 3 1 (l30.map (cI .i64))))]) (by simp; exact Sub.table (by simp) (by simp)) ?_
          refine AW.skip ?_
          refine thenQ_normal ?_
          refine AW.seq ?_
          refine AW.block ?_
          refine AW.seqR ?_
          replace h := bsome h; obtain ⟨x116, hx116, h⟩ := h
          obtain ⟨k117, hx116k, hx116, hx116a, hx116b⟩ := idx_some hx116
          refine Chain.runK [] 4 fun K hK => ?_; simp [hx116, hx116k, hx116a]; refine hK _ _ ?_; clear hK K
          refine Chain.sub (S' := mk 27 [] [(0, .d (.sl (a0.map cS27))), (3, .ref 23 0 l30.length), (4, .d (.lit (.int .i64 v31))), (6, .ptr 6 0 0), (7, .d (.lit (.int .i64 v31))), (10, .d (.sl (a0.map cS27))), (11, .d (.lit (.int .i64 (a0.length : Int)))), (12, .d (.lit (.int .i64 v100)))] [(6, some (.box [.d (.lit (.int .i64 x116.Tx)), .d (.lit (.int .i64 x116.Kind)), .d (.lit (.string x116.Key))])), (23, some (.arr 3 1 (l30.map (cI .i64))))]) (Sub.table (by simp) (by simp)) ?_
          refine Chain.nil ?_
          refine AW.seqR ?_
          refine Chain.runK [] 4 fun K hK => ?_; simp; refine hK _ _ ?_; clear hK K
          refine Chain.sub (S' := mk 27 [] [(0, .d (.sl (a0.map cS27))), (3, .ref 23 0 l30.length), (4, .d (.lit (.int .i64 v31))), (7, .d (.lit (.int .i64 v31))), (10, .d (.sl (a0.map cS27))), (11, .d (.lit (.int .i64 (a0.length : Int)))), (12, .d (.lit (.int .i64 v100))), (19, .d (.lit (.bool (x116.Tx == v31))))] [(23, some (.arr 3 1 (l30.map (cI .i64))))]) (Sub.table (by simp) (by simp)) ?_
          refine Chain.nil ?_
          replace h := isome h; rcases h with ⟨c118, h⟩ | ⟨c118, h⟩
          · have c118_ : (x116.Tx == v31) = true := c118
            refine AW.condT (b := (x116.Tx == v31)) rfl c118_ ?_
            refine AW.sub (Sub.bool 19 (b := (x116.Tx == v31)) rfl c118_) ?_
            refine AW.sub (S' := mk 27 [] [(0, .d (.sl (a0.map cS27))), (3, .ref 23 0 l30.length), (4, .d (.lit (.int .i64 v31))), (7, .d (.lit (.int .i64 v31))), (10, .d (.sl (a0.map cS27))), (11, .d (.lit (.int .i64 (a0.length : Int)))), (12, .d (.lit (.int .i64 v100))), (19, .d (.lit (.bool true)))] [(23, some (.arr 3 1 (l30.map (cI .i64))))]) (by simp; exact Sub.table (by simp) (by simp)) ?_
            refine AW.seqR ?_
            replace h := bsome h; obtain ⟨l119, hl119, h⟩ := h
            obtain ⟨hl119a, hl119⟩ := appL_some hl119
            subst hl119
            try simp only [List.length_append, List.length_cons, List.length_nil, Nat.zero_add] at hl119a
            refine Chain.runK [22] 5 fun K hK => ?_; simp [hl119a]; refine hK _ _ ?_; clear hK K
            refine Chain.sub (S' := mk 27 [] [(0, .d (.sl (a0.map cS27))), (3, .ref 23 0 ((l30 ++ [v31]).length)), (7, .d (.lit (.int .i64 v31)))] [(23, some (.arr 3 1 ((l30 ++ [v31]).map (cI .i64))))]) (Sub.table (by simp) (by simp)) ?_
            refine Chain.nil ?_
            refine AW.exit ?_
            cases h
            refine blockQ.pass (by decide) ?_
            refine thenQ_pass (by simp) ?_
            refine PostI.out (by simp) ?_
            rintro rfl
            refine blockQ.hit ?_
            refine PostN.next ?_
            exact (Sub.table (by simp) (by simp))
          · have c118_ : (x116.Tx == v31) = false := Bool.eq_false_iff.2 c118
            refine AW.condF (b := (x116.Tx == v31)) rfl c118_ ?_
            refine AW.sub (Sub.bool 19 (b := (x116.Tx == v31)) rfl c118_) ?_
            refine AW.sub (S' := mk 27 [] [(0, .d (.sl (a0.map cS27))), (3, .ref 23 0 l30.length), (4, .d (.lit (.int .i64 v31))), (7, .d (.lit (.int .i64 v31))), (10, .d (.sl (a0.map cS27))), (11, .d (.lit (.int .i64 (a0.length : Int)))), (12, .d (.lit (.int .i64 v100))), (19, .d (.lit (.bool false)))] [(23, some (.arr 3 1 (l30.map (cI .i64))))]) (by simp; exact Sub.table (by simp) (by simp)) ?_
            refine AW.skip ?_
            refine blockQ.normal ?_
            refine thenQ_normal ?_
            refine AW.region ?_
            replace h := bsome h; obtain ⟨v120, hv120, h⟩ := h
            have hv120 := chkI_some hv120
            refine Chain.runK [] 2 fun K hK => ?_; simp [hv120]; refine hK _ _ ?_; clear hK K
            refine Chain.sub (S' := mk 27 [] [(0, .d (.sl (a0.map cS27))), (3, .ref 23 0 l30.length), (4, .d (.lit (.int .i64 v31))), (7, .d (.lit (.int .i64 v31))), (10, .d (.sl (a0.map cS27))), (11, .d (.lit (.int .i64 (a0.length : Int)))), (12, .d (.lit (.int .i64 v120)))] [(23, some (.arr 3 1 (l30.map (cI .i64))))]) (Sub.table (by simp) (by simp)) ?_
            refine Chain.nil ?_
            cases h
            refine PostI.next ?_
            exact (Sub.table (by simp) (by simp))
        · have c115_ : decide (v100 < (a0.length : Int)) = false := decide_eq_false c115
          refine AW.condF (b := decide (v100 < (a0.length : Int))) rfl c115_ ?_
          refine AW.sub (Sub.bool 13 (b := decide (v100 < (a0.length : Int))) rfl c115_) ?_
          refine AW.sub (S' := mk 27 [] [(0, .d (.sl (a0.map cS27))), (3, .ref 23 0 l30.length), (4, .d (.lit (.int .i64 v31))), (7, .d (.lit (.int .i64 v31))), (10, .d (.sl (a0.map cS27))), (11, .d (.lit (.int .i64 (a0.length : Int)))), (12, .d (.lit (.int .i64 v100))), (13, .d (.lit (.bool false)))] [(23, some (.arr 3 1 (l30.map (cI .i64))))]) (by simp; exact Sub.table (by simp) (by simp)) ?_
          refine AW.exit ?_
          cases h
          refine thenQ_pass (by simp) ?_
          refine PostI.out (by simp) ?_
          rintro rfl
          refine blockQ.hit ?_
          refine PostN.next ?_
          exact (Sub.table (by simp) (by simp))
      · rintro l114 h
        refine blockQ.normal ?_
        refine thenQ_normal ?_
        refine AW.region ?_
        replace h := bsome h; obtain ⟨v121, hv121, h⟩ := h
        have hv121 := chkI_some hv121
        refine Chain.runK [] 2 fun K hK => ?_; simp [hv121]; refine hK _ _ ?_; clear hK K
        refine Chain.sub (S' := mk 27 [] [(0, .d (.sl (a0.map cS27))), (3, .ref 23 0 l114.length), (7, .d (.lit (.int .i64 v121)))] [(23, some (.arr 3 1 (l114.map (cI .i64))))]) (Sub.table (by simp) (by simp)) ?_
        refine Chain.nil ?_
        cases h
        refine PostI.next ?_
        exact (Sub.table (by simp) (by simp))
    · have c93_ : decide (v31 < 20) = false := decide_eq_false c93
      refine AW.condF (b := decide (v31 < 20)) rfl c93_ ?_
      refine AW.sub (Sub.bool 8 (b := decide (v31 < 20)) rfl c93_) ?_
      refine AW.sub (S' := mk 27 [] [(0, .d (.sl (a0.map cS27))), (3, .ref 23 0 l30.length), (7, .d (.lit (.int .i64 v31))), (8, .d (.lit (.bool false)))] [(23, some (.arr 3 1 (l30.map (cI .i64))))]) (by simp; exact Sub.table (by simp) (by simp)) ?_
      refine AW.exit ?_
      cases h
      refine thenQ_pass (by simp) ?_
      refine PostI.out (by simp) ?_
      rintro rfl
      refine blockQ.hit ?_
      refine PostN.next ?_
      exact (Sub.table (by simp) (by simp))
  · rintro l92 h
    refine thenQ_normal ?_
    refine AW.seqR ?_
    refine Chain.runK [] 2 fun K hK => ?_; simp; refine hK _ _ ?_; clear hK K
    refine Chain.sub (S' := mk 27 [] [(2, .ref 23 0 l92.length)] [(23, some (.arr 3 1 (l92.map (cI .i64))))]) (Sub.table (by simp) (by simp)) ?_
    refine Chain.nil ?_
    refine AW.sub (Sub.freeze 23 rfl) ?_
    refine AW.sub (S' := mk 27 [] [(2, .d (.sl (l92.map (cI .i64))))] []) (by simp; exact Sub.table (by simp) (by simp)) ?_
    refine AW.ret ?_
    cases h
    exact FinC.ret (by simp) (by simp)

/-- slices.Equal[[][2]int,[2]int] -/
def d24 (N : Nat) (a0 : (List S43)) (a1 : (List S43)) : Option Bool :=
  if ((a0.length : Int) != (a1.length : Int)) then (
    some false
  ) else
  bindO (β := Unit) (ρ := Bool) (
    iterN (σ := Int) (ρ := (Out Unit Bool)) (fun (v8 : Int) =>
      if v8 < (a0.length : Int) then (
        (idx a0 v8).bind fun x23 =>
        (idx a1 v8).bind fun x25 =>
        if (!beqS43 x23 x25) = true then (
          some (.inr (.ret false))
        ) else
        (chkI (v8 + 1)).bind fun v27 =>
        some (.inl v27)
      ) else
      some (.inr (.go ()))
    ) N 0
  ) fun (_ : Unit) =>
  some true
set_option maxRecDepth 100000 in
set_option maxHeartbeats 4000000 in
theorem p24 (N : Nat) (a0 : (List S43)) (a1 : (List S43)) (r : Bool) (h : d24 N a0 a1 = some r) : FunC Try.prog 24 [.d (.sl (a0.map cS43)), .d (.sl (a1.map cS43))] (.d (.lit (.bool r))) := by
  unfold d24 at h
  refine FunC.enter 26 [(0, .d (.sl (a0.map cS43))), (1, .d (.sl (a1.map cS43)))] (by simp) Try.func24 rfl (of_decide_eq_true rfl) rfl rfl ?_
  refine AW.seqR ?_
  refine Chain.runK [] 1 fun K hK => ?_; simp; refine hK _ _ ?_; clear hK K
  refine Chain.sub (S' := mk 26 [] [(0, .d (.sl (a0.map cS43))), (1, .d (.sl (a1.map cS43)))] []) (Sub.table (by simp) (by simp)) ?_
  refine Chain.nil ?_
  refine AW.seq ?_
  refine AW.seqR ?_
  refine Chain.runK [] 5 fun K hK => ?_; simp; refine hK _ _ ?_; clear hK K
  refine Chain.sub (S' := mk 26 [] [(0, .d (.sl (a0.map cS43))), (1, .d (.sl (a1.map cS43))), (10, .d (.lit (.bool ((a0.length : Int) != (a1.length : Int)))))] []) (Sub.table (by simp) (by simp)) ?_
  refine Chain.nil ?_
  replace h := isome h; rcases h with ⟨c1, h⟩ | ⟨c1, h⟩
  · have c1_ : ((a0.length : Int) != (a1.length : Int)) = true := c1
    refine AW.condT (b := ((a0.length : Int) != (a1.length : Int))) rfl c1_ ?_
    refine AW.sub (Sub.bool 10 (b := ((a0.length : Int) != (a1.length : Int))) rfl c1_) ?_
    refine AW.sub (S' := mk 26 [] [(0, .d (.sl (a0.map cS43))), (1, .d (.sl (a1.map cS43))), (10, .d (.lit (.bool true)))] []) (by simp; exact Sub.table (by simp) (by simp)) ?_
    refine AW.seqR ?_
    refine Chain.runK [] 1 fun K hK => ?_; simp; refine hK _ _ ?_; clear hK K
    refine Chain.sub (S' := mk 26 [] [(4, .d (.lit (.bool false)))] []) (Sub.table (by simp) (by simp)) ?_
    refine Chain.nil ?_
    refine AW.ret ?_
    cases h
    refine thenQ_pass (by simp) ?_
    exact FinC.ret (by simp) (by simp)
  · have c1_ : ((a0.length : Int) != (a1.length : Int)) = false := Bool.eq_false_iff.2 c1
    refine AW.condF (b := ((a0.length : Int) != (a1.length : Int))) rfl c1_ ?_
    refine AW.sub (Sub.bool 10 (b := ((a0.length : Int) != (a1.length : Int))) rfl c1_) ?_
    refine AW.sub (S' := mk 26 [] [(0, .d (.sl (a0.map cS43))), (1, .d (.sl (a1.map cS43))), (10, .d (.lit (.bool false)))] []) (by simp; exact Sub.table (by simp) (by simp)) ?_
    refine AW.skip ?_
    refine thenQ_normal ?_
    refine AW.seq ?_
    refine AW.seqR ?_
    refine Chain.runK [] 3 fun K hK => ?_; simp; refine hK _ _ ?_; clear hK K
    refine Chain.sub (S' := mk 26 [] [(0, .d (.sl (a0.map cS43))), (1, .d (.sl (a1.map cS43))), (12, .d (.lit (.int .i64 (a0.length : Int)))), (13, .d (.lit (.int .i64 0)))] []) (Sub.table (by simp) (by simp)) ?_
    refine Chain.nil ?_
    refine AW.lastJ (fun (_ : Unit) => mk 26 [] [] []) h ?_ ?_ <;> clear h
    · intro o h
      refine AW.block ?_
      refine AW.iter (fun (v8 : Int) => mk 26 [] [(0, .d (.sl (a0.map cS43))), (1, .d (.sl (a1.map cS43))), (12, .d (.lit (.int .i64 (a0.length : Int)))), (13, .d (.lit (.int .i64 v8)))] []) h (Sub.table (by simp) (by simp)) ?_
      clear h
      rintro v8 x h
      refine AW.seqR ?_
      refine Chain.runK [] 1 fun K hK => ?_; simp; refine hK _ _ ?_; clear hK K
      refine Chain.sub (S' := mk 26 [] [(0, .d (.sl (a0.map cS43))), (1, .d (.sl (a1.map cS43))), (12, .d (.lit (.int .i64 (a0.length : Int)))), (13, .d (.lit (.int .i64 v8))), (14, .d (.lit (.bool (decide (v8 < (a0.length : Int))))))] []) (Sub.table (by simp) (by simp)) ?_
      refine Chain.nil ?_
      refine AW.seq ?_
      replace h := isome h; rcases h with ⟨c22, h⟩ | ⟨c22, h⟩
      · have c22_ : decide (v8 < (a0.length : Int)) = true := decide_eq_true c22
        refine AW.condT (b := decide (v8 < (a0.length : Int))) rfl c22_ ?_
        refine AW.sub (Sub.bool 14 (b := decide (v8 < (a0.length : Int))) rfl c22_) ?_
        refine AW.sub (S' := mk 26 [] [(0, .d (.sl (a0.map cS43))), (1, .d (.sl (a1.map cS43))), (12, .d (.lit (.int .i64 (a0.length : Int)))), (13, .d (.lit (.int .i64 v8))), (14, .d (.lit (.bool true)))] []) (by simp; exact Sub.table (by simp) (by simp)) ?_
        refine AW.skip ?_
        refine thenQ_normal ?_
        refine AW.seq ?_
        refine AW.block ?_
        refine AW.seqR ?_
        refine Chain.runK [] 2 fun K hK => ?_; simp; refine hK _ _ ?_; clear hK K
        refine Chain.sub (S' := mk 26 [] [(0, .d (.sl (a0.map cS43))), (1, .d (.sl (a1.map cS43))), (5, .d (.lit (.int .i64 v8))), (12, .d (.lit (.int .i64 (a0.length : Int)))), (13, .d (.lit (.int .i64 v8)))] []) (Sub.table (by simp) (by simp)) ?_
        refine Chain.nil ?_
        refine AW.seqQ (by kernel_rfl) (by kernel_rfl) ?_
        replace h := bsome h; obtain ⟨x23, hx23, h⟩ := h
        obtain ⟨k24, hx23k, hx23, hx23a, hx23b⟩ := idx_some hx23
        replace h := bsome h; obtain ⟨x25, hx25, h⟩ := h
        obtain ⟨hx25, hx25a, hx25b⟩ := idx_some2 hx25 hx23k
        refine Chain.runQ 8 fun K hK => ?_; simp [hx23, hx23k, hx23a, hx25, hx23k, hx25a]; refine hK _ _ ?_; clear hK K
        refine Chain.sub (S' := mk 26 [] [(0, .d (.sl (a0.map cS43))), (1, .d (.sl (a1.map cS43))), (12, .d (.lit (.int .i64 (a0.length : Int)))), (13, .d (.lit (.int .i64 v8))), (19, .agg [.d (.lit (.int .i64 x23.a0)), .d (.lit (.int .i64 x23.a1))]), (23, .agg [.d (.lit (.int .i64 x25.a0)), .d (.lit (.int .i64 x25.a1))])] []) (Sub.table (by simp) (by simp)) ?_
        refine Chain.pureP (by simp) (pure_eqA true rfl rfl rfl rfl (by kernel_rfl) (eqv43 x23 x25)) ?_
        refine Chain.sub (S' := mk 26 [] [(0, .d (.sl (a0.map cS43))), (1, .d (.sl (a1.map cS43))), (12, .d (.lit (.int .i64 (a0.length : Int)))), (13, .d (.lit (.int .i64 v8))), (19, .agg [.d (.lit (.int .i64 x23.a0)), .d (.lit (.int .i64 x23.a1))]), (23, .agg [.d (.lit (.int .i64 x25.a0)), .d (.lit (.int .i64 x25.a1))]), (24, .d (.lit (.bool (!beqS43 x23 x25))))] []) (by simp; exact Sub.table (by simp) (by simp)) ?_
        refine Chain.nil ?_
        replace h := isome h; rcases h with ⟨c26, h⟩ | ⟨c26, h⟩
        · have c26_ : (!beqS43 x23 x25) = true := c26
          refine AW.condT (b := (!beqS43 x23 x25)) rfl c26_ ?_
          refine AW.sub (Sub.bool 24 (b := (!beqS43 x23 x25)) rfl c26_) ?_
          refine AW.sub (S' := mk 26 [] [(0, .d (.sl (a0.map cS43))), (1, .d (.sl (a1.map cS43))), (12, .d (.lit (.int .i64 (a0.length : Int)))), (13, .d (.lit (.int .i64 v8))), (19, .agg [.d (.lit (.int .i64 x23.a0)), .d (.lit (.int .i64 x23.a1))]), (23, .agg [.d (.lit (.int .i64 x25.a0)), .d (.lit (.int .i64 x25.a1))]), (24, .d (.lit (.bool true)))] []) (by simp; exact Sub.table (by simp) (by simp)) ?_
          refine AW.seqR ?_
          refine Chain.runK [] 1 fun K hK => ?_; simp; refine hK _ _ ?_; clear hK K
          refine Chain.sub (S' := mk 26 [] [(4, .d (.lit (.bool false)))] []) (Sub.table (by simp) (by simp)) ?_
          refine Chain.nil ?_
          refine AW.ret ?_
          cases h
          refine blockQ.ret ?_
          refine thenQ_pass (by simp) ?_
          refine PostI.out (by simp) ?_
          rintro rfl
          refine blockQ.ret ?_
          refine PostJ.out (by simp) ?_
          rintro rfl
          refine thenQ_pass (by simp) ?_
          exact FinC.ret (by simp) (by simp)
        · have c26_ : (!beqS43 x23 x25) = false := Bool.eq_false_iff.2 c26
          refine AW.condF (b := (!beqS43 x23 x25)) rfl c26_ ?_
          refine AW.sub (Sub.bool 24 (b := (!beqS43 x23 x25)) rfl c26_) ?_
          refine AW.sub (S' := mk 26 [] [(0, .d (.sl (a0.map cS43))), (1, .d (.sl (a1.map cS43))), (12, .d (.lit (.int .i64 (a0.length : Int)))), (13, .d (.lit (.int .i64 v8))), (19, .agg [.d (.lit (.int .i64 x23.a0)), .d (.lit (.int .i64 x23.a1))]), (23, .agg [.d (.lit (.int .i64 x25.a0)), .d (.lit (.int .i64 x25.a1))]), (24, .d (.lit (.bool false)))] []) (by simp; exact Sub.table (by simp) (by simp)) ?_
          refine AW.skip ?_
          refine blockQ.normal ?_
          refine thenQ_normal ?_
          refine AW.region ?_
          replace h := bsome h; obtain ⟨v27, hv27, h⟩ := h
          have hv27 := chkI_some hv27
          refine Chain.runK [] 2 fun K hK => ?_; simp [hv27]; refine hK _ _ ?_; clear hK K
          refine Chain.sub (S' := mk 26 [] [(0, .d (.sl (a0.map cS43))), (1, .d (.sl (a1.map cS43))), (12, .d (.lit (.int .i64 (a0.length : Int)))), (13, .d (.lit (.int .i64 v27)))] []) (Sub.table (by simp) (by simp)) ?_
          refine Chain.nil ?_
          cases h
          refine PostI.next ?_
          exact (Sub.table (by simp) (by simp))
      · have c22_ : decide (v8 < (a0.length : Int)) = false := decide_eq_false c22
        refine AW.condF (b := decide (v8 < (a0.length : Int))) rfl c22_ ?_
        refine AW.sub (Sub.bool 14 (b := decide (v8 < (a0.length : Int))) rfl c22_) ?_
        refine AW.sub (S' := mk 26 [] [(0, .d (.sl (a0.map cS43))), (1, .d (.sl (a1.map cS43))), (12, .d (.lit (.int .i64 (a0.length : Int)))), (13, .d (.lit (.int .i64 v8))), (14, .d (.lit (.bool false)))] []) (by simp; exact Sub.table (by simp) (by simp)) ?_
        refine AW.exit ?_
        cases h
        refine thenQ_pass (by simp) ?_
        refine PostI.out (by simp) ?_
        rintro rfl
        refine blockQ.hit ?_
        refine PostJ.next ?_
        exact (Sub.table (by simp) (by simp))
    · rintro ⟨⟩ h
      refine thenQ_normal ?_
      refine AW.seqR ?_
      refine Chain.runK [] 1 fun K hK => ?_; simp; refine hK _ _ ?_; clear hK K
      refine Chain.sub (S' := mk 26 [] [(4, .d (.lit (.bool true)))] []) (Sub.table (by simp) (by simp)) ?_
      refine Chain.nil ?_
      refine AW.ret ?_
      cases h
      exact FinC.ret (by simp) (by simp)

end Go.Proofs.Ytabjbkdlacibjaa
