/- Functions of the program as functional programs; the code computes them. -/
import Derived.Test.YtabjbkdlacibjaaSg3
namespace Go.Proofs.Ytabjbkdlacibjaa
open Go.Ab Go.Rp
attribute [-simp] List.all_eq_true Array.all_toList Array.all_eq_true

/-- stemma/stemlaw5.rejectsWriteSkew -/
def d33 (N : Nat)  : Option Bool :=
  (d36 N ([(S105.mk 0 5 ([(ByteArray.mk #[120])] : List ByteArray) ([(ByteArray.mk #[121])] : List ByteArray)), (S105.mk 1 6 ([(ByteArray.mk #[121])] : List ByteArray) ([(ByteArray.mk #[120])] : List ByteArray))] : List S105)).bind fun r1 =>
  Option.bind (α := Bool) (
    if (r1.2 == 0) then (
      (d41 N r1.1 ([true, false] : List Bool)).bind fun r6 =>
      some r6
    ) else
    some false
  ) fun (v4 : Bool) =>
  some v4
set_option maxRecDepth 100000 in
set_option maxHeartbeats 4000000 in
theorem p33 (N : Nat)  (r : Bool) (h : d33 N  = some r) : FunC Try.prog 33 [] (.d (.lit (.bool r))) := by
  unfold d33 at h
  refine FunC.enter 21 [] (by simp) Try.func33 rfl (of_decide_eq_true rfl) rfl rfl ?_
  refine AW.seqR ?_
  refine Chain.runK [] 1 fun K hK => ?_; simp; refine hK _ _ ?_; clear hK K
  refine Chain.sub (S' := mk 21 [] [] []) (Sub.table (by simp) (by simp)) ?_
  refine Chain.nil ?_
  refine AW.seqR ?_
  refine Chain.runK [] 6 fun K hK => ?_; simp; refine hK _ _ ?_; clear hK K
  refine Chain.sub (S' := mk 21 [] [(6, .agg [.d (.lit (.int .i64 0)), .d (.lit (.int .i64 5)), .ref 4 0 (([(ByteArray.mk #[120])] : List ByteArray).length), .ref 5 0 (([(ByteArray.mk #[121])] : List ByteArray).length)]), (9, .agg [.d (.lit (.int .i64 1)), .d (.lit (.int .i64 6)), .ref 7 0 (([(ByteArray.mk #[121])] : List ByteArray).length), .ref 8 0 (([(ByteArray.mk #[120])] : List ByteArray).length)])] [(4, some (.arr 9 1 (([(ByteArray.mk #[120])] : List ByteArray).map cS))), (5, some (.arr 9 1 (([(ByteArray.mk #[121])] : List ByteArray).map cS))), (7, some (.arr 9 1 (([(ByteArray.mk #[121])] : List ByteArray).map cS))), (8, some (.arr 9 1 (([(ByteArray.mk #[120])] : List ByteArray).map cS)))]) (Sub.table (by simp) (by simp)) ?_
  refine Chain.sub (Sub.freeze 4 rfl) ?_
  refine Chain.sub (S' := mk 21 [] [(6, .agg [.d (.lit (.int .i64 0)), .d (.lit (.int .i64 5)), .d (.sl (([(ByteArray.mk #[120])] : List ByteArray).map cS)), .ref 5 0 (([(ByteArray.mk #[121])] : List ByteArray).length)]), (9, .agg [.d (.lit (.int .i64 1)), .d (.lit (.int .i64 6)), .ref 7 0 (([(ByteArray.mk #[121])] : List ByteArray).length), .ref 8 0 (([(ByteArray.mk #[120])] : List ByteArray).length)])] [(5, some (.arr 9 1 (([(ByteArray.mk #[121])] : List ByteArray).map cS))), (7, some (.arr 9 1 (([(ByteArray.mk #[121])] : List ByteArray).map cS))), (8, some (.arr 9 1 (([(ByteArray.mk #[120])] : List ByteArray).map cS)))]) (by simp; exact Sub.table (by simp) (by simp)) ?_
  refine Chain.sub (Sub.freeze 5 rfl) ?_
  refine Chain.sub (S' := mk 21 [] [(6, .agg [.d (.lit (.int .i64 0)), .d (.lit (.int .i64 5)), .d (.sl (([(ByteArray.mk #[120])] : List ByteArray).map cS)), .d (.sl (([(ByteArray.mk #[121])] : List ByteArray).map cS))]), (9, .agg [.d (.lit (.int .i64 1)), .d (.lit (.int .i64 6)), .ref 7 0 (([(ByteArray.mk #[121])] : List ByteArray).length), .ref 8 0 (([(ByteArray.mk #[120])] : List ByteArray).length)])] [(7, some (.arr 9 1 (([(ByteArray.mk #[121])] : List ByteArray).map cS))), (8, some (.arr 9 1 (([(ByteArray.mk #[120])] : List ByteArray).map cS)))]) (by simp; exact Sub.table (by simp) (by simp)) ?_
  refine Chain.sub (Sub.freeze 7 rfl) ?_
  refine Chain.sub (S' := mk 21 [] [(6, .agg [.d (.lit (.int .i64 0)), .d (.lit (.int .i64 5)), .d (.sl (([(ByteArray.mk #[120])] : List ByteArray).map cS)), .d (.sl (([(ByteArray.mk #[121])] : List ByteArray).map cS))]), (9, .agg [.d (.lit (.int .i64 1)), .d (.lit (.int .i64 6)), .d (.sl (([(ByteArray.mk #[121])] : List ByteArray).map cS)), .ref 8 0 (([(ByteArray.mk #[120])] : List ByteArray).length)])] [(8, some (.arr 9 1 (([(ByteArray.mk #[120])] : List ByteArray).map cS)))]) (by simp; exact Sub.table (by simp) (by simp)) ?_
  refine Chain.sub (Sub.freeze 8 rfl) ?_
  refine Chain.sub (S' := mk 21 [] [(6, .agg [.d (.lit (.int .i64 0)), .d (.lit (.int .i64 5)), .d (.sl (([(ByteArray.mk #[120])] : List ByteArray).map cS)), .d (.sl (([(ByteArray.mk #[121])] : List ByteArray).map cS))]), (9, .agg [.d (.lit (.int .i64 1)), .d (.lit (.int .i64 6)), .d (.sl (([(ByteArray.mk #[121])] : List ByteArray).map cS)), .d (.sl (([(ByteArray.mk #[120])] : List ByteArray).map cS))])] []) (by simp; exact Sub.table (by simp) (by simp)) ?_
  refine Chain.runK [] 1 fun K hK => ?_; simp; refine hK _ _ ?_; clear hK K
  refine Chain.sub (S' := mk 21 [] [(10, .ref 10 0 (([(S105.mk 0 5 ([(ByteArray.mk #[120])] : List ByteArray) ([(ByteArray.mk #[121])] : List ByteArray)), (S105.mk 1 6 ([(ByteArray.mk #[121])] : List ByteArray) ([(ByteArray.mk #[120])] : List ByteArray))] : List S105).length))] [(10, some (.arr 105 4 (([(S105.mk 0 5 ([(ByteArray.mk #[120])] : List ByteArray) ([(ByteArray.mk #[121])] : List ByteArray)), (S105.mk 1 6 ([(ByteArray.mk #[121])] : List ByteArray) ([(ByteArray.mk #[120])] : List ByteArray))] : List S105).map cS105)))]) (Sub.table (by simp) (by simp)) ?_
  refine Chain.sub (Sub.freeze 10 rfl) ?_
  refine Chain.sub (S' := mk 21 [] [(10, .d (.sl (([(S105.mk 0 5 ([(ByteArray.mk #[120])] : List ByteArray) ([(ByteArray.mk #[121])] : List ByteArray)), (S105.mk 1 6 ([(ByteArray.mk #[121])] : List ByteArray) ([(ByteArray.mk #[120])] : List ByteArray))] : List S105).map cS105)))] []) (by simp; exact Sub.table (by simp) (by simp)) ?_
  replace h := bsome h; obtain ⟨r1, hr1, h⟩ := h
  refine Chain.callC (d := 11) (p36 N ([(S105.mk 0 5 ([(ByteArray.mk #[120])] : List ByteArray) ([(ByteArray.mk #[121])] : List ByteArray)), (S105.mk 1 6 ([(ByteArray.mk #[121])] : List ByteArray) ([(ByteArray.mk #[120])] : List ByteArray))] : List S105) r1 hr1) (by simp) rfl rfl (by simp <;> rfl) (by simp <;> rfl) ent36 (by simp) (.inl ⟨by simp, by simp⟩) ?_
  refine Chain.sub (S' := mk 21 [] [(10, .d (.sl (([(S105.mk 0 5 ([(ByteArray.mk #[120])] : List ByteArray) ([(ByteArray.mk #[121])] : List ByteArray)), (S105.mk 1 6 ([(ByteArray.mk #[121])] : List ByteArray) ([(ByteArray.mk #[120])] : List ByteArray))] : List S105).map cS105))), (11, .tup [.d (.sl (r1.1.map cB)), .d (.lit (.int .i64 r1.2))])] []) (by simp; exact Sub.table (by simp) (by simp)) ?_
  refine Chain.runK [] 5 fun K hK => ?_; simp; refine hK _ _ ?_; clear hK K
  refine Chain.sub (S' := mk 21 [] [(1, .d (.sl (r1.1.map cB))), (2, .d (.lit (.int .i64 r1.2)))] []) (Sub.table (by simp) (by simp)) ?_
  refine Chain.nil ?_
  replace h := bsome h; obtain ⟨v4, hj, h⟩ := h
  refine AW.cutR (mk 21 [] [(0, .d (.lit (.bool v4)))] []) ?_ ?_
  · clear h; have h := hj; clear hj
    refine Chain.runK [] 3 fun K hK => ?_; simp; refine hK _ _ ?_; clear hK K
    refine Chain.sub (S' := mk 21 [] [(1, .d (.sl (r1.1.map cB))), (16, .d (.lit (.bool (r1.2 == 0))))] []) (Sub.table (by simp) (by simp)) ?_
    replace h := isome h; rcases h with ⟨c5, h⟩ | ⟨c5, h⟩
    · have c5_ : (r1.2 == 0) = true := c5
      refine Chain.sub (Sub.bool 16 (b := (r1.2 == 0)) rfl c5_) ?_
      refine Chain.sub (S' := mk 21 [] [(1, .d (.sl (r1.1.map cB))), (16, .d (.lit (.bool true)))] []) (by simp; exact Sub.table (by simp) (by simp)) ?_
      refine Chain.runK [] 2 fun K hK => ?_; simp; refine hK _ _ ?_; clear hK K
      refine Chain.sub (S' := mk 21 [] [(16, .d (.lit (.bool true))), (17, .d (.sl (r1.1.map cB))), (18, .ref 18 0 (([true, false] : List Bool).length))] [(18, some (.arr 4 1 (([true, false] : List Bool).map cB)))]) (Sub.table (by simp) (by simp)) ?_
      replace h := bsome h; obtain ⟨r6, hr6, h⟩ := h
      refine Chain.callL (d := 19) (p41 N r1.1 ([true, false] : List Bool) r6 hr6) (by simp) rfl rfl (by simp <;> rfl) (by simp <;> rfl) ent41 (by simp <;> rfl) ?_
      refine Chain.sub (S' := mk 21 [] [(16, .d (.lit (.bool true))), (17, .d (.sl (r1.1.map cB))), (18, .ref 18 0 (([true, false] : List Bool).length)), (19, .d (.lit (.bool r6)))] [(18, some (.arr 4 1 (([true, false] : List Bool).map cB)))]) (by simp; exact Sub.table (by simp) (by simp)) ?_
      refine Chain.runK [] 2 fun K hK => ?_; simp; refine hK _ _ ?_; clear hK K
      refine Chain.sub (S' := mk 21 [] [(0, .d (.lit (.bool r6)))] []) (Sub.table (by simp) (by simp)) ?_
      cases h
      exact Chain.nil (Sub.table (by simp) (by simp))
    · have c5_ : (r1.2 == 0) = false := Bool.eq_false_iff.2 c5
      refine Chain.sub (Sub.bool 16 (b := (r1.2 == 0)) rfl c5_) ?_
      refine Chain.sub (S' := mk 21 [] [(1, .d (.sl (r1.1.map cB))), (16, .d (.lit (.bool false)))] []) (by simp; exact Sub.table (by simp) (by simp)) ?_
      refine Chain.runK [] 5 fun K hK => ?_; simp; refine hK _ _ ?_; clear hK K
      refine Chain.sub (S' := mk 21 [] [(0, .d (.lit (.bool false)))] []) (Sub.table (by simp) (by simp)) ?_
      cases h
      exact Chain.nil (Sub.table (by simp) (by simp))
  · clear hj
    refine AW.ret ?_
    cases h
    exact FinC.ret (by simp) (by simp)

/-- stemma/stemlaw5.transactions -/
def d34 (N : Nat) (a0 : (List S105)) : Option (List S105) :=
  Option.bind (α := List S105) (
    iterN (σ := ((List S105) × Int)) (ρ := List S105) (fun ((l6, v7) : ((List S105) × Int)) =>
      if v7 < (a0.length : Int) then (
        (idx a0 v7).bind fun x22 =>
        (appL 64 l6 [x22]).bind fun l24 =>
        (chkI (v7 + 1)).bind fun v25 =>
        some (.inl ((l6 ++ [x22]), v25))
      ) else
      some (.inr l6)
    ) N (([] : List S105), 0)
  ) fun (l20 : List S105) =>
  some l20
set_option maxRecDepth 100000 in
set_option maxHeartbeats 4000000 in
theorem p34 (N : Nat) (a0 : (List S105)) (r : (List S105)) (h : d34 N a0 = some r) : FunC Try.prog 34 [.d (.sl (a0.map cS105))] (.d (.sl (r.map cS105))) := by
  unfold d34 at h
  refine FunC.enter 26 [(0, .d (.sl (a0.map cS105)))] (by simp) Try.func34 rfl (of_decide_eq_true rfl) rfl rfl ?_
  refine AW.seqR ?_
  refine Chain.runK [] 1 fun K hK => ?_; simp; refine hK _ _ ?_; clear hK K
  refine Chain.sub (S' := mk 26 [] [(0, .d (.sl (a0.map cS105)))] []) (Sub.table (by simp) (by simp)) ?_
  refine Chain.nil ?_
  refine AW.seqR ?_
  refine Chain.runK [] 1 fun K hK => ?_; simp; refine hK _ _ ?_; clear hK K
  refine Chain.sub (S' := mk 26 [] [(0, .d (.sl (a0.map cS105))), (3, .d (.lit (.slice none 0 0)))] []) (Sub.table (by simp) (by simp)) ?_
  refine Chain.nil ?_
  refine AW.seq ?_
  refine AW.seqR ?_
  refine Chain.runK [] 3 fun K hK => ?_; simp; refine hK _ _ ?_; clear hK K
  refine Chain.sub (S' := mk 26 [] [(3, .d (.lit (.slice none 0 0))), (6, .d (.sl (a0.map cS105))), (7, .d (.lit (.int .i64 (a0.length : Int)))), (8, .d (.lit (.int .i64 0)))] []) (Sub.table (by simp) (by simp)) ?_
  refine Chain.nil ?_
  refine AW.lastN (fun (l20 : List S105) => mk 26 [] [(3, .ref 23 0 l20.length)] [(23, some (.arr 105 4 (l20.map cS105)))]) h ?_ ?_ <;> clear h
  · intro o h
    refine AW.block ?_
    refine AW.iter (fun ((l6, v7) : ((List S105) × Int)) => mk 26 [] [(3, .ref 23 0 l6.length), (6, .d (.sl (a0.map cS105))), (7, .d (.lit (.int .i64 (a0.length : Int)))), (8, .d (.lit (.int .i64 v7)))] [(23, some (.arr 105 4 (l6.map cS105)))]) h (Sub.trans (Sub.nilOwn (t := 3) (id := 23) (T := 105) (n := 4) rfl rfl (by decide)) (by simp; exact Sub.table (by simp) (by simp))) ?_
    clear h
    rintro ⟨l6, v7⟩ x h
    dsimp only at h ⊢
    refine AW.seqR ?_
    refine Chain.runK [] 1 fun K hK => ?_; simp; refine hK _ _ ?_; clear hK K
    refine Chain.sub (S' := mk 26 [] [(3, .ref 23 0 l6.length), (6, .d (.sl (a0.map cS105))), (7, .d (.lit (.int .i64 (a0.length : Int)))), (8, .d (.lit (.int .i64 v7))), (9, .d (.lit (.bool (decide (v7 < (a0.length : Int))))))] [(23, some (.arr 105 4 (l6.map cS105)))]) (Sub.table (by simp) (by simp)) ?_
    refine Chain.nil ?_
    refine AW.seq ?_
    replace h := isome h; rcases h with ⟨c21, h⟩ | ⟨c21, h⟩
    · have c21_ : decide (v7 < (a0.length : Int)) = true := decide_eq_true c21
      refine AW.condT (b := decide (v7 < (a0.length : Int))) rfl c21_ ?_
      refine AW.sub (Sub.bool 9 (b := decide (v7 < (a0.length : Int))) rfl c21_) ?_
      refine AW.sub (S' := mk 26 [] [(3, .ref 23 0 l6.length), (6, .d (.sl (a0.map cS105))), (7, .d (.lit (.int .i64 (a0.length : Int)))), (8, .d (.lit (.int .i64 v7))), (9, .d (.lit (.bool true)))] [(23, some (.arr 105 4 (l6.map cS105)))]) (by simp; exact Sub.table (by simp) (by simp)) ?_
      refine AW.skip ?_
      refine thenQ_normal ?_
      refine AW.seq ?_
      refine AW.block ?_
      refine AW.seqR ?_
      replace h := bsome h; obtain ⟨x22, hx22, h⟩ := h
      obtain ⟨k23, hx22k, hx22, hx22a, hx22b⟩ := idx_some hx22
      refine Chain.runK [] 4 fun K hK => ?_; simp [hx22, hx22k, hx22a]; refine hK _ _ ?_; clear hK K
      refine Chain.sub (S' := mk 26 [] [(3, .ref 23 0 l6.length), (5, .ptr 5 0 0), (6, .d (.sl (a0.map cS105))), (7, .d (.lit (.int .i64 (a0.length : Int)))), (8, .d (.lit (.int .i64 v7)))] [(5, some (.box [.d (.lit (.int .i64 x22.Start)), .d (.lit (.int .i64 x22.Commit)), .d (.sl (x22.Reads.map cS)), .d (.sl (x22.Writes.map cS))])), (23, some (.arr 105 4 (l6.map cS105)))]) (Sub.table (by simp) (by simp)) ?_
      refine Chain.nil ?_
      refine AW.region ?_
      replace h := bsome h; obtain ⟨l24, hl24, h⟩ := h
      obtain ⟨hl24a, hl24⟩ := appL_some hl24
      subst hl24
      try simp only [List.length_append, List.length_cons, List.length_nil, Nat.zero_add] at hl24a
      refine Chain.runK [22] 13 fun K hK => ?_; simp [hl24a]; refine hK _ _ ?_; clear hK K
      refine Chain.sub (S' := mk 26 [] [(3, .ref 23 0 ((l6 ++ [x22]).length)), (6, .d (.sl (a0.map cS105))), (7, .d (.lit (.int .i64 (a0.length : Int)))), (8, .d (.lit (.int .i64 v7)))] [(23, some (.arr 105 4 ((l6 ++ [x22]).map cS105)))]) (Sub.table (by simp) (by simp)) ?_
      refine Chain.nil ?_
      refine blockQ.normal ?_
      refine thenQ_normal ?_
      refine AW.region ?_
      replace h := bsome h; obtain ⟨v25, hv25, h⟩ := h
      have hv25 := chkI_some hv25
      refine Chain.runK [] 2 fun K hK => ?_; simp [hv25]; refine hK _ _ ?_; clear hK K
      refine Chain.sub (S' := mk 26 [] [(3, .ref 23 0 ((l6 ++ [x22]).length)), (6, .d (.sl (a0.map cS105))), (7, .d (.lit (.int .i64 (a0.length : Int)))), (8, .d (.lit (.int .i64 v25)))] [(23, some (.arr 105 4 ((l6 ++ [x22]).map cS105)))]) (Sub.table (by simp) (by simp)) ?_
      refine Chain.nil ?_
      cases h
      refine PostI.next ?_
      exact (Sub.table (by simp) (by simp))
    · have c21_ : decide (v7 < (a0.length : Int)) = false := decide_eq_false c21
      refine AW.condF (b := decide (v7 < (a0.length : Int))) rfl c21_ ?_
      refine AW.sub (Sub.bool 9 (b := decide (v7 < (a0.length : Int))) rfl c21_) ?_
      refine AW.sub (S' := mk 26 [] [(3, .ref 23 0 l6.length), (6, .d (.sl (a0.map cS105))), (7, .d (.lit (.int .i64 (a0.length : Int)))), (8, .d (.lit (.int .i64 v7))), (9, .d (.lit (.bool false)))] [(23, some (.arr 105 4 (l6.map cS105)))]) (by simp; exact Sub.table (by simp) (by simp)) ?_
      refine AW.exit ?_
      cases h
      refine thenQ_pass (by simp) ?_
      refine PostI.out (by simp) ?_
      rintro rfl
      refine blockQ.hit ?_
      refine PostN.next ?_
      exact (Sub.table (by simp) (by simp))
  · rintro l20 h
    refine thenQ_normal ?_
    refine AW.seqR ?_
    refine Chain.runK [] 2 fun K hK => ?_; simp; refine hK _ _ ?_; clear hK K
    refine Chain.sub (S' := mk 26 [] [(2, .ref 23 0 l20.length)] [(23, some (.arr 105 4 (l20.map cS105)))]) (Sub.table (by simp) (by simp)) ?_
    refine Chain.nil ?_
    refine AW.sub (Sub.freeze 23 rfl) ?_
    refine AW.sub (S' := mk 26 [] [(2, .d (.sl (l20.map cS105)))] []) (by simp; exact Sub.table (by simp) (by simp)) ?_
    refine AW.ret ?_
    cases h
    exact FinC.ret (by simp) (by simp)

/-- stemma/ssi.precedes -/
def d70 (N : Nat) (a0 : S105) (a1 : S105) : Option Bool :=
  Option.bind (α := Bool) (
    (d65 N a0 a1).bind fun r10 =>
    if r10 = true then (
      some true
    ) else
    if a0.Commit ≤ a1.Start then (
      (d88 N a0.Writes a1.Reads).bind fun r13 =>
      if r13 = true then (
        some true
      ) else
      (d88 N a0.Writes a1.Writes).bind fun r15 =>
      if r15 = true then (
        some true
      ) else
      (d88 N a0.Reads a1.Writes).bind fun r17 =>
      some r17
    ) else
    some false
  ) fun (v9 : Bool) =>
  some v9
set_option maxRecDepth 100000 in
set_option maxHeartbeats 4000000 in
theorem p70 (N : Nat) (a0 : S105) (a1 : S105) (r : Bool) (h : d70 N a0 a1 = some r) : FunC Try.prog 70 [.agg [.d (.lit (.int .i64 a0.Start)), .d (.lit (.int .i64 a0.Commit)), .d (.sl (a0.Reads.map cS)), .d (.sl (a0.Writes.map cS))], .agg [.d (.lit (.int .i64 a1.Start)), .d (.lit (.int .i64 a1.Commit)), .d (.sl (a1.Reads.map cS)), .d (.sl (a1.Writes.map cS))]] (.d (.lit (.bool r))) := by
  unfold d70 at h
  refine FunC.enter 36 [(0, .agg [.d (.lit (.int .i64 a0.Start)), .d (.lit (.int .i64 a0.Commit)), .d (.sl (a0.Reads.map cS)), .d (.sl (a0.Writes.map cS))]), (1, .agg [.d (.lit (.int .i64 a1.Start)), .d (.lit (.int .i64 a1.Commit)), .d (.sl (a1.Reads.map cS)), .d (.sl (a1.Writes.map cS))])] (by simp) Try.func70 rfl (of_decide_eq_true rfl) rfl rfl ?_
  refine AW.seqR ?_
  refine Chain.runK [] 3 fun K hK => ?_; simp; refine hK _ _ ?_; clear hK K
  refine Chain.sub (S' := mk 36 [] [(2, .ptr 2 0 0), (3, .ptr 3 0 0)] [(2, some (.box [.d (.lit (.int .i64 a0.Start)), .d (.lit (.int .i64 a0.Commit)), .d (.sl (a0.Reads.map cS)), .d (.sl (a0.Writes.map cS))])), (3, some (.box [.d (.lit (.int .i64 a1.Start)), .d (.lit (.int .i64 a1.Commit)), .d (.sl (a1.Reads.map cS)), .d (.sl (a1.Writes.map cS))]))]) (Sub.table (by simp) (by simp)) ?_
  refine Chain.nil ?_
  replace h := bsome h; obtain ⟨v9, hj, h⟩ := h
  refine AW.cutR (mk 36 [] [(4, .d (.lit (.bool v9)))] []) ?_ ?_
  · clear h; have h := hj; clear hj
    refine Chain.runK [] 2 fun K hK => ?_; simp; refine hK _ _ ?_; clear hK K
    refine Chain.sub (S' := mk 36 [] [(2, .ptr 2 0 0), (3, .ptr 3 0 0), (5, .agg [.d (.lit (.int .i64 a0.Start)), .d (.lit (.int .i64 a0.Commit)), .d (.sl (a0.Reads.map cS)), .d (.sl (a0.Writes.map cS))]), (6, .agg [.d (.lit (.int .i64 a1.Start)), .d (.lit (.int .i64 a1.Commit)), .d (.sl (a1.Reads.map cS)), .d (.sl (a1.Writes.map cS))])] [(2, some (.box [.d (.lit (.int .i64 a0.Start)), .d (.lit (.int .i64 a0.Commit)), .d (.sl (a0.Reads.map cS)), .d (.sl (a0.Writes.map cS))])), (3, some (.box [.d (.lit (.int .i64 a1.Start)), .d (.lit (.int .i64 a1.Commit)), .d (.sl (a1.Reads.map cS)), .d (.sl (a1.Writes.map cS))]))]) (Sub.table (by simp) (by simp)) ?_
    replace h := bsome h; obtain ⟨r10, hr10, h⟩ := h
    refine Chain.callL (d := 7) (p65 N a0 a1 r10 hr10) (by simp) rfl rfl (by simp <;> rfl) (by simp <;> rfl) ent65 (by simp <;> rfl) ?_
    refine Chain.sub (S' := mk 36 [] [(2, .ptr 2 0 0), (3, .ptr 3 0 0), (5, .agg [.d (.lit (.int .i64 a0.Start)), .d (.lit (.int .i64 a0.Commit)), .d (.sl (a0.Reads.map cS)), .d (.sl (a0.Writes.map cS))]), (6, .agg [.d (.lit (.int .i64 a1.Start)), .d (.lit (.int .i64 a1.Commit)), .d (.sl (a1.Reads.map cS)), .d (.sl (a1.Writes.map cS))]), (7, .d (.lit (.bool r10)))] [(2, some (.box [.d (.lit (.int .i64 a0.Start)), .d (.lit (.int .i64 a0.Commit)), .d (.sl (a0.Reads.map cS)), .d (.sl (a0.Writes.map cS))])), (3, some (.box [.d (.lit (.int .i64 a1.Start)), .d (.lit (.int .i64 a1.Commit)), .d (.sl (a1.Reads.map cS)), .d (.sl (a1.Writes.map cS))]))]) (by simp; exact Sub.table (by simp) (by simp)) ?_
    refine Chain.runK [] 1 fun K hK => ?_; simp; refine hK _ _ ?_; clear hK K
    refine Chain.sub (S' := mk 36 [] [(2, .ptr 2 0 0), (3, .ptr 3 0 0), (8, .d (.lit (.bool r10)))] [(2, some (.box [.d (.lit (.int .i64 a0.Start)), .d (.lit (.int .i64 a0.Commit)), .d (.sl (a0.Reads.map cS)), .d (.sl (a0.Writes.map cS))])), (3, some (.box [.d (.lit (.int .i64 a1.Start)), .d (.lit (.int .i64 a1.Commit)), .d (.sl (a1.Reads.map cS)), .d (.sl (a1.Writes.map cS))]))]) (Sub.table (by simp) (by simp)) ?_
    replace h := isome h; rcases h with ⟨c11, h⟩ | ⟨c11, h⟩
    · have c11_ : r10 = true := c11
      refine Chain.sub (Sub.bool 8 (b := r10) rfl c11_) ?_
      refine Chain.sub (S' := mk 36 [] [(2, .ptr 2 0 0), (3, .ptr 3 0 0), (8, .d (.lit (.bool true)))] [(2, some (.box [.d (.lit (.int .i64 a0.Start)), .d (.lit (.int .i64 a0.Commit)), .d (.sl (a0.Reads.map cS)), .d (.sl (a0.Writes.map cS))])), (3, some (.box [.d (.lit (.int .i64 a1.Start)), .d (.lit (.int .i64 a1.Commit)), .d (.sl (a1.Reads.map cS)), .d (.sl (a1.Writes.map cS))]))]) (by simp; exact Sub.table (by simp) (by simp)) ?_
      refine Chain.runK [] 28 fun K hK => ?_; simp; refine hK _ _ ?_; clear hK K
      refine Chain.sub (S' := mk 36 [] [(4, .d (.lit (.bool true)))] []) (Sub.table (by simp) (by simp)) ?_
      cases h
      exact Chain.nil (Sub.table (by simp) (by simp))
    · have c11_ : r10 = false := Bool.eq_false_iff.2 c11
      refine Chain.sub (Sub.bool 8 (b := r10) rfl c11_) ?_
      refine Chain.sub (S' := mk 36 [] [(2, .ptr 2 0 0), (3, .ptr 3 0 0), (8, .d (.lit (.bool false)))] [(2, some (.box [.d (.lit (.int .i64 a0.Start)), .d (.lit (.int .i64 a0.Commit)), .d (.sl (a0.Reads.map cS)), .d (.sl (a0.Writes.map cS))])), (3, some (.box [.d (.lit (.int .i64 a1.Start)), .d (.lit (.int .i64 a1.Commit)), .d (.sl (a1.Reads.map cS)), .d (.sl (a1.Writes.map cS))]))]) (by simp; exact Sub.table (by simp) (by simp)) ?_
      refine Chain.runK [] 6 fun K hK => ?_; simp; refine hK _ _ ?_; clear hK K
      refine Chain.sub (S' := mk 36 [] [(2, .ptr 2 0 0), (3, .ptr 3 0 0), (8, .d (.lit (.bool false))), (14, .d (.lit (.bool (decide (a0.Commit ≤ a1.Start)))))] [(2, some (.box [.d (.lit (.int .i64 a0.Start)), .d (.lit (.int .i64 a0.Commit)), .d (.sl (a0.Reads.map cS)), .d (.sl (a0.Writes.map cS))])), (3, some (.box [.d (.lit (.int .i64 a1.Start)), .d (.lit (.int .i64 a1.Commit)), .d (.sl (a1.Reads.map cS)), .d (.sl (a1.Writes.map cS))]))]) (Sub.table (by simp) (by simp)) ?_
      replace h := isome h; rcases h with ⟨c12, h⟩ | ⟨c12, h⟩
      · have c12_ : decide (a0.Commit ≤ a1.Start) = true := decide_eq_true c12
        refine Chain.sub (Sub.bool 14 (b := decide (a0.Commit ≤ a1.Start)) rfl c12_) ?_
        refine Chain.sub (S' := mk 36 [] [(2, .ptr 2 0 0), (3, .ptr 3 0 0), (8, .d (.lit (.bool false))), (14, .d (.lit (.bool true)))] [(2, some (.box [.d (.lit (.int .i64 a0.Start)), .d (.lit (.int .i64 a0.Commit)), .d (.sl (a0.Reads.map cS)), .d (.sl (a0.Writes.map cS))])), (3, some (.box [.d (.lit (.int .i64 a1.Start)), .d (.lit (.int .i64 a1.Commit)), .d (.sl (a1.Reads.map cS)), .d (.sl (a1.Writes.map cS))]))]) (by simp; exact Sub.table (by simp) (by simp)) ?_
        refine Chain.runK [] 4 fun K hK => ?_; simp; refine hK _ _ ?_; clear hK K
        refine Chain.sub (S' := mk 36 [] [(2, .ptr 2 0 0), (3, .ptr 3 0 0), (8, .d (.lit (.bool false))), (14, .d (.lit (.bool true))), (16, .d (.sl (a0.Writes.map cS))), (18, .d (.sl (a1.Reads.map cS)))] [(2, some (.box [.d (.lit (.int .i64 a0.Start)), .d (.lit (.int .i64 a0.Commit)), .d (.sl (a0.Reads.map cS)), .d (.sl (a0.Writes.map cS))])), (3, some (.box [.d (.lit (.int .i64 a1.Start)), .d (.lit (.int .i64 a1.Commit)), .d (.sl (a1.Reads.map cS)), .d (.sl (a1.Writes.map cS))]))]) (Sub.table (by simp) (by simp)) ?_
        replace h := bsome h; obtain ⟨r13, hr13, h⟩ := h
        refine Chain.callL (d := 19) (p88 N a0.Writes a1.Reads r13 hr13) (by simp) rfl rfl (by simp <;> rfl) (by simp <;> rfl) ent88 (by simp <;> rfl) ?_
        refine Chain.sub (S' := mk 36 [] [(2, .ptr 2 0 0), (3, .ptr 3 0 0), (8, .d (.lit (.bool false))), (14, .d (.lit (.bool true))), (16, .d (.sl (a0.Writes.map cS))), (18, .d (.sl (a1.Reads.map cS))), (19, .d (.lit (.bool r13)))] [(2, some (.box [.d (.lit (.int .i64 a0.Start)), .d (.lit (.int .i64 a0.Commit)), .d (.sl (a0.Reads.map cS)), .d (.sl (a0.Writes.map cS))])), (3, some (.box [.d (.lit (.int .i64 a1.Start)), .d (.lit (.int .i64 a1.Commit)), .d (.sl (a1.Reads.map cS)), .d (.sl (a1.Writes.map cS))]))]) (by simp; exact Sub.table (by simp) (by simp)) ?_
        refine Chain.runK [] 1 fun K hK => ?_; simp; refine hK _ _ ?_; clear hK K
        refine Chain.sub (S' := mk 36 [] [(2, .ptr 2 0 0), (3, .ptr 3 0 0), (8, .d (.lit (.bool false))), (14, .d (.lit (.bool true))), (20, .d (.lit (.bool r13)))] [(2, some (.box [.d (.lit (.int .i64 a0.Start)), .d (.lit (.int .i64 a0.Commit)), .d (.sl (a0.Reads.map cS)), .d (.sl (a0.Writes.map cS))])), (3, some (.box [.d (.lit (.int .i64 a1.Start)), .d (.lit (.int .i64 a1.Commit)), .d (.sl (a1.Reads.map cS)), .d (.sl (a1.Writes.map cS))]))]) (Sub.table (by simp) (by simp)) ?_
        replace h := isome h; rcases h with ⟨c14, h⟩ | ⟨c14, h⟩
        · have c14_ : r13 = true := c14
          refine Chain.sub (Sub.bool 20 (b := r13) rfl c14_) ?_
          refine Chain.sub (S' := mk 36 [] [(2, .ptr 2 0 0), (3, .ptr 3 0 0), (8, .d (.lit (.bool false))), (14, .d (.lit (.bool true))), (20, .d (.lit (.bool true)))] [(2, some (.box [.d (.lit (.int .i64 a0.Start)), .d (.lit (.int .i64 a0.Commit)), .d (.sl (a0.Reads.map cS)), .d (.sl (a0.Writes.map cS))])), (3, some (.box [.d (.lit (.int .i64 a1.Start)), .d (.lit (.int .i64 a1.Commit)), .d (.sl (a1.Reads.map cS)), .d (.sl (a1.Writes.map cS))]))]) (by simp; exact Sub.table (by simp) (by simp)) ?_
          refine Chain.runK [] 16 fun K hK => ?_; simp; refine hK _ _ ?_; clear hK K
          refine Chain.sub (S' := mk 36 [] [(4, .d (.lit (.bool true)))] []) (Sub.table (by simp) (by simp)) ?_
          cases h
          exact Chain.nil (Sub.table (by simp) (by simp))
        · have c14_ : r13 = false := Bool.eq_false_iff.2 c14
          refine Chain.sub (Sub.bool 20 (b := r13) rfl c14_) ?_
          refine Chain.sub (S' := mk 36 [] [(2, .ptr 2 0 0), (3, .ptr 3 0 0), (8, .d (.lit (.bool false))), (14, .d (.lit (.bool true))), (20, .d (.lit (.bool false)))] [(2, some (.box [.d (.lit (.int .i64 a0.Start)), .d (.lit (.int .i64 a0.Commit)), .d (.sl (a0.Reads.map cS)), .d (.sl (a0.Writes.map cS))])), (3, some (.box [.d (.lit (.int .i64 a1.Start)), .d (.lit (.int .i64 a1.Commit)), .d (.sl (a1.Reads.map cS)), .d (.sl (a1.Writes.map cS))]))]) (by simp; exact Sub.table (by simp) (by simp)) ?_
          refine Chain.runK [] 4 fun K hK => ?_; simp; refine hK _ _ ?_; clear hK K
          refine Chain.sub (S' := mk 36 [] [(2, .ptr 2 0 0), (3, .ptr 3 0 0), (8, .d (.lit (.bool false))), (14, .d (.lit (.bool true))), (20, .d (.lit (.bool false))), (22, .d (.sl (a0.Writes.map cS))), (24, .d (.sl (a1.Writes.map cS)))] [(2, some (.box [.d (.lit (.int .i64 a0.Start)), .d (.lit (.int .i64 a0.Commit)), .d (.sl (a0.Reads.map cS)), .d (.sl (a0.Writes.map cS))])), (3, some (.box [.d (.lit (.int .i64 a1.Start)), .d (.lit (.int .i64 a1.Commit)), .d (.sl (a1.Reads.map cS)), .d (.sl (a1.Writes.map cS))]))]) (Sub.table (by simp) (by simp)) ?_
          replace h := bsome h; obtain ⟨r15, hr15, h⟩ := h
          refine Chain.callL (d := 25) (p88 N a0.Writes a1.Writes r15 hr15) (by simp) rfl rfl (by simp <;> rfl) (by simp <;> rfl) ent88 (by simp <;> rfl) ?_
          refine Chain.sub (S' := mk 36 [] [(2, .ptr 2 0 0), (3, .ptr 3 0 0), (8, .d (.lit (.bool false))), (14, .d (.lit (.bool true))), (20, .d (.lit (.bool false))), (22, .d (.sl (a0.Writes.map cS))), (24, .d (.sl (a1.Writes.map cS))), (25, .d (.lit (.bool r15)))] [(2, some (.box [.d (.lit (.int .i64 a0.Start)), .d (.lit (.int .i64 a0.Commit)), .d (.sl (a0.Reads.map cS)), .d (.sl (a0.Writes.map cS))])), (3, some (.box [.d (.lit (.int .i64 a1.Start)), .d (.lit (.int .i64 a1.Commit)), .d (.sl (a1.Reads.map cS)), .d (.sl (a1.Writes.map cS))]))]) (by simp; exact Sub.table (by simp) (by simp)) ?_
          refine Chain.runK [] 2 fun K hK => ?_; simp; refine hK _ _ ?_; clear hK K
          refine Chain.sub (S' := mk 36 [] [(2, .ptr 2 0 0), (3, .ptr 3 0 0), (8, .d (.lit (.bool false))), (14, .d (.lit (.bool true))), (27, .d (.lit (.bool r15)))] [(2, some (.box [.d (.lit (.int .i64 a0.Start)), .d (.lit (.int .i64 a0.Commit)), .d (.sl (a0.Reads.map cS)), .d (.sl (a0.Writes.map cS))])), (3, some (.box [.d (.lit (.int .i64 a1.Start)), .d (.lit (.int .i64 a1.Commit)), .d (.sl (a1.Reads.map cS)), .d (.sl (a1.Writes.map cS))]))]) (Sub.table (by simp) (by simp)) ?_
          replace h := isome h; rcases h with ⟨c16, h⟩ | ⟨c16, h⟩
          · have c16_ : r15 = true := c16
            refine Chain.sub (Sub.bool 27 (b := r15) rfl c16_) ?_
            refine Chain.sub (S' := mk 36 [] [(2, .ptr 2 0 0), (3, .ptr 3 0 0), (8, .d (.lit (.bool false))), (14, .d (.lit (.bool true))), (27, .d (.lit (.bool true)))] [(2, some (.box [.d (.lit (.int .i64 a0.Start)), .d (.lit (.int .i64 a0.Commit)), .d (.sl (a0.Reads.map cS)), .d (.sl (a0.Writes.map cS))])), (3, some (.box [.d (.lit (.int .i64 a1.Start)), .d (.lit (.int .i64 a1.Commit)), .d (.sl (a1.Reads.map cS)), .d (.sl (a1.Writes.map cS))]))]) (by simp; exact Sub.table (by simp) (by simp)) ?_
            refine Chain.runK [] 9 fun K hK => ?_; simp; refine hK _ _ ?_; clear hK K
            refine Chain.sub (S' := mk 36 [] [(4, .d (.lit (.bool true)))] []) (Sub.table (by simp) (by simp)) ?_
            cases h
            exact Chain.nil (Sub.table (by simp) (by simp))
          · have c16_ : r15 = false := Bool.eq_false_iff.2 c16
            refine Chain.sub (Sub.bool 27 (b := r15) rfl c16_) ?_
            refine Chain.sub (S' := mk 36 [] [(2, .ptr 2 0 0), (3, .ptr 3 0 0), (8, .d (.lit (.bool false))), (14, .d (.lit (.bool true))), (27, .d (.lit (.bool false)))] [(2, some (.box [.d (.lit (.int .i64 a0.Start)), .d (.lit (.int .i64 a0.Commit)), .d (.sl (a0.Reads.map cS)), .d (.sl (a0.Writes.map cS))])), (3, some (.box [.d (.lit (.int .i64 a1.Start)), .d (.lit (.int .i64 a1.Commit)), .d (.sl (a1.Reads.map cS)), .d (.sl (a1.Writes.map cS))]))]) (by simp; exact Sub.table (by simp) (by simp)) ?_
            refine Chain.runK [] 4 fun K hK => ?_; simp; refine hK _ _ ?_; clear hK K
            refine Chain.sub (S' := mk 36 [] [(8, .d (.lit (.bool false))), (14, .d (.lit (.bool true))), (27, .d (.lit (.bool false))), (29, .d (.sl (a0.Reads.map cS))), (31, .d (.sl (a1.Writes.map cS)))] []) (Sub.table (by simp) (by simp)) ?_
            replace h := bsome h; obtain ⟨r17, hr17, h⟩ := h
            refine Chain.callL (d := 32) (p88 N a0.Reads a1.Writes r17 hr17) (by simp) rfl rfl (by simp <;> rfl) (by simp <;> rfl) ent88 (by simp <;> rfl) ?_
            refine Chain.sub (S' := mk 36 [] [(8, .d (.lit (.bool false))), (14, .d (.lit (.bool true))), (27, .d (.lit (.bool false))), (29, .d (.sl (a0.Reads.map cS))), (31, .d (.sl (a1.Writes.map cS))), (32, .d (.lit (.bool r17)))] []) (by simp; exact Sub.table (by simp) (by simp)) ?_
            refine Chain.runK [] 4 fun K hK => ?_; simp; refine hK _ _ ?_; clear hK K
            refine Chain.sub (S' := mk 36 [] [(4, .d (.lit (.bool r17)))] []) (Sub.table (by simp) (by simp)) ?_
            cases h
            exact Chain.nil (Sub.table (by simp) (by simp))
      · have c12_ : decide (a0.Commit ≤ a1.Start) = false := decide_eq_false c12
        refine Chain.sub (Sub.bool 14 (b := decide (a0.Commit ≤ a1.Start)) rfl c12_) ?_
        refine Chain.sub (S' := mk 36 [] [(2, .ptr 2 0 0), (3, .ptr 3 0 0), (8, .d (.lit (.bool false))), (14, .d (.lit (.bool false)))] [(2, some (.box [.d (.lit (.int .i64 a0.Start)), .d (.lit (.int .i64 a0.Commit)), .d (.sl (a0.Reads.map cS)), .d (.sl (a0.Writes.map cS))])), (3, some (.box [.d (.lit (.int .i64 a1.Start)), .d (.lit (.int .i64 a1.Commit)), .d (.sl (a1.Reads.map cS)), .d (.sl (a1.Writes.map cS))]))]) (by simp; exact Sub.table (by simp) (by simp)) ?_
        refine Chain.runK [] 22 fun K hK => ?_; simp; refine hK _ _ ?_; clear hK K
        refine Chain.sub (S' := mk 36 [] [(4, .d (.lit (.bool false)))] []) (Sub.table (by simp) (by simp)) ?_
        cases h
        exact Chain.nil (Sub.table (by simp) (by simp))
  · clear hj
    refine AW.ret ?_
    cases h
    exact FinC.ret (by simp) (by simp)

/-- stemma/ssi.DependencyGraph -/
def d43 (N : Nat) (a0 : (List S105)) (a1 : (List Bool)) : Option ((List S43) × Int) :=
  (d38 N a0).bind fun r1 =>
  if (r1 != 0) then (
    some (([] : List S43), r1)
  ) else
  if ((a1.length : Int) != (a0.length : Int)) then (
    some (([] : List S43), 3)
  ) else
  Option.bind (α := List S43) (
    iterN (σ := ((List S43) × Int)) (ρ := List S43) (fun ((l113, v114) : ((List S43) × Int)) =>
      if v114 < (a0.length : Int) then (
        Option.bind (α := List S43) (
          iterN (σ := ((List S43) × Int)) (ρ := List S43) (fun ((l367, v368) : ((List S43) × Int)) =>
            if v368 < (a0.length : Int) then (
              Option.bind (α := Bool) (
                if (v114 != v368) then (
                  (idx a1 v114).bind fun x437 =>
                  if x437 = true then (
                    (idx a1 v368).bind fun x440 =>
                    if x440 = true then (
                      (idx a0 v114).bind fun x443 =>
                      (idx a0 v368).bind fun x444 =>
                      (d70 N x443 x444).bind fun r445 =>
                      some r445
                    ) else
                    some false
                  ) else
                  some false
                ) else
                some false
              ) fun (v435 : Bool) =>
              if v435 = true then (
                (appL 16 l367 [(S43.mk v114 v368)]).bind fun l447 =>
                (chkI (v368 + 1)).bind fun v448 =>
                some (.inl ((l367 ++ [(S43.mk v114 v368)]), v448))
              ) else
              (chkI (v368 + 1)).bind fun v449 =>
              some (.inl (l367, v449))
            ) else
            some (.inr l367)
          ) N (l113, 0)
        ) fun (l423 : List S43) =>
        (chkI (v114 + 1)).bind fun v450 =>
        some (.inl (l423, v450))
      ) else
      some (.inr l113)
    ) N (([] : List S43), 0)
  ) fun (l339 : List S43) =>
  some (l339, 0)
set_option maxRecDepth 100000 in
set_option maxHeartbeats 4000000 in
theorem p43 (N : Nat) (a0 : (List S105)) (a1 : (List Bool)) (r : ((List S43) × Int)) (h : d43 N a0 a1 = some r) : FunC Try.prog 43 [.d (.sl (a0.map cS105)), .d (.sl (a1.map cB))] (.tup [.d (.sl (r.1.map cS43)), .d (.lit (.int .i64 r.2))]) := by
  unfold d43 at h
  refine FunC.enter 65 [(0, .d (.sl (a0.map cS105))), (1, .d (.sl (a1.map cB)))] (by simp) Try.func43 rfl (of_decide_eq_true rfl) rfl rfl ?_
  refine AW.seqR ?_
  refine Chain.runK [] 2 fun K hK => ?_; simp; refine hK _ _ ?_; clear hK K
  refine Chain.sub (S' := mk 65 [] [(0, .d (.sl (a0.map cS105))), (1, .d (.sl (a1.map cB)))] []) (Sub.table (by simp) (by simp)) ?_
  refine Chain.nil ?_
  refine AW.seq ?_
  refine AW.seqR ?_
  refine Chain.runK [] 1 fun K hK => ?_; simp; refine hK _ _ ?_; clear hK K
  refine Chain.sub (S' := mk 65 [] [(0, .d (.sl (a0.map cS105))), (1, .d (.sl (a1.map cB))), (10, .d (.sl (a0.map cS105)))] []) (Sub.table (by simp) (by simp)) ?_
  replace h := bsome h; obtain ⟨r1, hr1, h⟩ := h
  refine Chain.callL (d := 11) (p38 N a0 r1 hr1) (by simp) rfl rfl (by simp <;> rfl) (by simp <;> rfl) ent38 (by simp <;> rfl) ?_
  refine Chain.sub (S' := mk 65 [] [(0, .d (.sl (a0.map cS105))), (1, .d (.sl (a1.map cB))), (10, .d (.sl (a0.map cS105))), (11, .d (.lit (.int .i64 r1)))] []) (by simp; exact Sub.table (by simp) (by simp)) ?_
  refine Chain.runK [] 1 fun K hK => ?_; simp; refine hK _ _ ?_; clear hK K
  refine Chain.sub (S' := mk 65 [] [(0, .d (.sl (a0.map cS105))), (1, .d (.sl (a1.map cB))), (6, .d (.lit (.int .i64 r1)))] []) (Sub.table (by simp) (by simp)) ?_
  refine Chain.nil ?_
  refine AW.seqR ?_
  refine Chain.runK [] 2 fun K hK => ?_; simp; refine hK _ _ ?_; clear hK K
  refine Chain.sub (S' := mk 65 [] [(0, .d (.sl (a0.map cS105))), (1, .d (.sl (a1.map cB))), (6, .d (.lit (.int .i64 r1))), (13, .d (.lit (.bool (r1 != 0))))] []) (Sub.table (by simp) (by simp)) ?_
  refine Chain.nil ?_
  replace h := isome h; rcases h with ⟨c2, h⟩ | ⟨c2, h⟩
  · have c2_ : (r1 != 0) = true := c2
    refine AW.condT (b := (r1 != 0)) rfl c2_ ?_
    refine AW.sub (Sub.bool 13 (b := (r1 != 0)) rfl c2_) ?_
    refine AW.sub (S' := mk 65 [] [(0, .d (.sl (a0.map cS105))), (1, .d (.sl (a1.map cB))), (6, .d (.lit (.int .i64 r1))), (13, .d (.lit (.bool true)))] []) (by simp; exact Sub.table (by simp) (by simp)) ?_
    refine AW.seqR ?_
    refine Chain.runK [] 3 fun K hK => ?_; simp; refine hK _ _ ?_; clear hK K
    refine Chain.sub (S' := mk 65 [] [(4, .d (.lit (.slice none 0 0))), (5, .d (.lit (.int .i64 r1)))] []) (Sub.table (by simp) (by simp)) ?_
    refine Chain.nil ?_
    refine AW.sub (Sub.wk 4 rfl) ?_
    refine AW.sub (S' := mk 65 [] [(4, .d (.sl (([] : List S43).map cS43))), (5, .d (.lit (.int .i64 r1)))] []) (by simp; exact Sub.table (by simp) (by simp)) ?_
    refine AW.ret ?_
    cases h
    refine thenQ_pass (by simp) ?_
    exact FinC.ret (by simp) (by simp)
  · have c2_ : (r1 != 0) = false := Bool.eq_false_iff.2 c2
    refine AW.condF (b := (r1 != 0)) rfl c2_ ?_
    refine AW.sub (Sub.bool 13 (b := (r1 != 0)) rfl c2_) ?_
    refine AW.sub (S' := mk 65 [] [(0, .d (.sl (a0.map cS105))), (1, .d (.sl (a1.map cB))), (6, .d (.lit (.int .i64 r1))), (13, .d (.lit (.bool false)))] []) (by simp; exact Sub.table (by simp) (by simp)) ?_
    refine AW.skip ?_
    refine thenQ_normal ?_
    refine AW.seq ?_
    refine AW.seqR ?_
    refine Chain.runK [] 5 fun K hK => ?_; simp; refine hK _ _ ?_; clear hK K
    refine Chain.sub (S' := mk 65 [] [(0, .d (.sl (a0.map cS105))), (1, .d (.sl (a1.map cB))), (19, .d (.lit (.bool ((a1.length : Int) != (a0.length : Int)))))] []) (Sub.table (by simp) (by simp)) ?_
    refine Chain.nil ?_
    replace h := isome h; rcases h with ⟨c3, h⟩ | ⟨c3, h⟩
    · have c3_ : ((a1.length : Int) != (a0.length : Int)) = true := c3
      refine AW.condT (b := ((a1.length : Int) != (a0.length : Int))) rfl c3_ ?_
      refine AW.sub (Sub.bool 19 (b := ((a1.length : Int) != (a0.length : Int))) rfl c3_) ?_
      refine AW.sub (S' := mk 65 [] [(0, .d (.sl (a0.map cS105))), (1, .d (.sl (a1.map cB))), (19, .d (.lit (.bool true)))] []) (by simp; exact Sub.table (by simp) (by simp)) ?_
      refine AW.seqR ?_
      refine Chain.runK [] 2 fun K hK => ?_; simp; refine hK _ _ ?_; clear hK K
      refine Chain.sub (S' := mk 65 [] [(4, .d (.lit (.slice none 0 0))), (5, .d (.lit (.int .i64 3)))] []) (Sub.table (by simp) (by simp)) ?_
      refine Chain.nil ?_
      refine AW.sub (Sub.wk 4 rfl) ?_
      refine AW.sub (S' := mk 65 [] [(4, .d (.sl (([] : List S43).map cS43))), (5, .d (.lit (.int .i64 3)))] []) (by simp; exact Sub.table (by simp) (by simp)) ?_
      refine AW.ret ?_
      cases h
      refine thenQ_pass (by simp) ?_
      exact FinC.ret (by simp) (by simp)
    · have c3_ : ((a1.length : Int) != (a0.length : Int)) = false := Bool.eq_false_iff.2 c3
      refine AW.condF (b := ((a1.length : Int) != (a0.length : Int))) rfl c3_ ?_
      refine AW.sub (Sub.bool 19 (b := ((a1.length : Int) != (a0.length : Int))) rfl c3_) ?_
      refine AW.sub (S' := mk 65 [] [(0, .d (.sl (a0.map cS105))), (1, .d (.sl (a1.map cB))), (19, .d (.lit (.bool false)))] []) (by simp; exact Sub.table (by simp) (by simp)) ?_
      refine AW.skip ?_
      refine thenQ_normal ?_
      refine AW.seqR ?_
      refine Chain.runK [] 1 fun K hK => ?_; simp; refine hK _ _ ?_; clear hK K
      refine Chain.sub (S' := mk 65 [] [(0, .d (.sl (a0.map cS105))), (1, .d (.sl (a1.map cB))), (7, .d (.lit (.slice none 0 0)))] []) (Sub.table (by simp) (by simp)) ?_
      refine Chain.nil ?_
      refine AW.seq ?_
      refine AW.seqR ?_
      refine Chain.runK [] 3 fun K hK => ?_; simp; refine hK _ _ ?_; clear hK K
      refine Chain.sub (S' := mk 65 [] [(0, .d (.sl (a0.map cS105))), (1, .d (.sl (a1.map cB))), (7, .d (.lit (.slice none 0 0))), (21, .d (.lit (.int .i64 (a0.length : Int)))), (22, .d (.lit (.int .i64 0)))] []) (Sub.table (by simp) (by simp)) ?_
      refine Chain.nil ?_
      refine AW.lastN (fun (l339 : List S43) => mk 65 [] [(7, .ref 61 0 l339.length)] [(61, some (.arr 43 2 (l339.map cS43)))]) h ?_ ?_ <;> clear h
      · intro o h
        refine AW.block ?_
        refine AW.iter (fun ((l113, v114) : ((List S43) × Int)) => mk 65 [] [(0, .d (.sl (a0.map cS105))), (1, .d (.sl (a1.map cB))), (7, .ref 61 0 l113.length), (21, .d (.lit (.int .i64 (a0.length : Int)))), (22, .d (.lit (.int .i64 v114)))] [(61, some (.arr 43 2 (l113.map cS43)))]) h (Sub.trans (Sub.nilOwn (t := 7) (id := 61) (T := 43) (n := 2) rfl rfl (by decide)) (by simp; exact Sub.table (by simp) (by simp))) ?_
        clear h
        rintro ⟨l113, v114⟩ x h
        dsimp only at h ⊢
        refine AW.seqR ?_
        refine Chain.runK [] 1 fun K hK => ?_; simp; refine hK _ _ ?_; clear hK K
        refine Chain.sub (S' := mk 65 [] [(0, .d (.sl (a0.map cS105))), (1, .d (.sl (a1.map cB))), (7, .ref 61 0 l113.length), (21, .d (.lit (.int .i64 (a0.length : Int)))), (22, .d (.lit (.int .i64 v114))), (23, .d (.lit (.bool (decide (v114 < (a0.length : Int))))))] [(61, some (.arr 43 2 (l113.map cS43)))]) (Sub.table (by simp) (by simp)) ?_
        refine Chain.nil ?_
        refine AW.seq ?_
        replace h := isome h; rcases h with ⟨c340, h⟩ | ⟨c340, h⟩
        · have c340_ : decide (v114 < (a0.length : Int)) = true := decide_eq_true c340
          refine AW.condT (b := decide (v114 < (a0.length : Int))) rfl c340_ ?_
          refine AW.sub (Sub.bool 23 (b := decide (v114 < (a0.length : Int))) rfl c340_) ?_
          refine AW.sub (S' := mk 65 [] [(0, .d (.sl (a0.map cS105))), (1, .d (.sl (a1.map cB))), (7, .ref 61 0 l113.length), (21, .d (.lit (.int .i64 (a0.length : Int)))), (22, .d (.lit (.int .i64 v114))), (23, .d (.lit (.bool true)))] [(61, some (.arr 43 2 (l113.map cS43)))]) (by simp; exact Sub.table (by simp) (by simp)) ?_
          refine AW.skip ?_
          refine thenQ_normal ?_
          refine AW.seq ?_
          refine AW.block ?_
          refine AW.seqR ?_
          refine Chain.runK [] 2 fun K hK => ?_; simp; refine hK _ _ ?_; clear hK K
          refine Chain.sub (S' := mk 65 [] [(0, .d (.sl (a0.map cS105))), (1, .d (.sl (a1.map cB))), (7, .ref 61 0 l113.length), (8, .d (.lit (.int .i64 v114))), (21, .d (.lit (.int .i64 (a0.length : Int)))), (22, .d (.lit (.int .i64 v114)))] [(61, some (.arr 43 2 (l113.map cS43)))]) (Sub.table (by simp) (by simp)) ?_
          refine Chain.nil ?_
          refine AW.seqR ?_
          refine Chain.runK [] 3 fun K hK => ?_; simp; refine hK _ _ ?_; clear hK K
          refine Chain.sub (S' := mk 65 [] [(0, .d (.sl (a0.map cS105))), (1, .d (.sl (a1.map cB))), (7, .ref 61 0 l113.length), (8, .d (.lit (.int .i64 v114))), (21, .d (.lit (.int .i64 (a0.length : Int)))), (22, .d (.lit (.int .i64 v114))), (26, .d (.lit (.int .i64 (a0.length : Int)))), (27, .d (.lit (.int .i64 0)))] [(61, some (.arr 43 2 (l113.map cS43)))]) (Sub.table (by simp) (by simp)) ?_
          refine Chain.nil ?_
          refine AW.lastN (fun (l423 : List S43) => mk 65 [] [(0, .d (.sl (a0.map cS105))), (1, .d (.sl (a1.map cB))), (7, .ref 61 0 l423.length), (21, .d (.lit (.int .i64 (a0.length : Int)))), (22, .d (.lit (.int .i64 v114)))] [(61, some (.arr 43 2 (l423.map cS43)))]) h ?_ ?_ <;> clear h
          · intro o h
            refine AW.block ?_
            refine AW.iter (fun ((l367, v368) : ((List S43) × Int)) => mk 65 [] [(0, .d (.sl (a0.map cS105))), (1, .d (.sl (a1.map cB))), (7, .ref 61 0 l367.length), (8, .d (.lit (.int .i64 v114))), (21, .d (.lit (.int .i64 (a0.length : Int)))), (22, .d (.lit (.int .i64 v114))), (26, .d (.lit (.int .i64 (a0.length : Int)))), (27, .d (.lit (.int .i64 v368)))] [(61, some (.arr 43 2 (l367.map cS43)))]) h (Sub.table (by simp) (by simp)) ?_
            clear h
            rintro ⟨l367, v368⟩ x h
            dsimp only at h ⊢
            refine AW.seqR ?_
            refine Chain.runK [] 1 fun K hK => ?_; simp; refine hK _ _ ?_; clear hK K
            refine Chain.sub (S' := mk 65 [] [(0, .d (.sl (a0.map cS105))), (1, .d (.sl (a1.map cB))), (7, .ref 61 0 l367.length), (8, .d (.lit (.int .i64 v114))), (21, .d (.lit (.int .i64 (a0.length : Int)))), (22, .d (.lit (.int .i64 v114))), (26, .d (.lit (.int .i64 (a0.length : Int)))), (27, .d (.lit (.int .i64 v368))), (28, .d (.lit (.bool (decide (v368 < (a0.length : Int))))))] [(61, some (.arr 43 2 (l367.map cS43)))]) (Sub.table (by simp) (by simp)) ?_
            refine Chain.nil ?_
            refine AW.seq ?_
            replace h := isome h; rcases h with ⟨c424, h⟩ | ⟨c424, h⟩
            · have c424_ : decide (v368 < (a0.length : Int)) = true := decide_eq_true c424
              refine AW.condT (b := decide (v368 < (a0.length : Int))) rfl c424_ ?_
              refine AW.sub (Sub.bool 28 (b := decide (v368 < (a0.length : Int))) rfl c424_) ?_
              refine AW.sub (S' := mk 65 [] [(0, .d (.sl (a0.map cS105))), (1, .d (.sl (a1.map cB))), (7, .ref 61 0 l367.length), (8, .d (.lit (.int .i64 v114))), (21, .d (.lit (.int .i64 (a0.length : Int)))), (22, .d (.lit (.int .i64 v114))), (26, .d (.lit (.int .i64 (a0.length : Int)))), (27, .d (.lit (.int .i64 v368))), (28, .d (.lit (.bool true)))] [(61, some (.arr 43 2 (l367.map cS43)))]) (by simp; exact Sub.table (by simp) (by simp)) ?_
              refine AW.skip ?_
              refine thenQ_normal ?_
              refine AW.seq ?_
              refine AW.block ?_
              refine AW.seqR ?_
              refine Chain.runK [] 2 fun K hK => ?_; simp; refine hK _ _ ?_; clear hK K
              refine Chain.sub (S' := mk 65 [] [(0, .d (.sl (a0.map cS105))), (1, .d (.sl (a1.map cB))), (7, .ref 61 0 l367.length), (8, .d (.lit (.int .i64 v114))), (9, .d (.lit (.int .i64 v368))), (21, .d (.lit (.int .i64 (a0.length : Int)))), (22, .d (.lit (.int .i64 v114))), (26, .d (.lit (.int .i64 (a0.length : Int)))), (27, .d (.lit (.int .i64 v368)))] [(61, some (.arr 43 2 (l367.map cS43)))]) (Sub.table (by simp) (by simp)) ?_
              refine Chain.nil ?_
              replace h := bsome h; obtain ⟨v435, hj, h⟩ := h
              refine AW.cutQ (by kernel_rfl) (by kernel_rfl) (mk 65 [] [(0, .d (.sl (a0.map cS105))), (1, .d (.sl (a1.map cB))), (7, .ref 61 0 l367.length), (8, .d (.lit (.int .i64 v114))), (9, .d (.lit (.int .i64 v368))), (21, .d (.lit (.int .i64 (a0.length : Int)))), (22, .d (.lit (.int .i64 v114))), (26, .d (.lit (.int .i64 (a0.length : Int)))), (27, .d (.lit (.int .i64 v368))), (55, .d (.lit (.bool v435)))] [(61, some (.arr 43 2 (l367.map cS43)))]) ?_ ?_
              · clear h; have h := hj; clear hj
                refine Chain.runQ 4 fun K hK => ?_; simp; refine hK _ _ ?_; clear hK K
                refine Chain.sub (S' := mk 65 [] [(0, .d (.sl (a0.map cS105))), (1, .d (.sl (a1.map cB))), (7, .ref 61 0 l367.length), (8, .d (.lit (.int .i64 v114))), (9, .d (.lit (.int .i64 v368))), (21, .d (.lit (.int .i64 (a0.length : Int)))), (22, .d (.lit (.int .i64 v114))), (26, .d (.lit (.int .i64 (a0.length : Int)))), (27, .d (.lit (.int .i64 v368))), (33, .d (.lit (.bool (v114 != v368))))] [(61, some (.arr 43 2 (l367.map cS43)))]) (Sub.table (by simp) (by simp)) ?_
                replace h := isome h; rcases h with ⟨c436, h⟩ | ⟨c436, h⟩
                · have c436_ : (v114 != v368) = true := c436
                  refine Chain.sub (Sub.bool 33 (b := (v114 != v368)) rfl c436_) ?_
                  refine Chain.sub (S' := mk 65 [] [(0, .d (.sl (a0.map cS105))), (1, .d (.sl (a1.map cB))), (7, .ref 61 0 l367.length), (8, .d (.lit (.int .i64 v114))), (9, .d (.lit (.int .i64 v368))), (21, .d (.lit (.int .i64 (a0.length : Int)))), (22, .d (.lit (.int .i64 v114))), (26, .d (.lit (.int .i64 (a0.length : Int)))), (27, .d (.lit (.int .i64 v368))), (33, .d (.lit (.bool true)))] [(61, some (.arr 43 2 (l367.map cS43)))]) (by simp; exact Sub.table (by simp) (by simp)) ?_
                  replace h := bsome h; obtain ⟨x437, hx437, h⟩ := h
                  obtain ⟨k438, hx437k, hx437, hx437a, hx437b⟩ := idx_some hx437
                  refine Chain.runQ 6 fun K hK => ?_; simp [hx437, hx437k, hx437a]; refine hK _ _ ?_; clear hK K
                  refine Chain.sub (S' := mk 65 [] [(0, .d (.sl (a0.map cS105))), (1, .d (.sl (a1.map cB))), (7, .ref 61 0 l367.length), (8, .d (.lit (.int .i64 v114))), (9, .d (.lit (.int .i64 v368))), (21, .d (.lit (.int .i64 (a0.length : Int)))), (22, .d (.lit (.int .i64 v114))), (26, .d (.lit (.int .i64 (a0.length : Int)))), (27, .d (.lit (.int .i64 v368))), (34, .d (.sl (a1.map cB))), (35, .d (.lit (.int .i64 v114))), (36, .d (.pim [.lit (.bool x437)])), (37, .d (.lit (.bool x437))), (39, .d (.lit (.bool x437)))] [(61, some (.arr 43 2 (l367.map cS43)))]) (Sub.table (by simp) (by simp)) ?_
                  replace h := isome h; rcases h with ⟨c439, h⟩ | ⟨c439, h⟩
                  · have c439_ : x437 = true := c439
                    refine Chain.sub (Sub.bool 37 (b := x437) rfl c439_) ?_
                    refine Chain.sub (Sub.bool 39 (b := x437) rfl c439_) ?_
                    refine Chain.sub (S' := mk 65 [] [(0, .d (.sl (a0.map cS105))), (1, .d (.sl (a1.map cB))), (7, .ref 61 0 l367.length), (8, .d (.lit (.int .i64 v114))), (9, .d (.lit (.int .i64 v368))), (21, .d (.lit (.int .i64 (a0.length : Int)))), (22, .d (.lit (.int .i64 v114))), (26, .d (.lit (.int .i64 (a0.length : Int)))), (27, .d (.lit (.int .i64 v368))), (34, .d (.sl (a1.map cB))), (35, .d (.lit (.int .i64 v114))), (36, .d (.pim [.lit (.bool x437)])), (37, .d (.lit (.bool true))), (39, .d (.lit (.bool true)))] [(61, some (.arr 43 2 (l367.map cS43)))]) (by simp; exact Sub.table (by simp) (by simp)) ?_
                    replace h := bsome h; obtain ⟨x440, hx440, h⟩ := h
                    obtain ⟨k441, hx440k, hx440, hx440a, hx440b⟩ := idx_some hx440
                    refine Chain.runQ 6 fun K hK => ?_; simp [hx440, hx440k, hx440a]; refine hK _ _ ?_; clear hK K
                    refine Chain.sub (S' := mk 65 [] [(0, .d (.sl (a0.map cS105))), (1, .d (.sl (a1.map cB))), (7, .ref 61 0 l367.length), (8, .d (.lit (.int .i64 v114))), (9, .d (.lit (.int .i64 v368))), (21, .d (.lit (.int .i64 (a0.length : Int)))), (22, .d (.lit (.int .i64 v114))), (26, .d (.lit (.int .i64 (a0.length : Int)))), (27, .d (.lit (.int .i64 v368))), (34, .d (.sl (a1.map cB))), (35, .d (.lit (.int .i64 v114))), (36, .d (.pim [.lit (.bool x437)])), (37, .d (.lit (.bool true))), (40, .d (.sl (a1.map cB))), (41, .d (.lit (.int .i64 v368))), (42, .d (.pim [.lit (.bool x440)])), (43, .d (.lit (.bool x440))), (45, .d (.lit (.bool x440)))] [(61, some (.arr 43 2 (l367.map cS43)))]) (Sub.table (by simp) (by simp)) ?_
                    replace h := isome h; rcases h with ⟨c442, h⟩ | ⟨c442, h⟩
                    · have c442_ : x440 = true := c442
                      refine Chain.sub (Sub.bool 43 (b := x440) rfl c442_) ?_
                      refine Chain.sub (Sub.bool 45 (b := x440) rfl c442_) ?_
                      refine Chain.sub (S' := mk 65 [] [(0, .d (.sl (a0.map cS105))), (1, .d (.sl (a1.map cB))), (7, .ref 61 0 l367.length), (8, .d (.lit (.int .i64 v114))), (9, .d (.lit (.int .i64 v368))), (21, .d (.lit (.int .i64 (a0.length : Int)))), (22, .d (.lit (.int .i64 v114))), (26, .d (.lit (.int .i64 (a0.length : Int)))), (27, .d (.lit (.int .i64 v368))), (34, .d (.sl (a1.map cB))), (35, .d (.lit (.int .i64 v114))), (36, .d (.pim [.lit (.bool x437)])), (37, .d (.lit (.bool true))), (40, .d (.sl (a1.map cB))), (41, .d (.lit (.int .i64 v368))), (42, .d (.pim [.lit (.bool x440)])), (43, .d (.lit (.bool true))), (45, .d (.lit (.bool true)))] [(61, some (.arr 43 2 (l367.map cS43)))]) (by simp; exact Sub.table (by simp) (by simp)) ?_
                      replace h := bsome h; obtain ⟨x443, hx443, h⟩ := h
                      obtain ⟨hx443, hx443a, hx443b⟩ := idx_some2 hx443 hx437k
                      replace h := bsome h; obtain ⟨x444, hx444, h⟩ := h
                      obtain ⟨hx444, hx444a, hx444b⟩ := idx_some2 hx444 hx440k
                      refine Chain.runQ 8 fun K hK => ?_; simp [hx443, hx437k, hx443a, hx444, hx440k, hx444a]; refine hK _ _ ?_; clear hK K
                      refine Chain.sub (S' := mk 65 [] [(0, .d (.sl (a0.map cS105))), (1, .d (.sl (a1.map cB))), (7, .ref 61 0 l367.length), (8, .d (.lit (.int .i64 v114))), (9, .d (.lit (.int .i64 v368))), (21, .d (.lit (.int .i64 (a0.length : Int)))), (22, .d (.lit (.int .i64 v114))), (26, .d (.lit (.int .i64 (a0.length : Int)))), (27, .d (.lit (.int .i64 v368))), (34, .d (.sl (a1.map cB))), (35, .d (.lit (.int .i64 v114))), (36, .d (.pim [.lit (.bool x437)])), (37, .d (.lit (.bool true))), (40, .d (.sl (a1.map cB))), (41, .d (.lit (.int .i64 v368))), (42, .d (.pim [.lit (.bool x440)])), (43, .d (.lit (.bool true))), (45, .d (.lit (.bool true))), (46, .d (.sl (a0.map cS105))), (47, .d (.lit (.int .i64 v114))), (48, .d (.pim [.lit (.int .i64 x443.Start), .lit (.int .i64 x443.Commit), .sl (x443.Reads.map cS), .sl (x443.Writes.map cS)])), (49, .agg [.d (.lit (.int .i64 x443.Start)), .d (.lit (.int .i64 x443.Commit)), .d (.sl (x443.Reads.map cS)), .d (.sl (x443.Writes.map cS))]), (50, .d (.sl (a0.map cS105))), (51, .d (.lit (.int .i64 v368))), (52, .d (.pim [.lit (.int .i64 x444.Start), .lit (.int .i64 x444.Commit), .sl (x444.Reads.map cS), .sl (x444.Writes.map cS)])), (53, .agg [.d (.lit (.int .i64 x444.Start)), .d (.lit (.int .i64 x444.Commit)), .d (.sl (x444.Reads.map cS)), .d (.sl (x444.Writes.map cS))])] [(61, some (.arr 43 2 (l367.map cS43)))]) (Sub.table (by simp) (by simp)) ?_
                      replace h := bsome h; obtain ⟨r445, hr445, h⟩ := h
                      refine Chain.callL (d := 54) (p70 N x443 x444 r445 hr445) (by simp) rfl rfl (by simp <;> rfl) (by simp <;> rfl) ent70 (by simp <;> rfl) ?_
                      refine Chain.sub (S' := mk 65 [] [(0, .d (.sl (a0.map cS105))), (1, .d (.sl (a1.map cB))), (7, .ref 61 0 l367.length), (8, .d (.lit (.int .i64 v114))), (9, .d (.lit (.int .i64 v368))), (21, .d (.lit (.int .i64 (a0.length : Int)))), (22, .d (.lit (.int .i64 v114))), (26, .d (.lit (.int .i64 (a0.length : Int)))), (27, .d (.lit (.int .i64 v368))), (34, .d (.sl (a1.map cB))), (35, .d (.lit (.int .i64 v114))), (36, .d (.pim [.lit (.bool x437)])), (37, .d (.lit (.bool true))), (40, .d (.sl (a1.map cB))), (41, .d (.lit (.int .i64 v368))), (42, .d (.pim [.lit (.bool x440)])), (43, .d (.lit (.bool true))), (45, .d (.lit (.bool true))), (46, .d (.sl (a0.map cS105))), (47, .d (.lit (.int .i64 v114))), (48, .d (.pim [.lit (.int .i64 x443.Start), .lit (.int .i64 x443.Commit), .sl (x443.Reads.map cS), .sl (x443.Writes.map cS)])), (49, .agg [.d (.lit (.int .i64 x443.Start)), .d (.lit (.int .i64 x443.Commit)), .d (.sl (x443.Reads.map cS)), .d (.sl (x443.Writes.map cS))]), (50, .d (.sl (a0.map cS105))), (51, .d (.lit (.int .i64 v368))), (52, .d (.pim [.lit (.int .i64 x444.Start), .lit (.int .i64 x444.Commit), .sl (x444.Reads.map cS), .sl (x444.Writes.map cS)])), (53, .agg [.d (.lit (.int .i64 x444.Start)), .d (.lit (.int .i64 x444.Commit)), .d (.sl (x444.Reads.map cS)), .d (.sl (x444.Writes.map cS))]), (54, .d (.lit (.bool r445)))] [(61, some (.arr 43 2 (l367.map cS43)))]) (by simp; exact Sub.table (by simp) (by simp)) ?_
                      refine Chain.runQ 1 fun K hK => ?_; simp; refine hK _ _ ?_; clear hK K
                      refine Chain.sub (S' := mk 65 [] [(0, .d (.sl (a0.map cS105))), (1, .d (.sl (a1.map cB))), (7, .ref 61 0 l367.length), (8, .d (.lit (.int .i64 v114))), (9, .d (.lit (.int .i64 v368))), (21, .d (.lit (.int .i64 (a0.length : Int)))), (22, .d (.lit (.int .i64 v114))), (26, .d (.lit (.int .i64 (a0.length : Int)))), (27, .d (.lit (.int .i64 v368))), (34, .d (.sl (a1.map cB))), (35, .d (.lit (.int .i64 v114))), (36, .d (.pim [.lit (.bool x437)])), (37, .d (.lit (.bool true))), (40, .d (.sl (a1.map cB))), (41, .d (.lit (.int .i64 v368))), (42, .d (.pim [.lit (.bool x440)])), (43, .d (.lit (.bool true))), (46, .d (.sl (a0.map cS105))), (47, .d (.lit (.int .i64 v114))), (48, .d (.pim [.lit (.int .i64 x443.Start), .lit (.int .i64 x443.Commit), .sl (x443.Reads.map cS), .sl (x443.Writes.map cS)])), (49, .agg [.d (.lit (.int .i64 x443.Start)), .d (.lit (.int .i64 x443.Commit)), .d (.sl (x443.Reads.map cS)), .d (.sl (x443.Writes.map cS))]), (50, .d (.sl (a0.map cS105))), (51, .d (.lit (.int .i64 v368))), (52, .d (.pim [.lit (.int .i64 x444.Start), .lit (.int .i64 x444.Commit), .sl (x444.Reads.map cS), .sl (x444.Writes.map cS)])), (53, .agg [.d (.lit (.int .i64 x444.Start)), .d (.lit (.int .i64 x444.Commit)), .d (.sl (x444.Reads.map cS)), .d (.sl (x444.Writes.map cS))]), (54, .d (.lit (.bool r445))), (55, .d (.lit (.bool r445)))] [(61, some (.arr 43 2 (l367.map cS43)))]) (Sub.table (by simp) (by simp)) ?_
                      cases h
                      exact Chain.nil (Sub.table (by simp) (by simp))
                    · have c442_ : x440 = false := Bool.eq_false_iff.2 c442
                      refine Chain.sub (Sub.bool 43 (b := x440) rfl c442_) ?_
                      refine Chain.sub (Sub.bool 45 (b := x440) rfl c442_) ?_
                      refine Chain.sub (S' := mk 65 [] [(0, .d (.sl (a0.map cS105))), (1, .d (.sl (a1.map cB))), (7, .ref 61 0 l367.length), (8, .d (.lit (.int .i64 v114))), (9, .d (.lit (.int .i64 v368))), (21, .d (.lit (.int .i64 (a0.length : Int)))), (22, .d (.lit (.int .i64 v114))), (26, .d (.lit (.int .i64 (a0.length : Int)))), (27, .d (.lit (.int .i64 v368))), (34, .d (.sl (a1.map cB))), (35, .d (.lit (.int .i64 v114))), (36, .d (.pim [.lit (.bool x437)])), (37, .d (.lit (.bool true))), (40, .d (.sl (a1.map cB))), (41, .d (.lit (.int .i64 v368))), (42, .d (.pim [.lit (.bool x440)])), (43, .d (.lit (.bool false))), (45, .d (.lit (.bool false)))] [(61, some (.arr 43 2 (l367.map cS43)))]) (by simp; exact Sub.table (by simp) (by simp)) ?_
                      refine Chain.runQ 10 fun K hK => ?_; simp; refine hK _ _ ?_; clear hK K
                      refine Chain.sub (S' := mk 65 [] [(0, .d (.sl (a0.map cS105))), (1, .d (.sl (a1.map cB))), (7, .ref 61 0 l367.length), (8, .d (.lit (.int .i64 v114))), (9, .d (.lit (.int .i64 v368))), (21, .d (.lit (.int .i64 (a0.length : Int)))), (22, .d (.lit (.int .i64 v114))), (26, .d (.lit (.int .i64 (a0.length : Int)))), (27, .d (.lit (.int .i64 v368))), (34, .d (.sl (a1.map cB))), (35, .d (.lit (.int .i64 v114))), (36, .d (.pim [.lit (.bool x437)])), (37, .d (.lit (.bool true))), (40, .d (.sl (a1.map cB))), (41, .d (.lit (.int .i64 v368))), (42, .d (.pim [.lit (.bool x440)])), (43, .d (.lit (.bool false))), (46, .tup []), (47, .tup []), (48, .tup []), (49, .tup []), (50, .tup []), (51, .tup []), (52, .tup []), (53, .tup []), (54, .tup []), (55, .d (.lit (.bool false)))] [(61, some (.arr 43 2 (l367.map cS43)))]) (Sub.table (by simp) (by simp)) ?_
                      cases h
                      exact Chain.nil (Sub.table (by simp) (by simp))
                  · have c439_ : x437 = false := Bool.eq_false_iff.2 c439
                    refine Chain.sub (Sub.bool 37 (b := x437) rfl c439_) ?_
                    refine Chain.sub (Sub.bool 39 (b := x437) rfl c439_) ?_
                    refine Chain.sub (S' := mk 65 [] [(0, .d (.sl (a0.map cS105))), (1, .d (.sl (a1.map cB))), (7, .ref 61 0 l367.length), (8, .d (.lit (.int .i64 v114))), (9, .d (.lit (.int .i64 v368))), (21, .d (.lit (.int .i64 (a0.length : Int)))), (22, .d (.lit (.int .i64 v114))), (26, .d (.lit (.int .i64 (a0.length : Int)))), (27, .d (.lit (.int .i64 v368))), (34, .d (.sl (a1.map cB))), (35, .d (.lit (.int .i64 v114))), (36, .d (.pim [.lit (.bool x437)])), (37, .d (.lit (.bool false))), (39, .d (.lit (.bool false)))] [(61, some (.arr 43 2 (l367.map cS43)))]) (by simp; exact Sub.table (by simp) (by simp)) ?_
                    refine Chain.runQ 16 fun K hK => ?_; simp; refine hK _ _ ?_; clear hK K
                    refine Chain.sub (S' := mk 65 [] [(0, .d (.sl (a0.map cS105))), (1, .d (.sl (a1.map cB))), (7, .ref 61 0 l367.length), (8, .d (.lit (.int .i64 v114))), (9, .d (.lit (.int .i64 v368))), (21, .d (.lit (.int .i64 (a0.length : Int)))), (22, .d (.lit (.int .i64 v114))), (26, .d (.lit (.int .i64 (a0.length : Int)))), (27, .d (.lit (.int .i64 v368))), (34, .d (.sl (a1.map cB))), (35, .d (.lit (.int .i64 v114))), (36, .d (.pim [.lit (.bool x437)])), (37, .d (.lit (.bool false))), (40, .tup []), (41, .tup []), (42, .tup []), (43, .tup []), (46, .tup []), (47, .tup []), (48, .tup []), (49, .tup []), (50, .tup []), (51, .tup []), (52, .tup []), (53, .tup []), (54, .tup []), (55, .d (.lit (.bool false)))] [(61, some (.arr 43 2 (l367.map cS43)))]) (Sub.table (by simp) (by simp)) ?_
                    cases h
                    exact Chain.nil (Sub.table (by simp) (by simp))
                · have c436_ : (v114 != v368) = false := Bool.eq_false_iff.2 c436
                  refine Chain.sub (Sub.bool 33 (b := (v114 != v368)) rfl c436_) ?_
                  refine Chain.sub (S' := mk 65 [] [(0, .d (.sl (a0.map cS105))), (1, .d (.sl (a1.map cB))), (7, .ref 61 0 l367.length), (8, .d (.lit (.int .i64 v114))), (9, .d (.lit (.int .i64 v368))), (21, .d (.lit (.int .i64 (a0.length : Int)))), (22, .d (.lit (.int .i64 v114))), (26, .d (.lit (.int .i64 (a0.length : Int)))), (27, .d (.lit (.int .i64 v368))), (33, .d (.lit (.bool false)))] [(61, some (.arr 43 2 (l367.map cS43)))]) (by simp; exact Sub.table (by simp) (by simp)) ?_
                  refine Chain.runQ 22 fun K hK => ?_; simp; refine hK _ _ ?_; clear hK K
                  refine Chain.sub (S' := mk 65 [] [(0, .d (.sl (a0.map cS105))), (1, .d (.sl (a1.map cB))), (7, .ref 61 0 l367.length), (8, .d (.lit (.int .i64 v114))), (9, .d (.lit (.int .i64 v368))), (21, .d (.lit (.int .i64 (a0.length : Int)))), (22, .d (.lit (.int .i64 v114))), (26, .d (.lit (.int .i64 (a0.length : Int)))), (27, .d (.lit (.int .i64 v368))), (34, .tup []), (35, .tup []), (36, .tup []), (37, .tup []), (40, .tup []), (41, .tup []), (42, .tup []), (43, .tup []), (46, .tup []), (47, .tup []), (48, .tup []), (49, .tup []), (50, .tup []), (51, .tup []), (52, .tup []), (53, .tup []), (54, .tup []), (55, .d (.lit (.bool false)))] [(61, some (.arr 43 2 (l367.map cS43)))]) (Sub.table (by simp) (by simp)) ?_
                  cases h
                  exact Chain.nil (Sub.table (by simp) (by simp))
              · clear hj
                replace h := isome h; rcases h with ⟨c446, h⟩ | ⟨c446, h⟩
                · have c446_ : v435 = true := c446
                  refine AW.condT (b := v435) rfl c446_ ?_
                  refine AW.sub (Sub.bool 55 (b := v435) rfl c446_) ?_
                  refine AW.sub (S' := mk 65 [] [(0, .d (.sl (a0.map cS105))), (1, .d (.sl (a1.map cB))), (7, .ref 61 0 l367.length), (8, .d (.lit (.int .i64 v114))), (9, .d (.lit (.int .i64 v368))), (21, .d (.lit (.int .i64 (a0.length : Int)))), (22, .d (.lit (.int .i64 v114))), (26, .d (.lit (.int .i64 (a0.length : Int)))), (27, .d (.lit (.int .i64 v368))), (55, .d (.lit (.bool true)))] [(61, some (.arr 43 2 (l367.map cS43)))]) (by simp; exact Sub.table (by simp) (by simp)) ?_
                  refine AW.region ?_
                  replace h := bsome h; obtain ⟨l447, hl447, h⟩ := h
                  obtain ⟨hl447a, hl447⟩ := appL_some hl447
                  subst hl447
                  try simp only [List.length_append, List.length_cons, List.length_nil, Nat.zero_add] at hl447a
                  refine Chain.runK [60] 7 fun K hK => ?_; simp [hl447a]; refine hK _ _ ?_; clear hK K
                  refine Chain.sub (S' := mk 65 [] [(0, .d (.sl (a0.map cS105))), (1, .d (.sl (a1.map cB))), (7, .ref 61 0 ((l367 ++ [(S43.mk v114 v368)]).length)), (8, .d (.lit (.int .i64 v114))), (21, .d (.lit (.int .i64 (a0.length : Int)))), (22, .d (.lit (.int .i64 v114))), (26, .d (.lit (.int .i64 (a0.length : Int)))), (27, .d (.lit (.int .i64 v368)))] [(61, some (.arr 43 2 ((l367 ++ [(S43.mk v114 v368)]).map cS43)))]) (Sub.table (by simp) (by simp)) ?_
                  refine Chain.nil ?_
                  refine blockQ.normal ?_
                  refine thenQ_normal ?_
                  refine AW.region ?_
                  replace h := bsome h; obtain ⟨v448, hv448, h⟩ := h
                  have hv448 := chkI_some hv448
                  refine Chain.runK [] 2 fun K hK => ?_; simp [hv448]; refine hK _ _ ?_; clear hK K
                  refine Chain.sub (S' := mk 65 [] [(0, .d (.sl (a0.map cS105))), (1, .d (.sl (a1.map cB))), (7, .ref 61 0 ((l367 ++ [(S43.mk v114 v368)]).length)), (8, .d (.lit (.int .i64 v114))), (21, .d (.lit (.int .i64 (a0.length : Int)))), (22, .d (.lit (.int .i64 v114))), (26, .d (.lit (.int .i64 (a0.length : Int)))), (27, .d (.lit (.int .i64 v448)))] [(61, some (.arr 43 2 ((l367 ++ [(S43.mk v114 v368)]).map cS43)))]) (Sub.table (by simp) (by simp)) ?_
                  refine Chain.nil ?_
                  cases h
                  refine PostI.next ?_
                  exact (Sub.table (by simp) (by simp))
                · have c446_ : v435 = false := Bool.eq_false_iff.2 c446
                  refine AW.condF (b := v435) rfl c446_ ?_
                  refine AW.sub (Sub.bool 55 (b := v435) rfl c446_) ?_
                  refine AW.sub (S' := mk 65 [] [(0, .d (.sl (a0.map cS105))), (1, .d (.sl (a1.map cB))), (7, .ref 61 0 l367.length), (8, .d (.lit (.int .i64 v114))), (9, .d (.lit (.int .i64 v368))), (21, .d (.lit (.int .i64 (a0.length : Int)))), (22, .d (.lit (.int .i64 v114))), (26, .d (.lit (.int .i64 (a0.length : Int)))), (27, .d (.lit (.int .i64 v368))), (55, .d (.lit (.bool false)))] [(61, some (.arr 43 2 (l367.map cS43)))]) (by simp; exact Sub.table (by simp) (by simp)) ?_
                  refine AW.skip ?_
                  refine blockQ.normal ?_
                  refine thenQ_normal ?_
                  refine AW.region ?_
                  replace h := bsome h; obtain ⟨v449, hv449, h⟩ := h
                  have hv449 := chkI_some hv449
                  refine Chain.runK [] 2 fun K hK => ?_; simp [hv449]; refine hK _ _ ?_; clear hK K
                  refine Chain.sub (S' := mk 65 [] [(0, .d (.sl (a0.map cS105))), (1, .d (.sl (a1.map cB))), (7, .ref 61 0 l367.length), (8, .d (.lit (.int .i64 v114))), (21, .d (.lit (.int .i64 (a0.length : Int)))), (22, .d (.lit (.int .i64 v114))), (26, .d (.lit (.int .i64 (a0.length : Int)))), (27, .d (.lit (.int .i64 v449)))] [(61, some (.arr 43 2 (l367.map cS43)))]) (Sub.table (by simp) (by simp)) ?_
                  refine Chain.nil ?_
                  cases h
                  refine PostI.next ?_
                  exact (Sub.table (by simp) (by simp))
            · have c424_ : decide (v368 < (a0.length : Int)) = false := decide_eq_false c424
              refine AW.condF (b := decide (v368 < (a0.length : Int))) rfl c424_ ?_
              refine AW.sub (Sub.bool 28 (b := decide (v368 < (a0.length : Int))) rfl c424_) ?_
              refine AW.sub (S' := mk 65 [] [(0, .d (.sl (a0.map cS105))), (1, .d (.sl (a1.map cB))), (7, .ref 61 0 l367.length), (8, .d (.lit (.int .i64 v114))), (21, .d (.lit (.int .i64 (a0.length : Int)))), (22, .d (.lit (.int .i64 v114))), (26, .d (.lit (.int .i64 (a0.length : Int)))), (27, .d (.lit (.int .i64 v368))), (28, .d (.lit (.bool false)))] [(61, some (.arr 43 2 (l367.map cS43)))]) (by simp; exact Sub.table (by simp) (by simp)) ?_
              refine AW.exit ?_
              cases h
              refine thenQ_pass (by simp) ?_
              refine PostI.out (by simp) ?_
              rintro rfl
              refine blockQ.hit ?_
              refine PostN.next ?_
              exact (Sub.table (by simp) (by simp))
          · rintro l423 h
            refine blockQ.normal ?_
            refine thenQ_normal ?_
            refine AW.region ?_
            replace h := bsome h; obtain ⟨v450, hv450, h⟩ := h
            have hv450 := chkI_some hv450
            refine Chain.runK [] 2 fun K hK => ?_; simp [hv450]; refine hK _ _ ?_; clear hK K
            refine Chain.sub (S' := mk 65 [] [(0, .d (.sl (a0.map cS105))), (1, .d (.sl (a1.map cB))), (7, .ref 61 0 l423.length), (21, .d (.lit (.int .i64 (a0.length : Int)))), (22, .d (.lit (.int .i64 v450)))] [(61, some (.arr 43 2 (l423.map cS43)))]) (Sub.table (by simp) (by simp)) ?_
            refine Chain.nil ?_
            cases h
            refine PostI.next ?_
            exact (Sub.table (by simp) (by simp))
        · have c340_ : decide (v114 < (a0.length : Int)) = false := decide_eq_false c340
          refine AW.condF (b := decide (v114 < (a0.length : Int))) rfl c340_ ?_
          refine AW.sub (Sub.bool 23 (b := decide (v114 < (a0.length : Int))) rfl c340_) ?_
          refine AW.sub (S' := mk 65 [] [(0, .d (.sl (a0.map cS105))), (1, .d (.sl (a1.map cB))), (7, .ref 61 0 l113.length), (21, .d (.lit (.int .i64 (a0.length : Int)))), (22, .d (.lit (.int .i64 v114))), (23, .d (.lit (.bool false)))] [(61, some (.arr 43 2 (l113.map cS43)))]) (by simp; exact Sub.table (by simp) (by simp)) ?_
          refine AW.exit ?_
          cases h
          refine thenQ_pass (by simp) ?_
          refine PostI.out (by simp) ?_
          rintro rfl
          refine blockQ.hit ?_
          refine PostN.next ?_
          exact (Sub.table (by simp) (by simp))
      · rintro l339 h
        refine thenQ_normal ?_
        refine AW.seqR ?_
        refine Chain.runK [] 3 fun K hK => ?_; simp; refine hK _ _ ?_; clear hK K
        refine Chain.sub (S' := mk 65 [] [(4, .ref 61 0 l339.length), (5, .d (.lit (.int .i64 0)))] [(61, some (.arr 43 2 (l339.map cS43)))]) (Sub.table (by simp) (by simp)) ?_
        refine Chain.nil ?_
        refine AW.sub (Sub.freeze 61 rfl) ?_
        refine AW.sub (S' := mk 65 [] [(4, .d (.sl (l339.map cS43))), (5, .d (.lit (.int .i64 0)))] []) (by simp; exact Sub.table (by simp) (by simp)) ?_
        refine AW.ret ?_
        cases h
        exact FinC.ret (by simp) (by simp)

end Go.Proofs.Ytabjbkdlacibjaa
