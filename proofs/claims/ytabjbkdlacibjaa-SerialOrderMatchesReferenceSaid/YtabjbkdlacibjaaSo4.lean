/- Functions of the program as functional programs; the code computes them. -/
import Derived.Test.YtabjbkdlacibjaaSo3
namespace Go.Proofs.Ytabjbkdlacibjaa
open Go.Ab Go.Rp
attribute [-simp] List.all_eq_true Array.all_toList Array.all_eq_true

/-- slices.IndexFunc[[]int,int] -/
def d58 (N : Nat) (a0 : (List Int)) (p1 : Int → Option Bool) : Option Int :=
  bindO (β := Unit) (ρ := Int) (
    iterN (σ := Int) (ρ := (Out Unit Int)) (fun (v7 : Int) =>
      if v7 < (a0.length : Int) then (
        (idx a0 v7).bind fun x22 =>
        (p1 x22).bind fun r24 =>
        if r24 = true then (
          some (.inr (.ret v7))
        ) else
        (chkI (v7 + 1)).bind fun v26 =>
        some (.inl v26)
      ) else
      some (.inr (.go ()))
    ) N 0
  ) fun (_ : Unit) =>
  some (-1)
set_option maxRecDepth 100000 in
set_option maxHeartbeats 4000000 in
theorem p58 (N : Nat) (a0 : (List Int)) (g1 : Nat) (cs1 : List D) (p1 : Int → Option Bool) (ent_1 : Rp.Enters Try.prog g1) (hp1 : ∀ a0 r, p1 a0 = some r → FunC Try.prog g1 ([.d (.lit (.int .i64 a0))] ++ cs1.map .d) (.d (.lit (.bool r)))) (r : Int) (h : d58 N a0 p1 = some r) : FunC Try.prog 58 [.d (.sl (a0.map (cI .i64))), .fn (.func g1) (cs1.map .d)] (.d (.lit (.int .i64 r))) := by
  unfold d58 at h
  refine FunC.enter 19 [(0, .d (.sl (a0.map (cI .i64)))), (1, .fn (.func g1) (cs1.map .d))] (by simp) Try.func58 rfl (of_decide_eq_true rfl) rfl rfl ?_
  refine AW.seqR ?_
  refine Chain.runK [] 1 fun K hK => ?_; simp; refine hK _ _ ?_; clear hK K
  refine Chain.sub (S' := mk 19 [] [(0, .d (.sl (a0.map (cI .i64)))), (1, .fn (.func g1) (cs1.map .d))] []) (Sub.table (by simp) (by simp)) ?_
  refine Chain.nil ?_
  refine AW.seq ?_
  refine AW.seqR ?_
  refine Chain.runK [] 3 fun K hK => ?_; simp; refine hK _ _ ?_; clear hK K
  refine Chain.sub (S' := mk 19 [] [(0, .d (.sl (a0.map (cI .i64)))), (1, .fn (.func g1) (cs1.map .d)), (7, .d (.lit (.int .i64 (a0.length : Int)))), (8, .d (.lit (.int .i64 0)))] []) (Sub.table (by simp) (by simp)) ?_
  refine Chain.nil ?_
  refine AW.lastJ (fun (_ : Unit) => mk 19 [] [] []) h ?_ ?_ <;> clear h
  · intro o h
    refine AW.block ?_
    refine AW.iter (fun (v7 : Int) => mk 19 [] [(0, .d (.sl (a0.map (cI .i64)))), (1, .fn (.func g1) (cs1.map .d)), (7, .d (.lit (.int .i64 (a0.length : Int)))), (8, .d (.lit (.int .i64 v7)))] []) h (Sub.table (by simp) (by simp)) ?_
    clear h
    rintro v7 x h
    refine AW.seqR ?_
    refine Chain.runK [] 1 fun K hK => ?_; simp; refine hK _ _ ?_; clear hK K
    refine Chain.sub (S' := mk 19 [] [(0, .d (.sl (a0.map (cI .i64)))), (1, .fn (.func g1) (cs1.map .d)), (7, .d (.lit (.int .i64 (a0.length : Int)))), (8, .d (.lit (.int .i64 v7))), (9, .d (.lit (.bool (decide (v7 < (a0.length : Int))))))] []) (Sub.table (by simp) (by simp)) ?_
    refine Chain.nil ?_
    refine AW.seq ?_
    replace h := isome h; rcases h with ⟨c21, h⟩ | ⟨c21, h⟩
    · have c21_ : decide (v7 < (a0.length : Int)) = true := decide_eq_true c21
      refine AW.condT (b := decide (v7 < (a0.length : Int))) rfl c21_ ?_
      refine AW.sub (Sub.bool 9 (b := decide (v7 < (a0.length : Int))) rfl c21_) ?_
      refine AW.sub (S' := mk 19 [] [(0, .d (.sl (a0.map (cI .i64)))), (1, .fn (.func g1) (cs1.map .d)), (7, .d (.lit (.int .i64 (a0.length : Int)))), (8, .d (.lit (.int .i64 v7))), (9, .d (.lit (.bool true)))] []) (by simp; exact Sub.table (by simp) (by simp)) ?_
      refine AW.skip ?_
      refine thenQ_normal ?_
      refine AW.seq ?_
      refine AW.block ?_
      refine AW.seqR ?_
      refine Chain.runK [] 2 fun K hK => ?_; simp; refine hK _ _ ?_; clear hK K
      refine Chain.sub (S' := mk 19 [] [(0, .d (.sl (a0.map (cI .i64)))), (1, .fn (.func g1) (cs1.map .d)), (5, .d (.lit (.int .i64 v7))), (7, .d (.lit (.int .i64 (a0.length : Int)))), (8, .d (.lit (.int .i64 v7)))] []) (Sub.table (by simp) (by simp)) ?_
      refine Chain.nil ?_
      refine AW.seqR ?_
      replace h := bsome h; obtain ⟨x22, hx22, h⟩ := h
      obtain ⟨k23, hx22k, hx22, hx22a, hx22b⟩ := idx_some hx22
      refine Chain.runK [] 5 fun K hK => ?_; simp [hx22, hx22k, hx22a]; refine hK _ _ ?_; clear hK K
      refine Chain.sub (S' := mk 19 [] [(0, .d (.sl (a0.map (cI .i64)))), (1, .fn (.func g1) (cs1.map .d)), (5, .d (.lit (.int .i64 v7))), (7, .d (.lit (.int .i64 (a0.length : Int)))), (8, .d (.lit (.int .i64 v7))), (11, .fn (.func g1) (cs1.map .d)), (15, .d (.lit (.int .i64 x22)))] []) (Sub.table (by simp) (by simp)) ?_
      replace h := bsome h; obtain ⟨r24, hr24, h⟩ := h
      refine Chain.callL (d := 16) (hp1 x22 r24 hr24) (by simp) rfl rfl (by simp <;> rfl) (by simp <;> rfl) ent_1 (by simp <;> rfl) ?_
      refine Chain.sub (S' := mk 19 [] [(0, .d (.sl (a0.map (cI .i64)))), (1, .fn (.func g1) (cs1.map .d)), (5, .d (.lit (.int .i64 v7))), (7, .d (.lit (.int .i64 (a0.length : Int)))), (8, .d (.lit (.int .i64 v7))), (11, .fn (.func g1) (cs1.map .d)), (15, .d (.lit (.int .i64 x22))), (16, .d (.lit (.bool r24)))] []) (by simp; exact Sub.table (by simp) (by simp)) ?_
      refine Chain.nil ?_
      replace h := isome h; rcases h with ⟨c25, h⟩ | ⟨c25, h⟩
      · have c25_ : r24 = true := c25
        refine AW.condT (b := r24) rfl c25_ ?_
        refine AW.sub (Sub.bool 16 (b := r24) rfl c25_) ?_
        refine AW.sub (S' := mk 19 [] [(0, .d (.sl (a0.map (cI .i64)))), (1, .fn (.func g1) (cs1.map .d)), (5, .d (.lit (.int .i64 v7))), (7, .d (.lit (.int .i64 (a0.length : Int)))), (8, .d (.lit (.int .i64 v7))), (11, .fn (.func g1) (cs1.map .d)), (15, .d (.lit (.int .i64 x22))), (16, .d (.lit (.bool true)))] []) (by simp; exact Sub.table (by simp) (by simp)) ?_
        refine AW.seqR ?_
        refine Chain.runK [] 2 fun K hK => ?_; simp; refine hK _ _ ?_; clear hK K
        refine Chain.sub (S' := mk 19 [] [(4, .d (.lit (.int .i64 v7)))] []) (Sub.table (by simp) (by simp)) ?_
        refine Chain.nil ?_
        refine AW.ret ?_
        cases h
        refine blockQ.ret ?_
        refine thenQ_pass (by simp) ?_
        refine PostI.out (by simp) ?_
        rintro rfl
        refine blockQ.ret ?_
        refine PostJ.out (by simp) ?_
        rintro rfl
        refine thenQ_pass (by simp) ?_
        exact FinC.ret (by simp) (by simp)
      · have c25_ : r24 = false := Bool.eq_false_iff.2 c25
        refine AW.condF (b := r24) rfl c25_ ?_
        refine AW.sub (Sub.bool 16 (b := r24) rfl c25_) ?_
        refine AW.sub (S' := mk 19 [] [(0, .d (.sl (a0.map (cI .i64)))), (1, .fn (.func g1) (cs1.map .d)), (5, .d (.lit (.int .i64 v7))), (7, .d (.lit (.int .i64 (a0.length : Int)))), (8, .d (.lit (.int .i64 v7))), (11, .fn (.func g1) (cs1.map .d)), (15, .d (.lit (.int .i64 x22))), (16, .d (.lit (.bool false)))] []) (by simp; exact Sub.table (by simp) (by simp)) ?_
        refine AW.skip ?_
        refine blockQ.normal ?_
        refine thenQ_normal ?_
        refine AW.region ?_
        replace h := bsome h; obtain ⟨v26, hv26, h⟩ := h
        have hv26 := chkI_some hv26
        refine Chain.runK [] 2 fun K hK => ?_; simp [hv26]; refine hK _ _ ?_; clear hK K
        refine Chain.sub (S' := mk 19 [] [(0, .d (.sl (a0.map (cI .i64)))), (1, .fn (.func g1) (cs1.map .d)), (7, .d (.lit (.int .i64 (a0.length : Int)))), (8, .d (.lit (.int .i64 v26)))] []) (Sub.table (by simp) (by simp)) ?_
        refine Chain.nil ?_
        cases h
        refine PostI.next ?_
        exact (Sub.table (by simp) (by simp))
    · have c21_ : decide (v7 < (a0.length : Int)) = false := decide_eq_false c21
      refine AW.condF (b := decide (v7 < (a0.length : Int))) rfl c21_ ?_
      refine AW.sub (Sub.bool 9 (b := decide (v7 < (a0.length : Int))) rfl c21_) ?_
      refine AW.sub (S' := mk 19 [] [(0, .d (.sl (a0.map (cI .i64)))), (1, .fn (.func g1) (cs1.map .d)), (7, .d (.lit (.int .i64 (a0.length : Int)))), (8, .d (.lit (.int .i64 v7))), (9, .d (.lit (.bool false)))] []) (by simp; exact Sub.table (by simp) (by simp)) ?_
      refine AW.exit ?_
      cases h
      refine thenQ_pass (by simp) ?_
      refine PostI.out (by simp) ?_
      rintro rfl
      refine blockQ.hit ?_
      refine PostJ.next ?_
      exact (Sub.table (by simp) (by simp))
  · rintro ⟨⟩ h
    refine thenQ_normal ?_
    refine AW.seqR ?_
    refine Chain.runK [] 1 fun K hK => ?_; simp; refine hK _ _ ?_; clear hK K
    refine Chain.sub (S' := mk 19 [] [(4, .d (.lit (.int .i64 (-1))))] []) (Sub.table (by simp) (by simp)) ?_
    refine Chain.nil ?_
    refine AW.ret ?_
    cases h
    exact FinC.ret (by simp) (by simp)

/-- slices.ContainsFunc[[]int,int] -/
def d60 (N : Nat) (a0 : (List Int)) (p1 : Int → Option Bool) : Option Bool :=
  (d58 N a0 p1).bind fun r1 =>
  some (decide (r1 ≥ 0))
set_option maxRecDepth 100000 in
set_option maxHeartbeats 4000000 in
theorem p60 (N : Nat) (a0 : (List Int)) (g1 : Nat) (cs1 : List D) (p1 : Int → Option Bool) (ent_1 : Rp.Enters Try.prog g1) (hp1 : ∀ a0 r, p1 a0 = some r → FunC Try.prog g1 ([.d (.lit (.int .i64 a0))] ++ cs1.map .d) (.d (.lit (.bool r)))) (r : Bool) (h : d60 N a0 p1 = some r) : FunC Try.prog 60 [.d (.sl (a0.map (cI .i64))), .fn (.func g1) (cs1.map .d)] (.d (.lit (.bool r))) := by
  unfold d60 at h
  refine FunC.enter 9 [(0, .d (.sl (a0.map (cI .i64)))), (1, .fn (.func g1) (cs1.map .d))] (by simp) Try.func60 rfl (of_decide_eq_true rfl) rfl rfl ?_
  refine AW.seqR ?_
  refine Chain.runK [] 1 fun K hK => ?_; simp; refine hK _ _ ?_; clear hK K
  refine Chain.sub (S' := mk 9 [] [(0, .d (.sl (a0.map (cI .i64)))), (1, .fn (.func g1) (cs1.map .d))] []) (Sub.table (by simp) (by simp)) ?_
  refine Chain.nil ?_
  refine AW.seqR ?_
  refine Chain.runK [] 2 fun K hK => ?_; simp; refine hK _ _ ?_; clear hK K
  refine Chain.sub (S' := mk 9 [] [(5, .d (.sl (a0.map (cI .i64)))), (6, .fn (.func g1) (cs1.map .d))] []) (Sub.table (by simp) (by simp)) ?_
  replace h := bsome h; obtain ⟨r1, hr1, h⟩ := h
  refine Chain.callL (d := 7) (p58 N a0 g1 cs1 p1 ent_1 hp1 r1 hr1) (by simp) rfl rfl (by simp <;> rfl) (by simp <;> rfl) ent58 (by simp <;> rfl) ?_
  refine Chain.sub (S' := mk 9 [] [(5, .d (.sl (a0.map (cI .i64)))), (6, .fn (.func g1) (cs1.map .d)), (7, .d (.lit (.int .i64 r1)))] []) (by simp; exact Sub.table (by simp) (by simp)) ?_
  refine Chain.runK [] 2 fun K hK => ?_; simp; refine hK _ _ ?_; clear hK K
  refine Chain.sub (S' := mk 9 [] [(4, .d (.lit (.bool (decide (r1 ≥ 0)))))] []) (Sub.table (by simp) (by simp)) ?_
  refine Chain.nil ?_
  refine AW.ret ?_
  cases h
  exact FinC.ret (by simp) (by simp)

/-- stemma/serializability.SerialOrder$1 -/
def d59 (N : Nat) (a0 : Int) (a1 : (List Int)) (a2 : (List Bool)) : Option Bool :=
  (d60 N a1 (fun b0 => d61 N b0 a2 a0)).bind fun r1 =>
  some (!r1)
set_option maxRecDepth 100000 in
set_option maxHeartbeats 4000000 in
theorem p59 (N : Nat) (a0 : Int) (a1 : (List Int)) (a2 : (List Bool)) (r : Bool) (h : d59 N a0 a1 a2 = some r) : FunC Try.prog 59 [.d (.lit (.int .i64 a0)), .d (.pim [.sl (a1.map (cI .i64))]), .d (.pim (a2.map dB))] (.d (.lit (.bool r))) := by
  unfold d59 at h
  refine FunC.enter 9 [(0, .d (.lit (.int .i64 a0))), (1, .d (.pim [.sl (a1.map (cI .i64))])), (2, .d (.pim (a2.map dB)))] (by simp) Try.func59 rfl (of_decide_eq_true rfl) rfl rfl ?_
  refine AW.seqR ?_
  refine Chain.runK [] 2 fun K hK => ?_; simp; refine hK _ _ ?_; clear hK K
  refine Chain.sub (S' := mk 9 [] [(1, .d (.pim [.sl (a1.map (cI .i64))])), (2, .d (.pim (a2.map dB))), (3, .ptr 3 0 0)] [(3, some (.box [.d (.lit (.int .i64 a0))]))]) (Sub.table (by simp) (by simp)) ?_
  refine Chain.nil ?_
  refine AW.seqR ?_
  refine Chain.runK [] 2 fun K hK => ?_; simp; refine hK _ _ ?_; clear hK K
  refine Chain.sub (S' := mk 9 [] [(5, .d (.sl (a1.map (cI .i64)))), (6, .fn (.func 61) [.d (.pim (a2.map dB)), .ptr 3 0 0])] [(3, some (.box [.d (.lit (.int .i64 a0))]))]) (Sub.table (by simp) (by simp)) ?_
  replace h := bsome h; obtain ⟨r1, hr1, h⟩ := h
  refine Chain.callL (d := 7) (p60 N a1 61 [.pim (a2.map dB), .pim [.lit (.int .i64 a0)]] (fun b0 => d61 N b0 a2 a0) ent61 (fun b0 r h => p61 N b0 a2 a0 r h) r1 hr1) (by simp) rfl rfl (by simp <;> rfl) (by simp <;> rfl) ent60 (by simp <;> rfl) ?_
  refine Chain.sub (S' := mk 9 [] [(5, .d (.sl (a1.map (cI .i64)))), (6, .fn (.func 61) [.d (.pim (a2.map dB)), .ptr 3 0 0]), (7, .d (.lit (.bool r1)))] [(3, some (.box [.d (.lit (.int .i64 a0))]))]) (by simp; exact Sub.table (by simp) (by simp)) ?_
  refine Chain.runK [] 2 fun K hK => ?_; simp; refine hK _ _ ?_; clear hK K
  refine Chain.sub (S' := mk 9 [] [(4, .d (.lit (.bool (!r1))))] []) (Sub.table (by simp) (by simp)) ?_
  refine Chain.nil ?_
  refine AW.ret ?_
  cases h
  exact FinC.ret (by simp) (by simp)

/-- slices.Delete[[]int,int] -/
def d62 (_ : Nat) (a0 : (List Int)) (a1 a2 : Int) : Option (List Int) := delL a0 a1 a2
theorem p62 (N : Nat) (a0 : (List Int)) (a1 a2 : Int) (r : (List Int)) (h : d62 N a0 a1 a2 = some r) : FunM Try.prog 62 [.ref 1000 0 a0.length, .d (.lit (.int .i64 a1)), .d (.lit (.int .i64 a2))] [(1000, some (.arr 3 1 (a0.map (cI .i64))))] [] (.ref 1000 0 r.length) [(1000, .arr 3 1 (r.map (cI .i64)))] := by
  obtain ⟨i, j, rfl, rfl, hij, hj, hrl, hr⟩ := delL_some (cI .i64) h
  have hes : ∀ x ∈ a0.map (cI .i64), x.length = 1 := fun x hx => by
    obtain ⟨y, _, rfl⟩ := List.mem_map.1 hx
    rfl
  rw [hr, hrl]
  have hel : (a0.map (cI .i64)).length = a0.length := by simp
  rw [← hel] at hj hrl ⊢
  clear hel h hr hrl
  generalize a0.map (cI .i64) = es at *
  refine FunM.enter 33 [(0, .ref 1000 0 es.length), (1, .d (.lit (.int .i64 i))), (2, .d (.lit (.int .i64 j)))] Try.func62 rfl (of_decide_eq_true rfl) rfl rfl ?_
  refine AW.goR [] 1 fun K hK => ?_; simp; refine hK _ ?_; clear hK K
  refine AW.seqR ?_
  refine Chain.runK [] 5 fun K hK => ?_; simp; refine hK _ _ ?_; clear hK K
  have hjn : (j : Int) ≤ es.length := by omega
  have hin : (i : Int) ≤ j := by omega
  refine Chain.slice3 (id := 1000) (off := 0) (len := es.length) (mq := es.length) (hq := j) (lq := i) (by simp) rfl ty35 rfl ty3 rfl (by simp [bnd]) (by simp [bnd, hj]) (by simp [bnd]; omega) ?_
  refine Chain.nil ?_
  have hne : ¬ ((i : Int) = j) := by omega
  refine AW.seq ?_
  refine AW.goR [] 3 fun K hK => ?_; simp; refine hK _ ?_; clear hK K
  refine AW.condK fun K1 K2 k1 k2 => ?_; simp [hne]; refine k2 ?_; clear k1 k2 K1 K2
  refine AW.skip ?_
  refine thenQ_normal ?_
  refine AW.goR [] 3 fun K hK => ?_; simp; refine hK _ ?_; clear hK K
  refine AW.seqT 6 (by kernel_rfl) (by kernel_rfl) fun K hK => ?_
  simp [show i ≤ es.length by omega, hj]; refine hK _ _ ?_; clear hK K
  have htk : List.take (es.length - j) (es.drop j) = es.drop j := List.take_of_length_le (by simp)
  refine Chain.cut (mk 33 [] [(0, .ref 1000 0 (i + (es.length - j))), (7, .d (.lit (.int .i64 es.length)))] [(1000, some (.arr 3 1 (es.take i ++ (es.drop j ++ es.drop (i + (es.length - j))))))]) ?_ fun S' hS => AW.sub hS ?_
  · by_cases hje : j = es.length
    · have hdn : es.drop j = [] := by rw [hje]; simp
      refine Chain.appNo (id := 1000) (len := i) (es := es) (te := ⟨_, 1, 8, _⟩) (by simp) rfl rfl rfl rfl ty35 rfl ty3 rfl rfl (by simp [srcV, hje]) (by omega) (by omega) ?_
      refine Chain.runK [] 1 fun K hK => ?_; simp; refine hK _ _ ?_; clear hK K
      refine Chain.nil ?_
      exact Sub.table (by simp [hje]) (by simp [hje])
    · refine Chain.appIn (id := 1000) (len := i) (es := es) (ys := es.drop j) (te := ⟨_, 1, 8, _⟩) (by simp) rfl rfl rfl rfl ty35 rfl ty3 rfl rfl (by simp [srcV, show j + (es.length - j) ≤ es.length by omega, htk]) (fun y hy => hes y (List.mem_of_mem_drop hy)) (by simp; omega) (by simp; omega) ?_
      refine Chain.runK [] 1 fun K hK => ?_; simp; refine hK _ _ ?_; clear hK K
      refine Chain.nil ?_
      exact Sub.table (by simp) (by simp)
  have hl2 : (es.take i ++ (es.drop j ++ es.drop (i + (es.length - j)))).length = es.length := by simp; omega
  have hes2 : ∀ x ∈ (es.take i ++ (es.drop j ++ es.drop (i + (es.length - j)))), x.length = 1 := fun x hx => by
    rcases List.mem_append.1 hx with hx | hx
    · exact hes x (List.mem_of_mem_take hx)
    · rcases List.mem_append.1 hx with hx | hx
      · exact hes x (List.mem_of_mem_drop hx)
      · exact hes x (List.mem_of_mem_drop hx)
  have htk2 : (es.take i ++ (es.drop j ++ es.drop (i + (es.length - j)))).take (i + (es.length - j)) = es.take i ++ es.drop j := by
    rw [← List.append_assoc]
    exact List.take_left' (by simp; omega)
  generalize (es.take i ++ (es.drop j ++ es.drop (i + (es.length - j)))) = es2 at hl2 hes2 htk2 ⊢
  refine AW.seqR ?_
  refine Chain.runK [] 4 fun K hK => ?_; simp; refine hK _ _ ?_; clear hK K
  refine Chain.sliceX (id := 1000) (off := 0) (len := i + (es.length - j)) (es := es2) (hq := es.length) (lq := i + (es.length - j)) (te := ⟨_, 1, 8, _⟩) (by simp) rfl ty35 rfl ty3 rfl rfl (by omega) (by omega) (by simp [bnd, hl2]) (by simp [bnd]; omega) ?_
  simp
  refine Chain.clear (id := 1000) (off := i + (es.length - j)) (len := es.length - (i + (es.length - j))) (es := es2) (te := ⟨_, 1, 8, _⟩) (by simp) rfl rfl rfl rfl ty35 rfl ty3 (by simp) (by simp) rfl rfl (by omega) (by omega) ?_
  simp
  refine Chain.nil ?_
  refine AW.goR [] 2 fun K hK => ?_; simp; refine hK _ ?_; clear hK K
  have hcl : ∀ zs : List (List D), List.take (i + (es.length - j)) (es.take i ++ (es.drop j ++ zs)) = es.take i ++ es.drop j := fun zs => by
    rw [← List.append_assoc]
    exact List.take_left' (by simp; omega)
  refine AW.sub (Sub.cut 1000 (i + (es.length - j)) rfl) ?_
  refine AW.sub (S' := mk 33 [] [(6, .ref 1000 0 (i + (es.length - j)))] [(1000, some (.arr 3 1 (es.take i ++ es.drop j)))]) (by simp [htk2]; exact Sub.table (by simp) (by simp [htk2, hcl])) ?_
  refine AW.ret ?_
  exact FinF.ret (by simp) (by simp)

/-- stemma/serializability.SerialOrder -/
def d28 (N : Nat) (a0 : (List S27)) : Option ((List Int) × Int) :=
  (d18 N a0).bind fun r1 =>
  if (r1 != 0) then (
    some (([] : List Int), r1)
  ) else
  (d56 N a0).bind fun r3 =>
  (lenL 400 (List.replicate 400 false)).bind fun _ =>
  (lenL 400 r3).bind fun _ =>
  (d55 N a0).bind fun r6 =>
  bindO (β := List Int) (ρ := ((List Int) × Int)) (
    iterN (σ := ((List Int) × (List Int))) (ρ := (Out (List Int) ((List Int) × Int))) (fun ((l15, l16) : ((List Int) × (List Int))) =>
      if (l15.length : Int) > 0 then (
        (d58 N l15 (fun b0 => d59 N b0 l15 r3)).bind fun r37 =>
        if r37 < 0 then (
          some (.inr (.ret (([] : List Int), 14)))
        ) else
        (idx l15 r37).bind fun x39 =>
        (appL 8 l16 [x39]).bind fun l41 =>
        (chkI (r37 + 1)).bind fun v42 =>
        (d62 N l15 r37 v42).bind fun l43 =>
        some (.inl (l43, (l16 ++ [x39])))
      ) else
      some (.inr (.go l16))
    ) N (r6, ([] : List Int))
  ) fun (l35 : List Int) =>
  some (l35, 0)
set_option maxRecDepth 100000 in
set_option maxHeartbeats 4000000 in
theorem p28 (N : Nat) (a0 : (List S27)) (r : ((List Int) × Int)) (h : d28 N a0 = some r) : FunC Try.prog 28 [.d (.sl (a0.map cS27))] (.tup [.d (.sl (r.1.map (cI .i64))), .d (.lit (.int .i64 r.2))]) := by
  unfold d28 at h
  refine FunC.enter 39 [(0, .d (.sl (a0.map cS27)))] (by simp) Try.func28 rfl (of_decide_eq_true rfl) rfl rfl ?_
  refine AW.seqR ?_
  refine Chain.runK [] 2 fun K hK => ?_; simp; refine hK _ _ ?_; clear hK K
  refine Chain.sub (S' := mk 39 [] [(0, .d (.sl (a0.map cS27)))] []) (Sub.table (by simp) (by simp)) ?_
  refine Chain.nil ?_
  refine AW.seq ?_
  refine AW.seqR ?_
  refine Chain.runK [] 1 fun K hK => ?_; simp; refine hK _ _ ?_; clear hK K
  refine Chain.sub (S' := mk 39 [] [(0, .d (.sl (a0.map cS27))), (9, .d (.sl (a0.map cS27)))] []) (Sub.table (by simp) (by simp)) ?_
  replace h := bsome h; obtain ⟨r1, hr1, h⟩ := h
  refine Chain.callL (d := 10) (p18 N a0 r1 hr1) (by simp) rfl rfl (by simp <;> rfl) (by simp <;> rfl) ent18 (by simp <;> rfl) ?_
  refine Chain.sub (S' := mk 39 [] [(0, .d (.sl (a0.map cS27))), (9, .d (.sl (a0.map cS27))), (10, .d (.lit (.int .i64 r1)))] []) (by simp; exact Sub.table (by simp) (by simp)) ?_
  refine Chain.runK [] 1 fun K hK => ?_; simp; refine hK _ _ ?_; clear hK K
  refine Chain.sub (S' := mk 39 [] [(0, .d (.sl (a0.map cS27))), (4, .d (.lit (.int .i64 r1)))] []) (Sub.table (by simp) (by simp)) ?_
  refine Chain.nil ?_
  refine AW.seqR ?_
  refine Chain.runK [] 2 fun K hK => ?_; simp; refine hK _ _ ?_; clear hK K
  refine Chain.sub (S' := mk 39 [] [(0, .d (.sl (a0.map cS27))), (4, .d (.lit (.int .i64 r1))), (12, .d (.lit (.bool (r1 != 0))))] []) (Sub.table (by simp) (by simp)) ?_
  refine Chain.nil ?_
  replace h := isome h; rcases h with ⟨c2, h⟩ | ⟨c2, h⟩
  · have c2_ : (r1 != 0) = true := c2
    refine AW.condT (b := (r1 != 0)) rfl c2_ ?_
    refine AW.sub (Sub.bool 12 (b := (r1 != 0)) rfl c2_) ?_
    refine AW.sub (S' := mk 39 [] [(0, .d (.sl (a0.map cS27))), (4, .d (.lit (.int .i64 r1))), (12, .d (.lit (.bool true)))] []) (by simp; exact Sub.table (by simp) (by simp)) ?_
    refine AW.seqR ?_
    refine Chain.runK [] 3 fun K hK => ?_; simp; refine hK _ _ ?_; clear hK K
    refine Chain.sub (S' := mk 39 [] [(2, .d (.lit (.slice none 0 0))), (3, .d (.lit (.int .i64 r1)))] []) (Sub.table (by simp) (by simp)) ?_
    refine Chain.nil ?_
    refine AW.sub (Sub.wk 2 rfl) ?_
    refine AW.sub (S' := mk 39 [] [(2, .d (.sl (([] : List Int).map (cI .i64)))), (3, .d (.lit (.int .i64 r1)))] []) (by simp; exact Sub.table (by simp) (by simp)) ?_
    refine AW.ret ?_
    cases h
    refine thenQ_pass (by simp) ?_
    exact FinC.ret (by simp) (by simp)
  · have c2_ : (r1 != 0) = false := Bool.eq_false_iff.2 c2
    refine AW.condF (b := (r1 != 0)) rfl c2_ ?_
    refine AW.sub (Sub.bool 12 (b := (r1 != 0)) rfl c2_) ?_
    refine AW.sub (S' := mk 39 [] [(0, .d (.sl (a0.map cS27))), (4, .d (.lit (.int .i64 r1))), (12, .d (.lit (.bool false)))] []) (by simp; exact Sub.table (by simp) (by simp)) ?_
    refine AW.skip ?_
    refine thenQ_normal ?_
    refine AW.seqR ?_
    refine Chain.runK [] 1 fun K hK => ?_; simp; refine hK _ _ ?_; clear hK K
    refine Chain.sub (S' := mk 39 [] [(0, .d (.sl (a0.map cS27))), (14, .d (.sl (a0.map cS27)))] []) (Sub.table (by simp) (by simp)) ?_
    replace h := bsome h; obtain ⟨r3, hr3, h⟩ := h
    refine Chain.callC (d := 15) (p56 N a0 r3 hr3) (by simp) rfl rfl (by simp <;> rfl) (by simp <;> rfl) ent56 (by simp) (.inl ⟨by simp, by simp⟩) ?_
    refine Chain.sub (S' := mk 39 [] [(0, .d (.sl (a0.map cS27))), (14, .d (.sl (a0.map cS27))), (15, .agg (r3.map vB))] []) (by simp; exact Sub.table (by simp) (by simp)) ?_
    refine Chain.runK [] 1 fun K hK => ?_; simp; refine hK _ _ ?_; clear hK K
    refine Chain.sub (S' := mk 39 [] [(0, .d (.sl (a0.map cS27))), (5, .ptr 5 0 0), (15, .agg (r3.map vB))] [(5, some (.box ((List.replicate 400 false).map vB)))]) (Sub.table (by simp) (by simp)) ?_
    replace h := bsome h; obtain ⟨q4, gq4, h⟩ := h
    have hq4 := (lenL_some gq4).1
    replace h := bsome h; obtain ⟨q5, gq5, h⟩ := h
    have hq5 := (lenL_some gq5).1
    refine Chain.runK [] 1 fun K hK => ?_; simp [hq4, hq5]; refine hK _ _ ?_; clear hK K
    refine Chain.sub (S' := mk 39 [] [(0, .d (.sl (a0.map cS27))), (5, .ptr 5 0 0)] [(5, some (.box (r3.map vB)))]) (Sub.table (by simp) (by simp)) ?_
    refine Chain.nil ?_
    refine AW.seqR ?_
    refine Chain.runK [] 1 fun K hK => ?_; simp; refine hK _ _ ?_; clear hK K
    refine Chain.sub (S' := mk 39 [] [(5, .ptr 5 0 0), (16, .d (.sl (a0.map cS27)))] [(5, some (.box (r3.map vB)))]) (Sub.table (by simp) (by simp)) ?_
    replace h := bsome h; obtain ⟨r6, hr6, h⟩ := h
    refine Chain.callO (d := 17) (p55 N a0 r6 hr6) (by simp) rfl rfl (by simp <;> rfl) (by simp <;> rfl) ent55 (by simp) ⟨by simp, by simp⟩ ?_
    refine Chain.sub (S' := mk 39 [] [(5, .ptr 5 0 0), (16, .d (.sl (a0.map cS27))), (17, .ref 17 0 r6.length)] [(5, some (.box (r3.map vB))), (17, some (.arr 3 1 (r6.map (cI .i64))))]) (by simp; exact Sub.table (by simp) (by simp)) ?_
    refine Chain.runK [] 2 fun K hK => ?_; simp; refine hK _ _ ?_; clear hK K
    refine Chain.sub (S' := mk 39 [] [(5, .ptr 5 0 0), (6, .ptr 6 0 0)] [(5, some (.box (r3.map vB))), (6, some (.box [.ref 17 0 r6.length])), (17, some (.arr 3 1 (r6.map (cI .i64))))]) (Sub.table (by simp) (by simp)) ?_
    refine Chain.nil ?_
    refine AW.seqR ?_
    refine Chain.runK [] 1 fun K hK => ?_; simp; refine hK _ _ ?_; clear hK K
    refine Chain.sub (S' := mk 39 [] [(5, .ptr 5 0 0), (6, .ptr 6 0 0), (7, .d (.lit (.slice none 0 0)))] [(5, some (.box (r3.map vB))), (6, some (.box [.ref 17 0 r6.length])), (17, some (.arr 3 1 (r6.map (cI .i64))))]) (Sub.table (by simp) (by simp)) ?_
    refine Chain.nil ?_
    refine AW.seqJ (fun (l35 : List Int) => mk 39 [] [(7, .ref 32 0 l35.length)] [(32, some (.arr 3 1 (l35.map (cI .i64))))]) h ?_ ?_ <;> clear h
    · intro o h
      refine AW.block ?_
      refine AW.iter (fun ((l15, l16) : ((List Int) × (List Int))) => mk 39 [] [(5, .ptr 5 0 0), (6, .ptr 6 0 0), (7, .ref 32 0 l16.length)] [(5, some (.box (r3.map vB))), (6, some (.box [.ref 17 0 l15.length])), (17, some (.arr 3 1 (l15.map (cI .i64)))), (32, some (.arr 3 1 (l16.map (cI .i64))))]) h (Sub.trans (Sub.nilOwn (t := 7) (id := 32) (T := 3) (n := 1) rfl rfl (by decide)) (by simp; exact Sub.table (by simp) (by simp))) ?_
      clear h
      rintro ⟨l15, l16⟩ x h
      dsimp only at h ⊢
      refine AW.seq ?_
      refine AW.seqR ?_
      refine Chain.runK [] 3 fun K hK => ?_; simp; refine hK _ _ ?_; clear hK K
      refine Chain.sub (S' := mk 39 [] [(5, .ptr 5 0 0), (6, .ptr 6 0 0), (7, .ref 32 0 l16.length), (20, .d (.lit (.bool (decide ((l15.length : Int) > 0)))))] [(5, some (.box (r3.map vB))), (6, some (.box [.ref 17 0 l15.length])), (17, some (.arr 3 1 (l15.map (cI .i64)))), (32, some (.arr 3 1 (l16.map (cI .i64))))]) (Sub.table (by simp) (by simp)) ?_
      refine Chain.nil ?_
      replace h := isome h; rcases h with ⟨c36, h⟩ | ⟨c36, h⟩
      · have c36_ : decide ((l15.length : Int) > 0) = true := decide_eq_true c36
        refine AW.condT (b := decide ((l15.length : Int) > 0)) rfl c36_ ?_
        refine AW.sub (Sub.bool 20 (b := decide ((l15.length : Int) > 0)) rfl c36_) ?_
        refine AW.sub (S' := mk 39 [] [(5, .ptr 5 0 0), (6, .ptr 6 0 0), (7, .ref 32 0 l16.length), (20, .d (.lit (.bool true)))] [(5, some (.box (r3.map vB))), (6, some (.box [.ref 17 0 l15.length])), (17, some (.arr 3 1 (l15.map (cI .i64)))), (32, some (.arr 3 1 (l16.map (cI .i64))))]) (by simp; exact Sub.table (by simp) (by simp)) ?_
        refine AW.skip ?_
        refine thenQ_normal ?_
        refine AW.block ?_
        refine AW.seqR ?_
        refine Chain.runK [] 2 fun K hK => ?_; simp; refine hK _ _ ?_; clear hK K
        refine Chain.sub (S' := mk 39 [] [(5, .ptr 5 0 0), (6, .ptr 6 0 0), (7, .ref 32 0 l16.length), (21, .ref 17 0 l15.length), (22, .fn (.func 59) [.ptr 6 0 0, .ptr 5 0 0])] [(5, some (.box (r3.map vB))), (6, some (.box [.ref 17 0 l15.length])), (17, some (.arr 3 1 (l15.map (cI .i64)))), (32, some (.arr 3 1 (l16.map (cI .i64))))]) (Sub.table (by simp) (by simp)) ?_
        replace h := bsome h; obtain ⟨r37, hr37, h⟩ := h
        refine Chain.callL (d := 23) (p58 N l15 59 [.pim [.sl (l15.map (cI .i64))], .pim (r3.map dB)] (fun b0 => d59 N b0 l15 r3) ent59 (fun b0 r h => p59 N b0 l15 r3 r h) r37 hr37) (by simp) rfl rfl (by simp <;> rfl) (by simp <;> rfl) ent58 (by simp <;> rfl) ?_
        refine Chain.sub (S' := mk 39 [] [(5, .ptr 5 0 0), (6, .ptr 6 0 0), (7, .ref 32 0 l16.length), (21, .ref 17 0 l15.length), (22, .fn (.func 59) [.ptr 6 0 0, .ptr 5 0 0]), (23, .d (.lit (.int .i64 r37)))] [(5, some (.box (r3.map vB))), (6, some (.box [.ref 17 0 l15.length])), (17, some (.arr 3 1 (l15.map (cI .i64)))), (32, some (.arr 3 1 (l16.map (cI .i64))))]) (by simp; exact Sub.table (by simp) (by simp)) ?_
        refine Chain.runK [] 1 fun K hK => ?_; simp; refine hK _ _ ?_; clear hK K
        refine Chain.sub (S' := mk 39 [] [(5, .ptr 5 0 0), (6, .ptr 6 0 0), (7, .ref 32 0 l16.length), (8, .d (.lit (.int .i64 r37)))] [(5, some (.box (r3.map vB))), (6, some (.box [.ref 17 0 l15.length])), (17, some (.arr 3 1 (l15.map (cI .i64)))), (32, some (.arr 3 1 (l16.map (cI .i64))))]) (Sub.table (by simp) (by simp)) ?_
        refine Chain.nil ?_
        refine AW.seq ?_
        refine AW.seqR ?_
        refine Chain.runK [] 2 fun K hK => ?_; simp; refine hK _ _ ?_; clear hK K
        refine Chain.sub (S' := mk 39 [] [(5, .ptr 5 0 0), (6, .ptr 6 0 0), (7, .ref 32 0 l16.length), (8, .d (.lit (.int .i64 r37))), (25, .d (.lit (.bool (decide (r37 < 0)))))] [(5, some (.box (r3.map vB))), (6, some (.box [.ref 17 0 l15.length])), (17, some (.arr 3 1 (l15.map (cI .i64)))), (32, some (.arr 3 1 (l16.map (cI .i64))))]) (Sub.table (by simp) (by simp)) ?_
        refine Chain.nil ?_
        replace h := isome h; rcases h with ⟨c38, h⟩ | ⟨c38, h⟩
        · have c38_ : decide (r37 < 0) = true := decide_eq_true c38
          refine AW.condT (b := decide (r37 < 0)) rfl c38_ ?_
          refine AW.sub (Sub.bool 25 (b := decide (r37 < 0)) rfl c38_) ?_
          refine AW.sub (S' := mk 39 [] [(5, .ptr 5 0 0), (6, .ptr 6 0 0), (7, .ref 32 0 l16.length), (8, .d (.lit (.int .i64 r37))), (25, .d (.lit (.bool true)))] [(5, some (.box (r3.map vB))), (6, some (.box [.ref 17 0 l15.length])), (17, some (.arr 3 1 (l15.map (cI .i64)))), (32, some (.arr 3 1 (l16.map (cI .i64))))]) (by simp; exact Sub.table (by simp) (by simp)) ?_
          refine AW.seqR ?_
          refine Chain.runK [] 2 fun K hK => ?_; simp; refine hK _ _ ?_; clear hK K
          refine Chain.sub (S' := mk 39 [] [(2, .d (.lit (.slice none 0 0))), (3, .d (.lit (.int .i64 14)))] []) (Sub.table (by simp) (by simp)) ?_
          refine Chain.nil ?_
          refine AW.sub (Sub.wk 2 rfl) ?_
          refine AW.sub (S' := mk 39 [] [(2, .d (.sl (([] : List Int).map (cI .i64)))), (3, .d (.lit (.int .i64 14)))] []) (by simp; exact Sub.table (by simp) (by simp)) ?_
          refine AW.ret ?_
          cases h
          refine thenQ_pass (by simp) ?_
          refine blockQ.ret ?_
          refine PostI.out (by simp) ?_
          rintro rfl
          refine blockQ.ret ?_
          refine PostJ.out (by simp) ?_
          rintro rfl
          exact FinC.ret (by simp) (by simp)
        · have c38_ : decide (r37 < 0) = false := decide_eq_false c38
          refine AW.condF (b := decide (r37 < 0)) rfl c38_ ?_
          refine AW.sub (Sub.bool 25 (b := decide (r37 < 0)) rfl c38_) ?_
          refine AW.sub (S' := mk 39 [] [(5, .ptr 5 0 0), (6, .ptr 6 0 0), (7, .ref 32 0 l16.length), (8, .d (.lit (.int .i64 r37))), (25, .d (.lit (.bool false)))] [(5, some (.box (r3.map vB))), (6, some (.box [.ref 17 0 l15.length])), (17, some (.arr 3 1 (l15.map (cI .i64)))), (32, some (.arr 3 1 (l16.map (cI .i64))))]) (by simp; exact Sub.table (by simp) (by simp)) ?_
          refine AW.skip ?_
          refine thenQ_normal ?_
          refine AW.seqR ?_
          replace h := bsome h; obtain ⟨x39, hx39, h⟩ := h
          obtain ⟨k40, hx39k, hx39, hx39a, hx39b⟩ := idx_some hx39
          replace h := bsome h; obtain ⟨l41, hl41, h⟩ := h
          obtain ⟨hl41a, hl41⟩ := appL_some hl41
          subst hl41
          try simp only [List.length_append, List.length_cons, List.length_nil, Nat.zero_add] at hl41a
          refine Chain.runK [31] 8 fun K hK => ?_; simp [hx39, hx39k, hx39a, hx39b, hl41a]; refine hK _ _ ?_; clear hK K
          refine Chain.sub (S' := mk 39 [] [(5, .ptr 5 0 0), (6, .ptr 6 0 0), (7, .ref 32 0 ((l16 ++ [x39]).length)), (8, .d (.lit (.int .i64 r37)))] [(5, some (.box (r3.map vB))), (6, some (.box [.ref 17 0 l15.length])), (17, some (.arr 3 1 (l15.map (cI .i64)))), (32, some (.arr 3 1 ((l16 ++ [x39]).map (cI .i64))))]) (Sub.table (by simp) (by simp)) ?_
          refine Chain.nil ?_
          refine AW.region ?_
          replace h := bsome h; obtain ⟨v42, hv42, h⟩ := h
          have hv42 := chkI_some hv42
          refine Chain.runK [] 4 fun K hK => ?_; simp [hv42]; refine hK _ _ ?_; clear hK K
          refine Chain.sub (S' := mk 39 [] [(5, .ptr 5 0 0), (6, .ptr 6 0 0), (7, .ref 32 0 ((l16 ++ [x39]).length)), (33, .ref 17 0 l15.length), (34, .d (.lit (.int .i64 r37))), (36, .d (.lit (.int .i64 v42)))] [(5, some (.box (r3.map vB))), (6, some (.box [.ref 17 0 l15.length])), (17, some (.arr 3 1 (l15.map (cI .i64)))), (32, some (.arr 3 1 ((l16 ++ [x39]).map (cI .i64))))]) (Sub.table (by simp) (by simp)) ?_
          replace h := bsome h; obtain ⟨l43, hl43, h⟩ := h
          refine Chain.callF (p62 N l15 r37 v42 l43 hl43) [(17, 1000)] [] [(1000, 17)] [(17, .arr 3 1 (l43.map (cI .i64)))] (.ref 17 0 l43.length) (by simp) rfl (by simp <;> rfl) (by simp) (by simp) (by simp) (by simp) (by simp) ent62 (by simp) (by simp) (by simp) (by simp) (by simp) (by simp) ?_
          refine Chain.sub (S' := mk 39 [] [(5, .ptr 5 0 0), (6, .ptr 6 0 0), (7, .ref 32 0 ((l16 ++ [x39]).length)), (34, .d (.lit (.int .i64 r37))), (36, .d (.lit (.int .i64 v42))), (37, .ref 17 0 l43.length)] [(5, some (.box (r3.map vB))), (6, some (.box [.hole])), (17, some (.arr 3 1 (l43.map (cI .i64)))), (32, some (.arr 3 1 ((l16 ++ [x39]).map (cI .i64))))]) (by simp; exact Sub.table (by simp) (by simp)) ?_
          refine Chain.runK [] 1 fun K hK => ?_; simp; refine hK _ _ ?_; clear hK K
          refine Chain.sub (S' := mk 39 [] [(5, .ptr 5 0 0), (6, .ptr 6 0 0), (7, .ref 32 0 ((l16 ++ [x39]).length))] [(5, some (.box (r3.map vB))), (6, some (.box [.ref 17 0 l43.length])), (17, some (.arr 3 1 (l43.map (cI .i64)))), (32, some (.arr 3 1 ((l16 ++ [x39]).map (cI .i64))))]) (Sub.table (by simp) (by simp)) ?_
          refine Chain.nil ?_
          cases h
          refine blockQ.normal ?_
          refine PostI.next ?_
          exact (Sub.table (by simp) (by simp))
      · have c36_ : decide ((l15.length : Int) > 0) = false := decide_eq_false c36
        refine AW.condF (b := decide ((l15.length : Int) > 0)) rfl c36_ ?_
        refine AW.sub (Sub.bool 20 (b := decide ((l15.length : Int) > 0)) rfl c36_) ?_
        refine AW.sub (S' := mk 39 [] [(5, .ptr 5 0 0), (6, .ptr 6 0 0), (7, .ref 32 0 l16.length), (20, .d (.lit (.bool false)))] [(5, some (.box (r3.map vB))), (6, some (.box [.ref 17 0 l15.length])), (17, some (.arr 3 1 (l15.map (cI .i64)))), (32, some (.arr 3 1 (l16.map (cI .i64))))]) (by simp; exact Sub.table (by simp) (by simp)) ?_
        refine AW.exit ?_
        cases h
        refine thenQ_pass (by simp) ?_
        refine PostI.out (by simp) ?_
        rintro rfl
        refine blockQ.hit ?_
        refine PostJ.next ?_
        exact (Sub.table (by simp) (by simp))
    · rintro l35 h
      refine AW.seqR ?_
      refine Chain.runK [] 3 fun K hK => ?_; simp; refine hK _ _ ?_; clear hK K
      refine Chain.sub (S' := mk 39 [] [(2, .ref 32 0 l35.length), (3, .d (.lit (.int .i64 0)))] [(32, some (.arr 3 1 (l35.map (cI .i64))))]) (Sub.table (by simp) (by simp)) ?_
      refine Chain.nil ?_
      refine AW.sub (Sub.freeze 32 rfl) ?_
      refine AW.sub (S' := mk 39 [] [(2, .d (.sl (l35.map (cI .i64)))), (3, .d (.lit (.int .i64 0)))] []) (by simp; exact Sub.table (by simp) (by simp)) ?_
      refine AW.ret ?_
      cases h
      exact FinC.ret (by simp) (by simp)

/-- stemma/stemref5.Between -/
def d39 (N : Nat) (a0 : Int) (a1 : Int) (a2 : Int) : Option Bool :=
  Option.bind (α := Bool) (
    if a0 ≥ a1 then (
      some (decide (a0 ≤ a2))
    ) else
    some false
  ) fun (v2 : Bool) =>
  some v2
set_option maxRecDepth 100000 in
set_option maxHeartbeats 4000000 in
theorem p39 (N : Nat) (a0 : Int) (a1 : Int) (a2 : Int) (r : Bool) (h : d39 N a0 a1 a2 = some r) : FunC Try.prog 39 [.d (.lit (.int .i64 a0)), .d (.lit (.int .i64 a1)), .d (.lit (.int .i64 a2))] (.d (.lit (.bool r))) := by
  unfold d39 at h
  refine FunC.enter 15 [(0, .d (.lit (.int .i64 a0))), (1, .d (.lit (.int .i64 a1))), (2, .d (.lit (.int .i64 a2)))] (by simp) Try.func39 rfl (of_decide_eq_true rfl) rfl rfl ?_
  refine AW.seqR ?_
  refine Chain.runK [] 1 fun K hK => ?_; simp; refine hK _ _ ?_; clear hK K
  refine Chain.sub (S' := mk 15 [] [(0, .d (.lit (.int .i64 a0))), (1, .d (.lit (.int .i64 a1))), (2, .d (.lit (.int .i64 a2)))] []) (Sub.table (by simp) (by simp)) ?_
  refine Chain.nil ?_
  replace h := bsome h; obtain ⟨v2, hj, h⟩ := h
  refine AW.cutR (mk 15 [] [(6, .d (.lit (.bool v2)))] []) ?_ ?_
  · clear h; have h := hj; clear hj
    refine Chain.runK [] 4 fun K hK => ?_; simp; refine hK _ _ ?_; clear hK K
    refine Chain.sub (S' := mk 15 [] [(0, .d (.lit (.int .i64 a0))), (2, .d (.lit (.int .i64 a2))), (10, .d (.lit (.bool (decide (a0 ≥ a1)))))] []) (Sub.table (by simp) (by simp)) ?_
    replace h := isome h; rcases h with ⟨c3, h⟩ | ⟨c3, h⟩
    · have c3_ : decide (a0 ≥ a1) = true := decide_eq_true c3
      refine Chain.sub (Sub.bool 10 (b := decide (a0 ≥ a1)) rfl c3_) ?_
      refine Chain.sub (S' := mk 15 [] [(0, .d (.lit (.int .i64 a0))), (2, .d (.lit (.int .i64 a2))), (10, .d (.lit (.bool true)))] []) (by simp; exact Sub.table (by simp) (by simp)) ?_
      refine Chain.runK [] 5 fun K hK => ?_; simp; refine hK _ _ ?_; clear hK K
      refine Chain.sub (S' := mk 15 [] [(6, .d (.lit (.bool (decide (a0 ≤ a2)))))] []) (Sub.table (by simp) (by simp)) ?_
      cases h
      exact Chain.nil (Sub.table (by simp) (by simp))
    · have c3_ : decide (a0 ≥ a1) = false := decide_eq_false c3
      refine Chain.sub (Sub.bool 10 (b := decide (a0 ≥ a1)) rfl c3_) ?_
      refine Chain.sub (S' := mk 15 [] [(0, .d (.lit (.int .i64 a0))), (2, .d (.lit (.int .i64 a2))), (10, .d (.lit (.bool false)))] []) (by simp; exact Sub.table (by simp) (by simp)) ?_
      refine Chain.runK [] 5 fun K hK => ?_; simp; refine hK _ _ ?_; clear hK K
      refine Chain.sub (S' := mk 15 [] [(6, .d (.lit (.bool false)))] []) (Sub.table (by simp) (by simp)) ?_
      cases h
      exact Chain.nil (Sub.table (by simp) (by simp))
  · clear hj
    refine AW.ret ?_
    cases h
    exact FinC.ret (by simp) (by simp)

/-- stemma/stemref5.CheckHistory -/
def d12 (N : Nat) (a0 : (List S27)) : Option Int :=
  if (a0.length : Int) > 200 then (
    some 2
  ) else
  bindO (β := Unit) (ρ := Int) (
    iterN (σ := Int) (ρ := (Out Unit Int)) (fun (v11 : Int) =>
      if v11 < (a0.length : Int) then (
        (idx a0 v11).bind fun x32 =>
        (d39 N x32.Kind 1 2).bind fun r34 =>
        if (!r34) = true then (
          some (.inr (.ret 3))
        ) else
        (d39 N x32.Tx 0 19).bind fun r36 =>
        if (!r36) = true then (
          some (.inr (.ret 1))
        ) else
        if (x32.Key.size : Int) > 24 then (
          some (.inr (.ret 2))
        ) else
        (chkI (v11 + 1)).bind fun v39 =>
        some (.inl v39)
      ) else
      some (.inr (.go ()))
    ) N 0
  ) fun (_ : Unit) =>
  some 0
set_option maxRecDepth 100000 in
set_option maxHeartbeats 4000000 in
theorem p12 (N : Nat) (a0 : (List S27)) (r : Int) (h : d12 N a0 = some r) : FunC Try.prog 12 [.d (.sl (a0.map cS27))] (.d (.lit (.int .i64 r))) := by
  unfold d12 at h
  refine FunC.enter 30 [(0, .d (.sl (a0.map cS27)))] (by simp) Try.func12 rfl (of_decide_eq_true rfl) rfl rfl ?_
  refine AW.seqR ?_
  refine Chain.runK [] 1 fun K hK => ?_; simp; refine hK _ _ ?_; clear hK K
  refine Chain.sub (S' := mk 30 [] [(0, .d (.sl (a0.map cS27)))] []) (Sub.table (by simp) (by simp)) ?_
  refine Chain.nil ?_
  refine AW.seq ?_
  refine AW.seqR ?_
  refine Chain.runK [] 3 fun K hK => ?_; simp; refine hK _ _ ?_; clear hK K
  refine Chain.sub (S' := mk 30 [] [(0, .d (.sl (a0.map cS27))), (7, .d (.lit (.bool (decide ((a0.length : Int) > 200)))))] []) (Sub.table (by simp) (by simp)) ?_
  refine Chain.nil ?_
  replace h := isome h; rcases h with ⟨c1, h⟩ | ⟨c1, h⟩
  · have c1_ : decide ((a0.length : Int) > 200) = true := decide_eq_true c1
    refine AW.condT (b := decide ((a0.length : Int) > 200)) rfl c1_ ?_
    refine AW.sub (Sub.bool 7 (b := decide ((a0.length : Int) > 200)) rfl c1_) ?_
    refine AW.sub (S' := mk 30 [] [(0, .d (.sl (a0.map cS27))), (7, .d (.lit (.bool true)))] []) (by simp; exact Sub.table (by simp) (by simp)) ?_
    refine AW.seqR ?_
    refine Chain.runK [] 1 fun K hK => ?_; simp; refine hK _ _ ?_; clear hK K
    refine Chain.sub (S' := mk 30 [] [(2, .d (.lit (.int .i64 2)))] []) (Sub.table (by simp) (by simp)) ?_
    refine Chain.nil ?_
    refine AW.ret ?_
    cases h
    refine thenQ_pass (by simp) ?_
    exact FinC.ret (by simp) (by simp)
  · have c1_ : decide ((a0.length : Int) > 200) = false := decide_eq_false c1
    refine AW.condF (b := decide ((a0.length : Int) > 200)) rfl c1_ ?_
    refine AW.sub (Sub.bool 7 (b := decide ((a0.length : Int) > 200)) rfl c1_) ?_
    refine AW.sub (S' := mk 30 [] [(0, .d (.sl (a0.map cS27))), (7, .d (.lit (.bool false)))] []) (by simp; exact Sub.table (by simp) (by simp)) ?_
    refine AW.skip ?_
    refine thenQ_normal ?_
    refine AW.seq ?_
    refine AW.seqR ?_
    refine Chain.runK [] 3 fun K hK => ?_; simp; refine hK _ _ ?_; clear hK K
    refine Chain.sub (S' := mk 30 [] [(8, .d (.sl (a0.map cS27))), (9, .d (.lit (.int .i64 (a0.length : Int)))), (10, .d (.lit (.int .i64 0)))] []) (Sub.table (by simp) (by simp)) ?_
    refine Chain.nil ?_
    refine AW.lastJ (fun (_ : Unit) => mk 30 [] [] []) h ?_ ?_ <;> clear h
    · intro o h
      refine AW.block ?_
      refine AW.iter (fun (v11 : Int) => mk 30 [] [(8, .d (.sl (a0.map cS27))), (9, .d (.lit (.int .i64 (a0.length : Int)))), (10, .d (.lit (.int .i64 v11)))] []) h (Sub.table (by simp) (by simp)) ?_
      clear h
      rintro v11 x h
      refine AW.seqR ?_
      refine Chain.runK [] 1 fun K hK => ?_; simp; refine hK _ _ ?_; clear hK K
      refine Chain.sub (S' := mk 30 [] [(8, .d (.sl (a0.map cS27))), (9, .d (.lit (.int .i64 (a0.length : Int)))), (10, .d (.lit (.int .i64 v11))), (11, .d (.lit (.bool (decide (v11 < (a0.length : Int))))))] []) (Sub.table (by simp) (by simp)) ?_
      refine Chain.nil ?_
      refine AW.seq ?_
      replace h := isome h; rcases h with ⟨c31, h⟩ | ⟨c31, h⟩
      · have c31_ : decide (v11 < (a0.length : Int)) = true := decide_eq_true c31
        refine AW.condT (b := decide (v11 < (a0.length : Int))) rfl c31_ ?_
        refine AW.sub (Sub.bool 11 (b := decide (v11 < (a0.length : Int))) rfl c31_) ?_
        refine AW.sub (S' := mk 30 [] [(8, .d (.sl (a0.map cS27))), (9, .d (.lit (.int .i64 (a0.length : Int)))), (10, .d (.lit (.int .i64 v11))), (11, .d (.lit (.bool true)))] []) (by simp; exact Sub.table (by simp) (by simp)) ?_
        refine AW.skip ?_
        refine thenQ_normal ?_
        refine AW.seq ?_
        refine AW.block ?_
        refine AW.seqR ?_
        replace h := bsome h; obtain ⟨x32, hx32, h⟩ := h
        obtain ⟨k33, hx32k, hx32, hx32a, hx32b⟩ := idx_some hx32
        refine Chain.runK [] 4 fun K hK => ?_; simp [hx32, hx32k, hx32a]; refine hK _ _ ?_; clear hK K
        refine Chain.sub (S' := mk 30 [] [(4, .ptr 4 0 0), (8, .d (.sl (a0.map cS27))), (9, .d (.lit (.int .i64 (a0.length : Int)))), (10, .d (.lit (.int .i64 v11)))] [(4, some (.box [.d (.lit (.int .i64 x32.Tx)), .d (.lit (.int .i64 x32.Kind)), .d (.lit (.string x32.Key))]))]) (Sub.table (by simp) (by simp)) ?_
        refine Chain.nil ?_
        refine AW.block ?_
        refine AW.seqR ?_
        refine Chain.runK [] 2 fun K hK => ?_; simp; refine hK _ _ ?_; clear hK K
        refine Chain.sub (S' := mk 30 [] [(4, .ptr 4 0 0), (8, .d (.sl (a0.map cS27))), (9, .d (.lit (.int .i64 (a0.length : Int)))), (10, .d (.lit (.int .i64 v11))), (16, .d (.lit (.int .i64 x32.Kind)))] [(4, some (.box [.d (.lit (.int .i64 x32.Tx)), .d (.lit (.int .i64 x32.Kind)), .d (.lit (.string x32.Key))]))]) (Sub.table (by simp) (by simp)) ?_
        replace h := bsome h; obtain ⟨r34, hr34, h⟩ := h
        refine Chain.callL (d := 17) (p39 N x32.Kind 1 2 r34 hr34) (by simp) rfl rfl (by simp <;> rfl) (by simp <;> rfl) ent39 (by simp <;> rfl) ?_
        refine Chain.sub (S' := mk 30 [] [(4, .ptr 4 0 0), (8, .d (.sl (a0.map cS27))), (9, .d (.lit (.int .i64 (a0.length : Int)))), (10, .d (.lit (.int .i64 v11))), (16, .d (.lit (.int .i64 x32.Kind))), (17, .d (.lit (.bool r34)))] [(4, some (.box [.d (.lit (.int .i64 x32.Tx)), .d (.lit (.int .i64 x32.Kind)), .d (.lit (.string x32.Key))]))]) (by simp; exact Sub.table (by simp) (by simp)) ?_
        refine Chain.runK [] 2 fun K hK => ?_; simp; refine hK _ _ ?_; clear hK K
        refine Chain.sub (S' := mk 30 [] [(4, .ptr 4 0 0), (8, .d (.sl (a0.map cS27))), (9, .d (.lit (.int .i64 (a0.length : Int)))), (10, .d (.lit (.int .i64 v11))), (14, .d (.lit (.bool (!r34))))] [(4, some (.box [.d (.lit (.int .i64 x32.Tx)), .d (.lit (.int .i64 x32.Kind)), .d (.lit (.string x32.Key))]))]) (Sub.table (by simp) (by simp)) ?_
        refine Chain.nil ?_
        replace h := isome h; rcases h with ⟨c35, h⟩ | ⟨c35, h⟩
        · have c35_ : (!r34) = true := c35
          refine AW.condT (b := (!r34)) rfl c35_ ?_
          refine AW.sub (Sub.bool 14 (b := (!r34)) rfl c35_) ?_
          refine AW.sub (S' := mk 30 [] [(4, .ptr 4 0 0), (8, .d (.sl (a0.map cS27))), (9, .d (.lit (.int .i64 (a0.length : Int)))), (10, .d (.lit (.int .i64 v11))), (14, .d (.lit (.bool true)))] [(4, some (.box [.d (.lit (.int .i64 x32.Tx)), .d (.lit (.int .i64 x32.Kind)), .d (.lit (.string x32.Key))]))]) (by simp; exact Sub.table (by simp) (by simp)) ?_
          refine AW.seqR ?_
          refine Chain.runK [] 1 fun K hK => ?_; simp; refine hK _ _ ?_; clear hK K
          refine Chain.sub (S' := mk 30 [] [(2, .d (.lit (.int .i64 3)))] []) (Sub.table (by simp) (by simp)) ?_
          refine Chain.nil ?_
          refine AW.ret ?_
          cases h
          refine blockQ.ret ?_
          refine blockQ.ret ?_
          refine thenQ_pass (by simp) ?_
          refine PostI.out (by simp) ?_
          rintro rfl
          refine blockQ.ret ?_
          refine PostJ.out (by simp) ?_
          rintro rfl
          refine thenQ_pass (by simp) ?_
          exact FinC.ret (by simp) (by simp)
        · have c35_ : (!r34) = false := Bool.eq_false_iff.2 c35
          refine AW.condF (b := (!r34)) rfl c35_ ?_
          refine AW.sub (Sub.bool 14 (b := (!r34)) rfl c35_) ?_
          refine AW.sub (S' := mk 30 [] [(4, .ptr 4 0 0), (8, .d (.sl (a0.map cS27))), (9, .d (.lit (.int .i64 (a0.length : Int)))), (10, .d (.lit (.int .i64 v11))), (14, .d (.lit (.bool false)))] [(4, some (.box [.d (.lit (.int .i64 x32.Tx)), .d (.lit (.int .i64 x32.Kind)), .d (.lit (.string x32.Key))]))]) (by simp; exact Sub.table (by simp) (by simp)) ?_
          refine AW.seqR ?_
          refine Chain.runK [] 2 fun K hK => ?_; simp; refine hK _ _ ?_; clear hK K
          refine Chain.sub (S' := mk 30 [] [(4, .ptr 4 0 0), (8, .d (.sl (a0.map cS27))), (9, .d (.lit (.int .i64 (a0.length : Int)))), (10, .d (.lit (.int .i64 v11))), (21, .d (.lit (.int .i64 x32.Tx)))] [(4, some (.box [.d (.lit (.int .i64 x32.Tx)), .d (.lit (.int .i64 x32.Kind)), .d (.lit (.string x32.Key))]))]) (Sub.table (by simp) (by simp)) ?_
          replace h := bsome h; obtain ⟨r36, hr36, h⟩ := h
          refine Chain.callL (d := 22) (p39 N x32.Tx 0 19 r36 hr36) (by simp) rfl rfl (by simp <;> rfl) (by simp <;> rfl) ent39 (by simp <;> rfl) ?_
          refine Chain.sub (S' := mk 30 [] [(4, .ptr 4 0 0), (8, .d (.sl (a0.map cS27))), (9, .d (.lit (.int .i64 (a0.length : Int)))), (10, .d (.lit (.int .i64 v11))), (21, .d (.lit (.int .i64 x32.Tx))), (22, .d (.lit (.bool r36)))] [(4, some (.box [.d (.lit (.int .i64 x32.Tx)), .d (.lit (.int .i64 x32.Kind)), .d (.lit (.string x32.Key))]))]) (by simp; exact Sub.table (by simp) (by simp)) ?_
          refine Chain.runK [] 2 fun K hK => ?_; simp; refine hK _ _ ?_; clear hK K
          refine Chain.sub (S' := mk 30 [] [(4, .ptr 4 0 0), (8, .d (.sl (a0.map cS27))), (9, .d (.lit (.int .i64 (a0.length : Int)))), (10, .d (.lit (.int .i64 v11))), (19, .d (.lit (.bool (!r36))))] [(4, some (.box [.d (.lit (.int .i64 x32.Tx)), .d (.lit (.int .i64 x32.Kind)), .d (.lit (.string x32.Key))]))]) (Sub.table (by simp) (by simp)) ?_
          refine Chain.nil ?_
          replace h := isome h; rcases h with ⟨c37, h⟩ | ⟨c37, h⟩
          · have c37_ : (!r36) = true := c37
            refine AW.condT (b := (!r36)) rfl c37_ ?_
            refine AW.sub (Sub.bool 19 (b := (!r36)) rfl c37_) ?_
            refine AW.sub (S' := mk 30 [] [(4, .ptr 4 0 0), (8, .d (.sl (a0.map cS27))), (9, .d (.lit (.int .i64 (a0.length : Int)))), (10, .d (.lit (.int .i64 v11))), (19, .d (.lit (.bool true)))] [(4, some (.box [.d (.lit (.int .i64 x32.Tx)), .d (.lit (.int .i64 x32.Kind)), .d (.lit (.string x32.Key))]))]) (by simp; exact Sub.table (by simp) (by simp)) ?_
            refine AW.seqR ?_
            refine Chain.runK [] 1 fun K hK => ?_; simp; refine hK _ _ ?_; clear hK K
            refine Chain.sub (S' := mk 30 [] [(2, .d (.lit (.int .i64 1)))] []) (Sub.table (by simp) (by simp)) ?_
            refine Chain.nil ?_
            refine AW.ret ?_
            cases h
            refine blockQ.ret ?_
            refine blockQ.ret ?_
            refine thenQ_pass (by simp) ?_
            refine PostI.out (by simp) ?_
            rintro rfl
            refine blockQ.ret ?_
            refine PostJ.out (by simp) ?_
            rintro rfl
            refine thenQ_pass (by simp) ?_
            exact FinC.ret (by simp) (by simp)
          · have c37_ : (!r36) = false := Bool.eq_false_iff.2 c37
            refine AW.condF (b := (!r36)) rfl c37_ ?_
            refine AW.sub (Sub.bool 19 (b := (!r36)) rfl c37_) ?_
            refine AW.sub (S' := mk 30 [] [(4, .ptr 4 0 0), (8, .d (.sl (a0.map cS27))), (9, .d (.lit (.int .i64 (a0.length : Int)))), (10, .d (.lit (.int .i64 v11))), (19, .d (.lit (.bool false)))] [(4, some (.box [.d (.lit (.int .i64 x32.Tx)), .d (.lit (.int .i64 x32.Kind)), .d (.lit (.string x32.Key))]))]) (by simp; exact Sub.table (by simp) (by simp)) ?_
            refine AW.seqR ?_
            refine Chain.runK [] 5 fun K hK => ?_; simp; refine hK _ _ ?_; clear hK K
            refine Chain.sub (S' := mk 30 [] [(8, .d (.sl (a0.map cS27))), (9, .d (.lit (.int .i64 (a0.length : Int)))), (10, .d (.lit (.int .i64 v11))), (24, .d (.lit (.bool (decide ((x32.Key.size : Int) > 24)))))] []) (Sub.table (by simp) (by simp)) ?_
            refine Chain.nil ?_
            replace h := isome h; rcases h with ⟨c38, h⟩ | ⟨c38, h⟩
            · have c38_ : decide ((x32.Key.size : Int) > 24) = true := decide_eq_true c38
              refine AW.condT (b := decide ((x32.Key.size : Int) > 24)) rfl c38_ ?_
              refine AW.sub (Sub.bool 24 (b := decide ((x32.Key.size : Int) > 24)) rfl c38_) ?_
              refine AW.sub (S' := mk 30 [] [(8, .d (.sl (a0.map cS27))), (9, .d (.lit (.int .i64 (a0.length : Int)))), (10, .d (.lit (.int .i64 v11))), (24, .d (.lit (.bool true)))] []) (by simp; exact Sub.table (by simp) (by simp)) ?_
              refine AW.seqR ?_
              refine Chain.runK [] 1 fun K hK => ?_; simp; refine hK _ _ ?_; clear hK K
              refine Chain.sub (S' := mk 30 [] [(2, .d (.lit (.int .i64 2)))] []) (Sub.table (by simp) (by simp)) ?_
              refine Chain.nil ?_
              refine AW.ret ?_
              cases h
              refine blockQ.ret ?_
              refine blockQ.ret ?_
              refine thenQ_pass (by simp) ?_
              refine PostI.out (by simp) ?_
              rintro rfl
              refine blockQ.ret ?_
              refine PostJ.out (by simp) ?_
              rintro rfl
              refine thenQ_pass (by simp) ?_
              exact FinC.ret (by simp) (by simp)
            · have c38_ : decide ((x32.Key.size : Int) > 24) = false := decide_eq_false c38
              refine AW.condF (b := decide ((x32.Key.size : Int) > 24)) rfl c38_ ?_
              refine AW.sub (Sub.bool 24 (b := decide ((x32.Key.size : Int) > 24)) rfl c38_) ?_
              refine AW.sub (S' := mk 30 [] [(8, .d (.sl (a0.map cS27))), (9, .d (.lit (.int .i64 (a0.length : Int)))), (10, .d (.lit (.int .i64 v11))), (24, .d (.lit (.bool false)))] []) (by simp; exact Sub.table (by simp) (by simp)) ?_
              refine AW.skip ?_
              refine blockQ.normal ?_
              refine blockQ.normal ?_
              refine thenQ_normal ?_
              refine AW.region ?_
              replace h := bsome h; obtain ⟨v39, hv39, h⟩ := h
              have hv39 := chkI_some hv39
              refine Chain.runK [] 2 fun K hK => ?_; simp [hv39]; refine hK _ _ ?_; clear hK K
              refine Chain.sub (S' := mk 30 [] [(8, .d (.sl (a0.map cS27))), (9, .d (.lit (.int .i64 (a0.length : Int)))), (10, .d (.lit (.int .i64 v39)))] []) (Sub.table (by simp) (by simp)) ?_
              refine Chain.nil ?_
              cases h
              refine PostI.next ?_
              exact (Sub.table (by simp) (by simp))
      · have c31_ : decide (v11 < (a0.length : Int)) = false := decide_eq_false c31
        refine AW.condF (b := decide (v11 < (a0.length : Int))) rfl c31_ ?_
        refine AW.sub (Sub.bool 11 (b := decide (v11 < (a0.length : Int))) rfl c31_) ?_
        refine AW.sub (S' := mk 30 [] [(8, .d (.sl (a0.map cS27))), (9, .d (.lit (.int .i64 (a0.length : Int)))), (10, .d (.lit (.int .i64 v11))), (11, .d (.lit (.bool false)))] []) (by simp; exact Sub.table (by simp) (by simp)) ?_
        refine AW.exit ?_
        cases h
        refine thenQ_pass (by simp) ?_
        refine PostI.out (by simp) ?_
        rintro rfl
        refine blockQ.hit ?_
        refine PostJ.next ?_
        exact (Sub.table (by simp) (by simp))
    · rintro ⟨⟩ h
      refine thenQ_normal ?_
      refine AW.seqR ?_
      refine Chain.runK [] 1 fun K hK => ?_; simp; refine hK _ _ ?_; clear hK K
      refine Chain.sub (S' := mk 30 [] [(2, .d (.lit (.int .i64 0)))] []) (Sub.table (by simp) (by simp)) ?_
      refine Chain.nil ?_
      refine AW.ret ?_
      cases h
      exact FinC.ret (by simp) (by simp)

/-- stemma/stemref5.TransactionsOf -/
def d23 (N : Nat) (a0 : (List S27)) : Option (List Int) :=
  Option.bind (α := List Int) (
    iterN (σ := ((List Int) × Int)) (ρ := List Int) (fun ((l30, v31) : ((List Int) × Int)) =>
      if v31 < 20 then (
        Option.bind (α := List Int) (
          iterN (σ := Int) (ρ := List Int) (fun (v100 : Int) =>
            if v100 < (a0.length : Int) then (
              (idx a0 v100).bind fun x116 =>
              if (x116.Tx == v31) then (
                (appL 8 l30 [v31]).bind fun l119 =>
                some (.inr (l30 ++ [v31]))
              ) else
              (chkI (v100 + 1)).bind fun v120 =>
              some (.inl v120)
            ) else
            some (.inr l30)
          ) N 0
        ) fun (l114 : List Int) =>
        (chkI (v31 + 1)).bind fun v121 =>
        some (.inl (l114, v121))
      ) else
      some (.inr l30)
    ) N (([] : List Int), 0)
  ) fun (l92 : List Int) =>
  some l92
set_option maxRecDepth 100000 in
set_option maxHeartbeats 4000000 in
theorem p23 (N : Nat) (a0 : (List S27)) (r : (List Int)) (h : d23 N a0 = some r) : FunC Try.prog 23 [.d (.sl (a0.map cS27))] (.d (.sl (r.map (cI .i64)))) := by
  unfold d23 at h
  refine FunC.enter 27 [(0, .d (.sl (a0.map cS27)))] (by simp) Try.func23 rfl (of_decide_eq_true rfl) rfl rfl ?_
  refine AW.seqR ?_
  refine Chain.runK [] 1 fun K hK => ?_; simp; refine hK _ _ ?_; clear hK K
  refine Chain.sub (S' := mk 27 [] [(0, .d (.sl (a0.map cS27)))] []) (Sub.table (by simp) (by simp)) ?_
  refine Chain.nil ?_
  refine AW.seqR ?_
  refine Chain.runK [] 1 fun K hK => ?_; simp; refine hK _ _ ?_; clear hK K
  refine Chain.sub (S' := mk 27 [] [(0, .d (.sl (a0.map cS27))), (3, .d (.lit (.slice none 0 0)))] []) (Sub.table (by simp) (by simp)) ?_
  refine Chain.nil ?_
  refine AW.seq ?_
  refine AW.seqR ?_
  refine Chain.runK [] 1 fun K hK => ?_; simp; refine hK _ _ ?_; clear hK K
  refine Chain.sub (S' := mk 27 [] [(0, .d (.sl (a0.map cS27))), (3, .d (.lit (.slice none 0 0))), (7, .d (.lit (.int .i64 0)))] []) (Sub.table (by simp) (by simp)) ?_
  refine Chain.nil ?_
  refine AW.lastN (fun (l92 : List Int) => mk 27 [] [(3, .ref 23 0 l92.length)] [(23, some (.arr 3 1 (l92.map (cI .i64))))]) h ?_ ?_ <;> clear h
  · intro o h
    refine AW.block ?_
    refine AW.iter (fun ((l30, v31) : ((List Int) × Int)) => mk 27 [] [(0, .d (.sl (a0.map cS27))), (3, .ref 23 0 l30.length), (7, .d (.lit (.int .i64 v31)))] [(23, some (.arr 3 1 (l30.map (cI .i64))))]) h (Sub.trans (Sub.nilOwn (t := 3) (id := 23) (T := 3) (n := 1) rfl rfl (by decide)) (by simp; exact Sub.table (by simp) (by simp))) ?_
    clear h
    rintro ⟨l30, v31⟩ x h
    dsimp only at h ⊢
    refine AW.seqR ?_
    refine Chain.runK [] 1 fun K hK => ?_; simp; refine hK _ _ ?_; clear hK K
    refine Chain.sub (S' := mk 27 [] [(0, .d (.sl (a0.map cS27))), (3, .ref 23 0 l30.length), (7, .d (.lit (.int .i64 v31))), (8, .d (.lit (.bool (decide (v31 < 20)))))] [(23, some (.arr 3 1 (l30.map (cI .i64))))]) (Sub.table (by simp) (by simp)) ?_
    refine Chain.nil ?_
    refine AW.seq ?_
    replace h := isome h; rcases h with ⟨c93, h⟩ | ⟨c93, h⟩
    · have c93_ : decide (v31 < 20) = true := decide_eq_true c93
      refine AW.condT (b := decide (v31 < 20)) rfl c93_ ?_
      refine AW.sub (Sub.bool 8 (b := decide (v31 < 20)) rfl c93_) ?_
      refine AW.sub (S' := mk 27 [] [(0, .d (.sl (a0.map cS27))), (3, .ref 23 0 l30.length), (7, .d (.lit (.int .i64 v31))), (8, .d (.lit (.bool true)))] [(23, some (.arr 3 1 (l30.map (cI .i64))))]) (by simp; exact Sub.table (by simp) (by simp)) ?_
      refine AW.skip ?_
      refine thenQ_normal ?_
      refine AW.seq ?_
      refine AW.block ?_
      refine AW.seqR ?_
      refine Chain.runK [] 2 fun K hK => ?_; simp; refine hK _ _ ?_; clear hK K
      refine Chain.sub (S' := mk 27 [] [(0, .d (.sl (a0.map cS27))), (3, .ref 23 0 l30.length), (4, .d (.lit (.int .i64 v31))), (7, .d (.lit (.int .i64 v31)))] [(23, some (.arr 3 1 (l30.map (cI .i64))))]) (Sub.table (by simp) (by simp)) ?_
      refine Chain.nil ?_
      refine AW.seqR ?_
      refine Chain.runK [] 3 fun K hK => ?_; simp; refine hK _ _ ?_; clear hK K
      refine Chain.sub (S' := mk 27 [] [(0, .d (.sl (a0.map cS27))), (3, .ref 23 0 l30.length), (4, .d (.lit (.int .i64 v31))), (7, .d (.lit (.int .i64 v31))), (10, .d (.sl (a0.map cS27))), (11, .d (.lit (.int .i64 (a0.length : Int)))), (12, .d (.lit (.int .i64 0)))] [(23, some (.arr 3 1 (l30.map (cI .i64))))]) (Sub.table (by simp) (by simp)) ?_
      refine Chain.nil ?_
      refine AW.lastN (fun (l114 : List Int) => mk 27 [] [(0, .d (.sl (a0.map cS27))), (3, .ref 23 0 l114.length), (7, .d (.lit (.int .i64 v31)))] [(23, some (.arr 3 1 (l114.map (cI .i64))))]) h ?_ ?_ <;> clear h
      · intro o h
        refine AW.block ?_
        refine AW.iter (fun (v100 : Int) => mk 27 [] [(0, .d (.sl (a0.map cS27))), (3, .ref 23 0 l30.length), (4, .d (.lit (.int .i64 v31))), (7, .d (.lit (.int .i64 v31))), (10, .d (.sl (a0.map cS27))), (11, .d (.lit (.int .i64 (a0.length : Int)))), (12, .d (.lit (.int .i64 v100)))] [(23, some (.arr 3 1 (l30.map (cI .i64))))]) h (Sub.table (by simp) (by simp)) ?_
        clear h
        rintro v100 x h
        refine AW.seqR ?_
        refine Chain.runK [] 1 fun K hK => ?_; simp; refine hK _ _ ?_; clear hK K
        refine Chain.sub (S' := mk 27 [] [(0, .d (.sl (a0.map cS27))), (3, .ref 23 0 l30.length), (4, .d (.lit (.int .i64 v31))), (7, .d (.lit (.int .i64 v31))), (10, .d (.sl (a0.map cS27))), (11, .d (.lit (.int .i64 (a0.length : Int)))), (12, .d (.lit (.int .i64 v100))), (13, .d (.lit (.bool (decide (v100 < (a0.length : Int))))))] [(23, some (.arr 3 1 (l30.map (cI .i64))))]) (Sub.table (by simp) (by simp)) ?_
        refine Chain.nil ?_
        refine AW.seq ?_
        replace h := isome h; rcases h with ⟨c115, h⟩ | ⟨c115, h⟩
        · have c115_ : decide (v100 < (a0.length : Int)) = true := decide_eq_true c115
          refine AW.condT (b := decide (v100 < (a0.length : Int))) rfl c115_ ?_
          refine AW.sub (Sub.bool 13 (b := decide (v100 < (a0.length : Int))) rfl c115_) ?_
          refine AW.sub (S' := mk 27 [] [(0, .d (.sl (a0.map cS27))), (3, .ref 23 0 l30.length), (4, .d (.lit (.int .i64 v31))), (7, .d (.lit (.int .i64 v31))), (10, .d (.sl (a0.map cS27))), (11, .d (.lit (.int .i64 (a0.length : Int)))), (12, .d (.lit (.int .i64 v100))), (13, .d (.lit (.bool true)))] [(23, some (.arr 3 1 (l30.map (cI .i64))))]) (by simp; exact Sub.table (by simp) (by simp)) ?_
          refine AW.skip ?_
          refine thenQ_normal ?_
          refine AW.seq ?_
          refine AW.block ?_
          refine AW.seqR ?_
          replace h := bsome h; obtain ⟨x116, hx116, h⟩ := h
          obtain ⟨k117, hx116k, hx116, hx116a, hx116b⟩ := idx_some hx116
          refine Chain.runK [] 4 fun K hK => ?_; simp [hx116, hx116k, hx116a]; refine hK _ _ ?_; clear hK K
          refine Chain.sub (S' := mk 27 [] [(0, .d (.sl (a0.map cS27))), (3, .ref 23 0 l30.length), (4, .d (.lit (.int .i64 v31))), (6, .ptr 6 0 0), (7, .d (.lit (.int .i64 v31))), (10, .d (.sl (a0.map cS27))), (11, .d (.lit (.int .i64 (a0.length : Int)))), (12, .d (.lit (.int .i64 v100)))] [(6, some (.box [.d (.lit (.int .i64 x116.Tx)), .d (.lit (.int .i64 x116.Kind)), .d (.lit (.string x116.Key))])), (23, some (.arr 3 1 (l30.map (cI .i64))))]) (Sub.table (by simp) (by simp)) ?_
          refine Chain.nil ?_
          refine AW.seqR ?_
          refine Chain.runK [] 4 fun K hK => ?_; simp; refine hK _ _ ?_; clear hK K
          refine Chain.sub (S' := mk 27 [] [(0, .d (.sl (a0.map cS27))), (3, .ref 23 0 l30.length), (4, .d (.lit (.int .i64 v31))), (7, .d (.lit (.int .i64 v31))), (10, .d (.sl (a0.map cS27))), (11, .d (.lit (.int .i64 (a0.length : Int)))), (12, .d (.lit (.int .i64 v100))), (19, .d (.lit (.bool (x116.Tx == v31))))] [(23, some (.arr 3 1 (l30.map (cI .i64))))]) (Sub.table (by simp) (by simp)) ?_
          refine Chain.nil ?_
          replace h := isome h; rcases h with ⟨c118, h⟩ | ⟨c118, h⟩
          · have c118_ : (x116.Tx == v31) = true := c118
            refine AW.condT (b := (x116.Tx == v31)) rfl c118_ ?_
            refine AW.sub (Sub.bool 19 (b := (x116.Tx == v31)) rfl c118_) ?_
            refine AW.sub (S' := mk 27 [] [(0, .d (.sl (a0.map cS27))), (3, .ref 23 0 l30.length), (4, .d (.lit (.int .i64 v31))), (7, .d (.lit (.int .i64 v31))), (10, .d (.sl (a0.map cS27))), (11, .d (.lit (.int .i64 (a0.length : Int)))), (12, .d (.lit (.int .i64 v100))), (19, .d (.lit (.bool true)))] [(23, some (.arr 3 1 (l30.map (cI .i64))))]) (by simp; exact Sub.table (by simp) (by simp)) ?_
            refine AW.seqR ?_
            replace h := bsome h; obtain ⟨l119, hl119, h⟩ := h
            obtain ⟨hl119a, hl119⟩ := appL_some hl119
            subst hl119
            try simp only [List.length_append, List.length_cons, List.length_nil, Nat.zero_add] at hl119a
            refine Chain.runK [22] 5 fun K hK => ?_; simp [hl119a]; refine hK _ _ ?_; clear hK K
            refine Chain.sub (S' := mk 27 [] [(0, .d (.sl (a0.map cS27))), (3, .ref 23 0 ((l30 ++ [v31]).length)), (7, .d (.lit (.int .i64 v31)))] [(23, some (.arr 3 1 ((l30 ++ [v31]).map (cI .i64))))]) (Sub.table (by simp) (by simp)) ?_
            refine Chain.nil ?_
            refine AW.exit ?_
            cases h
            refine blockQ.pass (by decide) ?_
            refine thenQ_pass (by simp) ?_
            refine PostI.out (by simp) ?_
            rintro rfl
            refine blockQ.hit ?_
            refine PostN.next ?_
            exact (Sub.table (by simp) (by simp))
          · have c118_ : (x116.Tx == v31) = false := Bool.eq_false_iff.2 c118
            refine AW.condF (b := (x116.Tx == v31)) rfl c118_ ?_
            refine AW.sub (Sub.bool 19 (b := (x116.Tx == v31)) rfl c118_) ?_
            refine AW.sub (S' := mk 27 [] [(0, .d (.sl (a0.map cS27))), (3, .ref 23 0 l30.length), (4, .d (.lit (.int .i64 v31))), (7, .d (.lit (.int .i64 v31))), (10, .d (.sl (a0.map cS27))), (11, .d (.lit (.int .i64 (a0.length : Int)))), (12, .d (.lit (.int .i64 v100))), (19, .d (.lit (.bool false)))] [(23, some (.arr 3 1 (l30.map (cI .i64))))]) (by simp; exact Sub.table (by simp) (by simp)) ?_
            refine AW.skip ?_
            refine blockQ.normal ?_
            refine thenQ_normal ?_
            refine AW.region ?_
            replace h := bsome h; obtain ⟨v120, hv120, h⟩ := h
            have hv120 := chkI_some hv120
            refine Chain.runK [] 2 fun K hK => ?_; simp [hv120]; refine hK _ _ ?_; clear hK K
            refine Chain.sub (S' := mk 27 [] [(0, .d (.sl (a0.map cS27))), (3, .ref 23 0 l30.length), (4, .d (.lit (.int .i64 v31))), (7, .d (.lit (.int .i64 v31))), (10, .d (.sl (a0.map cS27))), (11, .d (.lit (.int .i64 (a0.length : Int)))), (12, .d (.lit (.int .i64 v120)))] [(23, some (.arr 3 1 (l30.map (cI .i64))))]) (Sub.table (by simp) (by simp)) ?_
            refine Chain.nil ?_
            cases h
            refine PostI.next ?_
            exact (Sub.table (by simp) (by simp))
        · have c115_ : decide (v100 < (a0.length : Int)) = false := decide_eq_false c115
          refine AW.condF (b := decide (v100 < (a0.length : Int))) rfl c115_ ?_
          refine AW.sub (Sub.bool 13 (b := decide (v100 < (a0.length : Int))) rfl c115_) ?_
          refine AW.sub (S' := mk 27 [] [(0, .d (.sl (a0.map cS27))), (3, .ref 23 0 l30.length), (4, .d (.lit (.int .i64 v31))), (7, .d (.lit (.int .i64 v31))), (10, .d (.sl (a0.map cS27))), (11, .d (.lit (.int .i64 (a0.length : Int)))), (12, .d (.lit (.int .i64 v100))), (13, .d (.lit (.bool false)))] [(23, some (.arr 3 1 (l30.map (cI .i64))))]) (by simp; exact Sub.table (by simp) (by simp)) ?_
          refine AW.exit ?_
          cases h
          refine thenQ_pass (by simp) ?_
          refine PostI.out (by simp) ?_
          rintro rfl
          refine blockQ.hit ?_
          refine PostN.next ?_
          exact (Sub.table (by simp) (by simp))
      · rintro l114 h
        refine blockQ.normal ?_
        refine thenQ_normal ?_
        refine AW.region ?_
        replace h := bsome h; obtain ⟨v121, hv121, h⟩ := h
        have hv121 := chkI_some hv121
        refine Chain.runK [] 2 fun K hK => ?_; simp [hv121]; refine hK _ _ ?_; clear hK K
        refine Chain.sub (S' := mk 27 [] [(0, .d (.sl (a0.map cS27))), (3, .ref 23 0 l114.length), (7, .d (.lit (.int .i64 v121)))] [(23, some (.arr 3 1 (l114.map (cI .i64))))]) (Sub.table (by simp) (by simp)) ?_
        refine Chain.nil ?_
        cases h
        refine PostI.next ?_
        exact (Sub.table (by simp) (by simp))
    · have c93_ : decide (v31 < 20) = false := decide_eq_false c93
      refine AW.condF (b := decide (v31 < 20)) rfl c93_ ?_
      refine AW.sub (Sub.bool 8 (b := decide (v31 < 20)) rfl c93_) ?_
      refine AW.sub (S' := mk 27 [] [(0, .d (.sl (a0.map cS27))), (3, .ref 23 0 l30.length), (7, .d (.lit (.int .i64 v31))), (8, .d (.lit (.bool false)))] [(23, some (.arr 3 1 (l30.map (cI .i64))))]) (by simp; exact Sub.table (by simp) (by simp)) ?_
      refine AW.exit ?_
      cases h
      refine thenQ_pass (by simp) ?_
      refine PostI.out (by simp) ?_
      rintro rfl
      refine blockQ.hit ?_
      refine PostN.next ?_
      exact (Sub.table (by simp) (by simp))
  · rintro l92 h
    refine thenQ_normal ?_
    refine AW.seqR ?_
    refine Chain.runK [] 2 fun K hK => ?_; simp; refine hK _ _ ?_; clear hK K
    refine Chain.sub (S' := mk 27 [] [(2, .ref 23 0 l92.length)] [(23, some (.arr 3 1 (l92.map (cI .i64))))]) (Sub.table (by simp) (by simp)) ?_
    refine Chain.nil ?_
    refine AW.sub (Sub.freeze 23 rfl) ?_
    refine AW.sub (S' := mk 27 [] [(2, .d (.sl (l92.map (cI .i64))))] []) (by simp; exact Sub.table (by simp) (by simp)) ?_
    refine AW.ret ?_
    cases h
    exact FinC.ret (by simp) (by simp)

end Go.Proofs.Ytabjbkdlacibjaa
