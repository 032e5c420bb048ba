/- Functions of the program as functional programs; the code computes them. -/
import Derived.Test.YtabjbkdlacibjaaSo6
namespace Go.Proofs.Ytabjbkdlacibjaa
open Go.Ab Go.Rp
attribute [-simp] List.all_eq_true Array.all_toList Array.all_eq_true

/-- stemma/stemref5.CycleOfLength -/
def d32 : (N : Nat) → (a0 : (List Int)) → (p1 : Int → Int → Option Bool) → (a2 : (List Int)) → (a3 : Int) → Option (List Int)
  | 0, _, _, _, _ => none
  | N + 1, a0, p1, a2, a3 =>
    (chkI ((a2.length : Int) - 1)).bind fun v1 =>
    (idx a2 v1).bind fun x2 =>
    if (a3 == (a2.length : Int)) then (
      (idx a2 0).bind fun x5 =>
      (p1 x2 x5).bind fun r7 =>
      if r7 = true then (
        some a2
      ) else
      some ([] : List Int)
    ) else
    bindO (β := Unit) (ρ := (List Int)) (
      iterN (σ := Int) (ρ := (Out Unit (List Int))) (fun (v29 : Int) =>
        if v29 < (a0.length : Int) then (
          (idx a0 v29).bind fun x76 =>
          Option.bind (α := Bool) (
            (idx a2 0).bind fun x85 =>
            if x76 > x85 then (
              (d57 N a2 x76).bind fun r88 =>
              if (!r88) = true then (
                (p1 x2 x76).bind fun r90 =>
                some r90
              ) else
              some false
            ) else
            some false
          ) fun (v84 : Bool) =>
          if v84 = true then (
            (appL 8 a2 [x76]).bind fun l92 =>
            (d32 N a0 p1 (a2 ++ [x76]) a3).bind fun r93 =>
            if (r93.length : Int) > 0 then (
              some (.inr (.ret r93))
            ) else
            (chkI (v29 + 1)).bind fun v95 =>
            some (.inl v95)
          ) else
          (chkI (v29 + 1)).bind fun v96 =>
          some (.inl v96)
        ) else
        some (.inr (.go ()))
      ) N 0
    ) fun (_ : Unit) =>
    some ([] : List Int)
set_option maxRecDepth 100000 in
set_option maxHeartbeats 4000000 in
theorem p32 (N : Nat) : ∀ (a0 : (List Int)) (g1 : Nat) (cs1 : List D) (p1 : Int → Int → Option Bool) (ent_1 : Rp.Enters Try.prog g1) (hp1 : ∀ a0 a1 r, p1 a0 a1 = some r → FunC Try.prog g1 ([.d (.lit (.int .i64 a0)), .d (.lit (.int .i64 a1))] ++ cs1.map .d) (.d (.lit (.bool r)))) (a2 : (List Int)) (a3 : Int) (r : (List Int)) (_ : d32 N a0 p1 a2 a3 = some r), FunC Try.prog 32 [.d (.sl (a0.map (cI .i64))), .fn (.func g1) (cs1.map .d), .d (.sl (a2.map (cI .i64))), .d (.lit (.int .i64 a3))] (.d (.sl (r.map (cI .i64)))) := by
  induction N with
  | zero => intro a0 g1 cs1 p1 ent_1 hp1 a2 a3 r h; cases h
  | succ N ih =>
  intro a0 g1 cs1 p1 ent_1 hp1 a2 a3 r h
  unfold d32 at h
  refine FunC.enter 71 [(0, .d (.sl (a0.map (cI .i64)))), (1, .fn (.func g1) (cs1.map .d)), (2, .d (.sl (a2.map (cI .i64)))), (3, .d (.lit (.int .i64 a3)))] (by simp) Try.func32 rfl (of_decide_eq_true rfl) rfl rfl ?_
  refine AW.seqR ?_
  refine Chain.runK [] 1 fun K hK => ?_; simp; refine hK _ _ ?_; clear hK K
  refine Chain.sub (S' := mk 71 [] [(0, .d (.sl (a0.map (cI .i64)))), (1, .fn (.func g1) (cs1.map .d)), (2, .d (.sl (a2.map (cI .i64)))), (3, .d (.lit (.int .i64 a3)))] []) (Sub.table (by simp) (by simp)) ?_
  refine Chain.nil ?_
  refine AW.seqR ?_
  replace h := bsome h; obtain ⟨v1, hv1, h⟩ := h
  have hv1 := chkI_some hv1
  replace h := bsome h; obtain ⟨x2, hx2, h⟩ := h
  obtain ⟨k3, hx2k, hx2, hx2a, hx2b⟩ := idx_some hx2
  refine Chain.runK [] 7 fun K hK => ?_; simp [hv1, hx2, hx2k, hx2a]; refine hK _ _ ?_; clear hK K
  refine Chain.sub (S' := mk 71 [] [(0, .d (.sl (a0.map (cI .i64)))), (1, .fn (.func g1) (cs1.map .d)), (2, .d (.sl (a2.map (cI .i64)))), (3, .d (.lit (.int .i64 a3))), (9, .d (.lit (.int .i64 x2)))] []) (Sub.table (by simp) (by simp)) ?_
  refine Chain.nil ?_
  refine AW.seq ?_
  refine AW.seqR ?_
  refine Chain.runK [] 4 fun K hK => ?_; simp; refine hK _ _ ?_; clear hK K
  refine Chain.sub (S' := mk 71 [] [(0, .d (.sl (a0.map (cI .i64)))), (1, .fn (.func g1) (cs1.map .d)), (2, .d (.sl (a2.map (cI .i64)))), (3, .d (.lit (.int .i64 a3))), (9, .d (.lit (.int .i64 x2))), (22, .d (.lit (.bool (a3 == (a2.length : Int)))))] []) (Sub.table (by simp) (by simp)) ?_
  refine Chain.nil ?_
  replace h := isome h; rcases h with ⟨c4, h⟩ | ⟨c4, h⟩
  · have c4_ : (a3 == (a2.length : Int)) = true := c4
    refine AW.condT (b := (a3 == (a2.length : Int))) rfl c4_ ?_
    refine AW.sub (Sub.bool 22 (b := (a3 == (a2.length : Int))) rfl c4_) ?_
    refine AW.sub (S' := mk 71 [] [(0, .d (.sl (a0.map (cI .i64)))), (1, .fn (.func g1) (cs1.map .d)), (2, .d (.sl (a2.map (cI .i64)))), (3, .d (.lit (.int .i64 a3))), (9, .d (.lit (.int .i64 x2))), (22, .d (.lit (.bool true)))] []) (by simp; exact Sub.table (by simp) (by simp)) ?_
    refine AW.seq ?_
    refine AW.seqR ?_
    replace h := bsome h; obtain ⟨x5, hx5, h⟩ := h
    obtain ⟨k6, hx5k, hx5, hx5a, hx5b⟩ := idx_some hx5
    refine Chain.runK [] 5 fun K hK => ?_; simp [hx5, hx5k, hx5a]; refine hK _ _ ?_; clear hK K
    refine Chain.sub (S' := mk 71 [] [(2, .d (.sl (a2.map (cI .i64)))), (23, .fn (.func g1) (cs1.map .d)), (24, .d (.lit (.int .i64 x2))), (27, .d (.lit (.int .i64 x5)))] []) (Sub.table (by simp) (by simp)) ?_
    replace h := bsome h; obtain ⟨r7, hr7, h⟩ := h
    refine Chain.callL (d := 28) (hp1 x2 x5 r7 hr7) (by simp) rfl rfl (by simp <;> rfl) (by simp <;> rfl) ent_1 (by simp <;> rfl) ?_
    refine Chain.sub (S' := mk 71 [] [(2, .d (.sl (a2.map (cI .i64)))), (23, .fn (.func g1) (cs1.map .d)), (24, .d (.lit (.int .i64 x2))), (27, .d (.lit (.int .i64 x5))), (28, .d (.lit (.bool r7)))] []) (by simp; exact Sub.table (by simp) (by simp)) ?_
    refine Chain.nil ?_
    replace h := isome h; rcases h with ⟨c8, h⟩ | ⟨c8, h⟩
    · have c8_ : r7 = true := c8
      refine AW.condT (b := r7) rfl c8_ ?_
      refine AW.sub (Sub.bool 28 (b := r7) rfl c8_) ?_
      refine AW.sub (S' := mk 71 [] [(2, .d (.sl (a2.map (cI .i64)))), (23, .fn (.func g1) (cs1.map .d)), (24, .d (.lit (.int .i64 x2))), (27, .d (.lit (.int .i64 x5))), (28, .d (.lit (.bool true)))] []) (by simp; exact Sub.table (by simp) (by simp)) ?_
      refine AW.seqR ?_
      refine Chain.runK [] 2 fun K hK => ?_; simp; refine hK _ _ ?_; clear hK K
      refine Chain.sub (S' := mk 71 [] [(8, .d (.sl (a2.map (cI .i64))))] []) (Sub.table (by simp) (by simp)) ?_
      refine Chain.nil ?_
      refine AW.ret ?_
      cases h
      refine thenQ_pass (by simp) ?_
      refine thenQ_pass (by simp) ?_
      exact FinC.ret (by simp) (by simp)
    · have c8_ : r7 = false := Bool.eq_false_iff.2 c8
      refine AW.condF (b := r7) rfl c8_ ?_
      refine AW.sub (Sub.bool 28 (b := r7) rfl c8_) ?_
      refine AW.sub (S' := mk 71 [] [(2, .d (.sl (a2.map (cI .i64)))), (23, .fn (.func g1) (cs1.map .d)), (24, .d (.lit (.int .i64 x2))), (27, .d (.lit (.int .i64 x5))), (28, .d (.lit (.bool false)))] []) (by simp; exact Sub.table (by simp) (by simp)) ?_
      refine AW.skip ?_
      refine thenQ_normal ?_
      refine AW.seqR ?_
      refine Chain.runK [] 1 fun K hK => ?_; simp; refine hK _ _ ?_; clear hK K
      refine Chain.sub (S' := mk 71 [] [(8, .d (.lit (.slice none 0 0)))] []) (Sub.table (by simp) (by simp)) ?_
      refine Chain.nil ?_
      refine AW.sub (Sub.wk 8 rfl) ?_
      refine AW.sub (S' := mk 71 [] [(8, .d (.sl (([] : List Int).map (cI .i64))))] []) (by simp; exact Sub.table (by simp) (by simp)) ?_
      refine AW.ret ?_
      cases h
      refine thenQ_pass (by simp) ?_
      exact FinC.ret (by simp) (by simp)
  · have c4_ : (a3 == (a2.length : Int)) = false := Bool.eq_false_iff.2 c4
    refine AW.condF (b := (a3 == (a2.length : Int))) rfl c4_ ?_
    refine AW.sub (Sub.bool 22 (b := (a3 == (a2.length : Int))) rfl c4_) ?_
    refine AW.sub (S' := mk 71 [] [(0, .d (.sl (a0.map (cI .i64)))), (1, .fn (.func g1) (cs1.map .d)), (2, .d (.sl (a2.map (cI .i64)))), (3, .d (.lit (.int .i64 a3))), (9, .d (.lit (.int .i64 x2))), (22, .d (.lit (.bool false)))] []) (by simp; exact Sub.table (by simp) (by simp)) ?_
    refine AW.skip ?_
    refine thenQ_normal ?_
    refine AW.seq ?_
    refine AW.seqR ?_
    refine Chain.runK [] 3 fun K hK => ?_; simp; refine hK _ _ ?_; clear hK K
    refine Chain.sub (S' := mk 71 [] [(0, .d (.sl (a0.map (cI .i64)))), (1, .fn (.func g1) (cs1.map .d)), (2, .d (.sl (a2.map (cI .i64)))), (3, .d (.lit (.int .i64 a3))), (9, .d (.lit (.int .i64 x2))), (30, .d (.sl (a0.map (cI .i64)))), (31, .d (.lit (.int .i64 (a0.length : Int)))), (32, .d (.lit (.int .i64 0)))] []) (Sub.table (by simp) (by simp)) ?_
    refine Chain.nil ?_
    refine AW.lastJ (fun (_ : Unit) => mk 71 [] [] []) h ?_ ?_ <;> clear h
    · intro o h
      refine AW.block ?_
      refine AW.iter (fun (v29 : Int) => mk 71 [] [(0, .d (.sl (a0.map (cI .i64)))), (1, .fn (.func g1) (cs1.map .d)), (2, .d (.sl (a2.map (cI .i64)))), (3, .d (.lit (.int .i64 a3))), (9, .d (.lit (.int .i64 x2))), (30, .d (.sl (a0.map (cI .i64)))), (31, .d (.lit (.int .i64 (a0.length : Int)))), (32, .d (.lit (.int .i64 v29)))] []) h (Sub.table (by simp) (by simp)) ?_
      clear h
      rintro v29 x h
      refine AW.seqR ?_
      refine Chain.runK [] 1 fun K hK => ?_; simp; refine hK _ _ ?_; clear hK K
      refine Chain.sub (S' := mk 71 [] [(0, .d (.sl (a0.map (cI .i64)))), (1, .fn (.func g1) (cs1.map .d)), (2, .d (.sl (a2.map (cI .i64)))), (3, .d (.lit (.int .i64 a3))), (9, .d (.lit (.int .i64 x2))), (30, .d (.sl (a0.map (cI .i64)))), (31, .d (.lit (.int .i64 (a0.length : Int)))), (32, .d (.lit (.int .i64 v29))), (33, .d (.lit (.bool (decide (v29 < (a0.length : Int))))))] []) (Sub.table (by simp) (by simp)) ?_
      refine Chain.nil ?_
      refine AW.seq ?_
      replace h := isome h; rcases h with ⟨c75, h⟩ | ⟨c75, h⟩
      · have c75_ : decide (v29 < (a0.length : Int)) = true := decide_eq_true c75
        refine AW.condT (b := decide (v29 < (a0.length : Int))) rfl c75_ ?_
        refine AW.sub (Sub.bool 33 (b := decide (v29 < (a0.length : Int))) rfl c75_) ?_
        refine AW.sub (S' := mk 71 [] [(0, .d (.sl (a0.map (cI .i64)))), (1, .fn (.func g1) (cs1.map .d)), (2, .d (.sl (a2.map (cI .i64)))), (3, .d (.lit (.int .i64 a3))), (9, .d (.lit (.int .i64 x2))), (30, .d (.sl (a0.map (cI .i64)))), (31, .d (.lit (.int .i64 (a0.length : Int)))), (32, .d (.lit (.int .i64 v29))), (33, .d (.lit (.bool true)))] []) (by simp; exact Sub.table (by simp) (by simp)) ?_
        refine AW.skip ?_
        refine thenQ_normal ?_
        refine AW.seq ?_
        refine AW.block ?_
        refine AW.seqR ?_
        replace h := bsome h; obtain ⟨x76, hx76, h⟩ := h
        obtain ⟨k77, hx76k, hx76, hx76a, hx76b⟩ := idx_some hx76
        refine Chain.runK [] 3 fun K hK => ?_; simp [hx76, hx76k, hx76a]; refine hK _ _ ?_; clear hK K
        refine Chain.sub (S' := mk 71 [] [(0, .d (.sl (a0.map (cI .i64)))), (1, .fn (.func g1) (cs1.map .d)), (2, .d (.sl (a2.map (cI .i64)))), (3, .d (.lit (.int .i64 a3))), (9, .d (.lit (.int .i64 x2))), (11, .d (.lit (.int .i64 x76))), (30, .d (.sl (a0.map (cI .i64)))), (31, .d (.lit (.int .i64 (a0.length : Int)))), (32, .d (.lit (.int .i64 v29)))] []) (Sub.table (by simp) (by simp)) ?_
        refine Chain.nil ?_
        replace h := bsome h; obtain ⟨v84, hj, h⟩ := h
        refine AW.cutR (mk 71 [] [(0, .d (.sl (a0.map (cI .i64)))), (1, .fn (.func g1) (cs1.map .d)), (2, .d (.sl (a2.map (cI .i64)))), (3, .d (.lit (.int .i64 a3))), (9, .d (.lit (.int .i64 x2))), (11, .d (.lit (.int .i64 x76))), (30, .d (.sl (a0.map (cI .i64)))), (31, .d (.lit (.int .i64 (a0.length : Int)))), (32, .d (.lit (.int .i64 v29))), (52, .d (.lit (.bool v84)))] []) ?_ ?_
        · clear h; have h := hj; clear hj
          replace h := bsome h; obtain ⟨x85, hx85, h⟩ := h
          obtain ⟨k86, hx85k, hx85, hx85a, hx85b⟩ := idx_some hx85
          refine Chain.runK [] 6 fun K hK => ?_; simp [hx85, hx85k, hx85a]; refine hK _ _ ?_; clear hK K
          refine Chain.sub (S' := mk 71 [] [(0, .d (.sl (a0.map (cI .i64)))), (1, .fn (.func g1) (cs1.map .d)), (2, .d (.sl (a2.map (cI .i64)))), (3, .d (.lit (.int .i64 a3))), (9, .d (.lit (.int .i64 x2))), (11, .d (.lit (.int .i64 x76))), (30, .d (.sl (a0.map (cI .i64)))), (31, .d (.lit (.int .i64 (a0.length : Int)))), (32, .d (.lit (.int .i64 v29))), (41, .d (.lit (.bool (decide (x76 > x85)))))] []) (Sub.table (by simp) (by simp)) ?_
          replace h := isome h; rcases h with ⟨c87, h⟩ | ⟨c87, h⟩
          · have c87_ : decide (x76 > x85) = true := decide_eq_true c87
            refine Chain.sub (Sub.bool 41 (b := decide (x76 > x85)) rfl c87_) ?_
            refine Chain.sub (S' := mk 71 [] [(0, .d (.sl (a0.map (cI .i64)))), (1, .fn (.func g1) (cs1.map .d)), (2, .d (.sl (a2.map (cI .i64)))), (3, .d (.lit (.int .i64 a3))), (9, .d (.lit (.int .i64 x2))), (11, .d (.lit (.int .i64 x76))), (30, .d (.sl (a0.map (cI .i64)))), (31, .d (.lit (.int .i64 (a0.length : Int)))), (32, .d (.lit (.int .i64 v29))), (41, .d (.lit (.bool true)))] []) (by simp; exact Sub.table (by simp) (by simp)) ?_
            refine Chain.runK [] 2 fun K hK => ?_; simp; refine hK _ _ ?_; clear hK K
            refine Chain.sub (S' := mk 71 [] [(0, .d (.sl (a0.map (cI .i64)))), (1, .fn (.func g1) (cs1.map .d)), (2, .d (.sl (a2.map (cI .i64)))), (3, .d (.lit (.int .i64 a3))), (9, .d (.lit (.int .i64 x2))), (11, .d (.lit (.int .i64 x76))), (30, .d (.sl (a0.map (cI .i64)))), (31, .d (.lit (.int .i64 (a0.length : Int)))), (32, .d (.lit (.int .i64 v29))), (41, .d (.lit (.bool true))), (42, .d (.sl (a2.map (cI .i64)))), (43, .d (.lit (.int .i64 x76)))] []) (Sub.table (by simp) (by simp)) ?_
            replace h := bsome h; obtain ⟨r88, hr88, h⟩ := h
            refine Chain.callL (d := 44) (p57 N a2 x76 r88 hr88) (by simp) rfl rfl (by simp <;> rfl) (by simp <;> rfl) ent57 (by simp <;> rfl) ?_
            refine Chain.sub (S' := mk 71 [] [(0, .d (.sl (a0.map (cI .i64)))), (1, .fn (.func g1) (cs1.map .d)), (2, .d (.sl (a2.map (cI .i64)))), (3, .d (.lit (.int .i64 a3))), (9, .d (.lit (.int .i64 x2))), (11, .d (.lit (.int .i64 x76))), (30, .d (.sl (a0.map (cI .i64)))), (31, .d (.lit (.int .i64 (a0.length : Int)))), (32, .d (.lit (.int .i64 v29))), (41, .d (.lit (.bool true))), (42, .d (.sl (a2.map (cI .i64)))), (43, .d (.lit (.int .i64 x76))), (44, .d (.lit (.bool r88)))] []) (by simp; exact Sub.table (by simp) (by simp)) ?_
            refine Chain.runK [] 3 fun K hK => ?_; simp; refine hK _ _ ?_; clear hK K
            refine Chain.sub (S' := mk 71 [] [(0, .d (.sl (a0.map (cI .i64)))), (1, .fn (.func g1) (cs1.map .d)), (2, .d (.sl (a2.map (cI .i64)))), (3, .d (.lit (.int .i64 a3))), (9, .d (.lit (.int .i64 x2))), (11, .d (.lit (.int .i64 x76))), (30, .d (.sl (a0.map (cI .i64)))), (31, .d (.lit (.int .i64 (a0.length : Int)))), (32, .d (.lit (.int .i64 v29))), (42, .d (.sl (a2.map (cI .i64)))), (43, .d (.lit (.int .i64 x76))), (44, .d (.lit (.bool r88))), (45, .d (.lit (.bool (!r88)))), (47, .d (.lit (.bool (!r88))))] []) (Sub.table (by simp) (by simp)) ?_
            replace h := isome h; rcases h with ⟨c89, h⟩ | ⟨c89, h⟩
            · have c89_ : (!r88) = true := c89
              refine Chain.sub (Sub.bool 45 (b := (!r88)) rfl c89_) ?_
              refine Chain.sub (Sub.bool 47 (b := (!r88)) rfl c89_) ?_
              refine Chain.sub (S' := mk 71 [] [(0, .d (.sl (a0.map (cI .i64)))), (1, .fn (.func g1) (cs1.map .d)), (2, .d (.sl (a2.map (cI .i64)))), (3, .d (.lit (.int .i64 a3))), (9, .d (.lit (.int .i64 x2))), (11, .d (.lit (.int .i64 x76))), (30, .d (.sl (a0.map (cI .i64)))), (31, .d (.lit (.int .i64 (a0.length : Int)))), (32, .d (.lit (.int .i64 v29))), (42, .d (.sl (a2.map (cI .i64)))), (43, .d (.lit (.int .i64 x76))), (44, .d (.lit (.bool r88))), (45, .d (.lit (.bool true))), (47, .d (.lit (.bool true)))] []) (by simp; exact Sub.table (by simp) (by simp)) ?_
              refine Chain.runK [] 3 fun K hK => ?_; simp; refine hK _ _ ?_; clear hK K
              refine Chain.sub (S' := mk 71 [] [(0, .d (.sl (a0.map (cI .i64)))), (1, .fn (.func g1) (cs1.map .d)), (2, .d (.sl (a2.map (cI .i64)))), (3, .d (.lit (.int .i64 a3))), (9, .d (.lit (.int .i64 x2))), (11, .d (.lit (.int .i64 x76))), (30, .d (.sl (a0.map (cI .i64)))), (31, .d (.lit (.int .i64 (a0.length : Int)))), (32, .d (.lit (.int .i64 v29))), (42, .d (.sl (a2.map (cI .i64)))), (43, .d (.lit (.int .i64 x76))), (44, .d (.lit (.bool r88))), (45, .d (.lit (.bool true))), (47, .d (.lit (.bool true))), (48, .fn (.func g1) (cs1.map .d)), (49, .d (.lit (.int .i64 x2))), (50, .d (.lit (.int .i64 x76)))] []) (Sub.table (by simp) (by simp)) ?_
              replace h := bsome h; obtain ⟨r90, hr90, h⟩ := h
              refine Chain.callL (d := 51) (hp1 x2 x76 r90 hr90) (by simp) rfl rfl (by simp <;> rfl) (by simp <;> rfl) ent_1 (by simp <;> rfl) ?_
              refine Chain.sub (S' := mk 71 [] [(0, .d (.sl (a0.map (cI .i64)))), (1, .fn (.func g1) (cs1.map .d)), (2, .d (.sl (a2.map (cI .i64)))), (3, .d (.lit (.int .i64 a3))), (9, .d (.lit (.int .i64 x2))), (11, .d (.lit (.int .i64 x76))), (30, .d (.sl (a0.map (cI .i64)))), (31, .d (.lit (.int .i64 (a0.length : Int)))), (32, .d (.lit (.int .i64 v29))), (42, .d (.sl (a2.map (cI .i64)))), (43, .d (.lit (.int .i64 x76))), (44, .d (.lit (.bool r88))), (45, .d (.lit (.bool true))), (47, .d (.lit (.bool true))), (48, .fn (.func g1) (cs1.map .d)), (49, .d (.lit (.int .i64 x2))), (50, .d (.lit (.int .i64 x76))), (51, .d (.lit (.bool r90)))] []) (by simp; exact Sub.table (by simp) (by simp)) ?_
              refine Chain.runK [] 1 fun K hK => ?_; simp; refine hK _ _ ?_; clear hK K
              refine Chain.sub (S' := mk 71 [] [(0, .d (.sl (a0.map (cI .i64)))), (1, .fn (.func g1) (cs1.map .d)), (2, .d (.sl (a2.map (cI .i64)))), (3, .d (.lit (.int .i64 a3))), (9, .d (.lit (.int .i64 x2))), (11, .d (.lit (.int .i64 x76))), (30, .d (.sl (a0.map (cI .i64)))), (31, .d (.lit (.int .i64 (a0.length : Int)))), (32, .d (.lit (.int .i64 v29))), (42, .d (.sl (a2.map (cI .i64)))), (43, .d (.lit (.int .i64 x76))), (44, .d (.lit (.bool r88))), (45, .d (.lit (.bool true))), (48, .fn (.func g1) (cs1.map .d)), (49, .d (.lit (.int .i64 x2))), (50, .d (.lit (.int .i64 x76))), (51, .d (.lit (.bool r90))), (52, .d (.lit (.bool r90)))] []) (Sub.table (by simp) (by simp)) ?_
              cases h
              exact Chain.nil (Sub.table (by simp) (by simp))
            · have c89_ : (!r88) = false := Bool.eq_false_iff.2 c89
              refine Chain.sub (Sub.bool 45 (b := (!r88)) rfl c89_) ?_
              refine Chain.sub (Sub.bool 47 (b := (!r88)) rfl c89_) ?_
              refine Chain.sub (S' := mk 71 [] [(0, .d (.sl (a0.map (cI .i64)))), (1, .fn (.func g1) (cs1.map .d)), (2, .d (.sl (a2.map (cI .i64)))), (3, .d (.lit (.int .i64 a3))), (9, .d (.lit (.int .i64 x2))), (11, .d (.lit (.int .i64 x76))), (30, .d (.sl (a0.map (cI .i64)))), (31, .d (.lit (.int .i64 (a0.length : Int)))), (32, .d (.lit (.int .i64 v29))), (42, .d (.sl (a2.map (cI .i64)))), (43, .d (.lit (.int .i64 x76))), (44, .d (.lit (.bool r88))), (45, .d (.lit (.bool false))), (47, .d (.lit (.bool false)))] []) (by simp; exact Sub.table (by simp) (by simp)) ?_
              refine Chain.runK [] 5 fun K hK => ?_; simp; refine hK _ _ ?_; clear hK K
              refine Chain.sub (S' := mk 71 [] [(0, .d (.sl (a0.map (cI .i64)))), (1, .fn (.func g1) (cs1.map .d)), (2, .d (.sl (a2.map (cI .i64)))), (3, .d (.lit (.int .i64 a3))), (9, .d (.lit (.int .i64 x2))), (11, .d (.lit (.int .i64 x76))), (30, .d (.sl (a0.map (cI .i64)))), (31, .d (.lit (.int .i64 (a0.length : Int)))), (32, .d (.lit (.int .i64 v29))), (42, .d (.sl (a2.map (cI .i64)))), (43, .d (.lit (.int .i64 x76))), (44, .d (.lit (.bool r88))), (45, .d (.lit (.bool false))), (48, .tup []), (49, .tup []), (50, .tup []), (51, .tup []), (52, .d (.lit (.bool false)))] []) (Sub.table (by simp) (by simp)) ?_
              cases h
              exact Chain.nil (Sub.table (by simp) (by simp))
          · have c87_ : decide (x76 > x85) = false := decide_eq_false c87
            refine Chain.sub (Sub.bool 41 (b := decide (x76 > x85)) rfl c87_) ?_
            refine Chain.sub (S' := mk 71 [] [(0, .d (.sl (a0.map (cI .i64)))), (1, .fn (.func g1) (cs1.map .d)), (2, .d (.sl (a2.map (cI .i64)))), (3, .d (.lit (.int .i64 a3))), (9, .d (.lit (.int .i64 x2))), (11, .d (.lit (.int .i64 x76))), (30, .d (.sl (a0.map (cI .i64)))), (31, .d (.lit (.int .i64 (a0.length : Int)))), (32, .d (.lit (.int .i64 v29))), (41, .d (.lit (.bool false)))] []) (by simp; exact Sub.table (by simp) (by simp)) ?_
            refine Chain.runK [] 11 fun K hK => ?_; simp; refine hK _ _ ?_; clear hK K
            refine Chain.sub (S' := mk 71 [] [(0, .d (.sl (a0.map (cI .i64)))), (1, .fn (.func g1) (cs1.map .d)), (2, .d (.sl (a2.map (cI .i64)))), (3, .d (.lit (.int .i64 a3))), (9, .d (.lit (.int .i64 x2))), (11, .d (.lit (.int .i64 x76))), (30, .d (.sl (a0.map (cI .i64)))), (31, .d (.lit (.int .i64 (a0.length : Int)))), (32, .d (.lit (.int .i64 v29))), (42, .tup []), (43, .tup []), (44, .tup []), (45, .tup []), (48, .tup []), (49, .tup []), (50, .tup []), (51, .tup []), (52, .d (.lit (.bool false)))] []) (Sub.table (by simp) (by simp)) ?_
            cases h
            exact Chain.nil (Sub.table (by simp) (by simp))
        · clear hj
          replace h := isome h; rcases h with ⟨c91, h⟩ | ⟨c91, h⟩
          · have c91_ : v84 = true := c91
            refine AW.condT (b := v84) rfl c91_ ?_
            refine AW.sub (Sub.bool 52 (b := v84) rfl c91_) ?_
            refine AW.sub (S' := mk 71 [] [(0, .d (.sl (a0.map (cI .i64)))), (1, .fn (.func g1) (cs1.map .d)), (2, .d (.sl (a2.map (cI .i64)))), (3, .d (.lit (.int .i64 a3))), (9, .d (.lit (.int .i64 x2))), (11, .d (.lit (.int .i64 x76))), (30, .d (.sl (a0.map (cI .i64)))), (31, .d (.lit (.int .i64 (a0.length : Int)))), (32, .d (.lit (.int .i64 v29))), (52, .d (.lit (.bool true)))] []) (by simp; exact Sub.table (by simp) (by simp)) ?_
            refine AW.seqR ?_
            refine Chain.runK [62] 10 fun K hK => ?_; simp; refine hK _ _ ?_; clear hK K
            refine Chain.sub (S' := mk 71 [] [(0, .d (.sl (a0.map (cI .i64)))), (1, .fn (.func g1) (cs1.map .d)), (2, .d (.sl (a2.map (cI .i64)))), (3, .d (.lit (.int .i64 a3))), (9, .d (.lit (.int .i64 x2))), (30, .d (.sl (a0.map (cI .i64)))), (31, .d (.lit (.int .i64 (a0.length : Int)))), (32, .d (.lit (.int .i64 v29))), (53, .d (.sl (a0.map (cI .i64)))), (54, .fn (.func g1) (cs1.map .d)), (60, .dx (a2.map (cI .i64))), (62, .d (.sl ([x76].map (cI .i64))))] []) (Sub.table (by simp) (by simp)) ?_
            replace h := bsome h; obtain ⟨l92, hl92, h⟩ := h
            obtain ⟨hl92a, hl92⟩ := appL_some hl92
            subst hl92
            try simp only [List.length_append, List.length_cons, List.length_nil, Nat.zero_add] at hl92a
            refine Chain.appDx (d := 63) (es := a2.map (cI .i64)) (ys := ([x76] : List Int).map (cI .i64)) (te := ⟨_, 1, 8, _⟩) (by simp) rfl rfl rfl rfl ty35 rfl ty3 rfl rfl rfl (by simp) (by simp [srcV]) (by simp) (by simp) (by decide) (by decide) rfl (by simp [hl92a]) ?_
            refine Chain.sub (S' := mk 71 [] [(0, .d (.sl (a0.map (cI .i64)))), (1, .fn (.func g1) (cs1.map .d)), (2, .d (.sl (a2.map (cI .i64)))), (3, .d (.lit (.int .i64 a3))), (9, .d (.lit (.int .i64 x2))), (30, .d (.sl (a0.map (cI .i64)))), (31, .d (.lit (.int .i64 (a0.length : Int)))), (32, .d (.lit (.int .i64 v29))), (53, .d (.sl (a0.map (cI .i64)))), (54, .fn (.func g1) (cs1.map .d)), (60, .dx (a2.map (cI .i64))), (62, .d (.sl ([x76].map (cI .i64)))), (63, .ref 63 0 ((a2 ++ [x76]).length))] [(63, some (.arr 3 1 ((a2 ++ [x76]).map (cI .i64))))]) (by simp; exact Sub.table (by simp) (by simp)) ?_
            refine Chain.runK [62] 1 fun K hK => ?_; simp; refine hK _ _ ?_; clear hK K
            refine Chain.sub (S' := mk 71 [] [(0, .d (.sl (a0.map (cI .i64)))), (1, .fn (.func g1) (cs1.map .d)), (2, .d (.sl (a2.map (cI .i64)))), (3, .d (.lit (.int .i64 a3))), (9, .d (.lit (.int .i64 x2))), (30, .d (.sl (a0.map (cI .i64)))), (31, .d (.lit (.int .i64 (a0.length : Int)))), (32, .d (.lit (.int .i64 v29))), (53, .d (.sl (a0.map (cI .i64)))), (54, .fn (.func g1) (cs1.map .d)), (63, .ref 63 0 ((a2 ++ [x76]).length)), (64, .d (.lit (.int .i64 a3)))] [(63, some (.arr 3 1 ((a2 ++ [x76]).map (cI .i64))))]) (Sub.table (by simp) (by simp)) ?_
            refine Chain.sub (Sub.freeze 63 rfl) ?_
            refine Chain.sub (S' := mk 71 [] [(0, .d (.sl (a0.map (cI .i64)))), (1, .fn (.func g1) (cs1.map .d)), (2, .d (.sl (a2.map (cI .i64)))), (3, .d (.lit (.int .i64 a3))), (9, .d (.lit (.int .i64 x2))), (30, .d (.sl (a0.map (cI .i64)))), (31, .d (.lit (.int .i64 (a0.length : Int)))), (32, .d (.lit (.int .i64 v29))), (53, .d (.sl (a0.map (cI .i64)))), (54, .fn (.func g1) (cs1.map .d)), (63, .d (.sl ((a2 ++ [x76]).map (cI .i64)))), (64, .d (.lit (.int .i64 a3)))] []) (by simp; exact Sub.table (by simp) (by simp)) ?_
            replace h := bsome h; obtain ⟨r93, hr93, h⟩ := h
            refine Chain.callC (d := 65) (ih a0 g1 cs1 p1 ent_1 hp1 (a2 ++ [x76]) a3 r93 hr93) (by simp) rfl rfl (by simp <;> rfl) (by simp <;> rfl) ent32 (by simp) (.inl ⟨by simp, by simp⟩) ?_
            refine Chain.sub (S' := mk 71 [] [(0, .d (.sl (a0.map (cI .i64)))), (1, .fn (.func g1) (cs1.map .d)), (2, .d (.sl (a2.map (cI .i64)))), (3, .d (.lit (.int .i64 a3))), (9, .d (.lit (.int .i64 x2))), (30, .d (.sl (a0.map (cI .i64)))), (31, .d (.lit (.int .i64 (a0.length : Int)))), (32, .d (.lit (.int .i64 v29))), (53, .d (.sl (a0.map (cI .i64)))), (54, .fn (.func g1) (cs1.map .d)), (63, .d (.sl ((a2 ++ [x76]).map (cI .i64)))), (64, .d (.lit (.int .i64 a3))), (65, .d (.sl (r93.map (cI .i64))))] []) (by simp; exact Sub.table (by simp) (by simp)) ?_
            refine Chain.runK [62] 1 fun K hK => ?_; simp; refine hK _ _ ?_; clear hK K
            refine Chain.sub (S' := mk 71 [] [(0, .d (.sl (a0.map (cI .i64)))), (1, .fn (.func g1) (cs1.map .d)), (2, .d (.sl (a2.map (cI .i64)))), (3, .d (.lit (.int .i64 a3))), (9, .d (.lit (.int .i64 x2))), (12, .d (.sl (r93.map (cI .i64)))), (30, .d (.sl (a0.map (cI .i64)))), (31, .d (.lit (.int .i64 (a0.length : Int)))), (32, .d (.lit (.int .i64 v29)))] []) (Sub.table (by simp) (by simp)) ?_
            refine Chain.nil ?_
            refine AW.seqR ?_
            refine Chain.runK [] 3 fun K hK => ?_; simp; refine hK _ _ ?_; clear hK K
            refine Chain.sub (S' := mk 71 [] [(0, .d (.sl (a0.map (cI .i64)))), (1, .fn (.func g1) (cs1.map .d)), (2, .d (.sl (a2.map (cI .i64)))), (3, .d (.lit (.int .i64 a3))), (9, .d (.lit (.int .i64 x2))), (12, .d (.sl (r93.map (cI .i64)))), (30, .d (.sl (a0.map (cI .i64)))), (31, .d (.lit (.int .i64 (a0.length : Int)))), (32, .d (.lit (.int .i64 v29))), (68, .d (.lit (.bool (decide ((r93.length : Int) > 0)))))] []) (Sub.table (by simp) (by simp)) ?_
            refine Chain.nil ?_
            replace h := isome h; rcases h with ⟨c94, h⟩ | ⟨c94, h⟩
            · have c94_ : decide ((r93.length : Int) > 0) = true := decide_eq_true c94
              refine AW.condT (b := decide ((r93.length : Int) > 0)) rfl c94_ ?_
              refine AW.sub (Sub.bool 68 (b := decide ((r93.length : Int) > 0)) rfl c94_) ?_
              refine AW.sub (S' := mk 71 [] [(0, .d (.sl (a0.map (cI .i64)))), (1, .fn (.func g1) (cs1.map .d)), (2, .d (.sl (a2.map (cI .i64)))), (3, .d (.lit (.int .i64 a3))), (9, .d (.lit (.int .i64 x2))), (12, .d (.sl (r93.map (cI .i64)))), (30, .d (.sl (a0.map (cI .i64)))), (31, .d (.lit (.int .i64 (a0.length : Int)))), (32, .d (.lit (.int .i64 v29))), (68, .d (.lit (.bool true)))] []) (by simp; exact Sub.table (by simp) (by simp)) ?_
              refine AW.seqR ?_
              refine Chain.runK [] 2 fun K hK => ?_; simp; refine hK _ _ ?_; clear hK K
              refine Chain.sub (S' := mk 71 [] [(8, .d (.sl (r93.map (cI .i64))))] []) (Sub.table (by simp) (by simp)) ?_
              refine Chain.nil ?_
              refine AW.ret ?_
              cases h
              refine blockQ.ret ?_
              refine thenQ_pass (by simp) ?_
              refine PostI.out (by simp) ?_
              rintro rfl
              refine blockQ.ret ?_
              refine PostJ.out (by simp) ?_
              rintro rfl
              refine thenQ_pass (by simp) ?_
              exact FinC.ret (by simp) (by simp)
            · have c94_ : decide ((r93.length : Int) > 0) = false := decide_eq_false c94
              refine AW.condF (b := decide ((r93.length : Int) > 0)) rfl c94_ ?_
              refine AW.sub (Sub.bool 68 (b := decide ((r93.length : Int) > 0)) rfl c94_) ?_
              refine AW.sub (S' := mk 71 [] [(0, .d (.sl (a0.map (cI .i64)))), (1, .fn (.func g1) (cs1.map .d)), (2, .d (.sl (a2.map (cI .i64)))), (3, .d (.lit (.int .i64 a3))), (9, .d (.lit (.int .i64 x2))), (12, .d (.sl (r93.map (cI .i64)))), (30, .d (.sl (a0.map (cI .i64)))), (31, .d (.lit (.int .i64 (a0.length : Int)))), (32, .d (.lit (.int .i64 v29))), (68, .d (.lit (.bool false)))] []) (by simp; exact Sub.table (by simp) (by simp)) ?_
              refine AW.skip ?_
              refine blockQ.normal ?_
              refine thenQ_normal ?_
              refine AW.region ?_
              replace h := bsome h; obtain ⟨v95, hv95, h⟩ := h
              have hv95 := chkI_some hv95
              refine Chain.runK [] 2 fun K hK => ?_; simp [hv95]; refine hK _ _ ?_; clear hK K
              refine Chain.sub (S' := mk 71 [] [(0, .d (.sl (a0.map (cI .i64)))), (1, .fn (.func g1) (cs1.map .d)), (2, .d (.sl (a2.map (cI .i64)))), (3, .d (.lit (.int .i64 a3))), (9, .d (.lit (.int .i64 x2))), (30, .d (.sl (a0.map (cI .i64)))), (31, .d (.lit (.int .i64 (a0.length : Int)))), (32, .d (.lit (.int .i64 v95)))] []) (Sub.table (by simp) (by simp)) ?_
              refine Chain.nil ?_
              cases h
              refine PostI.next ?_
              exact (Sub.table (by simp) (by simp))
          · have c91_ : v84 = false := Bool.eq_false_iff.2 c91
            refine AW.condF (b := v84) rfl c91_ ?_
            refine AW.sub (Sub.bool 52 (b := v84) rfl c91_) ?_
            refine AW.sub (S' := mk 71 [] [(0, .d (.sl (a0.map (cI .i64)))), (1, .fn (.func g1) (cs1.map .d)), (2, .d (.sl (a2.map (cI .i64)))), (3, .d (.lit (.int .i64 a3))), (9, .d (.lit (.int .i64 x2))), (11, .d (.lit (.int .i64 x76))), (30, .d (.sl (a0.map (cI .i64)))), (31, .d (.lit (.int .i64 (a0.length : Int)))), (32, .d (.lit (.int .i64 v29))), (52, .d (.lit (.bool false)))] []) (by simp; exact Sub.table (by simp) (by simp)) ?_
            refine AW.skip ?_
            refine blockQ.normal ?_
            refine thenQ_normal ?_
            refine AW.region ?_
            replace h := bsome h; obtain ⟨v96, hv96, h⟩ := h
            have hv96 := chkI_some hv96
            refine Chain.runK [] 2 fun K hK => ?_; simp [hv96]; refine hK _ _ ?_; clear hK K
            refine Chain.sub (S' := mk 71 [] [(0, .d (.sl (a0.map (cI .i64)))), (1, .fn (.func g1) (cs1.map .d)), (2, .d (.sl (a2.map (cI .i64)))), (3, .d (.lit (.int .i64 a3))), (9, .d (.lit (.int .i64 x2))), (30, .d (.sl (a0.map (cI .i64)))), (31, .d (.lit (.int .i64 (a0.length : Int)))), (32, .d (.lit (.int .i64 v96)))] []) (Sub.table (by simp) (by simp)) ?_
            refine Chain.nil ?_
            cases h
            refine PostI.next ?_
            exact (Sub.table (by simp) (by simp))
      · have c75_ : decide (v29 < (a0.length : Int)) = false := decide_eq_false c75
        refine AW.condF (b := decide (v29 < (a0.length : Int))) rfl c75_ ?_
        refine AW.sub (Sub.bool 33 (b := decide (v29 < (a0.length : Int))) rfl c75_) ?_
        refine AW.sub (S' := mk 71 [] [(0, .d (.sl (a0.map (cI .i64)))), (1, .fn (.func g1) (cs1.map .d)), (2, .d (.sl (a2.map (cI .i64)))), (3, .d (.lit (.int .i64 a3))), (9, .d (.lit (.int .i64 x2))), (30, .d (.sl (a0.map (cI .i64)))), (31, .d (.lit (.int .i64 (a0.length : Int)))), (32, .d (.lit (.int .i64 v29))), (33, .d (.lit (.bool false)))] []) (by simp; exact Sub.table (by simp) (by simp)) ?_
        refine AW.exit ?_
        cases h
        refine thenQ_pass (by simp) ?_
        refine PostI.out (by simp) ?_
        rintro rfl
        refine blockQ.hit ?_
        refine PostJ.next ?_
        exact (Sub.table (by simp) (by simp))
    · rintro ⟨⟩ h
      refine thenQ_normal ?_
      refine AW.seqR ?_
      refine Chain.runK [] 1 fun K hK => ?_; simp; refine hK _ _ ?_; clear hK K
      refine Chain.sub (S' := mk 71 [] [(8, .d (.lit (.slice none 0 0)))] []) (Sub.table (by simp) (by simp)) ?_
      refine Chain.nil ?_
      refine AW.sub (Sub.wk 8 rfl) ?_
      refine AW.sub (S' := mk 71 [] [(8, .d (.sl (([] : List Int).map (cI .i64))))] []) (by simp; exact Sub.table (by simp) (by simp)) ?_
      refine AW.ret ?_
      cases h
      exact FinC.ret (by simp) (by simp)

end Go.Proofs.Ytabjbkdlacibjaa
