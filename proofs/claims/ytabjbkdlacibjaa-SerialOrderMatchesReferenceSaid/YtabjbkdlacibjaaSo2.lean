/- Functions of the program as functional programs; the code computes them. -/
import Derived.Test.YtabjbkdlacibjaaSo1
namespace Go.Proofs.Ytabjbkdlacibjaa
open Go.Ab Go.Rp
attribute [-simp] List.all_eq_true Array.all_toList Array.all_eq_true

/-- stemma/serializability.cycleFrom -/
def d63 (N : Nat) (a0 : (List Bool)) (a1 : Int) : Option (List Int) :=
  Option.bind (α := List Int) (
    iterN (σ := ((List Int) × Int)) (ρ := List Int) (fun ((l4, v5) : ((List Int) × Int)) =>
      if v5 < 20 then (
        (arrI v5 20).bind fun k18 =>
        (setN l4 (k18) (-1)).bind fun l19 =>
        (chkI (v5 + 1)).bind fun v20 =>
        some (.inl (l19, v20))
      ) else
      some (.inr l4)
    ) N ((List.replicate 20 0), 0)
  ) fun (l16 : List Int) =>
  Option.bind (α := List Int) (
    iterN (σ := ((List Int) × (List Int) × Int)) (ρ := List Int) (fun ((l367, l368, v369) : ((List Int) × (List Int) × Int)) =>
      if (l368.length : Int) > 0 then (
        Option.bind (α := ((List Int) × (List Int))) (
          iterN (σ := ((List Int) × (List Int) × Int)) (ρ := ((List Int) × (List Int))) (fun ((l1151, l1152, v1153) : ((List Int) × (List Int) × Int)) =>
            if v1153 < (l368.length : Int) then (
              (idx l368 v1153).bind fun x1328 =>
              Option.bind (α := ((List Int) × (List Int))) (
                iterN (σ := ((List Int) × (List Int) × Int)) (ρ := ((List Int) × (List Int))) (fun ((l1348, l1349, v1350) : ((List Int) × (List Int) × Int)) =>
                  if v1350 < 20 then (
                    Option.bind (α := Bool) (
                      (arrI v1350 20).bind fun k1399 =>
                      (arrI x1328 20).bind fun k1400 =>
                      (a0[k1399 * 20 + k1400]?).bind fun x1401 =>
                      if x1401 = true then (
                        (l1348[k1399]?).bind fun x1403 =>
                        some (decide (x1403 < 0))
                      ) else
                      some false
                    ) fun (v1398 : Bool) =>
                    if v1398 = true then (
                      (arrI v1350 20).bind fun k1405 =>
                      (setN l1348 (k1405) v369).bind fun l1406 =>
                      (appL 8 l1349 [v1350]).bind fun l1407 =>
                      (chkI (v1350 + 1)).bind fun v1408 =>
                      some (.inl (l1406, (l1349 ++ [v1350]), v1408))
                    ) else
                    (chkI (v1350 + 1)).bind fun v1409 =>
                    some (.inl (l1348, l1349, v1409))
                  ) else
                  some (.inr (l1348, l1349))
                ) N (l1151, l1152, a1)
              ) fun ((l1390, l1391) : ((List Int) × (List Int))) =>
              (chkI (v1153 + 1)).bind fun v1410 =>
              some (.inl (l1390, l1391, v1410))
            ) else
            some (.inr (l1151, l1152))
          ) N (l367, ([] : List Int), 0)
        ) fun ((l1325, l1326) : ((List Int) × (List Int))) =>
        (chkI (v369 + 1)).bind fun v1411 =>
        some (.inl (l1325, l1326, v1411))
      ) else
      some (.inr l367)
    ) N (l16, ([a1] : List Int), 1)
  ) fun (l1065 : List Int) =>
  (arrI a1 20).bind fun k1412 =>
  (l1065[k1412]?).bind fun x1413 =>
  if x1413 < 0 then (
    some ([] : List Int)
  ) else
  (l1065[k1412]?).bind fun x1415 =>
  Option.bind (α := List Int) (
    iterN (σ := ((List Int) × Int × Int)) (ρ := List Int) (fun ((l1485, v1486, v1487) : ((List Int) × Int × Int)) =>
      if v1487 > 1 then (
        (chkI (a1 + 1)).bind fun v1635 =>
        Option.bind (α := Int) (
          iterN (σ := Int) (ρ := Int) (fun (v1652 : Int) =>
            if v1652 < 20 then (
              Option.bind (α := Bool) (
                (arrI v1486 20).bind fun k1695 =>
                (arrI v1652 20).bind fun k1696 =>
                (a0[k1695 * 20 + k1696]?).bind fun x1697 =>
                if x1697 = true then (
                  (l1065[k1696]?).bind fun x1699 =>
                  (chkI (v1487 - 1)).bind fun v1700 =>
                  some (x1699 == v1700)
                ) else
                some false
              ) fun (v1694 : Bool) =>
              if v1694 = true then (
                some (.inr v1652)
              ) else
              (chkI (v1652 + 1)).bind fun v1702 =>
              some (.inl v1702)
            ) else
            some (.inr v1486)
          ) N v1635
        ) fun (v1686 : Int) =>
        (appL 8 l1485 [v1686]).bind fun l1703 =>
        (chkI (v1487 - 1)).bind fun v1704 =>
        some (.inl ((l1485 ++ [v1686]), v1686, v1704))
      ) else
      some (.inr l1485)
    ) N (([a1] : List Int), a1, x1415)
  ) fun (l1633 : List Int) =>
  some l1633
set_option maxRecDepth 100000 in
set_option maxHeartbeats 4000000 in
theorem p63 (N : Nat) (a0 : (List Bool)) (a1 : Int) (r : (List Int)) (h : d63 N a0 a1 = some r) : FunC Try.prog 63 [.agg (a0.map vB), .d (.lit (.int .i64 a1))] (.d (.sl (r.map (cI .i64)))) := by
  unfold d63 at h
  refine FunC.enter 100 [(0, .agg (a0.map vB)), (1, .d (.lit (.int .i64 a1)))] (by simp) Try.func63 rfl (of_decide_eq_true rfl) rfl rfl ?_
  refine AW.seqR ?_
  refine Chain.runK [] 2 fun K hK => ?_; simp; refine hK _ _ ?_; clear hK K
  refine Chain.sub (S' := mk 100 [] [(1, .d (.lit (.int .i64 a1))), (2, .ptr 2 0 0)] [(2, some (.box (a0.map vB)))]) (Sub.table (by simp) (by simp)) ?_
  refine Chain.nil ?_
  refine AW.seqR ?_
  refine Chain.runK [] 1 fun K hK => ?_; simp; refine hK _ _ ?_; clear hK K
  refine Chain.sub (S' := mk 100 [] [(1, .d (.lit (.int .i64 a1))), (2, .ptr 2 0 0), (5, .ptr 5 0 0)] [(2, some (.box (a0.map vB))), (5, some (.box ((List.replicate 20 0).map (vI .i64))))]) (Sub.table (by simp) (by simp)) ?_
  refine Chain.nil ?_
  refine AW.seq ?_
  refine AW.seqR ?_
  refine Chain.runK [] 1 fun K hK => ?_; simp; refine hK _ _ ?_; clear hK K
  refine Chain.sub (S' := mk 100 [] [(1, .d (.lit (.int .i64 a1))), (2, .ptr 2 0 0), (5, .ptr 5 0 0), (17, .d (.lit (.int .i64 0)))] [(2, some (.box (a0.map vB))), (5, some (.box ((List.replicate 20 0).map (vI .i64))))]) (Sub.table (by simp) (by simp)) ?_
  refine Chain.nil ?_
  refine AW.lastN (fun (l16 : List Int) => mk 100 [] [(1, .d (.lit (.int .i64 a1))), (2, .ptr 2 0 0), (5, .ptr 5 0 0)] [(2, some (.box (a0.map vB))), (5, some (.box (l16.map (vI .i64))))]) h ?_ ?_ <;> clear h
  · intro o h
    refine AW.block ?_
    refine AW.iter (fun ((l4, v5) : ((List Int) × Int)) => mk 100 [] [(1, .d (.lit (.int .i64 a1))), (2, .ptr 2 0 0), (5, .ptr 5 0 0), (17, .d (.lit (.int .i64 v5)))] [(2, some (.box (a0.map vB))), (5, some (.box (l4.map (vI .i64))))]) h (Sub.table (by simp) (by simp)) ?_
    clear h
    rintro ⟨l4, v5⟩ x h
    dsimp only at h ⊢
    refine AW.seqR ?_
    refine Chain.runK [] 1 fun K hK => ?_; simp; refine hK _ _ ?_; clear hK K
    refine Chain.sub (S' := mk 100 [] [(1, .d (.lit (.int .i64 a1))), (2, .ptr 2 0 0), (5, .ptr 5 0 0), (17, .d (.lit (.int .i64 v5))), (18, .d (.lit (.bool (decide (v5 < 20)))))] [(2, some (.box (a0.map vB))), (5, some (.box (l4.map (vI .i64))))]) (Sub.table (by simp) (by simp)) ?_
    refine Chain.nil ?_
    refine AW.seq ?_
    replace h := isome h; rcases h with ⟨c17, h⟩ | ⟨c17, h⟩
    · have c17_ : decide (v5 < 20) = true := decide_eq_true c17
      refine AW.condT (b := decide (v5 < 20)) rfl c17_ ?_
      refine AW.sub (Sub.bool 18 (b := decide (v5 < 20)) rfl c17_) ?_
      refine AW.sub (S' := mk 100 [] [(1, .d (.lit (.int .i64 a1))), (2, .ptr 2 0 0), (5, .ptr 5 0 0), (17, .d (.lit (.int .i64 v5))), (18, .d (.lit (.bool true)))] [(2, some (.box (a0.map vB))), (5, some (.box (l4.map (vI .i64))))]) (by simp; exact Sub.table (by simp) (by simp)) ?_
      refine AW.skip ?_
      refine thenQ_normal ?_
      refine AW.seq ?_
      refine AW.block ?_
      refine AW.seqR ?_
      refine Chain.runK [] 2 fun K hK => ?_; simp; refine hK _ _ ?_; clear hK K
      refine Chain.sub (S' := mk 100 [] [(1, .d (.lit (.int .i64 a1))), (2, .ptr 2 0 0), (5, .ptr 5 0 0), (6, .d (.lit (.int .i64 v5))), (17, .d (.lit (.int .i64 v5)))] [(2, some (.box (a0.map vB))), (5, some (.box (l4.map (vI .i64))))]) (Sub.table (by simp) (by simp)) ?_
      refine Chain.nil ?_
      refine AW.region ?_
      replace h := bsome h; obtain ⟨k18, gk18, h⟩ := h
      obtain ⟨hk18, hk18a, hk18b, hk18c⟩ := arrI_some gk18
      have hk18b : v5 < 20 := hk18b
      refine Chain.runK [] 2 fun K hK => ?_; simp [hk18, hk18a, hk18b]; refine hK _ _ ?_; clear hK K
      refine Chain.sub (S' := mk 100 [] [(1, .d (.lit (.int .i64 a1))), (2, .ptr 2 0 0), (5, .ptr 5 0 0), (17, .d (.lit (.int .i64 v5))), (21, .ptr 5 0 k18)] [(2, some (.box (a0.map vB))), (5, some (.box (l4.map (vI .i64))))]) (Sub.table (by simp) (by simp)) ?_
      replace h := bsome h; obtain ⟨l19, gl19, h⟩ := h
      obtain ⟨hl19a, hl19b, hl19c⟩ := setN_some (vI .i64) gl19
      replace hl19b : (l4.map (vI .i64)).take (k18) ++ .d (.lit (.int .i64 (-1))) :: (l4.map (vI .i64)).drop (k18 + 1) = l19.map (vI .i64) := hl19b
      refine Chain.runK [] 1 fun K hK => ?_; simp [hl19a, hl19b]; refine hK _ _ ?_; clear hK K
      refine Chain.sub (S' := mk 100 [] [(1, .d (.lit (.int .i64 a1))), (2, .ptr 2 0 0), (5, .ptr 5 0 0), (17, .d (.lit (.int .i64 v5)))] [(2, some (.box (a0.map vB))), (5, some (.box (l19.map (vI .i64))))]) (Sub.table (by simp) (by simp)) ?_
      refine Chain.nil ?_
      refine blockQ.normal ?_
      refine thenQ_normal ?_
      refine AW.region ?_
      replace h := bsome h; obtain ⟨v20, hv20, h⟩ := h
      have hv20 := chkI_some hv20
      refine Chain.runK [] 2 fun K hK => ?_; simp [hv20]; refine hK _ _ ?_; clear hK K
      refine Chain.sub (S' := mk 100 [] [(1, .d (.lit (.int .i64 a1))), (2, .ptr 2 0 0), (5, .ptr 5 0 0), (17, .d (.lit (.int .i64 v20)))] [(2, some (.box (a0.map vB))), (5, some (.box (l19.map (vI .i64))))]) (Sub.table (by simp) (by simp)) ?_
      refine Chain.nil ?_
      cases h
      refine PostI.next ?_
      exact (Sub.table (by simp) (by simp))
    · have c17_ : decide (v5 < 20) = false := decide_eq_false c17
      refine AW.condF (b := decide (v5 < 20)) rfl c17_ ?_
      refine AW.sub (Sub.bool 18 (b := decide (v5 < 20)) rfl c17_) ?_
      refine AW.sub (S' := mk 100 [] [(1, .d (.lit (.int .i64 a1))), (2, .ptr 2 0 0), (5, .ptr 5 0 0), (17, .d (.lit (.int .i64 v5))), (18, .d (.lit (.bool false)))] [(2, some (.box (a0.map vB))), (5, some (.box (l4.map (vI .i64))))]) (by simp; exact Sub.table (by simp) (by simp)) ?_
      refine AW.exit ?_
      cases h
      refine thenQ_pass (by simp) ?_
      refine PostI.out (by simp) ?_
      rintro rfl
      refine blockQ.hit ?_
      refine PostN.next ?_
      exact (Sub.table (by simp) (by simp))
  · rintro l16 h
    refine thenQ_normal ?_
    refine AW.seqR ?_
    refine Chain.runK [] 3 fun K hK => ?_; simp; refine hK _ _ ?_; clear hK K
    refine Chain.sub (S' := mk 100 [] [(1, .d (.lit (.int .i64 a1))), (2, .ptr 2 0 0), (5, .ptr 5 0 0), (7, .ref 24 0 (([a1] : List Int).length))] [(2, some (.box (a0.map vB))), (5, some (.box (l16.map (vI .i64)))), (24, some (.arr 3 1 (([a1] : List Int).map (cI .i64))))]) (Sub.table (by simp) (by simp)) ?_
    refine Chain.nil ?_
    refine AW.seq ?_
    refine AW.seqR ?_
    refine Chain.runK [] 1 fun K hK => ?_; simp; refine hK _ _ ?_; clear hK K
    refine Chain.sub (S' := mk 100 [] [(1, .d (.lit (.int .i64 a1))), (2, .ptr 2 0 0), (5, .ptr 5 0 0), (7, .ref 24 0 (([a1] : List Int).length)), (8, .d (.lit (.int .i64 1)))] [(2, some (.box (a0.map vB))), (5, some (.box (l16.map (vI .i64)))), (24, some (.arr 3 1 (([a1] : List Int).map (cI .i64))))]) (Sub.table (by simp) (by simp)) ?_
    refine Chain.nil ?_
    refine AW.lastN (fun (l1065 : List Int) => mk 100 [] [(1, .d (.lit (.int .i64 a1))), (2, .ptr 2 0 0), (5, .ptr 5 0 0)] [(2, some (.box (a0.map vB))), (5, some (.box (l1065.map (vI .i64))))]) h ?_ ?_ <;> clear h
    · intro o h
      refine AW.block ?_
      refine AW.iter (fun ((l367, l368, v369) : ((List Int) × (List Int) × Int)) => mk 100 [] [(1, .d (.lit (.int .i64 a1))), (2, .ptr 2 0 0), (5, .ptr 5 0 0), (7, .d (.sl (l368.map (cI .i64)))), (8, .d (.lit (.int .i64 v369)))] [(2, some (.box (a0.map vB))), (5, some (.box (l367.map (vI .i64))))]) h (Sub.trans (Sub.freeze 24 rfl) (by simp; exact Sub.table (by simp) (by simp))) ?_
      clear h
      rintro ⟨l367, l368, v369⟩ x h
      dsimp only at h ⊢
      refine AW.seq ?_
      refine AW.seqR ?_
      refine Chain.runK [] 3 fun K hK => ?_; simp; refine hK _ _ ?_; clear hK K
      refine Chain.sub (S' := mk 100 [] [(1, .d (.lit (.int .i64 a1))), (2, .ptr 2 0 0), (5, .ptr 5 0 0), (7, .d (.sl (l368.map (cI .i64)))), (8, .d (.lit (.int .i64 v369))), (27, .d (.lit (.bool (decide ((l368.length : Int) > 0)))))] [(2, some (.box (a0.map vB))), (5, some (.box (l367.map (vI .i64))))]) (Sub.table (by simp) (by simp)) ?_
      refine Chain.nil ?_
      replace h := isome h; rcases h with ⟨c1066, h⟩ | ⟨c1066, h⟩
      · have c1066_ : decide ((l368.length : Int) > 0) = true := decide_eq_true c1066
        refine AW.condT (b := decide ((l368.length : Int) > 0)) rfl c1066_ ?_
        refine AW.sub (Sub.bool 27 (b := decide ((l368.length : Int) > 0)) rfl c1066_) ?_
        refine AW.sub (S' := mk 100 [] [(1, .d (.lit (.int .i64 a1))), (2, .ptr 2 0 0), (5, .ptr 5 0 0), (7, .d (.sl (l368.map (cI .i64)))), (8, .d (.lit (.int .i64 v369))), (27, .d (.lit (.bool true)))] [(2, some (.box (a0.map vB))), (5, some (.box (l367.map (vI .i64))))]) (by simp; exact Sub.table (by simp) (by simp)) ?_
        refine AW.skip ?_
        refine thenQ_normal ?_
        refine AW.seq ?_
        refine AW.block ?_
        refine AW.seqR ?_
        refine Chain.runK [] 1 fun K hK => ?_; simp; refine hK _ _ ?_; clear hK K
        refine Chain.sub (S' := mk 100 [] [(1, .d (.lit (.int .i64 a1))), (2, .ptr 2 0 0), (5, .ptr 5 0 0), (7, .d (.sl (l368.map (cI .i64)))), (8, .d (.lit (.int .i64 v369))), (9, .d (.lit (.slice none 0 0)))] [(2, some (.box (a0.map vB))), (5, some (.box (l367.map (vI .i64))))]) (Sub.table (by simp) (by simp)) ?_
        refine Chain.nil ?_
        refine AW.seq ?_
        refine AW.seqR ?_
        refine Chain.runK [] 3 fun K hK => ?_; simp; refine hK _ _ ?_; clear hK K
        refine Chain.sub (S' := mk 100 [] [(1, .d (.lit (.int .i64 a1))), (2, .ptr 2 0 0), (5, .ptr 5 0 0), (8, .d (.lit (.int .i64 v369))), (9, .d (.lit (.slice none 0 0))), (30, .d (.sl (l368.map (cI .i64)))), (31, .d (.lit (.int .i64 (l368.length : Int)))), (32, .d (.lit (.int .i64 0)))] [(2, some (.box (a0.map vB))), (5, some (.box (l367.map (vI .i64))))]) (Sub.table (by simp) (by simp)) ?_
        refine Chain.nil ?_
        refine AW.lastN (fun ((l1325, l1326) : ((List Int) × (List Int))) => mk 100 [] [(1, .d (.lit (.int .i64 a1))), (2, .ptr 2 0 0), (5, .ptr 5 0 0), (8, .d (.lit (.int .i64 v369))), (9, .ref 58 0 l1326.length)] [(2, some (.box (a0.map vB))), (5, some (.box (l1325.map (vI .i64)))), (58, some (.arr 3 1 (l1326.map (cI .i64))))]) h ?_ ?_ <;> clear h
        · intro o h
          refine AW.block ?_
          refine AW.iter (fun ((l1151, l1152, v1153) : ((List Int) × (List Int) × Int)) => mk 100 [] [(1, .d (.lit (.int .i64 a1))), (2, .ptr 2 0 0), (5, .ptr 5 0 0), (8, .d (.lit (.int .i64 v369))), (9, .ref 58 0 l1152.length), (30, .d (.sl (l368.map (cI .i64)))), (31, .d (.lit (.int .i64 (l368.length : Int)))), (32, .d (.lit (.int .i64 v1153)))] [(2, some (.box (a0.map vB))), (5, some (.box (l1151.map (vI .i64)))), (58, some (.arr 3 1 (l1152.map (cI .i64))))]) h (Sub.trans (Sub.nilOwn (t := 9) (id := 58) (T := 3) (n := 1) rfl rfl (by decide)) (by simp; exact Sub.table (by simp) (by simp))) ?_
          clear h
          rintro ⟨l1151, l1152, v1153⟩ x h
          dsimp only at h ⊢
          refine AW.seqR ?_
          refine Chain.runK [] 1 fun K hK => ?_; simp; refine hK _ _ ?_; clear hK K
          refine Chain.sub (S' := mk 100 [] [(1, .d (.lit (.int .i64 a1))), (2, .ptr 2 0 0), (5, .ptr 5 0 0), (8, .d (.lit (.int .i64 v369))), (9, .ref 58 0 l1152.length), (30, .d (.sl (l368.map (cI .i64)))), (31, .d (.lit (.int .i64 (l368.length : Int)))), (32, .d (.lit (.int .i64 v1153))), (33, .d (.lit (.bool (decide (v1153 < (l368.length : Int))))))] [(2, some (.box (a0.map vB))), (5, some (.box (l1151.map (vI .i64)))), (58, some (.arr 3 1 (l1152.map (cI .i64))))]) (Sub.table (by simp) (by simp)) ?_
          refine Chain.nil ?_
          refine AW.seq ?_
          replace h := isome h; rcases h with ⟨c1327, h⟩ | ⟨c1327, h⟩
          · have c1327_ : decide (v1153 < (l368.length : Int)) = true := decide_eq_true c1327
            refine AW.condT (b := decide (v1153 < (l368.length : Int))) rfl c1327_ ?_
            refine AW.sub (Sub.bool 33 (b := decide (v1153 < (l368.length : Int))) rfl c1327_) ?_
            refine AW.sub (S' := mk 100 [] [(1, .d (.lit (.int .i64 a1))), (2, .ptr 2 0 0), (5, .ptr 5 0 0), (8, .d (.lit (.int .i64 v369))), (9, .ref 58 0 l1152.length), (30, .d (.sl (l368.map (cI .i64)))), (31, .d (.lit (.int .i64 (l368.length : Int)))), (32, .d (.lit (.int .i64 v1153))), (33, .d (.lit (.bool true)))] [(2, some (.box (a0.map vB))), (5, some (.box (l1151.map (vI .i64)))), (58, some (.arr 3 1 (l1152.map (cI .i64))))]) (by simp; exact Sub.table (by simp) (by simp)) ?_
            refine AW.skip ?_
            refine thenQ_normal ?_
            refine AW.seq ?_
            refine AW.block ?_
            refine AW.seqR ?_
            replace h := bsome h; obtain ⟨x1328, hx1328, h⟩ := h
            obtain ⟨k1329, hx1328k, hx1328, hx1328a, hx1328b⟩ := idx_some hx1328
            refine Chain.runK [] 3 fun K hK => ?_; simp [hx1328, hx1328k, hx1328a]; refine hK _ _ ?_; clear hK K
            refine Chain.sub (S' := mk 100 [] [(1, .d (.lit (.int .i64 a1))), (2, .ptr 2 0 0), (5, .ptr 5 0 0), (8, .d (.lit (.int .i64 v369))), (9, .ref 58 0 l1152.length), (11, .d (.lit (.int .i64 x1328))), (30, .d (.sl (l368.map (cI .i64)))), (31, .d (.lit (.int .i64 (l368.length : Int)))), (32, .d (.lit (.int .i64 v1153)))] [(2, some (.box (a0.map vB))), (5, some (.box (l1151.map (vI .i64)))), (58, some (.arr 3 1 (l1152.map (cI .i64))))]) (Sub.table (by simp) (by simp)) ?_
            refine Chain.nil ?_
            refine AW.seqR ?_
            refine Chain.runK [] 2 fun K hK => ?_; simp; refine hK _ _ ?_; clear hK K
            refine Chain.sub (S' := mk 100 [] [(1, .d (.lit (.int .i64 a1))), (2, .ptr 2 0 0), (5, .ptr 5 0 0), (8, .d (.lit (.int .i64 v369))), (9, .ref 58 0 l1152.length), (11, .d (.lit (.int .i64 x1328))), (12, .d (.lit (.int .i64 a1))), (30, .d (.sl (l368.map (cI .i64)))), (31, .d (.lit (.int .i64 (l368.length : Int)))), (32, .d (.lit (.int .i64 v1153)))] [(2, some (.box (a0.map vB))), (5, some (.box (l1151.map (vI .i64)))), (58, some (.arr 3 1 (l1152.map (cI .i64))))]) (Sub.table (by simp) (by simp)) ?_
            refine Chain.nil ?_
            refine AW.lastN (fun ((l1390, l1391) : ((List Int) × (List Int))) => mk 100 [] [(1, .d (.lit (.int .i64 a1))), (2, .ptr 2 0 0), (5, .ptr 5 0 0), (8, .d (.lit (.int .i64 v369))), (9, .ref 58 0 l1391.length), (30, .d (.sl (l368.map (cI .i64)))), (31, .d (.lit (.int .i64 (l368.length : Int)))), (32, .d (.lit (.int .i64 v1153)))] [(2, some (.box (a0.map vB))), (5, some (.box (l1390.map (vI .i64)))), (58, some (.arr 3 1 (l1391.map (cI .i64))))]) h ?_ ?_ <;> clear h
            · intro o h
              refine AW.block ?_
              refine AW.iter (fun ((l1348, l1349, v1350) : ((List Int) × (List Int) × Int)) => mk 100 [] [(1, .d (.lit (.int .i64 a1))), (2, .ptr 2 0 0), (5, .ptr 5 0 0), (8, .d (.lit (.int .i64 v369))), (9, .ref 58 0 l1349.length), (11, .d (.lit (.int .i64 x1328))), (12, .d (.lit (.int .i64 v1350))), (30, .d (.sl (l368.map (cI .i64)))), (31, .d (.lit (.int .i64 (l368.length : Int)))), (32, .d (.lit (.int .i64 v1153)))] [(2, some (.box (a0.map vB))), (5, some (.box (l1348.map (vI .i64)))), (58, some (.arr 3 1 (l1349.map (cI .i64))))]) h (Sub.table (by simp) (by simp)) ?_
              clear h
              rintro ⟨l1348, l1349, v1350⟩ x h
              dsimp only at h ⊢
              refine AW.seq ?_
              refine AW.seqR ?_
              refine Chain.runK [] 2 fun K hK => ?_; simp; refine hK _ _ ?_; clear hK K
              refine Chain.sub (S' := mk 100 [] [(1, .d (.lit (.int .i64 a1))), (2, .ptr 2 0 0), (5, .ptr 5 0 0), (8, .d (.lit (.int .i64 v369))), (9, .ref 58 0 l1349.length), (11, .d (.lit (.int .i64 x1328))), (12, .d (.lit (.int .i64 v1350))), (30, .d (.sl (l368.map (cI .i64)))), (31, .d (.lit (.int .i64 (l368.length : Int)))), (32, .d (.lit (.int .i64 v1153))), (38, .d (.lit (.bool (decide (v1350 < 20)))))] [(2, some (.box (a0.map vB))), (5, some (.box (l1348.map (vI .i64)))), (58, some (.arr 3 1 (l1349.map (cI .i64))))]) (Sub.table (by simp) (by simp)) ?_
              refine Chain.nil ?_
              replace h := isome h; rcases h with ⟨c1392, h⟩ | ⟨c1392, h⟩
              · have c1392_ : decide (v1350 < 20) = true := decide_eq_true c1392
                refine AW.condT (b := decide (v1350 < 20)) rfl c1392_ ?_
                refine AW.sub (Sub.bool 38 (b := decide (v1350 < 20)) rfl c1392_) ?_
                refine AW.sub (S' := mk 100 [] [(1, .d (.lit (.int .i64 a1))), (2, .ptr 2 0 0), (5, .ptr 5 0 0), (8, .d (.lit (.int .i64 v369))), (9, .ref 58 0 l1349.length), (11, .d (.lit (.int .i64 x1328))), (12, .d (.lit (.int .i64 v1350))), (30, .d (.sl (l368.map (cI .i64)))), (31, .d (.lit (.int .i64 (l368.length : Int)))), (32, .d (.lit (.int .i64 v1153))), (38, .d (.lit (.bool true)))] [(2, some (.box (a0.map vB))), (5, some (.box (l1348.map (vI .i64)))), (58, some (.arr 3 1 (l1349.map (cI .i64))))]) (by simp; exact Sub.table (by simp) (by simp)) ?_
                refine AW.skip ?_
                refine thenQ_normal ?_
                refine AW.seq ?_
                refine AW.block ?_
                replace h := bsome h; obtain ⟨v1398, hj, h⟩ := h
                refine AW.cutR (mk 100 [] [(1, .d (.lit (.int .i64 a1))), (2, .ptr 2 0 0), (5, .ptr 5 0 0), (8, .d (.lit (.int .i64 v369))), (9, .ref 58 0 l1349.length), (11, .d (.lit (.int .i64 x1328))), (12, .d (.lit (.int .i64 v1350))), (30, .d (.sl (l368.map (cI .i64)))), (31, .d (.lit (.int .i64 (l368.length : Int)))), (32, .d (.lit (.int .i64 v1153))), (51, .d (.lit (.bool v1398)))] [(2, some (.box (a0.map vB))), (5, some (.box (l1348.map (vI .i64)))), (58, some (.arr 3 1 (l1349.map (cI .i64))))]) ?_ ?_
                · clear h; have h := hj; clear hj
                  replace h := bsome h; obtain ⟨k1399, gk1399, h⟩ := h
                  obtain ⟨hk1399, hk1399a, hk1399b, hk1399c⟩ := arrI_some gk1399
                  have hk1399b : v1350 < 20 := hk1399b
                  replace h := bsome h; obtain ⟨k1400, gk1400, h⟩ := h
                  obtain ⟨hk1400, hk1400a, hk1400b, hk1400c⟩ := arrI_some gk1400
                  have hk1400b : x1328 < 20 := hk1400b
                  replace h := bsome h; obtain ⟨x1401, hx1401, h⟩ := h
                  refine Chain.runK [] 6 fun K hK => ?_; simp [hk1399, hk1399a, hk1399b, hk1400, hk1400a, hk1400b, hx1401]; refine hK _ _ ?_; clear hK K
                  refine Chain.sub (S' := mk 100 [] [(1, .d (.lit (.int .i64 a1))), (2, .ptr 2 0 0), (5, .ptr 5 0 0), (8, .d (.lit (.int .i64 v369))), (9, .ref 58 0 l1349.length), (11, .d (.lit (.int .i64 x1328))), (12, .d (.lit (.int .i64 v1350))), (30, .d (.sl (l368.map (cI .i64)))), (31, .d (.lit (.int .i64 (l368.length : Int)))), (32, .d (.lit (.int .i64 v1153))), (46, .d (.lit (.bool x1401)))] [(2, some (.box (a0.map vB))), (5, some (.box (l1348.map (vI .i64)))), (58, some (.arr 3 1 (l1349.map (cI .i64))))]) (Sub.table (by simp) (by simp)) ?_
                  replace h := isome h; rcases h with ⟨c1402, h⟩ | ⟨c1402, h⟩
                  · have c1402_ : x1401 = true := c1402
                    refine Chain.sub (Sub.bool 46 (b := x1401) rfl c1402_) ?_
                    refine Chain.sub (S' := mk 100 [] [(1, .d (.lit (.int .i64 a1))), (2, .ptr 2 0 0), (5, .ptr 5 0 0), (8, .d (.lit (.int .i64 v369))), (9, .ref 58 0 l1349.length), (11, .d (.lit (.int .i64 x1328))), (12, .d (.lit (.int .i64 v1350))), (30, .d (.sl (l368.map (cI .i64)))), (31, .d (.lit (.int .i64 (l368.length : Int)))), (32, .d (.lit (.int .i64 v1153))), (46, .d (.lit (.bool true)))] [(2, some (.box (a0.map vB))), (5, some (.box (l1348.map (vI .i64)))), (58, some (.arr 3 1 (l1349.map (cI .i64))))]) (by simp; exact Sub.table (by simp) (by simp)) ?_
                    replace h := bsome h; obtain ⟨x1403, hx1403, h⟩ := h
                    refine Chain.runK [] 5 fun K hK => ?_; simp [hk1399, hk1399a, hk1399b, hx1403]; refine hK _ _ ?_; clear hK K
                    refine Chain.sub (S' := mk 100 [] [(1, .d (.lit (.int .i64 a1))), (2, .ptr 2 0 0), (5, .ptr 5 0 0), (8, .d (.lit (.int .i64 v369))), (9, .ref 58 0 l1349.length), (11, .d (.lit (.int .i64 x1328))), (12, .d (.lit (.int .i64 v1350))), (30, .d (.sl (l368.map (cI .i64)))), (31, .d (.lit (.int .i64 (l368.length : Int)))), (32, .d (.lit (.int .i64 v1153))), (47, .d (.lit (.int .i64 v1350))), (48, .ptr 5 0 k1399), (49, .d (.lit (.int .i64 x1403))), (50, .d (.lit (.bool (decide (x1403 < 0))))), (51, .d (.lit (.bool (decide (x1403 < 0)))))] [(2, some (.box (a0.map vB))), (5, some (.box (l1348.map (vI .i64)))), (58, some (.arr 3 1 (l1349.map (cI .i64))))]) (Sub.table (by simp) (by simp)) ?_
                    cases h
                    exact Chain.nil (Sub.table (by simp) (by simp))
                  · have c1402_ : x1401 = false := Bool.eq_false_iff.2 c1402
                    refine Chain.sub (Sub.bool 46 (b := x1401) rfl c1402_) ?_
                    refine Chain.sub (S' := mk 100 [] [(1, .d (.lit (.int .i64 a1))), (2, .ptr 2 0 0), (5, .ptr 5 0 0), (8, .d (.lit (.int .i64 v369))), (9, .ref 58 0 l1349.length), (11, .d (.lit (.int .i64 x1328))), (12, .d (.lit (.int .i64 v1350))), (30, .d (.sl (l368.map (cI .i64)))), (31, .d (.lit (.int .i64 (l368.length : Int)))), (32, .d (.lit (.int .i64 v1153))), (46, .d (.lit (.bool false)))] [(2, some (.box (a0.map vB))), (5, some (.box (l1348.map (vI .i64)))), (58, some (.arr 3 1 (l1349.map (cI .i64))))]) (by simp; exact Sub.table (by simp) (by simp)) ?_
                    refine Chain.runK [] 5 fun K hK => ?_; simp; refine hK _ _ ?_; clear hK K
                    refine Chain.sub (S' := mk 100 [] [(1, .d (.lit (.int .i64 a1))), (2, .ptr 2 0 0), (5, .ptr 5 0 0), (8, .d (.lit (.int .i64 v369))), (9, .ref 58 0 l1349.length), (11, .d (.lit (.int .i64 x1328))), (12, .d (.lit (.int .i64 v1350))), (30, .d (.sl (l368.map (cI .i64)))), (31, .d (.lit (.int .i64 (l368.length : Int)))), (32, .d (.lit (.int .i64 v1153))), (47, .tup []), (48, .tup []), (49, .tup []), (50, .tup []), (51, .d (.lit (.bool false)))] [(2, some (.box (a0.map vB))), (5, some (.box (l1348.map (vI .i64)))), (58, some (.arr 3 1 (l1349.map (cI .i64))))]) (Sub.table (by simp) (by simp)) ?_
                    cases h
                    exact Chain.nil (Sub.table (by simp) (by simp))
                · clear hj
                  replace h := isome h; rcases h with ⟨c1404, h⟩ | ⟨c1404, h⟩
                  · have c1404_ : v1398 = true := c1404
                    refine AW.condT (b := v1398) rfl c1404_ ?_
                    refine AW.sub (Sub.bool 51 (b := v1398) rfl c1404_) ?_
                    refine AW.sub (S' := mk 100 [] [(1, .d (.lit (.int .i64 a1))), (2, .ptr 2 0 0), (5, .ptr 5 0 0), (8, .d (.lit (.int .i64 v369))), (9, .ref 58 0 l1349.length), (11, .d (.lit (.int .i64 x1328))), (12, .d (.lit (.int .i64 v1350))), (30, .d (.sl (l368.map (cI .i64)))), (31, .d (.lit (.int .i64 (l368.length : Int)))), (32, .d (.lit (.int .i64 v1153))), (51, .d (.lit (.bool true)))] [(2, some (.box (a0.map vB))), (5, some (.box (l1348.map (vI .i64)))), (58, some (.arr 3 1 (l1349.map (cI .i64))))]) (by simp; exact Sub.table (by simp) (by simp)) ?_
                    refine AW.seqR ?_
                    replace h := bsome h; obtain ⟨k1405, gk1405, h⟩ := h
                    obtain ⟨hk1405, hk1405a, hk1405b, hk1405c⟩ := arrI_some gk1405
                    have hk1405b : v1350 < 20 := hk1405b
                    refine Chain.runK [] 3 fun K hK => ?_; simp [hk1405, hk1405a, hk1405b]; refine hK _ _ ?_; clear hK K
                    refine Chain.sub (S' := mk 100 [] [(1, .d (.lit (.int .i64 a1))), (2, .ptr 2 0 0), (5, .ptr 5 0 0), (8, .d (.lit (.int .i64 v369))), (9, .ref 58 0 l1349.length), (11, .d (.lit (.int .i64 x1328))), (12, .d (.lit (.int .i64 v1350))), (30, .d (.sl (l368.map (cI .i64)))), (31, .d (.lit (.int .i64 (l368.length : Int)))), (32, .d (.lit (.int .i64 v1153))), (53, .d (.lit (.int .i64 v369))), (54, .ptr 5 0 k1405)] [(2, some (.box (a0.map vB))), (5, some (.box (l1348.map (vI .i64)))), (58, some (.arr 3 1 (l1349.map (cI .i64))))]) (Sub.table (by simp) (by simp)) ?_
                    replace h := bsome h; obtain ⟨l1406, gl1406, h⟩ := h
                    obtain ⟨hl1406a, hl1406b, hl1406c⟩ := setN_some (vI .i64) gl1406
                    replace hl1406b : (l1348.map (vI .i64)).take (k1405) ++ .d (.lit (.int .i64 v369)) :: (l1348.map (vI .i64)).drop (k1405 + 1) = l1406.map (vI .i64) := hl1406b
                    refine Chain.runK [] 1 fun K hK => ?_; simp [hl1406a, hl1406b]; refine hK _ _ ?_; clear hK K
                    refine Chain.sub (S' := mk 100 [] [(1, .d (.lit (.int .i64 a1))), (2, .ptr 2 0 0), (5, .ptr 5 0 0), (8, .d (.lit (.int .i64 v369))), (9, .ref 58 0 l1349.length), (11, .d (.lit (.int .i64 x1328))), (12, .d (.lit (.int .i64 v1350))), (30, .d (.sl (l368.map (cI .i64)))), (31, .d (.lit (.int .i64 (l368.length : Int)))), (32, .d (.lit (.int .i64 v1153)))] [(2, some (.box (a0.map vB))), (5, some (.box (l1406.map (vI .i64)))), (58, some (.arr 3 1 (l1349.map (cI .i64))))]) (Sub.table (by simp) (by simp)) ?_
                    refine Chain.nil ?_
                    refine AW.region ?_
                    replace h := bsome h; obtain ⟨l1407, hl1407, h⟩ := h
                    obtain ⟨hl1407a, hl1407⟩ := appL_some hl1407
                    subst hl1407
                    try simp only [List.length_append, List.length_cons, List.length_nil, Nat.zero_add] at hl1407a
                    refine Chain.runK [57] 5 fun K hK => ?_; simp [hl1407a]; refine hK _ _ ?_; clear hK K
                    refine Chain.sub (S' := mk 100 [] [(1, .d (.lit (.int .i64 a1))), (2, .ptr 2 0 0), (5, .ptr 5 0 0), (8, .d (.lit (.int .i64 v369))), (9, .ref 58 0 ((l1349 ++ [v1350]).length)), (11, .d (.lit (.int .i64 x1328))), (12, .d (.lit (.int .i64 v1350))), (30, .d (.sl (l368.map (cI .i64)))), (31, .d (.lit (.int .i64 (l368.length : Int)))), (32, .d (.lit (.int .i64 v1153)))] [(2, some (.box (a0.map vB))), (5, some (.box (l1406.map (vI .i64)))), (58, some (.arr 3 1 ((l1349 ++ [v1350]).map (cI .i64))))]) (Sub.table (by simp) (by simp)) ?_
                    refine Chain.nil ?_
                    refine blockQ.normal ?_
                    refine thenQ_normal ?_
                    refine AW.region ?_
                    replace h := bsome h; obtain ⟨v1408, hv1408, h⟩ := h
                    have hv1408 := chkI_some hv1408
                    refine Chain.runK [] 3 fun K hK => ?_; simp [hv1408]; refine hK _ _ ?_; clear hK K
                    refine Chain.sub (S' := mk 100 [] [(1, .d (.lit (.int .i64 a1))), (2, .ptr 2 0 0), (5, .ptr 5 0 0), (8, .d (.lit (.int .i64 v369))), (9, .ref 58 0 ((l1349 ++ [v1350]).length)), (11, .d (.lit (.int .i64 x1328))), (12, .d (.lit (.int .i64 v1408))), (30, .d (.sl (l368.map (cI .i64)))), (31, .d (.lit (.int .i64 (l368.length : Int)))), (32, .d (.lit (.int .i64 v1153)))] [(2, some (.box (a0.map vB))), (5, some (.box (l1406.map (vI .i64)))), (58, some (.arr 3 1 ((l1349 ++ [v1350]).map (cI .i64))))]) (Sub.table (by simp) (by simp)) ?_
                    refine Chain.nil ?_
                    cases h
                    refine PostI.next ?_
                    exact (Sub.table (by simp) (by simp))
                  · have c1404_ : v1398 = false := Bool.eq_false_iff.2 c1404
                    refine AW.condF (b := v1398) rfl c1404_ ?_
                    refine AW.sub (Sub.bool 51 (b := v1398) rfl c1404_) ?_
                    refine AW.sub (S' := mk 100 [] [(1, .d (.lit (.int .i64 a1))), (2, .ptr 2 0 0), (5, .ptr 5 0 0), (8, .d (.lit (.int .i64 v369))), (9, .ref 58 0 l1349.length), (11, .d (.lit (.int .i64 x1328))), (12, .d (.lit (.int .i64 v1350))), (30, .d (.sl (l368.map (cI .i64)))), (31, .d (.lit (.int .i64 (l368.length : Int)))), (32, .d (.lit (.int .i64 v1153))), (51, .d (.lit (.bool false)))] [(2, some (.box (a0.map vB))), (5, some (.box (l1348.map (vI .i64)))), (58, some (.arr 3 1 (l1349.map (cI .i64))))]) (by simp; exact Sub.table (by simp) (by simp)) ?_
                    refine AW.skip ?_
                    refine blockQ.normal ?_
                    refine thenQ_normal ?_
                    refine AW.region ?_
                    replace h := bsome h; obtain ⟨v1409, hv1409, h⟩ := h
                    have hv1409 := chkI_some hv1409
                    refine Chain.runK [] 3 fun K hK => ?_; simp [hv1409]; refine hK _ _ ?_; clear hK K
                    refine Chain.sub (S' := mk 100 [] [(1, .d (.lit (.int .i64 a1))), (2, .ptr 2 0 0), (5, .ptr 5 0 0), (8, .d (.lit (.int .i64 v369))), (9, .ref 58 0 l1349.length), (11, .d (.lit (.int .i64 x1328))), (12, .d (.lit (.int .i64 v1409))), (30, .d (.sl (l368.map (cI .i64)))), (31, .d (.lit (.int .i64 (l368.length : Int)))), (32, .d (.lit (.int .i64 v1153)))] [(2, some (.box (a0.map vB))), (5, some (.box (l1348.map (vI .i64)))), (58, some (.arr 3 1 (l1349.map (cI .i64))))]) (Sub.table (by simp) (by simp)) ?_
                    refine Chain.nil ?_
                    cases h
                    refine PostI.next ?_
                    exact (Sub.table (by simp) (by simp))
              · have c1392_ : decide (v1350 < 20) = false := decide_eq_false c1392
                refine AW.condF (b := decide (v1350 < 20)) rfl c1392_ ?_
                refine AW.sub (Sub.bool 38 (b := decide (v1350 < 20)) rfl c1392_) ?_
                refine AW.sub (S' := mk 100 [] [(1, .d (.lit (.int .i64 a1))), (2, .ptr 2 0 0), (5, .ptr 5 0 0), (8, .d (.lit (.int .i64 v369))), (9, .ref 58 0 l1349.length), (11, .d (.lit (.int .i64 x1328))), (12, .d (.lit (.int .i64 v1350))), (30, .d (.sl (l368.map (cI .i64)))), (31, .d (.lit (.int .i64 (l368.length : Int)))), (32, .d (.lit (.int .i64 v1153))), (38, .d (.lit (.bool false)))] [(2, some (.box (a0.map vB))), (5, some (.box (l1348.map (vI .i64)))), (58, some (.arr 3 1 (l1349.map (cI .i64))))]) (by simp; exact Sub.table (by simp) (by simp)) ?_
                refine AW.exit ?_
                cases h
                refine thenQ_pass (by simp) ?_
                refine PostI.out (by simp) ?_
                rintro rfl
                refine blockQ.hit ?_
                refine PostN.next ?_
                exact (Sub.table (by simp) (by simp))
            · rintro ⟨l1390, l1391⟩ h
              dsimp only at h ⊢
              refine blockQ.normal ?_
              refine thenQ_normal ?_
              refine AW.region ?_
              replace h := bsome h; obtain ⟨v1410, hv1410, h⟩ := h
              have hv1410 := chkI_some hv1410
              refine Chain.runK [] 2 fun K hK => ?_; simp [hv1410]; refine hK _ _ ?_; clear hK K
              refine Chain.sub (S' := mk 100 [] [(1, .d (.lit (.int .i64 a1))), (2, .ptr 2 0 0), (5, .ptr 5 0 0), (8, .d (.lit (.int .i64 v369))), (9, .ref 58 0 l1391.length), (30, .d (.sl (l368.map (cI .i64)))), (31, .d (.lit (.int .i64 (l368.length : Int)))), (32, .d (.lit (.int .i64 v1410)))] [(2, some (.box (a0.map vB))), (5, some (.box (l1390.map (vI .i64)))), (58, some (.arr 3 1 (l1391.map (cI .i64))))]) (Sub.table (by simp) (by simp)) ?_
              refine Chain.nil ?_
              cases h
              refine PostI.next ?_
              exact (Sub.table (by simp) (by simp))
          · have c1327_ : decide (v1153 < (l368.length : Int)) = false := decide_eq_false c1327
            refine AW.condF (b := decide (v1153 < (l368.length : Int))) rfl c1327_ ?_
            refine AW.sub (Sub.bool 33 (b := decide (v1153 < (l368.length : Int))) rfl c1327_) ?_
            refine AW.sub (S' := mk 100 [] [(1, .d (.lit (.int .i64 a1))), (2, .ptr 2 0 0), (5, .ptr 5 0 0), (8, .d (.lit (.int .i64 v369))), (9, .ref 58 0 l1152.length), (30, .d (.sl (l368.map (cI .i64)))), (31, .d (.lit (.int .i64 (l368.length : Int)))), (32, .d (.lit (.int .i64 v1153))), (33, .d (.lit (.bool false)))] [(2, some (.box (a0.map vB))), (5, some (.box (l1151.map (vI .i64)))), (58, some (.arr 3 1 (l1152.map (cI .i64))))]) (by simp; exact Sub.table (by simp) (by simp)) ?_
            refine AW.exit ?_
            cases h
            refine thenQ_pass (by simp) ?_
            refine PostI.out (by simp) ?_
            rintro rfl
            refine blockQ.hit ?_
            refine PostN.next ?_
            exact (Sub.table (by simp) (by simp))
        · rintro ⟨l1325, l1326⟩ h
          dsimp only at h ⊢
          refine thenQ_normal ?_
          refine AW.region ?_
          refine Chain.runK [] 2 fun K hK => ?_; simp; refine hK _ _ ?_; clear hK K
          refine Chain.sub (S' := mk 100 [] [(1, .d (.lit (.int .i64 a1))), (2, .ptr 2 0 0), (5, .ptr 5 0 0), (7, .ref 58 0 l1326.length), (8, .d (.lit (.int .i64 v369)))] [(2, some (.box (a0.map vB))), (5, some (.box (l1325.map (vI .i64)))), (58, some (.arr 3 1 (l1326.map (cI .i64))))]) (Sub.table (by simp) (by simp)) ?_
          refine Chain.nil ?_
          refine blockQ.normal ?_
          refine thenQ_normal ?_
          refine AW.region ?_
          replace h := bsome h; obtain ⟨v1411, hv1411, h⟩ := h
          have hv1411 := chkI_some hv1411
          refine Chain.runK [] 3 fun K hK => ?_; simp [hv1411]; refine hK _ _ ?_; clear hK K
          refine Chain.sub (S' := mk 100 [] [(1, .d (.lit (.int .i64 a1))), (2, .ptr 2 0 0), (5, .ptr 5 0 0), (7, .ref 58 0 l1326.length), (8, .d (.lit (.int .i64 v1411)))] [(2, some (.box (a0.map vB))), (5, some (.box (l1325.map (vI .i64)))), (58, some (.arr 3 1 (l1326.map (cI .i64))))]) (Sub.table (by simp) (by simp)) ?_
          refine Chain.nil ?_
          cases h
          refine PostI.next ?_
          exact (Sub.trans (Sub.freeze 58 rfl) (by simp; exact Sub.table (by simp) (by simp)))
      · have c1066_ : decide ((l368.length : Int) > 0) = false := decide_eq_false c1066
        refine AW.condF (b := decide ((l368.length : Int) > 0)) rfl c1066_ ?_
        refine AW.sub (Sub.bool 27 (b := decide ((l368.length : Int) > 0)) rfl c1066_) ?_
        refine AW.sub (S' := mk 100 [] [(1, .d (.lit (.int .i64 a1))), (2, .ptr 2 0 0), (5, .ptr 5 0 0), (7, .d (.sl (l368.map (cI .i64)))), (8, .d (.lit (.int .i64 v369))), (27, .d (.lit (.bool false)))] [(2, some (.box (a0.map vB))), (5, some (.box (l367.map (vI .i64))))]) (by simp; exact Sub.table (by simp) (by simp)) ?_
        refine AW.exit ?_
        cases h
        refine thenQ_pass (by simp) ?_
        refine PostI.out (by simp) ?_
        rintro rfl
        refine blockQ.hit ?_
        refine PostN.next ?_
        exact (Sub.table (by simp) (by simp))
    · rintro l1065 h
      refine thenQ_normal ?_
      refine AW.seq ?_
      refine AW.seqR ?_
      replace h := bsome h; obtain ⟨k1412, gk1412, h⟩ := h
      obtain ⟨hk1412, hk1412a, hk1412b, hk1412c⟩ := arrI_some gk1412
      have hk1412b : a1 < 20 := hk1412b
      replace h := bsome h; obtain ⟨x1413, hx1413, h⟩ := h
      refine Chain.runK [] 4 fun K hK => ?_; simp [hk1412, hk1412a, hk1412b, hx1413]; refine hK _ _ ?_; clear hK K
      refine Chain.sub (S' := mk 100 [] [(1, .d (.lit (.int .i64 a1))), (2, .ptr 2 0 0), (5, .ptr 5 0 0), (64, .d (.lit (.bool (decide (x1413 < 0)))))] [(2, some (.box (a0.map vB))), (5, some (.box (l1065.map (vI .i64))))]) (Sub.table (by simp) (by simp)) ?_
      refine Chain.nil ?_
      replace h := isome h; rcases h with ⟨c1414, h⟩ | ⟨c1414, h⟩
      · have c1414_ : decide (x1413 < 0) = true := decide_eq_true c1414
        refine AW.condT (b := decide (x1413 < 0)) rfl c1414_ ?_
        refine AW.sub (Sub.bool 64 (b := decide (x1413 < 0)) rfl c1414_) ?_
        refine AW.sub (S' := mk 100 [] [(1, .d (.lit (.int .i64 a1))), (2, .ptr 2 0 0), (5, .ptr 5 0 0), (64, .d (.lit (.bool true)))] [(2, some (.box (a0.map vB))), (5, some (.box (l1065.map (vI .i64))))]) (by simp; exact Sub.table (by simp) (by simp)) ?_
        refine AW.seqR ?_
        refine Chain.runK [] 1 fun K hK => ?_; simp; refine hK _ _ ?_; clear hK K
        refine Chain.sub (S' := mk 100 [] [(4, .d (.lit (.slice none 0 0)))] []) (Sub.table (by simp) (by simp)) ?_
        refine Chain.nil ?_
        refine AW.sub (Sub.wk 4 rfl) ?_
        refine AW.sub (S' := mk 100 [] [(4, .d (.sl (([] : List Int).map (cI .i64))))] []) (by simp; exact Sub.table (by simp) (by simp)) ?_
        refine AW.ret ?_
        cases h
        refine thenQ_pass (by simp) ?_
        exact FinC.ret (by simp) (by simp)
      · have c1414_ : decide (x1413 < 0) = false := decide_eq_false c1414
        refine AW.condF (b := decide (x1413 < 0)) rfl c1414_ ?_
        refine AW.sub (Sub.bool 64 (b := decide (x1413 < 0)) rfl c1414_) ?_
        refine AW.sub (S' := mk 100 [] [(1, .d (.lit (.int .i64 a1))), (2, .ptr 2 0 0), (5, .ptr 5 0 0), (64, .d (.lit (.bool false)))] [(2, some (.box (a0.map vB))), (5, some (.box (l1065.map (vI .i64))))]) (by simp; exact Sub.table (by simp) (by simp)) ?_
        refine AW.skip ?_
        refine thenQ_normal ?_
        refine AW.seqR ?_
        refine Chain.runK [] 3 fun K hK => ?_; simp; refine hK _ _ ?_; clear hK K
        refine Chain.sub (S' := mk 100 [] [(1, .d (.lit (.int .i64 a1))), (2, .ptr 2 0 0), (5, .ptr 5 0 0), (13, .ref 66 0 (([a1] : List Int).length))] [(2, some (.box (a0.map vB))), (5, some (.box (l1065.map (vI .i64)))), (66, some (.arr 3 1 (([a1] : List Int).map (cI .i64))))]) (Sub.table (by simp) (by simp)) ?_
        refine Chain.nil ?_
        refine AW.seqR ?_
        refine Chain.runK [] 2 fun K hK => ?_; simp; refine hK _ _ ?_; clear hK K
        refine Chain.sub (S' := mk 100 [] [(1, .d (.lit (.int .i64 a1))), (2, .ptr 2 0 0), (5, .ptr 5 0 0), (13, .ref 66 0 (([a1] : List Int).length)), (14, .d (.lit (.int .i64 a1)))] [(2, some (.box (a0.map vB))), (5, some (.box (l1065.map (vI .i64)))), (66, some (.arr 3 1 (([a1] : List Int).map (cI .i64))))]) (Sub.table (by simp) (by simp)) ?_
        refine Chain.nil ?_
        refine AW.seq ?_
        refine AW.seqR ?_
        replace h := bsome h; obtain ⟨x1415, hx1415, h⟩ := h
        refine Chain.runK [] 4 fun K hK => ?_; simp [hk1412, hk1412a, hk1412b, hx1415]; refine hK _ _ ?_; clear hK K
        refine Chain.sub (S' := mk 100 [] [(1, .d (.lit (.int .i64 a1))), (2, .ptr 2 0 0), (5, .ptr 5 0 0), (13, .ref 66 0 (([a1] : List Int).length)), (14, .d (.lit (.int .i64 a1))), (15, .d (.lit (.int .i64 x1415)))] [(2, some (.box (a0.map vB))), (5, some (.box (l1065.map (vI .i64)))), (66, some (.arr 3 1 (([a1] : List Int).map (cI .i64))))]) (Sub.table (by simp) (by simp)) ?_
        refine Chain.nil ?_
        refine AW.lastN (fun (l1633 : List Int) => mk 100 [] [(13, .ref 66 0 l1633.length)] [(66, some (.arr 3 1 (l1633.map (cI .i64))))]) h ?_ ?_ <;> clear h
        · intro o h
          refine AW.block ?_
          refine AW.iter (fun ((l1485, v1486, v1487) : ((List Int) × Int × Int)) => mk 100 [] [(1, .d (.lit (.int .i64 a1))), (2, .ptr 2 0 0), (5, .ptr 5 0 0), (13, .ref 66 0 l1485.length), (14, .d (.lit (.int .i64 v1486))), (15, .d (.lit (.int .i64 v1487)))] [(2, some (.box (a0.map vB))), (5, some (.box (l1065.map (vI .i64)))), (66, some (.arr 3 1 (l1485.map (cI .i64))))]) h (Sub.table (by simp) (by simp)) ?_
          clear h
          rintro ⟨l1485, v1486, v1487⟩ x h
          dsimp only at h ⊢
          refine AW.seq ?_
          refine AW.seqR ?_
          refine Chain.runK [] 2 fun K hK => ?_; simp; refine hK _ _ ?_; clear hK K
          refine Chain.sub (S' := mk 100 [] [(1, .d (.lit (.int .i64 a1))), (2, .ptr 2 0 0), (5, .ptr 5 0 0), (13, .ref 66 0 l1485.length), (14, .d (.lit (.int .i64 v1486))), (15, .d (.lit (.int .i64 v1487))), (72, .d (.lit (.bool (decide (v1487 > 1)))))] [(2, some (.box (a0.map vB))), (5, some (.box (l1065.map (vI .i64)))), (66, some (.arr 3 1 (l1485.map (cI .i64))))]) (Sub.table (by simp) (by simp)) ?_
          refine Chain.nil ?_
          replace h := isome h; rcases h with ⟨c1634, h⟩ | ⟨c1634, h⟩
          · have c1634_ : decide (v1487 > 1) = true := decide_eq_true c1634
            refine AW.condT (b := decide (v1487 > 1)) rfl c1634_ ?_
            refine AW.sub (Sub.bool 72 (b := decide (v1487 > 1)) rfl c1634_) ?_
            refine AW.sub (S' := mk 100 [] [(1, .d (.lit (.int .i64 a1))), (2, .ptr 2 0 0), (5, .ptr 5 0 0), (13, .ref 66 0 l1485.length), (14, .d (.lit (.int .i64 v1486))), (15, .d (.lit (.int .i64 v1487))), (72, .d (.lit (.bool true)))] [(2, some (.box (a0.map vB))), (5, some (.box (l1065.map (vI .i64)))), (66, some (.arr 3 1 (l1485.map (cI .i64))))]) (by simp; exact Sub.table (by simp) (by simp)) ?_
            refine AW.skip ?_
            refine thenQ_normal ?_
            refine AW.seq ?_
            refine AW.block ?_
            refine AW.seq ?_
            refine AW.seqR ?_
            replace h := bsome h; obtain ⟨v1635, hv1635, h⟩ := h
            have hv1635 := chkI_some hv1635
            refine Chain.runK [] 3 fun K hK => ?_; simp [hv1635]; refine hK _ _ ?_; clear hK K
            refine Chain.sub (S' := mk 100 [] [(1, .d (.lit (.int .i64 a1))), (2, .ptr 2 0 0), (5, .ptr 5 0 0), (13, .ref 66 0 l1485.length), (14, .d (.lit (.int .i64 v1486))), (15, .d (.lit (.int .i64 v1487))), (16, .d (.lit (.int .i64 v1635)))] [(2, some (.box (a0.map vB))), (5, some (.box (l1065.map (vI .i64)))), (66, some (.arr 3 1 (l1485.map (cI .i64))))]) (Sub.table (by simp) (by simp)) ?_
            refine Chain.nil ?_
            refine AW.lastN (fun (v1686 : Int) => mk 100 [] [(1, .d (.lit (.int .i64 a1))), (2, .ptr 2 0 0), (5, .ptr 5 0 0), (13, .ref 66 0 l1485.length), (14, .d (.lit (.int .i64 v1686))), (15, .d (.lit (.int .i64 v1487)))] [(2, some (.box (a0.map vB))), (5, some (.box (l1065.map (vI .i64)))), (66, some (.arr 3 1 (l1485.map (cI .i64))))]) h ?_ ?_ <;> clear h
            · intro o h
              refine AW.block ?_
              refine AW.iter (fun (v1652 : Int) => mk 100 [] [(1, .d (.lit (.int .i64 a1))), (2, .ptr 2 0 0), (5, .ptr 5 0 0), (13, .ref 66 0 l1485.length), (14, .d (.lit (.int .i64 v1486))), (15, .d (.lit (.int .i64 v1487))), (16, .d (.lit (.int .i64 v1652)))] [(2, some (.box (a0.map vB))), (5, some (.box (l1065.map (vI .i64)))), (66, some (.arr 3 1 (l1485.map (cI .i64))))]) h (Sub.table (by simp) (by simp)) ?_
              clear h
              rintro v1652 x h
              refine AW.seq ?_
              refine AW.seqR ?_
              refine Chain.runK [] 2 fun K hK => ?_; simp; refine hK _ _ ?_; clear hK K
              refine Chain.sub (S' := mk 100 [] [(1, .d (.lit (.int .i64 a1))), (2, .ptr 2 0 0), (5, .ptr 5 0 0), (13, .ref 66 0 l1485.length), (14, .d (.lit (.int .i64 v1486))), (15, .d (.lit (.int .i64 v1487))), (16, .d (.lit (.int .i64 v1652))), (78, .d (.lit (.bool (decide (v1652 < 20)))))] [(2, some (.box (a0.map vB))), (5, some (.box (l1065.map (vI .i64)))), (66, some (.arr 3 1 (l1485.map (cI .i64))))]) (Sub.table (by simp) (by simp)) ?_
              refine Chain.nil ?_
              replace h := isome h; rcases h with ⟨c1687, h⟩ | ⟨c1687, h⟩
              · have c1687_ : decide (v1652 < 20) = true := decide_eq_true c1687
                refine AW.condT (b := decide (v1652 < 20)) rfl c1687_ ?_
                refine AW.sub (Sub.bool 78 (b := decide (v1652 < 20)) rfl c1687_) ?_
                refine AW.sub (S' := mk 100 [] [(1, .d (.lit (.int .i64 a1))), (2, .ptr 2 0 0), (5, .ptr 5 0 0), (13, .ref 66 0 l1485.length), (14, .d (.lit (.int .i64 v1486))), (15, .d (.lit (.int .i64 v1487))), (16, .d (.lit (.int .i64 v1652))), (78, .d (.lit (.bool true)))] [(2, some (.box (a0.map vB))), (5, some (.box (l1065.map (vI .i64)))), (66, some (.arr 3 1 (l1485.map (cI .i64))))]) (by simp; exact Sub.table (by simp) (by simp)) ?_
                refine AW.skip ?_
                refine thenQ_normal ?_
                refine AW.seq ?_
                refine AW.block ?_
                replace h := bsome h; obtain ⟨v1694, hj, h⟩ := h
                refine AW.cutR (mk 100 [] [(1, .d (.lit (.int .i64 a1))), (2, .ptr 2 0 0), (5, .ptr 5 0 0), (13, .ref 66 0 l1485.length), (14, .d (.lit (.int .i64 v1486))), (15, .d (.lit (.int .i64 v1487))), (16, .d (.lit (.int .i64 v1652))), (93, .d (.lit (.bool v1694)))] [(2, some (.box (a0.map vB))), (5, some (.box (l1065.map (vI .i64)))), (66, some (.arr 3 1 (l1485.map (cI .i64))))]) ?_ ?_
                · clear h; have h := hj; clear hj
                  replace h := bsome h; obtain ⟨k1695, gk1695, h⟩ := h
                  obtain ⟨hk1695, hk1695a, hk1695b, hk1695c⟩ := arrI_some gk1695
                  have hk1695b : v1486 < 20 := hk1695b
                  replace h := bsome h; obtain ⟨k1696, gk1696, h⟩ := h
                  obtain ⟨hk1696, hk1696a, hk1696b, hk1696c⟩ := arrI_some gk1696
                  have hk1696b : v1652 < 20 := hk1696b
                  replace h := bsome h; obtain ⟨x1697, hx1697, h⟩ := h
                  refine Chain.runK [] 6 fun K hK => ?_; simp [hk1695, hk1695a, hk1695b, hk1696, hk1696a, hk1696b, hx1697]; refine hK _ _ ?_; clear hK K
                  refine Chain.sub (S' := mk 100 [] [(1, .d (.lit (.int .i64 a1))), (2, .ptr 2 0 0), (5, .ptr 5 0 0), (13, .ref 66 0 l1485.length), (14, .d (.lit (.int .i64 v1486))), (15, .d (.lit (.int .i64 v1487))), (16, .d (.lit (.int .i64 v1652))), (86, .d (.lit (.bool x1697)))] [(2, some (.box (a0.map vB))), (5, some (.box (l1065.map (vI .i64)))), (66, some (.arr 3 1 (l1485.map (cI .i64))))]) (Sub.table (by simp) (by simp)) ?_
                  replace h := isome h; rcases h with ⟨c1698, h⟩ | ⟨c1698, h⟩
                  · have c1698_ : x1697 = true := c1698
                    refine Chain.sub (Sub.bool 86 (b := x1697) rfl c1698_) ?_
                    refine Chain.sub (S' := mk 100 [] [(1, .d (.lit (.int .i64 a1))), (2, .ptr 2 0 0), (5, .ptr 5 0 0), (13, .ref 66 0 l1485.length), (14, .d (.lit (.int .i64 v1486))), (15, .d (.lit (.int .i64 v1487))), (16, .d (.lit (.int .i64 v1652))), (86, .d (.lit (.bool true)))] [(2, some (.box (a0.map vB))), (5, some (.box (l1065.map (vI .i64)))), (66, some (.arr 3 1 (l1485.map (cI .i64))))]) (by simp; exact Sub.table (by simp) (by simp)) ?_
                    replace h := bsome h; obtain ⟨x1699, hx1699, h⟩ := h
                    replace h := bsome h; obtain ⟨v1700, hv1700, h⟩ := h
                    have hv1700 := chkI_some hv1700
                    refine Chain.runK [] 7 fun K hK => ?_; simp [hk1696, hk1696a, hk1696b, hx1699, hv1700]; refine hK _ _ ?_; clear hK K
                    refine Chain.sub (S' := mk 100 [] [(1, .d (.lit (.int .i64 a1))), (2, .ptr 2 0 0), (5, .ptr 5 0 0), (13, .ref 66 0 l1485.length), (14, .d (.lit (.int .i64 v1486))), (15, .d (.lit (.int .i64 v1487))), (16, .d (.lit (.int .i64 v1652))), (87, .d (.lit (.int .i64 v1652))), (88, .ptr 5 0 k1696), (89, .d (.lit (.int .i64 x1699))), (90, .d (.lit (.int .i64 v1487))), (91, .d (.lit (.int .i64 v1700))), (92, .d (.lit (.bool (x1699 == v1700)))), (93, .d (.lit (.bool (x1699 == v1700))))] [(2, some (.box (a0.map vB))), (5, some (.box (l1065.map (vI .i64)))), (66, some (.arr 3 1 (l1485.map (cI .i64))))]) (Sub.table (by simp) (by simp)) ?_
                    cases h
                    exact Chain.nil (Sub.table (by simp) (by simp))
                  · have c1698_ : x1697 = false := Bool.eq_false_iff.2 c1698
                    refine Chain.sub (Sub.bool 86 (b := x1697) rfl c1698_) ?_
                    refine Chain.sub (S' := mk 100 [] [(1, .d (.lit (.int .i64 a1))), (2, .ptr 2 0 0), (5, .ptr 5 0 0), (13, .ref 66 0 l1485.length), (14, .d (.lit (.int .i64 v1486))), (15, .d (.lit (.int .i64 v1487))), (16, .d (.lit (.int .i64 v1652))), (86, .d (.lit (.bool false)))] [(2, some (.box (a0.map vB))), (5, some (.box (l1065.map (vI .i64)))), (66, some (.arr 3 1 (l1485.map (cI .i64))))]) (by simp; exact Sub.table (by simp) (by simp)) ?_
                    refine Chain.runK [] 7 fun K hK => ?_; simp; refine hK _ _ ?_; clear hK K
                    refine Chain.sub (S' := mk 100 [] [(1, .d (.lit (.int .i64 a1))), (2, .ptr 2 0 0), (5, .ptr 5 0 0), (13, .ref 66 0 l1485.length), (14, .d (.lit (.int .i64 v1486))), (15, .d (.lit (.int .i64 v1487))), (16, .d (.lit (.int .i64 v1652))), (87, .tup []), (88, .tup []), (89, .tup []), (90, .tup []), (91, .tup []), (92, .tup []), (93, .d (.lit (.bool false)))] [(2, some (.box (a0.map vB))), (5, some (.box (l1065.map (vI .i64)))), (66, some (.arr 3 1 (l1485.map (cI .i64))))]) (Sub.table (by simp) (by simp)) ?_
                    cases h
                    exact Chain.nil (Sub.table (by simp) (by simp))
                · clear hj
                  replace h := isome h; rcases h with ⟨c1701, h⟩ | ⟨c1701, h⟩
                  · have c1701_ : v1694 = true := c1701
                    refine AW.condT (b := v1694) rfl c1701_ ?_
                    refine AW.sub (Sub.bool 93 (b := v1694) rfl c1701_) ?_
                    refine AW.sub (S' := mk 100 [] [(1, .d (.lit (.int .i64 a1))), (2, .ptr 2 0 0), (5, .ptr 5 0 0), (13, .ref 66 0 l1485.length), (14, .d (.lit (.int .i64 v1486))), (15, .d (.lit (.int .i64 v1487))), (16, .d (.lit (.int .i64 v1652))), (93, .d (.lit (.bool true)))] [(2, some (.box (a0.map vB))), (5, some (.box (l1065.map (vI .i64)))), (66, some (.arr 3 1 (l1485.map (cI .i64))))]) (by simp; exact Sub.table (by simp) (by simp)) ?_
                    refine AW.seqR ?_
                    refine Chain.runK [] 2 fun K hK => ?_; simp; refine hK _ _ ?_; clear hK K
                    refine Chain.sub (S' := mk 100 [] [(1, .d (.lit (.int .i64 a1))), (2, .ptr 2 0 0), (5, .ptr 5 0 0), (13, .ref 66 0 l1485.length), (14, .d (.lit (.int .i64 v1652))), (15, .d (.lit (.int .i64 v1487)))] [(2, some (.box (a0.map vB))), (5, some (.box (l1065.map (vI .i64)))), (66, some (.arr 3 1 (l1485.map (cI .i64))))]) (Sub.table (by simp) (by simp)) ?_
                    refine Chain.nil ?_
                    refine AW.exit ?_
                    cases h
                    refine blockQ.pass (by decide) ?_
                    refine thenQ_pass (by simp) ?_
                    refine PostI.out (by simp) ?_
                    rintro rfl
                    refine blockQ.hit ?_
                    refine PostN.next ?_
                    exact (Sub.table (by simp) (by simp))
                  · have c1701_ : v1694 = false := Bool.eq_false_iff.2 c1701
                    refine AW.condF (b := v1694) rfl c1701_ ?_
                    refine AW.sub (Sub.bool 93 (b := v1694) rfl c1701_) ?_
                    refine AW.sub (S' := mk 100 [] [(1, .d (.lit (.int .i64 a1))), (2, .ptr 2 0 0), (5, .ptr 5 0 0), (13, .ref 66 0 l1485.length), (14, .d (.lit (.int .i64 v1486))), (15, .d (.lit (.int .i64 v1487))), (16, .d (.lit (.int .i64 v1652))), (93, .d (.lit (.bool false)))] [(2, some (.box (a0.map vB))), (5, some (.box (l1065.map (vI .i64)))), (66, some (.arr 3 1 (l1485.map (cI .i64))))]) (by simp; exact Sub.table (by simp) (by simp)) ?_
                    refine AW.skip ?_
                    refine blockQ.normal ?_
                    refine thenQ_normal ?_
                    refine AW.region ?_
                    replace h := bsome h; obtain ⟨v1702, hv1702, h⟩ := h
                    have hv1702 := chkI_some hv1702
                    refine Chain.runK [] 3 fun K hK => ?_; simp [hv1702]; refine hK _ _ ?_; clear hK K
                    refine Chain.sub (S' := mk 100 [] [(1, .d (.lit (.int .i64 a1))), (2, .ptr 2 0 0), (5, .ptr 5 0 0), (13, .ref 66 0 l1485.length), (14, .d (.lit (.int .i64 v1486))), (15, .d (.lit (.int .i64 v1487))), (16, .d (.lit (.int .i64 v1702)))] [(2, some (.box (a0.map vB))), (5, some (.box (l1065.map (vI .i64)))), (66, some (.arr 3 1 (l1485.map (cI .i64))))]) (Sub.table (by simp) (by simp)) ?_
                    refine Chain.nil ?_
                    cases h
                    refine PostI.next ?_
                    exact (Sub.table (by simp) (by simp))
              · have c1687_ : decide (v1652 < 20) = false := decide_eq_false c1687
                refine AW.condF (b := decide (v1652 < 20)) rfl c1687_ ?_
                refine AW.sub (Sub.bool 78 (b := decide (v1652 < 20)) rfl c1687_) ?_
                refine AW.sub (S' := mk 100 [] [(1, .d (.lit (.int .i64 a1))), (2, .ptr 2 0 0), (5, .ptr 5 0 0), (13, .ref 66 0 l1485.length), (14, .d (.lit (.int .i64 v1486))), (15, .d (.lit (.int .i64 v1487))), (16, .d (.lit (.int .i64 v1652))), (78, .d (.lit (.bool false)))] [(2, some (.box (a0.map vB))), (5, some (.box (l1065.map (vI .i64)))), (66, some (.arr 3 1 (l1485.map (cI .i64))))]) (by simp; exact Sub.table (by simp) (by simp)) ?_
                refine AW.exit ?_
                cases h
                refine thenQ_pass (by simp) ?_
                refine PostI.out (by simp) ?_
                rintro rfl
                refine blockQ.hit ?_
                refine PostN.next ?_
                exact (Sub.table (by simp) (by simp))
            · rintro v1686 h
              refine thenQ_normal ?_
              refine AW.region ?_
              replace h := bsome h; obtain ⟨l1703, hl1703, h⟩ := h
              obtain ⟨hl1703a, hl1703⟩ := appL_some hl1703
              subst hl1703
              try simp only [List.length_append, List.length_cons, List.length_nil, Nat.zero_add] at hl1703a
              refine Chain.runK [97] 5 fun K hK => ?_; simp [hl1703a]; refine hK _ _ ?_; clear hK K
              refine Chain.sub (S' := mk 100 [] [(1, .d (.lit (.int .i64 a1))), (2, .ptr 2 0 0), (5, .ptr 5 0 0), (13, .ref 66 0 ((l1485 ++ [v1686]).length)), (14, .d (.lit (.int .i64 v1686))), (15, .d (.lit (.int .i64 v1487)))] [(2, some (.box (a0.map vB))), (5, some (.box (l1065.map (vI .i64)))), (66, some (.arr 3 1 ((l1485 ++ [v1686]).map (cI .i64))))]) (Sub.table (by simp) (by simp)) ?_
              refine Chain.nil ?_
              refine blockQ.normal ?_
              refine thenQ_normal ?_
              refine AW.region ?_
              replace h := bsome h; obtain ⟨v1704, hv1704, h⟩ := h
              have hv1704 := chkI_some hv1704
              refine Chain.runK [] 3 fun K hK => ?_; simp [hv1704]; refine hK _ _ ?_; clear hK K
              refine Chain.sub (S' := mk 100 [] [(1, .d (.lit (.int .i64 a1))), (2, .ptr 2 0 0), (5, .ptr 5 0 0), (13, .ref 66 0 ((l1485 ++ [v1686]).length)), (14, .d (.lit (.int .i64 v1686))), (15, .d (.lit (.int .i64 v1704)))] [(2, some (.box (a0.map vB))), (5, some (.box (l1065.map (vI .i64)))), (66, some (.arr 3 1 ((l1485 ++ [v1686]).map (cI .i64))))]) (Sub.table (by simp) (by simp)) ?_
              refine Chain.nil ?_
              cases h
              refine PostI.next ?_
              exact (Sub.table (by simp) (by simp))
          · have c1634_ : decide (v1487 > 1) = false := decide_eq_false c1634
            refine AW.condF (b := decide (v1487 > 1)) rfl c1634_ ?_
            refine AW.sub (Sub.bool 72 (b := decide (v1487 > 1)) rfl c1634_) ?_
            refine AW.sub (S' := mk 100 [] [(1, .d (.lit (.int .i64 a1))), (2, .ptr 2 0 0), (5, .ptr 5 0 0), (13, .ref 66 0 l1485.length), (14, .d (.lit (.int .i64 v1486))), (15, .d (.lit (.int .i64 v1487))), (72, .d (.lit (.bool false)))] [(2, some (.box (a0.map vB))), (5, some (.box (l1065.map (vI .i64)))), (66, some (.arr 3 1 (l1485.map (cI .i64))))]) (by simp; exact Sub.table (by simp) (by simp)) ?_
            refine AW.exit ?_
            cases h
            refine thenQ_pass (by simp) ?_
            refine PostI.out (by simp) ?_
            rintro rfl
            refine blockQ.hit ?_
            refine PostN.next ?_
            exact (Sub.table (by simp) (by simp))
        · rintro l1633 h
          refine thenQ_normal ?_
          refine AW.seqR ?_
          refine Chain.runK [] 2 fun K hK => ?_; simp; refine hK _ _ ?_; clear hK K
          refine Chain.sub (S' := mk 100 [] [(4, .ref 66 0 l1633.length)] [(66, some (.arr 3 1 (l1633.map (cI .i64))))]) (Sub.table (by simp) (by simp)) ?_
          refine Chain.nil ?_
          refine AW.sub (Sub.freeze 66 rfl) ?_
          refine AW.sub (S' := mk 100 [] [(4, .d (.sl (l1633.map (cI .i64))))] []) (by simp; exact Sub.table (by simp) (by simp)) ?_
          refine AW.ret ?_
          cases h
          exact FinC.ret (by simp) (by simp)

end Go.Proofs.Ytabjbkdlacibjaa
