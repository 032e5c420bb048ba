/- Functions of the program as functional programs; the code computes them. -/
import Derived.Test.YtimkkjiplioohaaGreatDoorCe4
namespace Go.Proofs.YtimkkjiplioohaaGreatDoor
open Go.Ab Go.Rp
attribute [-simp] List.all_eq_true Array.all_toList Array.all_eq_true

/-- stemma/stemref3.Trees -/
def d19 : (N : Nat) → (a0 : (List Int)) → (a1 : Bool) → Option (List S28)
 | 0, _, _ => none
 | N + 1, a0, a1 =>
  if ((a0.length : Int) == 1) then (
   (idx a0 0).bind fun x2 =>
   some ([(S28.mk x2 [])] : List S28)
  ) else
  Option.bind (α := List S28) (
   iterN (σ := (Bool × (List S28) × Int)) (ρ := List S28) (fun ((v355, l356, v357) : (Bool × (List S28) × Int)) =>
    (shiftB .i64 (a0.length : Int)).bind fun _ =>
    letv (shlI .i64 1 (a0.length : Int)) fun v1066 =>
    (chkI (v1066 - 1)).bind fun v1067 =>
    if v357 < v1067 then (
     Option.bind (α := (Bool × (List S28))) (
      Option.bind (α := ((List Int) × (List Int))) (
       iterN (σ := ((List Int) × (List Int) × Int)) (ρ := ((List Int) × (List Int))) (fun ((l1253, l1254, v1255) : ((List Int) × (List Int) × Int)) =>
        if v1255 < (a0.length : Int) then (
         (idx a0 v1255).bind fun x1282 =>
         (shiftB .i64 v1255).bind fun _ =>
         letv (shrI v357 v1255) fun v1284 =>
         letv (bitI .and .i64 v1284 1) fun v1285 =>
         if (v1285 == 1) then (
          (appL 8 l1253 [x1282]).bind fun _l1287 =>
          (chkI (v1255 + 1)).bind fun v1288 =>
          some (.inl ((l1253 ++ [x1282]), l1254, v1288))
         ) else
         (appL 8 l1254 [x1282]).bind fun _l1289 =>
         (chkI (v1255 + 1)).bind fun v1290 =>
         some (.inl (l1253, (l1254 ++ [x1282]), v1290))
        ) else
        some (.inr (l1253, l1254))
       ) N (([] : List Int), ([] : List Int), 0)
      ) fun ((l1279, l1280) : ((List Int) × (List Int))) =>
      Option.bind (α := (Bool × Bool)) (
       if v355 = true then (
        some (true, decide ((l1280.length : Int) > 1))
       ) else
       some (false, false)
      ) fun ((v1292, v1293) : (Bool × Bool)) =>
      if v1293 = true then (
       some (v1292, l356)
      ) else
      (d19 N l1279 v1292).bind fun r1296 =>
      Option.bind (α := List S28) (
       iterN (σ := ((List S28) × Int)) (ρ := List S28) (fun ((l1325, v1326) : ((List S28) × Int)) =>
        if v1326 < (r1296.length : Int) then (
         (idx r1296 v1326).bind fun x1389 =>
         (d19 N l1280 v1292).bind fun r1391 =>
         Option.bind (α := List S28) (
          iterN (σ := ((List S28) × Int)) (ρ := List S28) (fun ((l1396, v1397) : ((List S28) × Int)) =>
           if v1397 < (r1391.length : Int) then (
            (idx r1391 v1397).bind fun x1412 =>
            (appL 32 l1396 [(S28.mk 0 ([x1389, x1412] : List S28))]).bind fun _l1414 =>
            (chkI (v1397 + 1)).bind fun v1415 =>
            some (.inl ((l1396 ++ [(S28.mk 0 ([x1389, x1412] : List S28))]), v1415))
           ) else
           some (.inr l1396)
          ) N (l1325, 0)
         ) fun (l1410 : List S28) =>
         (chkI (v1326 + 1)).bind fun v1416 =>
         some (.inl (l1410, v1416))
        ) else
        some (.inr l1325)
       ) N (l356, 0)
      ) fun (l1387 : List S28) =>
      some (v1292, l1387)
     ) fun ((v1242, l1243) : (Bool × (List S28))) =>
     (chkI (v357 + 1)).bind fun v1417 =>
     some (.inl (v1242, l1243, v1417))
    ) else
    some (.inr l356)
   ) N (a1, ([] : List S28), 1)
  ) fun (l1065 : List S28) =>
  some l1065
set_option maxRecDepth 100000 in
set_option maxHeartbeats 4000000 in
theorem p19 (N : Nat) : ∀ (a0 : (List Int)) (a1 : Bool) (r : (List S28)) (_ : d19 N a0 a1 = some r), FunC Tryz.prog 19 [.d (.sl (a0.map (cI .i64))), .d (.lit (.bool a1))] (.d (.sl (r.map cS28))) := by
 induction N with
 | zero => intro a0 a1 r h; cases h
 | succ N ih =>
 intro a0 a1 r h
 unfold d19 at h
 refine FunC.enter 84 [(0, .d (.sl (a0.map (cI .i64)))), (1, .d (.lit (.bool a1)))] (by simp) Tryz.func19 rfl (of_decide_eq_true rfl) rfl rfl ?_
 refine AW.seqR ?_
 refine Chain.runK [] 1 fun K hK => ?_; simp; refine hK _ _ ?_; clear hK K
 refine Chain.sub (S' := mk 84 [] [(0, .d (.sl (a0.map (cI .i64)))), (1, .d (.lit (.bool a1)))] []) Sub.tt ?_
 refine Chain.nil ?_
 refine AW.seq ?_
 refine AW.seqR ?_
 refine Chain.runK [] 3 fun K hK => ?_; simp; refine hK _ _ ?_; clear hK K
 refine Chain.sub (S' := mk 84 [] [(0, .d (.sl (a0.map (cI .i64)))), (1, .d (.lit (.bool a1))), (17, .d (.lit (.bool ((a0.length : Int) == 1))))] []) Sub.tt ?_
 refine Chain.nil ?_
 replace h := isome h; rcases h with ⟨c1, h⟩ | ⟨c1, h⟩
 ·have c1_ : ((a0.length : Int) == 1) = true := c1
  refine AW.condT (b := ((a0.length : Int) == 1)) rfl c1_ ?_
  refine AW.sub (Sub.bool 17 (b := ((a0.length : Int) == 1)) rfl c1_) ?_
  refine AW.sub (S' := mk 84 [] [(0, .d (.sl (a0.map (cI .i64)))), (1, .d (.lit (.bool a1))), (17, .d (.lit (.bool true)))] []) (by simp; exact Sub.table (by simp) (by simp)) ?_
  refine AW.seqR ?_
  replace h := bsome h; obtain ⟨x2, hx2, h⟩ := h
  obtain ⟨hx2, hx2b, hx2c⟩ := idx_someN (n := 0) hx2
  refine Chain.runK [] 5 fun K hK => ?_; simp [hx2]; refine hK _ _ ?_; clear hK K
  refine Chain.sub (Sub.wkRow 22 rfl) ?_
  refine Chain.sub (S' := mk 84 [] [(0, .d (.sl (a0.map (cI .i64)))), (1, .d (.lit (.bool a1))), (17, .d (.lit (.bool true))), (18, .d (.sl (a0.map (cI .i64)))), (19, .d (.pim [.lit (.int .i64 x2)])), (20, .d (.lit (.int .i64 x2))), (21, .agg [.d (.lit (.int .i64 x2)), .d (.lit (.slice none 0 0))]), (22, .ref 22 0 (([(S28.mk x2 [])] : List S28).length))] [(22, some (.arr 28 2 (([(S28.mk x2 [])] : List S28).map cS28)))]) (by simp; exact Sub.table (by simp) (by simp)) ?_
  refine Chain.runK [] 1 fun K hK => ?_; simp; refine hK _ _ ?_; clear hK K
  refine Chain.sub (S' := mk 84 [] [(4, .ref 22 0 (([(S28.mk x2 [])] : List S28).length))] [(22, some (.arr 28 2 (([(S28.mk x2 [])] : List S28).map cS28)))]) Sub.tt ?_
  refine Chain.nil ?_
  refine AW.sub (Sub.freeze 22 rfl) ?_
  refine AW.sub (S' := mk 84 [] [(4, .d (.sl (([(S28.mk x2 [])] : List S28).map cS28)))] []) (by simp; exact Sub.table (by simp) (by simp)) ?_
  refine AW.ret ?_
  cases h
  refine thenQ_pass (by simp) ?_
  exact FinC.ret (by simp) (by simp)
 ·have c1_ : ((a0.length : Int) == 1) = false := Bool.eq_false_iff.2 c1
  refine AW.condF (b := ((a0.length : Int) == 1)) rfl c1_ ?_
  refine AW.sub (Sub.bool 17 (b := ((a0.length : Int) == 1)) rfl c1_) ?_
  refine AW.sub (S' := mk 84 [] [(0, .d (.sl (a0.map (cI .i64)))), (1, .d (.lit (.bool a1))), (17, .d (.lit (.bool false)))] []) (by simp; exact Sub.table (by simp) (by simp)) ?_
  refine AW.skip ?_
  refine thenQ_normal ?_
  refine AW.seqR ?_
  refine Chain.runK [] 1 fun K hK => ?_; simp; refine hK _ _ ?_; clear hK K
  refine Chain.sub (S' := mk 84 [] [(0, .d (.sl (a0.map (cI .i64)))), (1, .d (.lit (.bool a1))), (5, .d (.lit (.slice none 0 0)))] []) Sub.tt ?_
  refine Chain.nil ?_
  refine AW.seq ?_
  refine AW.seqR ?_
  refine Chain.runK [] 1 fun K hK => ?_; simp; refine hK _ _ ?_; clear hK K
  refine Chain.sub (S' := mk 84 [] [(0, .d (.sl (a0.map (cI .i64)))), (1, .d (.lit (.bool a1))), (5, .d (.lit (.slice none 0 0))), (6, .d (.lit (.int .i64 1)))] []) Sub.tt ?_
  refine Chain.nil ?_
  refine AW.lastN (fun (l1065 : List S28) => mk 84 [] [(5, .ref 80 0 l1065.length)] [(80, some (.arr 28 2 (l1065.map cS28)))]) h ?_ ?_ <;> clear h
  ·intro o h
   refine AW.block ?_
   refine AW.iter (fun ((v355, l356, v357) : (Bool × (List S28) × Int)) => mk 84 [] [(0, .d (.sl (a0.map (cI .i64)))), (1, .d (.lit (.bool v355))), (5, .ref 80 0 l356.length), (6, .d (.lit (.int .i64 v357)))] [(80, some (.arr 28 2 (l356.map cS28)))]) h (Sub.trans (Sub.nilOwn (t := 5) (id := 80) (T := 28) (n := 2) rfl rfl (by decide)) (by simp; exact Sub.table (by simp) (by simp))) ?_
   clear h
   rintro ⟨v355, l356, v357⟩ x h
   dsimp only at h ⊢
   refine AW.seq ?_
   refine AW.seqR ?_
   replace h := bsome h; obtain ⟨_, gv1066, h⟩ := h
   have hv1066a := shiftB_some gv1066
   try simp at hv1066a
   replace h := lsome h; obtain ⟨v1066, hv1066, h⟩ := h
   replace h := bsome h; obtain ⟨v1067, hv1067, h⟩ := h
   have hv1067 := chkI_some hv1067
   refine Chain.runK [] 6 fun K hK => ?_; simp [hv1066a, hv1066, hv1067]; refine hK _ _ ?_; clear hK K
   refine Chain.sub (S' := mk 84 [] [(0, .d (.sl (a0.map (cI .i64)))), (1, .d (.lit (.bool v355))), (5, .ref 80 0 l356.length), (6, .d (.lit (.int .i64 v357))), (28, .d (.lit (.bool (decide (v357 < v1067)))))] [(80, some (.arr 28 2 (l356.map cS28)))]) Sub.tt ?_
   refine Chain.nil ?_
   replace h := isome h; rcases h with ⟨c1068, h⟩ | ⟨c1068, h⟩
   ·have c1068_ : decide (v357 < v1067) = true := decide_eq_true c1068
    refine AW.condT (b := decide (v357 < v1067)) rfl c1068_ ?_
    refine AW.sub (Sub.bool 28 (b := decide (v357 < v1067)) rfl c1068_) ?_
    refine AW.sub (S' := mk 84 [] [(0, .d (.sl (a0.map (cI .i64)))), (1, .d (.lit (.bool v355))), (5, .ref 80 0 l356.length), (6, .d (.lit (.int .i64 v357))), (28, .d (.lit (.bool true)))] [(80, some (.arr 28 2 (l356.map cS28)))]) (by simp; exact Sub.table (by simp) (by simp)) ?_
    refine AW.skip ?_
    refine thenQ_normal ?_
    refine AW.seqN (fun ((v1242, l1243) : (Bool × (List S28))) => mk 84 [] [(0, .d (.sl (a0.map (cI .i64)))), (1, .d (.lit (.bool v1242))), (5, .ref 80 0 l1243.length), (6, .d (.lit (.int .i64 v357)))] [(80, some (.arr 28 2 (l1243.map cS28)))]) h ?_ ?_ <;> clear h
    ·intro o h
     refine AW.block ?_
     refine AW.seqR ?_
     refine Chain.runK [] 2 fun K hK => ?_; simp; refine hK _ _ ?_; clear hK K
     refine Chain.sub (S' := mk 84 [] [(0, .d (.sl (a0.map (cI .i64)))), (1, .d (.lit (.bool v355))), (5, .ref 80 0 l356.length), (6, .d (.lit (.int .i64 v357))), (7, .d (.lit (.slice none 0 0))), (8, .d (.lit (.slice none 0 0)))] [(80, some (.arr 28 2 (l356.map cS28)))]) Sub.tt ?_
     refine Chain.nil ?_
     refine AW.seq ?_
     refine AW.seqR ?_
     refine Chain.runK [] 3 fun K hK => ?_; simp; refine hK _ _ ?_; clear hK K
     refine Chain.sub (S' := mk 84 [] [(0, .d (.sl (a0.map (cI .i64)))), (1, .d (.lit (.bool v355))), (5, .ref 80 0 l356.length), (6, .d (.lit (.int .i64 v357))), (7, .d (.lit (.slice none 0 0))), (8, .d (.lit (.slice none 0 0))), (31, .d (.sl (a0.map (cI .i64)))), (32, .d (.lit (.int .i64 (a0.length : Int)))), (33, .d (.lit (.int .i64 0)))] [(80, some (.arr 28 2 (l356.map cS28)))]) Sub.tt ?_
     refine Chain.nil ?_
     refine AW.lastN (fun ((l1279, l1280) : ((List Int) × (List Int))) => mk 84 [] [(0, .d (.sl (a0.map (cI .i64)))), (1, .d (.lit (.bool v355))), (5, .ref 80 0 l356.length), (6, .d (.lit (.int .i64 v357))), (7, .ref 46 0 l1279.length), (8, .ref 50 0 l1280.length)] [(46, some (.arr 3 1 (l1279.map (cI .i64)))), (50, some (.arr 3 1 (l1280.map (cI .i64)))), (80, some (.arr 28 2 (l356.map cS28)))]) h ?_ ?_ <;> clear h
     ·intro o h
      refine AW.block ?_
      refine AW.iter (fun ((l1253, l1254, v1255) : ((List Int) × (List Int) × Int)) => mk 84 [] [(0, .d (.sl (a0.map (cI .i64)))), (1, .d (.lit (.bool v355))), (5, .ref 80 0 l356.length), (6, .d (.lit (.int .i64 v357))), (7, .ref 46 0 l1253.length), (8, .ref 50 0 l1254.length), (31, .d (.sl (a0.map (cI .i64)))), (32, .d (.lit (.int .i64 (a0.length : Int)))), (33, .d (.lit (.int .i64 v1255)))] [(46, some (.arr 3 1 (l1253.map (cI .i64)))), (50, some (.arr 3 1 (l1254.map (cI .i64)))), (80, some (.arr 28 2 (l356.map cS28)))]) h (Sub.trans (Sub.nilOwn (t := 7) (id := 46) (T := 3) (n := 1) rfl rfl (by decide)) (by simp; exact (Sub.trans (Sub.nilOwn (t := 8) (id := 50) (T := 3) (n := 1) rfl rfl (by decide)) (by simp; exact Sub.table (by simp) (by simp))))) ?_
      clear h
      rintro ⟨l1253, l1254, v1255⟩ x h
      dsimp only at h ⊢
      refine AW.seqR ?_
      refine Chain.runK [] 1 fun K hK => ?_; simp; refine hK _ _ ?_; clear hK K
      refine Chain.sub (S' := mk 84 [] [(0, .d (.sl (a0.map (cI .i64)))), (1, .d (.lit (.bool v355))), (5, .ref 80 0 l356.length), (6, .d (.lit (.int .i64 v357))), (7, .ref 46 0 l1253.length), (8, .ref 50 0 l1254.length), (31, .d (.sl (a0.map (cI .i64)))), (32, .d (.lit (.int .i64 (a0.length : Int)))), (33, .d (.lit (.int .i64 v1255))), (34, .d (.lit (.bool (decide (v1255 < (a0.length : Int))))))] [(46, some (.arr 3 1 (l1253.map (cI .i64)))), (50, some (.arr 3 1 (l1254.map (cI .i64)))), (80, some (.arr 28 2 (l356.map cS28)))]) Sub.tt ?_
      refine Chain.nil ?_
      refine AW.seq ?_
      replace h := isome h; rcases h with ⟨c1281, h⟩ | ⟨c1281, h⟩
      ·have c1281_ : decide (v1255 < (a0.length : Int)) = true := decide_eq_true c1281
       refine AW.condT (b := decide (v1255 < (a0.length : Int))) rfl c1281_ ?_
       refine AW.sub (Sub.bool 34 (b := decide (v1255 < (a0.length : Int))) rfl c1281_) ?_
       refine AW.sub (S' := mk 84 [] [(0, .d (.sl (a0.map (cI .i64)))), (1, .d (.lit (.bool v355))), (5, .ref 80 0 l356.length), (6, .d (.lit (.int .i64 v357))), (7, .ref 46 0 l1253.length), (8, .ref 50 0 l1254.length), (31, .d (.sl (a0.map (cI .i64)))), (32, .d (.lit (.int .i64 (a0.length : Int)))), (33, .d (.lit (.int .i64 v1255))), (34, .d (.lit (.bool true)))] [(46, some (.arr 3 1 (l1253.map (cI .i64)))), (50, some (.arr 3 1 (l1254.map (cI .i64)))), (80, some (.arr 28 2 (l356.map cS28)))]) (by simp; exact Sub.table (by simp) (by simp)) ?_
       refine AW.skip ?_
       refine thenQ_normal ?_
       refine AW.seq ?_
       refine AW.block ?_
       refine AW.seqR ?_
       replace h := bsome h; obtain ⟨x1282, hx1282, h⟩ := h
       obtain ⟨k1283, hx1282k, hx1282, hx1282a, hx1282b⟩ := idx_some hx1282
       refine Chain.runK [] 5 fun K hK => ?_; simp [hx1282, hx1282k, hx1282a]; refine hK _ _ ?_; clear hK K
       refine Chain.sub (S' := mk 84 [] [(0, .d (.sl (a0.map (cI .i64)))), (1, .d (.lit (.bool v355))), (5, .ref 80 0 l356.length), (6, .d (.lit (.int .i64 v357))), (7, .ref 46 0 l1253.length), (8, .ref 50 0 l1254.length), (9, .d (.lit (.int .i64 v1255))), (10, .d (.lit (.int .i64 x1282))), (31, .d (.sl (a0.map (cI .i64)))), (32, .d (.lit (.int .i64 (a0.length : Int)))), (33, .d (.lit (.int .i64 v1255)))] [(46, some (.arr 3 1 (l1253.map (cI .i64)))), (50, some (.arr 3 1 (l1254.map (cI .i64)))), (80, some (.arr 28 2 (l356.map cS28)))]) Sub.tt ?_
       refine Chain.nil ?_
       refine AW.seqR ?_
       replace h := bsome h; obtain ⟨_, gv1284, h⟩ := h
       have hv1284a := shiftB_some gv1284
       try simp at hv1284a
       replace h := lsome h; obtain ⟨v1284, hv1284, h⟩ := h
       replace h := lsome h; obtain ⟨v1285, hv1285, h⟩ := h
       refine Chain.runK [] 5 fun K hK => ?_; simp [hv1284a, hv1284, hv1285]; refine hK _ _ ?_; clear hK K
       refine Chain.sub (S' := mk 84 [] [(0, .d (.sl (a0.map (cI .i64)))), (1, .d (.lit (.bool v355))), (5, .ref 80 0 l356.length), (6, .d (.lit (.int .i64 v357))), (7, .ref 46 0 l1253.length), (8, .ref 50 0 l1254.length), (10, .d (.lit (.int .i64 x1282))), (31, .d (.sl (a0.map (cI .i64)))), (32, .d (.lit (.int .i64 (a0.length : Int)))), (33, .d (.lit (.int .i64 v1255))), (42, .d (.lit (.bool (v1285 == 1))))] [(46, some (.arr 3 1 (l1253.map (cI .i64)))), (50, some (.arr 3 1 (l1254.map (cI .i64)))), (80, some (.arr 28 2 (l356.map cS28)))]) Sub.tt ?_
       refine Chain.nil ?_
       replace h := isome h; rcases h with ⟨c1286, h⟩ | ⟨c1286, h⟩
       ·have c1286_ : (v1285 == 1) = true := c1286
        refine AW.condT (b := (v1285 == 1)) rfl c1286_ ?_
        refine AW.sub (Sub.bool 42 (b := (v1285 == 1)) rfl c1286_) ?_
        refine AW.sub (S' := mk 84 [] [(0, .d (.sl (a0.map (cI .i64)))), (1, .d (.lit (.bool v355))), (5, .ref 80 0 l356.length), (6, .d (.lit (.int .i64 v357))), (7, .ref 46 0 l1253.length), (8, .ref 50 0 l1254.length), (10, .d (.lit (.int .i64 x1282))), (31, .d (.sl (a0.map (cI .i64)))), (32, .d (.lit (.int .i64 (a0.length : Int)))), (33, .d (.lit (.int .i64 v1255))), (42, .d (.lit (.bool true)))] [(46, some (.arr 3 1 (l1253.map (cI .i64)))), (50, some (.arr 3 1 (l1254.map (cI .i64)))), (80, some (.arr 28 2 (l356.map cS28)))]) (by simp; exact Sub.table (by simp) (by simp)) ?_
        refine AW.region ?_
        replace h := bsome h; obtain ⟨l1287, hl1287, h⟩ := h
        obtain ⟨hl1287a, hl1287⟩ := appL_some hl1287
        subst hl1287
        try simp only [List.length_cons, List.length_nil, Nat.zero_add] at hl1287a
        refine Chain.runK [45] 5 fun K hK => ?_; simp [hl1287a]; refine hK _ _ ?_; clear hK K
        refine Chain.sub (S' := mk 84 [] [(0, .d (.sl (a0.map (cI .i64)))), (1, .d (.lit (.bool v355))), (5, .ref 80 0 l356.length), (6, .d (.lit (.int .i64 v357))), (7, .ref 46 0 ((l1253 ++ [x1282]).length)), (8, .ref 50 0 l1254.length), (31, .d (.sl (a0.map (cI .i64)))), (32, .d (.lit (.int .i64 (a0.length : Int)))), (33, .d (.lit (.int .i64 v1255)))] [(46, some (.arr 3 1 ((l1253 ++ [x1282]).map (cI .i64)))), (50, some (.arr 3 1 (l1254.map (cI .i64)))), (80, some (.arr 28 2 (l356.map cS28)))]) Sub.tt ?_
        refine Chain.nil ?_
        refine blockQ.normal ?_
        refine thenQ_normal ?_
        refine AW.region ?_
        replace h := bsome h; obtain ⟨v1288, hv1288, h⟩ := h
        have hv1288 := chkI_some hv1288
        refine Chain.runK [] 2 fun K hK => ?_; simp [hv1288]; refine hK _ _ ?_; clear hK K
        refine Chain.sub (S' := mk 84 [] [(0, .d (.sl (a0.map (cI .i64)))), (1, .d (.lit (.bool v355))), (5, .ref 80 0 l356.length), (6, .d (.lit (.int .i64 v357))), (7, .ref 46 0 ((l1253 ++ [x1282]).length)), (8, .ref 50 0 l1254.length), (31, .d (.sl (a0.map (cI .i64)))), (32, .d (.lit (.int .i64 (a0.length : Int)))), (33, .d (.lit (.int .i64 v1288)))] [(46, some (.arr 3 1 ((l1253 ++ [x1282]).map (cI .i64)))), (50, some (.arr 3 1 (l1254.map (cI .i64)))), (80, some (.arr 28 2 (l356.map cS28)))]) Sub.tt ?_
        refine Chain.nil ?_
        cases h
        refine PostI.next ?_
        exact Sub.tt
       ·have c1286_ : (v1285 == 1) = false := Bool.eq_false_iff.2 c1286
        refine AW.condF (b := (v1285 == 1)) rfl c1286_ ?_
        refine AW.sub (Sub.bool 42 (b := (v1285 == 1)) rfl c1286_) ?_
        refine AW.sub (S' := mk 84 [] [(0, .d (.sl (a0.map (cI .i64)))), (1, .d (.lit (.bool v355))), (5, .ref 80 0 l356.length), (6, .d (.lit (.int .i64 v357))), (7, .ref 46 0 l1253.length), (8, .ref 50 0 l1254.length), (10, .d (.lit (.int .i64 x1282))), (31, .d (.sl (a0.map (cI .i64)))), (32, .d (.lit (.int .i64 (a0.length : Int)))), (33, .d (.lit (.int .i64 v1255))), (42, .d (.lit (.bool false)))] [(46, some (.arr 3 1 (l1253.map (cI .i64)))), (50, some (.arr 3 1 (l1254.map (cI .i64)))), (80, some (.arr 28 2 (l356.map cS28)))]) (by simp; exact Sub.table (by simp) (by simp)) ?_
        refine AW.region ?_
        replace h := bsome h; obtain ⟨l1289, hl1289, h⟩ := h
        obtain ⟨hl1289a, hl1289⟩ := appL_some hl1289
        subst hl1289
        try simp only [List.length_cons, List.length_nil, Nat.zero_add] at hl1289a
        refine Chain.runK [49] 5 fun K hK => ?_; simp [hl1289a]; refine hK _ _ ?_; clear hK K
        refine Chain.sub (S' := mk 84 [] [(0, .d (.sl (a0.map (cI .i64)))), (1, .d (.lit (.bool v355))), (5, .ref 80 0 l356.length), (6, .d (.lit (.int .i64 v357))), (7, .ref 46 0 l1253.length), (8, .ref 50 0 ((l1254 ++ [x1282]).length)), (31, .d (.sl (a0.map (cI .i64)))), (32, .d (.lit (.int .i64 (a0.length : Int)))), (33, .d (.lit (.int .i64 v1255)))] [(46, some (.arr 3 1 (l1253.map (cI .i64)))), (50, some (.arr 3 1 ((l1254 ++ [x1282]).map (cI .i64)))), (80, some (.arr 28 2 (l356.map cS28)))]) Sub.tt ?_
        refine Chain.nil ?_
        refine blockQ.normal ?_
        refine thenQ_normal ?_
        refine AW.region ?_
        replace h := bsome h; obtain ⟨v1290, hv1290, h⟩ := h
        have hv1290 := chkI_some hv1290
        refine Chain.runK [] 2 fun K hK => ?_; simp [hv1290]; refine hK _ _ ?_; clear hK K
        refine Chain.sub (S' := mk 84 [] [(0, .d (.sl (a0.map (cI .i64)))), (1, .d (.lit (.bool v355))), (5, .ref 80 0 l356.length), (6, .d (.lit (.int .i64 v357))), (7, .ref 46 0 l1253.length), (8, .ref 50 0 ((l1254 ++ [x1282]).length)), (31, .d (.sl (a0.map (cI .i64)))), (32, .d (.lit (.int .i64 (a0.length : Int)))), (33, .d (.lit (.int .i64 v1290)))] [(46, some (.arr 3 1 (l1253.map (cI .i64)))), (50, some (.arr 3 1 ((l1254 ++ [x1282]).map (cI .i64)))), (80, some (.arr 28 2 (l356.map cS28)))]) Sub.tt ?_
        refine Chain.nil ?_
        cases h
        refine PostI.next ?_
        exact Sub.tt
      ·have c1281_ : decide (v1255 < (a0.length : Int)) = false := decide_eq_false c1281
       refine AW.condF (b := decide (v1255 < (a0.length : Int))) rfl c1281_ ?_
       refine AW.sub (Sub.bool 34 (b := decide (v1255 < (a0.length : Int))) rfl c1281_) ?_
       refine AW.sub (S' := mk 84 [] [(0, .d (.sl (a0.map (cI .i64)))), (1, .d (.lit (.bool v355))), (5, .ref 80 0 l356.length), (6, .d (.lit (.int .i64 v357))), (7, .ref 46 0 l1253.length), (8, .ref 50 0 l1254.length), (31, .d (.sl (a0.map (cI .i64)))), (32, .d (.lit (.int .i64 (a0.length : Int)))), (33, .d (.lit (.int .i64 v1255))), (34, .d (.lit (.bool false)))] [(46, some (.arr 3 1 (l1253.map (cI .i64)))), (50, some (.arr 3 1 (l1254.map (cI .i64)))), (80, some (.arr 28 2 (l356.map cS28)))]) (by simp; exact Sub.table (by simp) (by simp)) ?_
       refine AW.exit ?_
       cases h
       refine thenQ_pass (by simp) ?_
       refine PostI.out (by simp) ?_
       rintro rfl
       refine blockQ.hit ?_
       refine PostN.next ?_
       exact Sub.tt
     ·rintro ⟨l1279, l1280⟩ h
      dsimp only at h ⊢
      refine thenQ_normal ?_
      refine AW.seq ?_
      replace h := bsome h; obtain ⟨⟨v1292, v1293⟩, hj, h⟩ := h
      dsimp only at h
      refine AW.cutR (mk 84 [] [(0, .d (.sl (a0.map (cI .i64)))), (1, .d (.lit (.bool v1292))), (5, .ref 80 0 l356.length), (6, .d (.lit (.int .i64 v357))), (7, .ref 46 0 l1279.length), (8, .ref 50 0 l1280.length), (57, .d (.lit (.bool v1293)))] [(46, some (.arr 3 1 (l1279.map (cI .i64)))), (50, some (.arr 3 1 (l1280.map (cI .i64)))), (80, some (.arr 28 2 (l356.map cS28)))]) ?_ ?_
      ·clear h; have h := hj; clear hj
       refine Chain.runK [] 2 fun K hK => ?_; simp; refine hK _ _ ?_; clear hK K
       refine Chain.sub (S' := mk 84 [] [(0, .d (.sl (a0.map (cI .i64)))), (1, .d (.lit (.bool v355))), (5, .ref 80 0 l356.length), (6, .d (.lit (.int .i64 v357))), (7, .ref 46 0 l1279.length), (8, .ref 50 0 l1280.length), (53, .d (.lit (.bool v355)))] [(46, some (.arr 3 1 (l1279.map (cI .i64)))), (50, some (.arr 3 1 (l1280.map (cI .i64)))), (80, some (.arr 28 2 (l356.map cS28)))]) Sub.tt ?_
       replace h := isome h; rcases h with ⟨c1294, h⟩ | ⟨c1294, h⟩
       ·have c1294_ : v355 = true := c1294
        refine Chain.sub (Sub.bool 1 (b := v355) rfl c1294_) ?_
        refine Chain.sub (Sub.bool 53 (b := v355) rfl c1294_) ?_
        refine Chain.sub (S' := mk 84 [] [(0, .d (.sl (a0.map (cI .i64)))), (1, .d (.lit (.bool true))), (5, .ref 80 0 l356.length), (6, .d (.lit (.int .i64 v357))), (7, .ref 46 0 l1279.length), (8, .ref 50 0 l1280.length), (53, .d (.lit (.bool true)))] [(46, some (.arr 3 1 (l1279.map (cI .i64)))), (50, some (.arr 3 1 (l1280.map (cI .i64)))), (80, some (.arr 28 2 (l356.map cS28)))]) (by simp; exact Sub.table (by simp) (by simp)) ?_
        refine Chain.runK [] 4 fun K hK => ?_; simp; refine hK _ _ ?_; clear hK K
        refine Chain.sub (S' := mk 84 [] [(0, .d (.sl (a0.map (cI .i64)))), (1, .d (.lit (.bool true))), (5, .ref 80 0 l356.length), (6, .d (.lit (.int .i64 v357))), (7, .ref 46 0 l1279.length), (8, .ref 50 0 l1280.length), (54, .ref 50 0 l1280.length), (55, .d (.lit (.int .i64 (l1280.length : Int)))), (56, .d (.lit (.bool (decide ((l1280.length : Int) > 1))))), (57, .d (.lit (.bool (decide ((l1280.length : Int) > 1)))))] [(46, some (.arr 3 1 (l1279.map (cI .i64)))), (50, some (.arr 3 1 (l1280.map (cI .i64)))), (80, some (.arr 28 2 (l356.map cS28)))]) Sub.tt ?_
        cases h
        exact Chain.nil Sub.tt
       ·have c1294_ : v355 = false := Bool.eq_false_iff.2 c1294
        refine Chain.sub (Sub.bool 1 (b := v355) rfl c1294_) ?_
        refine Chain.sub (Sub.bool 53 (b := v355) rfl c1294_) ?_
        refine Chain.sub (S' := mk 84 [] [(0, .d (.sl (a0.map (cI .i64)))), (1, .d (.lit (.bool false))), (5, .ref 80 0 l356.length), (6, .d (.lit (.int .i64 v357))), (7, .ref 46 0 l1279.length), (8, .ref 50 0 l1280.length), (53, .d (.lit (.bool false)))] [(46, some (.arr 3 1 (l1279.map (cI .i64)))), (50, some (.arr 3 1 (l1280.map (cI .i64)))), (80, some (.arr 28 2 (l356.map cS28)))]) (by simp; exact Sub.table (by simp) (by simp)) ?_
        refine Chain.runK [] 4 fun K hK => ?_; simp; refine hK _ _ ?_; clear hK K
        refine Chain.sub (S' := mk 84 [] [(0, .d (.sl (a0.map (cI .i64)))), (1, .d (.lit (.bool false))), (5, .ref 80 0 l356.length), (6, .d (.lit (.int .i64 v357))), (7, .ref 46 0 l1279.length), (8, .ref 50 0 l1280.length), (54, .tup []), (55, .tup []), (56, .tup []), (57, .d (.lit (.bool false)))] [(46, some (.arr 3 1 (l1279.map (cI .i64)))), (50, some (.arr 3 1 (l1280.map (cI .i64)))), (80, some (.arr 28 2 (l356.map cS28)))]) Sub.tt ?_
        cases h
        exact Chain.nil Sub.tt
      ·clear hj
       replace h := isome h; rcases h with ⟨c1295, h⟩ | ⟨c1295, h⟩
       ·have c1295_ : v1293 = true := c1295
        refine AW.condT (b := v1293) rfl c1295_ ?_
        refine AW.sub (Sub.bool 57 (b := v1293) rfl c1295_) ?_
        refine AW.sub (S' := mk 84 [] [(0, .d (.sl (a0.map (cI .i64)))), (1, .d (.lit (.bool v1292))), (5, .ref 80 0 l356.length), (6, .d (.lit (.int .i64 v357))), (7, .ref 46 0 l1279.length), (8, .ref 50 0 l1280.length), (57, .d (.lit (.bool true)))] [(46, some (.arr 3 1 (l1279.map (cI .i64)))), (50, some (.arr 3 1 (l1280.map (cI .i64)))), (80, some (.arr 28 2 (l356.map cS28)))]) (by simp; exact Sub.table (by simp) (by simp)) ?_
        refine AW.exit ?_
        cases h
        refine thenQ_pass (by simp) ?_
        refine blockQ.hit ?_
        refine PostN.next ?_
        exact Sub.tt
       ·have c1295_ : v1293 = false := Bool.eq_false_iff.2 c1295
        refine AW.condF (b := v1293) rfl c1295_ ?_
        refine AW.sub (Sub.bool 57 (b := v1293) rfl c1295_) ?_
        refine AW.sub (S' := mk 84 [] [(0, .d (.sl (a0.map (cI .i64)))), (1, .d (.lit (.bool v1292))), (5, .ref 80 0 l356.length), (6, .d (.lit (.int .i64 v357))), (7, .ref 46 0 l1279.length), (8, .ref 50 0 l1280.length), (57, .d (.lit (.bool false)))] [(46, some (.arr 3 1 (l1279.map (cI .i64)))), (50, some (.arr 3 1 (l1280.map (cI .i64)))), (80, some (.arr 28 2 (l356.map cS28)))]) (by simp; exact Sub.table (by simp) (by simp)) ?_
        refine AW.skip ?_
        refine thenQ_normal ?_
        refine AW.seqR ?_
        refine Chain.runK [] 2 fun K hK => ?_; simp; refine hK _ _ ?_; clear hK K
        refine Chain.sub (S' := mk 84 [] [(0, .d (.sl (a0.map (cI .i64)))), (1, .d (.lit (.bool v1292))), (5, .ref 80 0 l356.length), (6, .d (.lit (.int .i64 v357))), (8, .ref 50 0 l1280.length), (58, .ref 46 0 l1279.length), (59, .d (.lit (.bool v1292)))] [(46, some (.arr 3 1 (l1279.map (cI .i64)))), (50, some (.arr 3 1 (l1280.map (cI .i64)))), (80, some (.arr 28 2 (l356.map cS28)))]) Sub.tt ?_
        refine Chain.sub (Sub.freeze 46 rfl) ?_
        refine Chain.sub (S' := mk 84 [] [(0, .d (.sl (a0.map (cI .i64)))), (1, .d (.lit (.bool v1292))), (5, .ref 80 0 l356.length), (6, .d (.lit (.int .i64 v357))), (8, .ref 50 0 l1280.length), (58, .d (.sl (l1279.map (cI .i64)))), (59, .d (.lit (.bool v1292)))] [(50, some (.arr 3 1 (l1280.map (cI .i64)))), (80, some (.arr 28 2 (l356.map cS28)))]) (by simp; exact Sub.table (by simp) (by simp)) ?_
        replace h := bsome h; obtain ⟨r1296, hr1296, h⟩ := h
        refine Chain.callC (d := 60) (ih l1279 v1292 r1296 hr1296) (by simp) rfl rfl (by simp <;> rfl) (by simp <;> rfl) ent19 (by simp) (.inl ⟨by simp, by simp⟩) ?_
        refine Chain.sub (S' := mk 84 [] [(0, .d (.sl (a0.map (cI .i64)))), (1, .d (.lit (.bool v1292))), (5, .ref 80 0 l356.length), (6, .d (.lit (.int .i64 v357))), (8, .ref 50 0 l1280.length), (58, .d (.sl (l1279.map (cI .i64)))), (59, .d (.lit (.bool v1292))), (60, .d (.sl (r1296.map cS28)))] [(50, some (.arr 3 1 (l1280.map (cI .i64)))), (80, some (.arr 28 2 (l356.map cS28)))]) (by simp; exact Sub.table (by simp) (by simp)) ?_
        refine Chain.runK [] 2 fun K hK => ?_; simp; refine hK _ _ ?_; clear hK K
        refine Chain.sub (S' := mk 84 [] [(0, .d (.sl (a0.map (cI .i64)))), (1, .d (.lit (.bool v1292))), (5, .ref 80 0 l356.length), (6, .d (.lit (.int .i64 v357))), (8, .ref 50 0 l1280.length), (60, .d (.sl (r1296.map cS28))), (61, .d (.lit (.int .i64 (r1296.length : Int)))), (62, .d (.lit (.int .i64 0)))] [(50, some (.arr 3 1 (l1280.map (cI .i64)))), (80, some (.arr 28 2 (l356.map cS28)))]) Sub.tt ?_
        refine Chain.nil ?_
        refine AW.lastN (fun (l1387 : List S28) => mk 84 [] [(0, .d (.sl (a0.map (cI .i64)))), (1, .d (.lit (.bool v1292))), (5, .ref 80 0 l1387.length), (6, .d (.lit (.int .i64 v357)))] [(80, some (.arr 28 2 (l1387.map cS28)))]) h ?_ ?_ <;> clear h
        ·intro o h
         refine AW.block ?_
         refine AW.iter (fun ((l1325, v1326) : ((List S28) × Int)) => mk 84 [] [(0, .d (.sl (a0.map (cI .i64)))), (1, .d (.lit (.bool v1292))), (5, .ref 80 0 l1325.length), (6, .d (.lit (.int .i64 v357))), (8, .d (.sl (l1280.map (cI .i64)))), (60, .d (.sl (r1296.map cS28))), (61, .d (.lit (.int .i64 (r1296.length : Int)))), (62, .d (.lit (.int .i64 v1326)))] [(80, some (.arr 28 2 (l1325.map cS28)))]) h (Sub.trans (Sub.freeze 50 rfl) (by simp; exact Sub.table (by simp) (by simp))) ?_
         clear h
         rintro ⟨l1325, v1326⟩ x h
         dsimp only at h ⊢
         refine AW.seqR ?_
         refine Chain.runK [] 1 fun K hK => ?_; simp; refine hK _ _ ?_; clear hK K
         refine Chain.sub (S' := mk 84 [] [(0, .d (.sl (a0.map (cI .i64)))), (1, .d (.lit (.bool v1292))), (5, .ref 80 0 l1325.length), (6, .d (.lit (.int .i64 v357))), (8, .d (.sl (l1280.map (cI .i64)))), (60, .d (.sl (r1296.map cS28))), (61, .d (.lit (.int .i64 (r1296.length : Int)))), (62, .d (.lit (.int .i64 v1326))), (63, .d (.lit (.bool (decide (v1326 < (r1296.length : Int))))))] [(80, some (.arr 28 2 (l1325.map cS28)))]) Sub.tt ?_
         refine Chain.nil ?_
         refine AW.seq ?_
         replace h := isome h; rcases h with ⟨c1388, h⟩ | ⟨c1388, h⟩
         ·have c1388_ : decide (v1326 < (r1296.length : Int)) = true := decide_eq_true c1388
          refine AW.condT (b := decide (v1326 < (r1296.length : Int))) rfl c1388_ ?_
          refine AW.sub (Sub.bool 63 (b := decide (v1326 < (r1296.length : Int))) rfl c1388_) ?_
          refine AW.sub (S' := mk 84 [] [(0, .d (.sl (a0.map (cI .i64)))), (1, .d (.lit (.bool v1292))), (5, .ref 80 0 l1325.length), (6, .d (.lit (.int .i64 v357))), (8, .d (.sl (l1280.map (cI .i64)))), (60, .d (.sl (r1296.map cS28))), (61, .d (.lit (.int .i64 (r1296.length : Int)))), (62, .d (.lit (.int .i64 v1326))), (63, .d (.lit (.bool true)))] [(80, some (.arr 28 2 (l1325.map cS28)))]) (by simp; exact Sub.table (by simp) (by simp)) ?_
          refine AW.skip ?_
          refine thenQ_normal ?_
          refine AW.seq ?_
          refine AW.block ?_
          refine AW.seqR ?_
          replace h := bsome h; obtain ⟨x1389, hx1389, h⟩ := h
          obtain ⟨k1390, hx1389k, hx1389, hx1389a, hx1389b⟩ := idx_some hx1389
          refine Chain.runK [] 4 fun K hK => ?_; simp [hx1389, hx1389k, hx1389a]; refine hK _ _ ?_; clear hK K
          refine Chain.sub (S' := mk 84 [] [(0, .d (.sl (a0.map (cI .i64)))), (1, .d (.lit (.bool v1292))), (5, .ref 80 0 l1325.length), (6, .d (.lit (.int .i64 v357))), (8, .d (.sl (l1280.map (cI .i64)))), (12, .ptr 12 0 0), (60, .d (.sl (r1296.map cS28))), (61, .d (.lit (.int .i64 (r1296.length : Int)))), (62, .d (.lit (.int .i64 v1326)))] [(12, some (.box [.d (.lit (.int .i64 x1389.Leaf)), .d (.sl (x1389.Children.map cS28))])), (80, some (.arr 28 2 (l1325.map cS28)))]) Sub.tt ?_
          refine Chain.nil ?_
          refine AW.seqR ?_
          refine Chain.runK [] 2 fun K hK => ?_; simp; refine hK _ _ ?_; clear hK K
          refine Chain.sub (S' := mk 84 [] [(0, .d (.sl (a0.map (cI .i64)))), (1, .d (.lit (.bool v1292))), (5, .ref 80 0 l1325.length), (6, .d (.lit (.int .i64 v357))), (8, .d (.sl (l1280.map (cI .i64)))), (12, .ptr 12 0 0), (60, .d (.sl (r1296.map cS28))), (61, .d (.lit (.int .i64 (r1296.length : Int)))), (62, .d (.lit (.int .i64 v1326))), (66, .d (.sl (l1280.map (cI .i64)))), (67, .d (.lit (.bool v1292)))] [(12, some (.box [.d (.lit (.int .i64 x1389.Leaf)), .d (.sl (x1389.Children.map cS28))])), (80, some (.arr 28 2 (l1325.map cS28)))]) Sub.tt ?_
          replace h := bsome h; obtain ⟨r1391, hr1391, h⟩ := h
          refine Chain.callC (d := 68) (ih l1280 v1292 r1391 hr1391) (by simp) rfl rfl (by simp <;> rfl) (by simp <;> rfl) ent19 (by simp) (.inl ⟨by simp, by simp⟩) ?_
          refine Chain.sub (S' := mk 84 [] [(0, .d (.sl (a0.map (cI .i64)))), (1, .d (.lit (.bool v1292))), (5, .ref 80 0 l1325.length), (6, .d (.lit (.int .i64 v357))), (8, .d (.sl (l1280.map (cI .i64)))), (12, .ptr 12 0 0), (60, .d (.sl (r1296.map cS28))), (61, .d (.lit (.int .i64 (r1296.length : Int)))), (62, .d (.lit (.int .i64 v1326))), (66, .d (.sl (l1280.map (cI .i64)))), (67, .d (.lit (.bool v1292))), (68, .d (.sl (r1391.map cS28)))] [(12, some (.box [.d (.lit (.int .i64 x1389.Leaf)), .d (.sl (x1389.Children.map cS28))])), (80, some (.arr 28 2 (l1325.map cS28)))]) (by simp; exact Sub.table (by simp) (by simp)) ?_
          refine Chain.runK [] 2 fun K hK => ?_; simp; refine hK _ _ ?_; clear hK K
          refine Chain.sub (S' := mk 84 [] [(0, .d (.sl (a0.map (cI .i64)))), (1, .d (.lit (.bool v1292))), (5, .ref 80 0 l1325.length), (6, .d (.lit (.int .i64 v357))), (8, .d (.sl (l1280.map (cI .i64)))), (12, .ptr 12 0 0), (60, .d (.sl (r1296.map cS28))), (61, .d (.lit (.int .i64 (r1296.length : Int)))), (62, .d (.lit (.int .i64 v1326))), (68, .d (.sl (r1391.map cS28))), (69, .d (.lit (.int .i64 (r1391.length : Int)))), (70, .d (.lit (.int .i64 0)))] [(12, some (.box [.d (.lit (.int .i64 x1389.Leaf)), .d (.sl (x1389.Children.map cS28))])), (80, some (.arr 28 2 (l1325.map cS28)))]) Sub.tt ?_
          refine Chain.nil ?_
          refine AW.lastN (fun (l1410 : List S28) => mk 84 [] [(0, .d (.sl (a0.map (cI .i64)))), (1, .d (.lit (.bool v1292))), (5, .ref 80 0 l1410.length), (6, .d (.lit (.int .i64 v357))), (8, .d (.sl (l1280.map (cI .i64)))), (60, .d (.sl (r1296.map cS28))), (61, .d (.lit (.int .i64 (r1296.length : Int)))), (62, .d (.lit (.int .i64 v1326)))] [(80, some (.arr 28 2 (l1410.map cS28)))]) h ?_ ?_ <;> clear h
          ·intro o h
           refine AW.block ?_
           refine AW.iter (fun ((l1396, v1397) : ((List S28) × Int)) => mk 84 [] [(0, .d (.sl (a0.map (cI .i64)))), (1, .d (.lit (.bool v1292))), (5, .ref 80 0 l1396.length), (6, .d (.lit (.int .i64 v357))), (8, .d (.sl (l1280.map (cI .i64)))), (12, .ptr 12 0 0), (60, .d (.sl (r1296.map cS28))), (61, .d (.lit (.int .i64 (r1296.length : Int)))), (62, .d (.lit (.int .i64 v1326))), (68, .d (.sl (r1391.map cS28))), (69, .d (.lit (.int .i64 (r1391.length : Int)))), (70, .d (.lit (.int .i64 v1397)))] [(12, some (.box [.d (.lit (.int .i64 x1389.Leaf)), .d (.sl (x1389.Children.map cS28))])), (80, some (.arr 28 2 (l1396.map cS28)))]) h Sub.tt ?_
           clear h
           rintro ⟨l1396, v1397⟩ x h
           dsimp only at h ⊢
           refine AW.seqR ?_
           refine Chain.runK [] 1 fun K hK => ?_; simp; refine hK _ _ ?_; clear hK K
           refine Chain.sub (S' := mk 84 [] [(0, .d (.sl (a0.map (cI .i64)))), (1, .d (.lit (.bool v1292))), (5, .ref 80 0 l1396.length), (6, .d (.lit (.int .i64 v357))), (8, .d (.sl (l1280.map (cI .i64)))), (12, .ptr 12 0 0), (60, .d (.sl (r1296.map cS28))), (61, .d (.lit (.int .i64 (r1296.length : Int)))), (62, .d (.lit (.int .i64 v1326))), (68, .d (.sl (r1391.map cS28))), (69, .d (.lit (.int .i64 (r1391.length : Int)))), (70, .d (.lit (.int .i64 v1397))), (71, .d (.lit (.bool (decide (v1397 < (r1391.length : Int))))))] [(12, some (.box [.d (.lit (.int .i64 x1389.Leaf)), .d (.sl (x1389.Children.map cS28))])), (80, some (.arr 28 2 (l1396.map cS28)))]) Sub.tt ?_
           refine Chain.nil ?_
           refine AW.seq ?_
           replace h := isome h; rcases h with ⟨c1411, h⟩ | ⟨c1411, h⟩
           ·have c1411_ : decide (v1397 < (r1391.length : Int)) = true := decide_eq_true c1411
            refine AW.condT (b := decide (v1397 < (r1391.length : Int))) rfl c1411_ ?_
            refine AW.sub (Sub.bool 71 (b := decide (v1397 < (r1391.length : Int))) rfl c1411_) ?_
            refine AW.sub (S' := mk 84 [] [(0, .d (.sl (a0.map (cI .i64)))), (1, .d (.lit (.bool v1292))), (5, .ref 80 0 l1396.length), (6, .d (.lit (.int .i64 v357))), (8, .d (.sl (l1280.map (cI .i64)))), (12, .ptr 12 0 0), (60, .d (.sl (r1296.map cS28))), (61, .d (.lit (.int .i64 (r1296.length : Int)))), (62, .d (.lit (.int .i64 v1326))), (68, .d (.sl (r1391.map cS28))), (69, .d (.lit (.int .i64 (r1391.length : Int)))), (70, .d (.lit (.int .i64 v1397))), (71, .d (.lit (.bool true)))] [(12, some (.box [.d (.lit (.int .i64 x1389.Leaf)), .d (.sl (x1389.Children.map cS28))])), (80, some (.arr 28 2 (l1396.map cS28)))]) (by simp; exact Sub.table (by simp) (by simp)) ?_
            refine AW.skip ?_
            refine thenQ_normal ?_
            refine AW.seq ?_
            refine AW.block ?_
            refine AW.seqR ?_
            replace h := bsome h; obtain ⟨x1412, hx1412, h⟩ := h
            obtain ⟨k1413, hx1412k, hx1412, hx1412a, hx1412b⟩ := idx_some hx1412
            refine Chain.runK [] 4 fun K hK => ?_; simp [hx1412, hx1412k, hx1412a]; refine hK _ _ ?_; clear hK K
            refine Chain.sub (S' := mk 84 [] [(0, .d (.sl (a0.map (cI .i64)))), (1, .d (.lit (.bool v1292))), (5, .ref 80 0 l1396.length), (6, .d (.lit (.int .i64 v357))), (8, .d (.sl (l1280.map (cI .i64)))), (12, .ptr 12 0 0), (14, .ptr 14 0 0), (60, .d (.sl (r1296.map cS28))), (61, .d (.lit (.int .i64 (r1296.length : Int)))), (62, .d (.lit (.int .i64 v1326))), (68, .d (.sl (r1391.map cS28))), (69, .d (.lit (.int .i64 (r1391.length : Int)))), (70, .d (.lit (.int .i64 v1397)))] [(12, some (.box [.d (.lit (.int .i64 x1389.Leaf)), .d (.sl (x1389.Children.map cS28))])), (14, some (.box [.d (.lit (.int .i64 x1412.Leaf)), .d (.sl (x1412.Children.map cS28))])), (80, some (.arr 28 2 (l1396.map cS28)))]) Sub.tt ?_
            refine Chain.nil ?_
            refine AW.region ?_
            refine Chain.runK [79] 5 fun K hK => ?_; simp; refine hK _ _ ?_; clear hK K
            refine Chain.sub (S' := mk 84 [] [(0, .d (.sl (a0.map (cI .i64)))), (1, .d (.lit (.bool v1292))), (6, .d (.lit (.int .i64 v357))), (8, .d (.sl (l1280.map (cI .i64)))), (12, .ptr 12 0 0), (60, .d (.sl (r1296.map cS28))), (61, .d (.lit (.int .i64 (r1296.length : Int)))), (62, .d (.lit (.int .i64 v1326))), (68, .d (.sl (r1391.map cS28))), (69, .d (.lit (.int .i64 (r1391.length : Int)))), (70, .d (.lit (.int .i64 v1397))), (74, .ref 80 0 l1396.length), (78, .agg [.d (.lit (.int .i64 0)), .ref 77 0 (([x1389, x1412] : List S28).length)])] [(12, some (.box [.d (.lit (.int .i64 x1389.Leaf)), .d (.sl (x1389.Children.map cS28))])), (77, some (.arr 28 2 (([x1389, x1412] : List S28).map cS28))), (80, some (.arr 28 2 (l1396.map cS28)))]) Sub.tt ?_
            refine Chain.sub (Sub.freeze 77 rfl) ?_
            refine Chain.sub (S' := mk 84 [] [(0, .d (.sl (a0.map (cI .i64)))), (1, .d (.lit (.bool v1292))), (6, .d (.lit (.int .i64 v357))), (8, .d (.sl (l1280.map (cI .i64)))), (12, .ptr 12 0 0), (60, .d (.sl (r1296.map cS28))), (61, .d (.lit (.int .i64 (r1296.length : Int)))), (62, .d (.lit (.int .i64 v1326))), (68, .d (.sl (r1391.map cS28))), (69, .d (.lit (.int .i64 (r1391.length : Int)))), (70, .d (.lit (.int .i64 v1397))), (74, .ref 80 0 l1396.length), (78, .agg [.d (.lit (.int .i64 0)), .d (.sl (([x1389, x1412] : List S28).map cS28))])] [(12, some (.box [.d (.lit (.int .i64 x1389.Leaf)), .d (.sl (x1389.Children.map cS28))])), (80, some (.arr 28 2 (l1396.map cS28)))]) (by simp; exact Sub.table (by simp) (by simp)) ?_
            replace h := bsome h; obtain ⟨l1414, hl1414, h⟩ := h
            obtain ⟨hl1414a, hl1414⟩ := appL_some hl1414
            subst hl1414
            try simp only [List.length_cons, List.length_nil, Nat.zero_add] at hl1414a
            refine Chain.runK [79] 3 fun K hK => ?_; simp [hl1414a]; refine hK _ _ ?_; clear hK K
            refine Chain.sub (S' := mk 84 [] [(0, .d (.sl (a0.map (cI .i64)))), (1, .d (.lit (.bool v1292))), (5, .ref 80 0 ((l1396 ++ [(S28.mk 0 ([x1389, x1412] : List S28))]).length)), (6, .d (.lit (.int .i64 v357))), (8, .d (.sl (l1280.map (cI .i64)))), (12, .ptr 12 0 0), (60, .d (.sl (r1296.map cS28))), (61, .d (.lit (.int .i64 (r1296.length : Int)))), (62, .d (.lit (.int .i64 v1326))), (68, .d (.sl (r1391.map cS28))), (69, .d (.lit (.int .i64 (r1391.length : Int)))), (70, .d (.lit (.int .i64 v1397)))] [(12, some (.box [.d (.lit (.int .i64 x1389.Leaf)), .d (.sl (x1389.Children.map cS28))])), (80, some (.arr 28 2 ((l1396 ++ [(S28.mk 0 ([x1389, x1412] : List S28))]).map cS28)))]) Sub.tt ?_
            refine Chain.nil ?_
            refine blockQ.normal ?_
            refine thenQ_normal ?_
            refine AW.region ?_
            replace h := bsome h; obtain ⟨v1415, hv1415, h⟩ := h
            have hv1415 := chkI_some hv1415
            refine Chain.runK [] 2 fun K hK => ?_; simp [hv1415]; refine hK _ _ ?_; clear hK K
            refine Chain.sub (S' := mk 84 [] [(0, .d (.sl (a0.map (cI .i64)))), (1, .d (.lit (.bool v1292))), (5, .ref 80 0 ((l1396 ++ [(S28.mk 0 ([x1389, x1412] : List S28))]).length)), (6, .d (.lit (.int .i64 v357))), (8, .d (.sl (l1280.map (cI .i64)))), (12, .ptr 12 0 0), (60, .d (.sl (r1296.map cS28))), (61, .d (.lit (.int .i64 (r1296.length : Int)))), (62, .d (.lit (.int .i64 v1326))), (68, .d (.sl (r1391.map cS28))), (69, .d (.lit (.int .i64 (r1391.length : Int)))), (70, .d (.lit (.int .i64 v1415)))] [(12, some (.box [.d (.lit (.int .i64 x1389.Leaf)), .d (.sl (x1389.Children.map cS28))])), (80, some (.arr 28 2 ((l1396 ++ [(S28.mk 0 ([x1389, x1412] : List S28))]).map cS28)))]) Sub.tt ?_
            refine Chain.nil ?_
            cases h
            refine PostI.next ?_
            exact Sub.tt
           ·have c1411_ : decide (v1397 < (r1391.length : Int)) = false := decide_eq_false c1411
            refine AW.condF (b := decide (v1397 < (r1391.length : Int))) rfl c1411_ ?_
            refine AW.sub (Sub.bool 71 (b := decide (v1397 < (r1391.length : Int))) rfl c1411_) ?_
            refine AW.sub (S' := mk 84 [] [(0, .d (.sl (a0.map (cI .i64)))), (1, .d (.lit (.bool v1292))), (5, .ref 80 0 l1396.length), (6, .d (.lit (.int .i64 v357))), (8, .d (.sl (l1280.map (cI .i64)))), (12, .ptr 12 0 0), (60, .d (.sl (r1296.map cS28))), (61, .d (.lit (.int .i64 (r1296.length : Int)))), (62, .d (.lit (.int .i64 v1326))), (68, .d (.sl (r1391.map cS28))), (69, .d (.lit (.int .i64 (r1391.length : Int)))), (70, .d (.lit (.int .i64 v1397))), (71, .d (.lit (.bool false)))] [(12, some (.box [.d (.lit (.int .i64 x1389.Leaf)), .d (.sl (x1389.Children.map cS28))])), (80, some (.arr 28 2 (l1396.map cS28)))]) (by simp; exact Sub.table (by simp) (by simp)) ?_
            refine AW.exit ?_
            cases h
            refine thenQ_pass (by simp) ?_
            refine PostI.out (by simp) ?_
            rintro rfl
            refine blockQ.hit ?_
            refine PostN.next ?_
            exact Sub.tt
          ·rintro l1410 h
           refine blockQ.normal ?_
           refine thenQ_normal ?_
           refine AW.region ?_
           replace h := bsome h; obtain ⟨v1416, hv1416, h⟩ := h
           have hv1416 := chkI_some hv1416
           refine Chain.runK [] 2 fun K hK => ?_; simp [hv1416]; refine hK _ _ ?_; clear hK K
           refine Chain.sub (S' := mk 84 [] [(0, .d (.sl (a0.map (cI .i64)))), (1, .d (.lit (.bool v1292))), (5, .ref 80 0 l1410.length), (6, .d (.lit (.int .i64 v357))), (8, .d (.sl (l1280.map (cI .i64)))), (60, .d (.sl (r1296.map cS28))), (61, .d (.lit (.int .i64 (r1296.length : Int)))), (62, .d (.lit (.int .i64 v1416)))] [(80, some (.arr 28 2 (l1410.map cS28)))]) Sub.tt ?_
           refine Chain.nil ?_
           cases h
           refine PostI.next ?_
           exact Sub.tt
         ·have c1388_ : decide (v1326 < (r1296.length : Int)) = false := decide_eq_false c1388
          refine AW.condF (b := decide (v1326 < (r1296.length : Int))) rfl c1388_ ?_
          refine AW.sub (Sub.bool 63 (b := decide (v1326 < (r1296.length : Int))) rfl c1388_) ?_
          refine AW.sub (S' := mk 84 [] [(0, .d (.sl (a0.map (cI .i64)))), (1, .d (.lit (.bool v1292))), (5, .ref 80 0 l1325.length), (6, .d (.lit (.int .i64 v357))), (8, .d (.sl (l1280.map (cI .i64)))), (60, .d (.sl (r1296.map cS28))), (61, .d (.lit (.int .i64 (r1296.length : Int)))), (62, .d (.lit (.int .i64 v1326))), (63, .d (.lit (.bool false)))] [(80, some (.arr 28 2 (l1325.map cS28)))]) (by simp; exact Sub.table (by simp) (by simp)) ?_
          refine AW.exit ?_
          cases h
          refine thenQ_pass (by simp) ?_
          refine PostI.out (by simp) ?_
          rintro rfl
          refine blockQ.hit ?_
          refine PostN.next ?_
          exact Sub.tt
        ·rintro l1387 h
         cases h
         refine blockQ.normal ?_
         refine PostN.next ?_
         exact Sub.tt
    ·rintro ⟨v1242, l1243⟩ h
     dsimp only at h ⊢
     refine AW.region ?_
     replace h := bsome h; obtain ⟨v1417, hv1417, h⟩ := h
     have hv1417 := chkI_some hv1417
     refine Chain.runK [] 3 fun K hK => ?_; simp [hv1417]; refine hK _ _ ?_; clear hK K
     refine Chain.sub (S' := mk 84 [] [(0, .d (.sl (a0.map (cI .i64)))), (1, .d (.lit (.bool v1242))), (5, .ref 80 0 l1243.length), (6, .d (.lit (.int .i64 v1417)))] [(80, some (.arr 28 2 (l1243.map cS28)))]) Sub.tt ?_
     refine Chain.nil ?_
     cases h
     refine PostI.next ?_
     exact Sub.tt
   ·have c1068_ : decide (v357 < v1067) = false := decide_eq_false c1068
    refine AW.condF (b := decide (v357 < v1067)) rfl c1068_ ?_
    refine AW.sub (Sub.bool 28 (b := decide (v357 < v1067)) rfl c1068_) ?_
    refine AW.sub (S' := mk 84 [] [(0, .d (.sl (a0.map (cI .i64)))), (1, .d (.lit (.bool v355))), (5, .ref 80 0 l356.length), (6, .d (.lit (.int .i64 v357))), (28, .d (.lit (.bool false)))] [(80, some (.arr 28 2 (l356.map cS28)))]) (by simp; exact Sub.table (by simp) (by simp)) ?_
    refine AW.exit ?_
    cases h
    refine thenQ_pass (by simp) ?_
    refine PostI.out (by simp) ?_
    rintro rfl
    refine blockQ.hit ?_
    refine PostN.next ?_
    exact Sub.tt
  ·rintro l1065 h
   refine thenQ_normal ?_
   refine AW.seqR ?_
   refine Chain.runK [] 2 fun K hK => ?_; simp; refine hK _ _ ?_; clear hK K
   refine Chain.sub (S' := mk 84 [] [(4, .ref 80 0 l1065.length)] [(80, some (.arr 28 2 (l1065.map cS28)))]) Sub.tt ?_
   refine Chain.nil ?_
   refine AW.sub (Sub.freeze 80 rfl) ?_
   refine AW.sub (S' := mk 84 [] [(4, .d (.sl (l1065.map cS28)))] []) (by simp; exact Sub.table (by simp) (by simp)) ?_
   refine AW.ret ?_
   cases h
   exact FinC.ret (by simp) (by simp)

/-- stemma/stemlaw3.JoinOrderCheapestIsOptimal$1 -/
def d20 (N : Nat) (a0 : S28) (a1 : S25) (a2 : Int) : Option Bool :=
 (d16 N a1 a0).bind fun r1 =>
 some (decide (r1 < a2))
set_option maxRecDepth 100000 in
set_option maxHeartbeats 4000000 in
theorem p20 (N : Nat) (a0 : S28) (a1 : S25) (a2 : Int) (r : Bool) (h : d20 N a0 a1 a2 = some r) : FunC Tryz.prog 20 [.agg [.d (.lit (.int .i64 a0.Leaf)), .d (.sl (a0.Children.map cS28))], .d (.pim [.sl (a1.Sizes.map (cI .i64)), .sl (a1.Selectivities.map cS115)]), .d (.pim [.lit (.int .i64 a2)])] (.d (.lit (.bool r))) := by
 unfold d20 at h
 refine FunC.enter 10 [(0, .agg [.d (.lit (.int .i64 a0.Leaf)), .d (.sl (a0.Children.map cS28))]), (1, .d (.pim [.sl (a1.Sizes.map (cI .i64)), .sl (a1.Selectivities.map cS115)])), (2, .d (.pim [.lit (.int .i64 a2)]))] (by simp) Tryz.func20 rfl (of_decide_eq_true rfl) rfl rfl ?_
 refine AW.seqR ?_
 refine Chain.runK [] 2 fun K hK => ?_; simp; refine hK _ _ ?_; clear hK K
 refine Chain.sub (S' := mk 10 [] [(1, .d (.pim [.sl (a1.Sizes.map (cI .i64)), .sl (a1.Selectivities.map cS115)])), (2, .d (.pim [.lit (.int .i64 a2)])), (3, .ptr 3 0 0)] [(3, some (.box [.d (.lit (.int .i64 a0.Leaf)), .d (.sl (a0.Children.map cS28))]))]) Sub.tt ?_
 refine Chain.nil ?_
 refine AW.seqQ (by kernel_rfl) (by kernel_rfl) ?_
 refine Chain.runQ 2 fun K hK => ?_; simp; refine hK _ _ ?_; clear hK K
 refine Chain.sub (S' := mk 10 [] [(2, .d (.pim [.lit (.int .i64 a2)])), (5, .agg [.d (.sl (a1.Sizes.map (cI .i64))), .d (.sl (a1.Selectivities.map cS115))]), (6, .agg [.d (.lit (.int .i64 a0.Leaf)), .d (.sl (a0.Children.map cS28))])] []) Sub.tt ?_
 replace h := bsome h; obtain ⟨r1, hr1, h⟩ := h
 refine Chain.callL (d := 7) (p16 N a1 a0 r1 hr1) (by simp) rfl rfl (by simp <;> rfl) (by simp <;> rfl) ent16 (by simp <;> rfl) ?_
 refine Chain.sub (S' := mk 10 [] [(2, .d (.pim [.lit (.int .i64 a2)])), (5, .agg [.d (.sl (a1.Sizes.map (cI .i64))), .d (.sl (a1.Selectivities.map cS115))]), (6, .agg [.d (.lit (.int .i64 a0.Leaf)), .d (.sl (a0.Children.map cS28))]), (7, .d (.lit (.int .i64 r1)))] []) (by simp; exact Sub.table (by simp) (by simp)) ?_
 refine Chain.runQ 3 fun K hK => ?_; simp; refine hK _ _ ?_; clear hK K
 refine Chain.sub (S' := mk 10 [] [(4, .d (.lit (.bool (decide (r1 < a2)))))] []) Sub.tt ?_
 refine Chain.nil ?_
 refine AW.ret ?_
 cases h
 exact FinC.ret (by simp) (by simp)

/-- slices.IndexFunc[[]stemma/joinorder.Tree,stemma/joinorder.Tree] -/
def d55 (N : Nat) (a0 : (List S28)) (p1 : S28 → Option Bool) : Option Int :=
 bindO (β := Unit) (ρ := Int) (
  iterN (σ := Int) (ρ := (Out Unit Int)) (fun (v6 : Int) =>
   if v6 < (a0.length : Int) then (
    (idx a0 v6).bind fun x21 =>
    (p1 x21).bind fun r23 =>
    if r23 = true then (
     some (.inr (.ret v6))
    ) else
    (chkI (v6 + 1)).bind fun v25 =>
    some (.inl v25)
   ) else
   some (.inr (.go ()))
  ) N 0
 ) fun (_ : Unit) =>
 some (-1)
set_option maxRecDepth 100000 in
set_option maxHeartbeats 4000000 in
theorem p55 (N : Nat) (a0 : (List S28)) (g1 : Nat) (cs1 : List D) (p1 : S28 → Option Bool) (ent_1 : Rp.Enters Tryz.prog g1) (hp1 : ∀ a0 r, p1 a0 = some r → FunC Tryz.prog g1 ([.agg [.d (.lit (.int .i64 a0.Leaf)), .d (.sl (a0.Children.map cS28))]] ++ cs1.map .d) (.d (.lit (.bool r)))) (r : Int) (h : d55 N a0 p1 = some r) : FunC Tryz.prog 55 [.d (.sl (a0.map cS28)), .fn (.func g1) (cs1.map .d)] (.d (.lit (.int .i64 r))) := by
 unfold d55 at h
 refine FunC.enter 19 [(0, .d (.sl (a0.map cS28))), (1, .fn (.func g1) (cs1.map .d))] (by simp) Tryz.func55 rfl (of_decide_eq_true rfl) rfl rfl ?_
 refine AW.seqR ?_
 refine Chain.runK [] 1 fun K hK => ?_; simp; refine hK _ _ ?_; clear hK K
 refine Chain.sub (S' := mk 19 [] [(0, .d (.sl (a0.map cS28))), (1, .fn (.func g1) (cs1.map .d))] []) Sub.tt ?_
 refine Chain.nil ?_
 refine AW.seq ?_
 refine AW.seqR ?_
 refine Chain.runK [] 3 fun K hK => ?_; simp; refine hK _ _ ?_; clear hK K
 refine Chain.sub (S' := mk 19 [] [(0, .d (.sl (a0.map cS28))), (1, .fn (.func g1) (cs1.map .d)), (7, .d (.lit (.int .i64 (a0.length : Int)))), (8, .d (.lit (.int .i64 0)))] []) Sub.tt ?_
 refine Chain.nil ?_
 refine AW.lastJ (fun (_ : Unit) => mk 19 [] [] []) h ?_ ?_ <;> clear h
 ·intro o h
  refine AW.block ?_
  refine AW.iter (fun (v6 : Int) => mk 19 [] [(0, .d (.sl (a0.map cS28))), (1, .fn (.func g1) (cs1.map .d)), (7, .d (.lit (.int .i64 (a0.length : Int)))), (8, .d (.lit (.int .i64 v6)))] []) h Sub.tt ?_
  clear h
  rintro v6 x h
  refine AW.seqR ?_
  refine Chain.runK [] 1 fun K hK => ?_; simp; refine hK _ _ ?_; clear hK K
  refine Chain.sub (S' := mk 19 [] [(0, .d (.sl (a0.map cS28))), (1, .fn (.func g1) (cs1.map .d)), (7, .d (.lit (.int .i64 (a0.length : Int)))), (8, .d (.lit (.int .i64 v6))), (9, .d (.lit (.bool (decide (v6 < (a0.length : Int))))))] []) Sub.tt ?_
  refine Chain.nil ?_
  refine AW.seq ?_
  replace h := isome h; rcases h with ⟨c20, h⟩ | ⟨c20, h⟩
  ·have c20_ : decide (v6 < (a0.length : Int)) = true := decide_eq_true c20
   refine AW.condT (b := decide (v6 < (a0.length : Int))) rfl c20_ ?_
   refine AW.sub (Sub.bool 9 (b := decide (v6 < (a0.length : Int))) rfl c20_) ?_
   refine AW.sub (S' := mk 19 [] [(0, .d (.sl (a0.map cS28))), (1, .fn (.func g1) (cs1.map .d)), (7, .d (.lit (.int .i64 (a0.length : Int)))), (8, .d (.lit (.int .i64 v6))), (9, .d (.lit (.bool true)))] []) (by simp; exact Sub.table (by simp) (by simp)) ?_
   refine AW.skip ?_
   refine thenQ_normal ?_
   refine AW.seq ?_
   refine AW.block ?_
   refine AW.seqR ?_
   refine Chain.runK [] 2 fun K hK => ?_; simp; refine hK _ _ ?_; clear hK K
   refine Chain.sub (S' := mk 19 [] [(0, .d (.sl (a0.map cS28))), (1, .fn (.func g1) (cs1.map .d)), (5, .d (.lit (.int .i64 v6))), (7, .d (.lit (.int .i64 (a0.length : Int)))), (8, .d (.lit (.int .i64 v6)))] []) Sub.tt ?_
   refine Chain.nil ?_
   refine AW.seqR ?_
   replace h := bsome h; obtain ⟨x21, hx21, h⟩ := h
   obtain ⟨k22, hx21k, hx21, hx21a, hx21b⟩ := idx_some hx21
   refine Chain.runK [] 5 fun K hK => ?_; simp [hx21, hx21k, hx21a]; refine hK _ _ ?_; clear hK K
   refine Chain.sub (S' := mk 19 [] [(0, .d (.sl (a0.map cS28))), (1, .fn (.func g1) (cs1.map .d)), (5, .d (.lit (.int .i64 v6))), (7, .d (.lit (.int .i64 (a0.length : Int)))), (8, .d (.lit (.int .i64 v6))), (11, .fn (.func g1) (cs1.map .d)), (15, .agg [.d (.lit (.int .i64 x21.Leaf)), .d (.sl (x21.Children.map cS28))])] []) Sub.tt ?_
   replace h := bsome h; obtain ⟨r23, hr23, h⟩ := h
   refine Chain.callL (d := 16) (hp1 x21 r23 hr23) (by simp) rfl rfl (by simp <;> rfl) (by simp <;> rfl) ent_1 (by simp <;> rfl) ?_
   refine Chain.sub (S' := mk 19 [] [(0, .d (.sl (a0.map cS28))), (1, .fn (.func g1) (cs1.map .d)), (5, .d (.lit (.int .i64 v6))), (7, .d (.lit (.int .i64 (a0.length : Int)))), (8, .d (.lit (.int .i64 v6))), (11, .fn (.func g1) (cs1.map .d)), (15, .agg [.d (.lit (.int .i64 x21.Leaf)), .d (.sl (x21.Children.map cS28))]), (16, .d (.lit (.bool r23)))] []) (by simp; exact Sub.table (by simp) (by simp)) ?_
   refine Chain.nil ?_
   replace h := isome h; rcases h with ⟨c24, h⟩ | ⟨c24, h⟩
   ·have c24_ : r23 = true := c24
    refine AW.condT (b := r23) rfl c24_ ?_
    refine AW.sub (Sub.bool 16 (b := r23) rfl c24_) ?_
    refine AW.sub (S' := mk 19 [] [(0, .d (.sl (a0.map cS28))), (1, .fn (.func g1) (cs1.map .d)), (5, .d (.lit (.int .i64 v6))), (7, .d (.lit (.int .i64 (a0.length : Int)))), (8, .d (.lit (.int .i64 v6))), (11, .fn (.func g1) (cs1.map .d)), (15, .agg [.d (.lit (.int .i64 x21.Leaf)), .d (.sl (x21.Children.map cS28))]), (16, .d (.lit (.bool true)))] []) (by simp; exact Sub.table (by simp) (by simp)) ?_
    refine AW.seqR ?_
    refine Chain.runK [] 2 fun K hK => ?_; simp; refine hK _ _ ?_; clear hK K
    refine Chain.sub (S' := mk 19 [] [(4, .d (.lit (.int .i64 v6)))] []) Sub.tt ?_
    refine Chain.nil ?_
    refine AW.ret ?_
    cases h
    refine blockQ.ret ?_
    refine thenQ_pass (by simp) ?_
    refine PostI.out (by simp) ?_
    rintro rfl
    refine blockQ.ret ?_
    refine PostJ.out (by simp) ?_
    rintro rfl
    refine thenQ_pass (by simp) ?_
    exact FinC.ret (by simp) (by simp)
   ·have c24_ : r23 = false := Bool.eq_false_iff.2 c24
    refine AW.condF (b := r23) rfl c24_ ?_
    refine AW.sub (Sub.bool 16 (b := r23) rfl c24_) ?_
    refine AW.sub (S' := mk 19 [] [(0, .d (.sl (a0.map cS28))), (1, .fn (.func g1) (cs1.map .d)), (5, .d (.lit (.int .i64 v6))), (7, .d (.lit (.int .i64 (a0.length : Int)))), (8, .d (.lit (.int .i64 v6))), (11, .fn (.func g1) (cs1.map .d)), (15, .agg [.d (.lit (.int .i64 x21.Leaf)), .d (.sl (x21.Children.map cS28))]), (16, .d (.lit (.bool false)))] []) (by simp; exact Sub.table (by simp) (by simp)) ?_
    refine AW.skip ?_
    refine blockQ.normal ?_
    refine thenQ_normal ?_
    refine AW.region ?_
    replace h := bsome h; obtain ⟨v25, hv25, h⟩ := h
    have hv25 := chkI_some hv25
    refine Chain.runK [] 2 fun K hK => ?_; simp [hv25]; refine hK _ _ ?_; clear hK K
    refine Chain.sub (S' := mk 19 [] [(0, .d (.sl (a0.map cS28))), (1, .fn (.func g1) (cs1.map .d)), (7, .d (.lit (.int .i64 (a0.length : Int)))), (8, .d (.lit (.int .i64 v25)))] []) Sub.tt ?_
    refine Chain.nil ?_
    cases h
    refine PostI.next ?_
    exact Sub.tt
  ·have c20_ : decide (v6 < (a0.length : Int)) = false := decide_eq_false c20
   refine AW.condF (b := decide (v6 < (a0.length : Int))) rfl c20_ ?_
   refine AW.sub (Sub.bool 9 (b := decide (v6 < (a0.length : Int))) rfl c20_) ?_
   refine AW.sub (S' := mk 19 [] [(0, .d (.sl (a0.map cS28))), (1, .fn (.func g1) (cs1.map .d)), (7, .d (.lit (.int .i64 (a0.length : Int)))), (8, .d (.lit (.int .i64 v6))), (9, .d (.lit (.bool false)))] []) (by simp; exact Sub.table (by simp) (by simp)) ?_
   refine AW.exit ?_
   cases h
   refine thenQ_pass (by simp) ?_
   refine PostI.out (by simp) ?_
   rintro rfl
   refine blockQ.hit ?_
   refine PostJ.next ?_
   exact Sub.tt
 ·rintro ⟨⟩ h
  refine thenQ_normal ?_
  refine AW.seqR ?_
  refine Chain.runK [] 1 fun K hK => ?_; simp; refine hK _ _ ?_; clear hK K
  refine Chain.sub (S' := mk 19 [] [(4, .d (.lit (.int .i64 (-1))))] []) Sub.tt ?_
  refine Chain.nil ?_
  refine AW.ret ?_
  cases h
  exact FinC.ret (by simp) (by simp)

/-- slices.ContainsFunc[[]stemma/joinorder.Tree,stemma/joinorder.Tree] -/
def d18 (N : Nat) (a0 : (List S28)) (p1 : S28 → Option Bool) : Option Bool :=
 (d55 N a0 p1).bind fun r1 =>
 some (decide (r1 ≥ 0))
set_option maxRecDepth 100000 in
set_option maxHeartbeats 4000000 in
theorem p18 (N : Nat) (a0 : (List S28)) (g1 : Nat) (cs1 : List D) (p1 : S28 → Option Bool) (ent_1 : Rp.Enters Tryz.prog g1) (hp1 : ∀ a0 r, p1 a0 = some r → FunC Tryz.prog g1 ([.agg [.d (.lit (.int .i64 a0.Leaf)), .d (.sl (a0.Children.map cS28))]] ++ cs1.map .d) (.d (.lit (.bool r)))) (r : Bool) (h : d18 N a0 p1 = some r) : FunC Tryz.prog 18 [.d (.sl (a0.map cS28)), .fn (.func g1) (cs1.map .d)] (.d (.lit (.bool r))) := by
 unfold d18 at h
 refine FunC.enter 9 [(0, .d (.sl (a0.map cS28))), (1, .fn (.func g1) (cs1.map .d))] (by simp) Tryz.func18 rfl (of_decide_eq_true rfl) rfl rfl ?_
 refine AW.seqR ?_
 refine Chain.runK [] 1 fun K hK => ?_; simp; refine hK _ _ ?_; clear hK K
 refine Chain.sub (S' := mk 9 [] [(0, .d (.sl (a0.map cS28))), (1, .fn (.func g1) (cs1.map .d))] []) Sub.tt ?_
 refine Chain.nil ?_
 refine AW.seqR ?_
 refine Chain.runK [] 2 fun K hK => ?_; simp; refine hK _ _ ?_; clear hK K
 refine Chain.sub (S' := mk 9 [] [(5, .d (.sl (a0.map cS28))), (6, .fn (.func g1) (cs1.map .d))] []) Sub.tt ?_
 replace h := bsome h; obtain ⟨r1, hr1, h⟩ := h
 refine Chain.callL (d := 7) (p55 N a0 g1 cs1 p1 ent_1 hp1 r1 hr1) (by simp) rfl rfl (by simp <;> rfl) (by simp <;> rfl) ent55 (by simp <;> rfl) ?_
 refine Chain.sub (S' := mk 9 [] [(5, .d (.sl (a0.map cS28))), (6, .fn (.func g1) (cs1.map .d)), (7, .d (.lit (.int .i64 r1)))] []) (by simp; exact Sub.table (by simp) (by simp)) ?_
 refine Chain.runK [] 2 fun K hK => ?_; simp; refine hK _ _ ?_; clear hK K
 refine Chain.sub (S' := mk 9 [] [(4, .d (.lit (.bool (decide (r1 ≥ 0)))))] []) Sub.tt ?_
 refine Chain.nil ?_
 refine AW.ret ?_
 cases h
 exact FinC.ret (by simp) (by simp)

end Go.Proofs.YtimkkjiplioohaaGreatDoor
