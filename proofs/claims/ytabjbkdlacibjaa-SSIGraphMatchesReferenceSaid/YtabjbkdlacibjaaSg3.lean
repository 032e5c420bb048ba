/- Functions of the program as functional programs; the code computes them. -/
import Derived.Test.YtabjbkdlacibjaaSg2
namespace Go.Proofs.Ytabjbkdlacibjaa
open Go.Ab Go.Rp
attribute [-simp] List.all_eq_true Array.all_toList Array.all_eq_true

/-- stemma/ssi.dangerous -/
def d67 (N : Nat) (a0 : (List S105)) (a1 : (List Bool)) (a2 : Int) : Option Bool :=
  (chkI (a2 + 1)).bind fun v1 =>
  bindO (β := Unit) (ρ := Bool) (
    iterN (σ := Int) (ρ := (Out Unit Bool)) (fun (v325 : Int) =>
      if v325 < v1 then (
        (chkI (a2 + 1)).bind fun v990 =>
        Option.bind (α := (Bool × Bool)) (
          iterN (σ := (Bool × Bool × Int)) (ρ := (Bool × Bool)) (fun ((v1055, v1056, v1057) : (Bool × Bool × Int)) =>
            if v1057 < v990 then (
              Option.bind (α := (Bool × Bool)) (
                Option.bind (α := Bool) (
                  if (v1057 == v325) then (
                    some true
                  ) else
                  (idx a1 v1057).bind fun x1282 =>
                  if (!x1282) = true then (
                    some true
                  ) else
                  (idx a1 v325).bind fun x1285 =>
                  some (!x1285)
                ) fun (v1280 : Bool) =>
                if v1280 = true then (
                  some (v1055, v1056)
                ) else
                Option.bind (α := Bool) (
                  if v1055 = true then (
                    some true
                  ) else
                  (idx a0 v1057).bind fun x1296 =>
                  (idx a0 v325).bind fun x1298 =>
                  (d65 N x1296 x1298).bind fun r1300 =>
                  some r1300
                ) fun (v1294 : Bool) =>
                Option.bind (α := Bool) (
                  if v1056 = true then (
                    some true
                  ) else
                  (idx a0 v325).bind fun x1309 =>
                  (idx a0 v1057).bind fun x1311 =>
                  (d65 N x1309 x1311).bind fun r1313 =>
                  some r1313
                ) fun (v1307 : Bool) =>
                some (v1294, v1307)
              ) fun ((v1272, v1273) : (Bool × Bool)) =>
              (chkI (v1057 + 1)).bind fun v1314 =>
              some (.inl (v1272, v1273, v1314))
            ) else
            some (.inr (v1055, v1056))
          ) N (false, false, 0)
        ) fun ((v1229, v1230) : (Bool × Bool)) =>
        Option.bind (α := Bool) (
          if v1229 = true then (
            some v1230
          ) else
          some false
        ) fun (v1316 : Bool) =>
        if v1316 = true then (
          some (.inr (.ret true))
        ) else
        (chkI (v325 + 1)).bind fun v1319 =>
        some (.inl v1319)
      ) else
      some (.inr (.go ()))
    ) N 0
  ) fun (_ : Unit) =>
  some false
set_option maxRecDepth 100000 in
set_option maxHeartbeats 4000000 in
theorem p67 (N : Nat) (a0 : (List S105)) (a1 : (List Bool)) (a2 : Int) (r : Bool) (h : d67 N a0 a1 a2 = some r) : FunC Try.prog 67 [.d (.sl (a0.map cS105)), .d (.sl (a1.map cB)), .d (.lit (.int .i64 a2))] (.d (.lit (.bool r))) := by
  unfold d67 at h
  refine FunC.enter 68 [(0, .d (.sl (a0.map cS105))), (1, .d (.sl (a1.map cB))), (2, .d (.lit (.int .i64 a2)))] (by simp) Try.func67 rfl (of_decide_eq_true rfl) rfl rfl ?_
  refine AW.seqR ?_
  refine Chain.runK [] 1 fun K hK => ?_; simp; refine hK _ _ ?_; clear hK K
  refine Chain.sub (S' := mk 68 [] [(0, .d (.sl (a0.map cS105))), (1, .d (.sl (a1.map cB))), (2, .d (.lit (.int .i64 a2)))] []) (Sub.table (by simp) (by simp)) ?_
  refine Chain.nil ?_
  refine AW.seq ?_
  refine AW.seqR ?_
  replace h := bsome h; obtain ⟨v1, hv1, h⟩ := h
  have hv1 := chkI_some hv1
  refine Chain.runK [] 3 fun K hK => ?_; simp [hv1]; refine hK _ _ ?_; clear hK K
  refine Chain.sub (S' := mk 68 [] [(0, .d (.sl (a0.map cS105))), (1, .d (.sl (a1.map cB))), (2, .d (.lit (.int .i64 a2))), (12, .d (.lit (.int .i64 v1))), (13, .d (.lit (.int .i64 0)))] []) (Sub.table (by simp) (by simp)) ?_
  refine Chain.nil ?_
  refine AW.lastJ (fun (_ : Unit) => mk 68 [] [] []) h ?_ ?_ <;> clear h
  · intro o h
    refine AW.block ?_
    refine AW.iter (fun (v325 : Int) => mk 68 [] [(0, .d (.sl (a0.map cS105))), (1, .d (.sl (a1.map cB))), (2, .d (.lit (.int .i64 a2))), (12, .d (.lit (.int .i64 v1))), (13, .d (.lit (.int .i64 v325)))] []) h (Sub.table (by simp) (by simp)) ?_
    clear h
    rintro v325 x h
    refine AW.seqR ?_
    refine Chain.runK [] 1 fun K hK => ?_; simp; refine hK _ _ ?_; clear hK K
    refine Chain.sub (S' := mk 68 [] [(0, .d (.sl (a0.map cS105))), (1, .d (.sl (a1.map cB))), (2, .d (.lit (.int .i64 a2))), (12, .d (.lit (.int .i64 v1))), (13, .d (.lit (.int .i64 v325))), (14, .d (.lit (.bool (decide (v325 < v1)))))] []) (Sub.table (by simp) (by simp)) ?_
    refine Chain.nil ?_
    refine AW.seq ?_
    replace h := isome h; rcases h with ⟨c989, h⟩ | ⟨c989, h⟩
    · have c989_ : decide (v325 < v1) = true := decide_eq_true c989
      refine AW.condT (b := decide (v325 < v1)) rfl c989_ ?_
      refine AW.sub (Sub.bool 14 (b := decide (v325 < v1)) rfl c989_) ?_
      refine AW.sub (S' := mk 68 [] [(0, .d (.sl (a0.map cS105))), (1, .d (.sl (a1.map cB))), (2, .d (.lit (.int .i64 a2))), (12, .d (.lit (.int .i64 v1))), (13, .d (.lit (.int .i64 v325))), (14, .d (.lit (.bool true)))] []) (by simp; exact Sub.table (by simp) (by simp)) ?_
      refine AW.skip ?_
      refine thenQ_normal ?_
      refine AW.seq ?_
      refine AW.block ?_
      refine AW.seqR ?_
      refine Chain.runK [] 2 fun K hK => ?_; simp; refine hK _ _ ?_; clear hK K
      refine Chain.sub (S' := mk 68 [] [(0, .d (.sl (a0.map cS105))), (1, .d (.sl (a1.map cB))), (2, .d (.lit (.int .i64 a2))), (7, .d (.lit (.int .i64 v325))), (12, .d (.lit (.int .i64 v1))), (13, .d (.lit (.int .i64 v325)))] []) (Sub.table (by simp) (by simp)) ?_
      refine Chain.nil ?_
      refine AW.seqR ?_
      refine Chain.runK [] 2 fun K hK => ?_; simp; refine hK _ _ ?_; clear hK K
      refine Chain.sub (S' := mk 68 [] [(0, .d (.sl (a0.map cS105))), (1, .d (.sl (a1.map cB))), (2, .d (.lit (.int .i64 a2))), (7, .d (.lit (.int .i64 v325))), (8, .d (.lit (.bool false))), (9, .d (.lit (.bool false))), (12, .d (.lit (.int .i64 v1))), (13, .d (.lit (.int .i64 v325)))] []) (Sub.table (by simp) (by simp)) ?_
      refine Chain.nil ?_
      refine AW.seq ?_
      refine AW.seqR ?_
      replace h := bsome h; obtain ⟨v990, hv990, h⟩ := h
      have hv990 := chkI_some hv990
      refine Chain.runK [] 3 fun K hK => ?_; simp [hv990]; refine hK _ _ ?_; clear hK K
      refine Chain.sub (S' := mk 68 [] [(0, .d (.sl (a0.map cS105))), (1, .d (.sl (a1.map cB))), (2, .d (.lit (.int .i64 a2))), (7, .d (.lit (.int .i64 v325))), (8, .d (.lit (.bool false))), (9, .d (.lit (.bool false))), (12, .d (.lit (.int .i64 v1))), (13, .d (.lit (.int .i64 v325))), (17, .d (.lit (.int .i64 v990))), (18, .d (.lit (.int .i64 0)))] []) (Sub.table (by simp) (by simp)) ?_
      refine Chain.nil ?_
      refine AW.lastN (fun ((v1229, v1230) : (Bool × Bool)) => mk 68 [] [(0, .d (.sl (a0.map cS105))), (1, .d (.sl (a1.map cB))), (2, .d (.lit (.int .i64 a2))), (8, .d (.lit (.bool v1229))), (9, .d (.lit (.bool v1230))), (12, .d (.lit (.int .i64 v1))), (13, .d (.lit (.int .i64 v325)))] []) h ?_ ?_ <;> clear h
      · intro o h
        refine AW.block ?_
        refine AW.iter (fun ((v1055, v1056, v1057) : (Bool × Bool × Int)) => mk 68 [] [(0, .d (.sl (a0.map cS105))), (1, .d (.sl (a1.map cB))), (2, .d (.lit (.int .i64 a2))), (7, .d (.lit (.int .i64 v325))), (8, .d (.lit (.bool v1055))), (9, .d (.lit (.bool v1056))), (12, .d (.lit (.int .i64 v1))), (13, .d (.lit (.int .i64 v325))), (17, .d (.lit (.int .i64 v990))), (18, .d (.lit (.int .i64 v1057)))] []) h (Sub.table (by simp) (by simp)) ?_
        clear h
        rintro ⟨v1055, v1056, v1057⟩ x h
        dsimp only at h ⊢
        refine AW.seqR ?_
        refine Chain.runK [] 1 fun K hK => ?_; simp; refine hK _ _ ?_; clear hK K
        refine Chain.sub (S' := mk 68 [] [(0, .d (.sl (a0.map cS105))), (1, .d (.sl (a1.map cB))), (2, .d (.lit (.int .i64 a2))), (7, .d (.lit (.int .i64 v325))), (8, .d (.lit (.bool v1055))), (9, .d (.lit (.bool v1056))), (12, .d (.lit (.int .i64 v1))), (13, .d (.lit (.int .i64 v325))), (17, .d (.lit (.int .i64 v990))), (18, .d (.lit (.int .i64 v1057))), (19, .d (.lit (.bool (decide (v1057 < v990)))))] []) (Sub.table (by simp) (by simp)) ?_
        refine Chain.nil ?_
        refine AW.seq ?_
        replace h := isome h; rcases h with ⟨c1231, h⟩ | ⟨c1231, h⟩
        · have c1231_ : decide (v1057 < v990) = true := decide_eq_true c1231
          refine AW.condT (b := decide (v1057 < v990)) rfl c1231_ ?_
          refine AW.sub (Sub.bool 19 (b := decide (v1057 < v990)) rfl c1231_) ?_
          refine AW.sub (S' := mk 68 [] [(0, .d (.sl (a0.map cS105))), (1, .d (.sl (a1.map cB))), (2, .d (.lit (.int .i64 a2))), (7, .d (.lit (.int .i64 v325))), (8, .d (.lit (.bool v1055))), (9, .d (.lit (.bool v1056))), (12, .d (.lit (.int .i64 v1))), (13, .d (.lit (.int .i64 v325))), (17, .d (.lit (.int .i64 v990))), (18, .d (.lit (.int .i64 v1057))), (19, .d (.lit (.bool true)))] []) (by simp; exact Sub.table (by simp) (by simp)) ?_
          refine AW.skip ?_
          refine thenQ_normal ?_
          refine AW.seqN (fun ((v1272, v1273) : (Bool × Bool)) => mk 68 [] [(0, .d (.sl (a0.map cS105))), (1, .d (.sl (a1.map cB))), (2, .d (.lit (.int .i64 a2))), (7, .d (.lit (.int .i64 v325))), (8, .d (.lit (.bool v1272))), (9, .d (.lit (.bool v1273))), (12, .d (.lit (.int .i64 v1))), (13, .d (.lit (.int .i64 v325))), (17, .d (.lit (.int .i64 v990))), (18, .d (.lit (.int .i64 v1057)))] []) h ?_ ?_ <;> clear h
          · intro o h
            refine AW.block ?_
            refine AW.seqR ?_
            refine Chain.runK [] 2 fun K hK => ?_; simp; refine hK _ _ ?_; clear hK K
            refine Chain.sub (S' := mk 68 [] [(0, .d (.sl (a0.map cS105))), (1, .d (.sl (a1.map cB))), (2, .d (.lit (.int .i64 a2))), (7, .d (.lit (.int .i64 v325))), (8, .d (.lit (.bool v1055))), (9, .d (.lit (.bool v1056))), (10, .d (.lit (.int .i64 v1057))), (12, .d (.lit (.int .i64 v1))), (13, .d (.lit (.int .i64 v325))), (17, .d (.lit (.int .i64 v990))), (18, .d (.lit (.int .i64 v1057)))] []) (Sub.table (by simp) (by simp)) ?_
            refine Chain.nil ?_
            refine AW.seq ?_
            replace h := bsome h; obtain ⟨v1280, hj, h⟩ := h
            refine AW.cutR (mk 68 [] [(0, .d (.sl (a0.map cS105))), (1, .d (.sl (a1.map cB))), (2, .d (.lit (.int .i64 a2))), (7, .d (.lit (.int .i64 v325))), (8, .d (.lit (.bool v1055))), (9, .d (.lit (.bool v1056))), (10, .d (.lit (.int .i64 v1057))), (12, .d (.lit (.int .i64 v1))), (13, .d (.lit (.int .i64 v325))), (17, .d (.lit (.int .i64 v990))), (18, .d (.lit (.int .i64 v1057))), (37, .d (.lit (.bool v1280)))] []) ?_ ?_
            · clear h; have h := hj; clear hj
              refine Chain.runK [] 4 fun K hK => ?_; simp; refine hK _ _ ?_; clear hK K
              refine Chain.sub (S' := mk 68 [] [(0, .d (.sl (a0.map cS105))), (1, .d (.sl (a1.map cB))), (2, .d (.lit (.int .i64 a2))), (7, .d (.lit (.int .i64 v325))), (8, .d (.lit (.bool v1055))), (9, .d (.lit (.bool v1056))), (10, .d (.lit (.int .i64 v1057))), (12, .d (.lit (.int .i64 v1))), (13, .d (.lit (.int .i64 v325))), (17, .d (.lit (.int .i64 v990))), (18, .d (.lit (.int .i64 v1057))), (24, .d (.lit (.bool (v1057 == v325))))] []) (Sub.table (by simp) (by simp)) ?_
              replace h := isome h; rcases h with ⟨c1281, h⟩ | ⟨c1281, h⟩
              · have c1281_ : (v1057 == v325) = true := c1281
                refine Chain.sub (Sub.bool 24 (b := (v1057 == v325)) rfl c1281_) ?_
                refine Chain.sub (S' := mk 68 [] [(0, .d (.sl (a0.map cS105))), (1, .d (.sl (a1.map cB))), (2, .d (.lit (.int .i64 a2))), (7, .d (.lit (.int .i64 v325))), (8, .d (.lit (.bool v1055))), (9, .d (.lit (.bool v1056))), (10, .d (.lit (.int .i64 v1057))), (12, .d (.lit (.int .i64 v1))), (13, .d (.lit (.int .i64 v325))), (17, .d (.lit (.int .i64 v990))), (18, .d (.lit (.int .i64 v1057))), (24, .d (.lit (.bool true)))] []) (by simp; exact Sub.table (by simp) (by simp)) ?_
                refine Chain.runK [] 13 fun K hK => ?_; simp; refine hK _ _ ?_; clear hK K
                refine Chain.sub (S' := mk 68 [] [(0, .d (.sl (a0.map cS105))), (1, .d (.sl (a1.map cB))), (2, .d (.lit (.int .i64 a2))), (7, .d (.lit (.int .i64 v325))), (8, .d (.lit (.bool v1055))), (9, .d (.lit (.bool v1056))), (10, .d (.lit (.int .i64 v1057))), (12, .d (.lit (.int .i64 v1))), (13, .d (.lit (.int .i64 v325))), (17, .d (.lit (.int .i64 v990))), (18, .d (.lit (.int .i64 v1057))), (25, .tup []), (26, .tup []), (27, .tup []), (28, .tup []), (29, .tup []), (32, .tup []), (33, .tup []), (34, .tup []), (35, .tup []), (36, .tup []), (37, .d (.lit (.bool true)))] []) (Sub.table (by simp) (by simp)) ?_
                cases h
                exact Chain.nil (Sub.table (by simp) (by simp))
              · have c1281_ : (v1057 == v325) = false := Bool.eq_false_iff.2 c1281
                refine Chain.sub (Sub.bool 24 (b := (v1057 == v325)) rfl c1281_) ?_
                refine Chain.sub (S' := mk 68 [] [(0, .d (.sl (a0.map cS105))), (1, .d (.sl (a1.map cB))), (2, .d (.lit (.int .i64 a2))), (7, .d (.lit (.int .i64 v325))), (8, .d (.lit (.bool v1055))), (9, .d (.lit (.bool v1056))), (10, .d (.lit (.int .i64 v1057))), (12, .d (.lit (.int .i64 v1))), (13, .d (.lit (.int .i64 v325))), (17, .d (.lit (.int .i64 v990))), (18, .d (.lit (.int .i64 v1057))), (24, .d (.lit (.bool false)))] []) (by simp; exact Sub.table (by simp) (by simp)) ?_
                replace h := bsome h; obtain ⟨x1282, hx1282, h⟩ := h
                obtain ⟨k1283, hx1282k, hx1282, hx1282a, hx1282b⟩ := idx_some hx1282
                refine Chain.runK [] 7 fun K hK => ?_; simp [hx1282, hx1282k, hx1282a]; refine hK _ _ ?_; clear hK K
                refine Chain.sub (S' := mk 68 [] [(0, .d (.sl (a0.map cS105))), (1, .d (.sl (a1.map cB))), (2, .d (.lit (.int .i64 a2))), (7, .d (.lit (.int .i64 v325))), (8, .d (.lit (.bool v1055))), (9, .d (.lit (.bool v1056))), (10, .d (.lit (.int .i64 v1057))), (12, .d (.lit (.int .i64 v1))), (13, .d (.lit (.int .i64 v325))), (17, .d (.lit (.int .i64 v990))), (18, .d (.lit (.int .i64 v1057))), (25, .d (.sl (a1.map cB))), (26, .d (.lit (.int .i64 v1057))), (27, .d (.pim [.lit (.bool x1282)])), (28, .d (.lit (.bool x1282))), (29, .d (.lit (.bool (!x1282)))), (31, .d (.lit (.bool (!x1282))))] []) (Sub.table (by simp) (by simp)) ?_
                replace h := isome h; rcases h with ⟨c1284, h⟩ | ⟨c1284, h⟩
                · have c1284_ : (!x1282) = true := c1284
                  refine Chain.sub (Sub.bool 29 (b := (!x1282)) rfl c1284_) ?_
                  refine Chain.sub (Sub.bool 31 (b := (!x1282)) rfl c1284_) ?_
                  refine Chain.sub (S' := mk 68 [] [(0, .d (.sl (a0.map cS105))), (1, .d (.sl (a1.map cB))), (2, .d (.lit (.int .i64 a2))), (7, .d (.lit (.int .i64 v325))), (8, .d (.lit (.bool v1055))), (9, .d (.lit (.bool v1056))), (10, .d (.lit (.int .i64 v1057))), (12, .d (.lit (.int .i64 v1))), (13, .d (.lit (.int .i64 v325))), (17, .d (.lit (.int .i64 v990))), (18, .d (.lit (.int .i64 v1057))), (25, .d (.sl (a1.map cB))), (26, .d (.lit (.int .i64 v1057))), (27, .d (.pim [.lit (.bool x1282)])), (28, .d (.lit (.bool x1282))), (29, .d (.lit (.bool true))), (31, .d (.lit (.bool true)))] []) (by simp; exact Sub.table (by simp) (by simp)) ?_
                  refine Chain.runK [] 6 fun K hK => ?_; simp; refine hK _ _ ?_; clear hK K
                  refine Chain.sub (S' := mk 68 [] [(0, .d (.sl (a0.map cS105))), (1, .d (.sl (a1.map cB))), (2, .d (.lit (.int .i64 a2))), (7, .d (.lit (.int .i64 v325))), (8, .d (.lit (.bool v1055))), (9, .d (.lit (.bool v1056))), (10, .d (.lit (.int .i64 v1057))), (12, .d (.lit (.int .i64 v1))), (13, .d (.lit (.int .i64 v325))), (17, .d (.lit (.int .i64 v990))), (18, .d (.lit (.int .i64 v1057))), (25, .d (.sl (a1.map cB))), (26, .d (.lit (.int .i64 v1057))), (27, .d (.pim [.lit (.bool x1282)])), (28, .d (.lit (.bool x1282))), (29, .d (.lit (.bool true))), (32, .tup []), (33, .tup []), (34, .tup []), (35, .tup []), (36, .tup []), (37, .d (.lit (.bool true)))] []) (Sub.table (by simp) (by simp)) ?_
                  cases h
                  exact Chain.nil (Sub.table (by simp) (by simp))
                · have c1284_ : (!x1282) = false := Bool.eq_false_iff.2 c1284
                  refine Chain.sub (Sub.bool 29 (b := (!x1282)) rfl c1284_) ?_
                  refine Chain.sub (Sub.bool 31 (b := (!x1282)) rfl c1284_) ?_
                  refine Chain.sub (S' := mk 68 [] [(0, .d (.sl (a0.map cS105))), (1, .d (.sl (a1.map cB))), (2, .d (.lit (.int .i64 a2))), (7, .d (.lit (.int .i64 v325))), (8, .d (.lit (.bool v1055))), (9, .d (.lit (.bool v1056))), (10, .d (.lit (.int .i64 v1057))), (12, .d (.lit (.int .i64 v1))), (13, .d (.lit (.int .i64 v325))), (17, .d (.lit (.int .i64 v990))), (18, .d (.lit (.int .i64 v1057))), (25, .d (.sl (a1.map cB))), (26, .d (.lit (.int .i64 v1057))), (27, .d (.pim [.lit (.bool x1282)])), (28, .d (.lit (.bool x1282))), (29, .d (.lit (.bool false))), (31, .d (.lit (.bool false)))] []) (by simp; exact Sub.table (by simp) (by simp)) ?_
                  replace h := bsome h; obtain ⟨x1285, hx1285, h⟩ := h
                  obtain ⟨k1286, hx1285k, hx1285, hx1285a, hx1285b⟩ := idx_some hx1285
                  refine Chain.runK [] 6 fun K hK => ?_; simp [hx1285, hx1285k, hx1285a]; refine hK _ _ ?_; clear hK K
                  refine Chain.sub (S' := mk 68 [] [(0, .d (.sl (a0.map cS105))), (1, .d (.sl (a1.map cB))), (2, .d (.lit (.int .i64 a2))), (7, .d (.lit (.int .i64 v325))), (8, .d (.lit (.bool v1055))), (9, .d (.lit (.bool v1056))), (10, .d (.lit (.int .i64 v1057))), (12, .d (.lit (.int .i64 v1))), (13, .d (.lit (.int .i64 v325))), (17, .d (.lit (.int .i64 v990))), (18, .d (.lit (.int .i64 v1057))), (25, .d (.sl (a1.map cB))), (26, .d (.lit (.int .i64 v1057))), (27, .d (.pim [.lit (.bool x1282)])), (28, .d (.lit (.bool x1282))), (29, .d (.lit (.bool false))), (32, .d (.sl (a1.map cB))), (33, .d (.lit (.int .i64 v325))), (34, .d (.pim [.lit (.bool x1285)])), (35, .d (.lit (.bool x1285))), (36, .d (.lit (.bool (!x1285)))), (37, .d (.lit (.bool (!x1285))))] []) (Sub.table (by simp) (by simp)) ?_
                  cases h
                  exact Chain.nil (Sub.table (by simp) (by simp))
            · clear hj
              replace h := isome h; rcases h with ⟨c1287, h⟩ | ⟨c1287, h⟩
              · have c1287_ : v1280 = true := c1287
                refine AW.condT (b := v1280) rfl c1287_ ?_
                refine AW.sub (Sub.bool 37 (b := v1280) rfl c1287_) ?_
                refine AW.sub (S' := mk 68 [] [(0, .d (.sl (a0.map cS105))), (1, .d (.sl (a1.map cB))), (2, .d (.lit (.int .i64 a2))), (7, .d (.lit (.int .i64 v325))), (8, .d (.lit (.bool v1055))), (9, .d (.lit (.bool v1056))), (10, .d (.lit (.int .i64 v1057))), (12, .d (.lit (.int .i64 v1))), (13, .d (.lit (.int .i64 v325))), (17, .d (.lit (.int .i64 v990))), (18, .d (.lit (.int .i64 v1057))), (37, .d (.lit (.bool true)))] []) (by simp; exact Sub.table (by simp) (by simp)) ?_
                refine AW.exit ?_
                cases h
                refine thenQ_pass (by simp) ?_
                refine blockQ.hit ?_
                refine PostN.next ?_
                exact (Sub.table (by simp) (by simp))
              · have c1287_ : v1280 = false := Bool.eq_false_iff.2 c1287
                refine AW.condF (b := v1280) rfl c1287_ ?_
                refine AW.sub (Sub.bool 37 (b := v1280) rfl c1287_) ?_
                refine AW.sub (S' := mk 68 [] [(0, .d (.sl (a0.map cS105))), (1, .d (.sl (a1.map cB))), (2, .d (.lit (.int .i64 a2))), (7, .d (.lit (.int .i64 v325))), (8, .d (.lit (.bool v1055))), (9, .d (.lit (.bool v1056))), (10, .d (.lit (.int .i64 v1057))), (12, .d (.lit (.int .i64 v1))), (13, .d (.lit (.int .i64 v325))), (17, .d (.lit (.int .i64 v990))), (18, .d (.lit (.int .i64 v1057))), (37, .d (.lit (.bool false)))] []) (by simp; exact Sub.table (by simp) (by simp)) ?_
                refine AW.skip ?_
                refine thenQ_normal ?_
                replace h := bsome h; obtain ⟨v1294, hj, h⟩ := h
                refine AW.cutQ (by kernel_rfl) (by kernel_rfl) (mk 68 [] [(0, .d (.sl (a0.map cS105))), (1, .d (.sl (a1.map cB))), (2, .d (.lit (.int .i64 a2))), (7, .d (.lit (.int .i64 v325))), (8, .d (.lit (.bool v1294))), (9, .d (.lit (.bool v1056))), (10, .d (.lit (.int .i64 v1057))), (12, .d (.lit (.int .i64 v1))), (13, .d (.lit (.int .i64 v325))), (17, .d (.lit (.int .i64 v990))), (18, .d (.lit (.int .i64 v1057)))] []) ?_ ?_
                · clear h; have h := hj; clear hj
                  refine Chain.runQ 2 fun K hK => ?_; simp; refine hK _ _ ?_; clear hK K
                  refine Chain.sub (S' := mk 68 [] [(0, .d (.sl (a0.map cS105))), (1, .d (.sl (a1.map cB))), (2, .d (.lit (.int .i64 a2))), (7, .d (.lit (.int .i64 v325))), (9, .d (.lit (.bool v1056))), (10, .d (.lit (.int .i64 v1057))), (12, .d (.lit (.int .i64 v1))), (13, .d (.lit (.int .i64 v325))), (17, .d (.lit (.int .i64 v990))), (18, .d (.lit (.int .i64 v1057))), (39, .d (.lit (.bool v1055)))] []) (Sub.table (by simp) (by simp)) ?_
                  replace h := isome h; rcases h with ⟨c1295, h⟩ | ⟨c1295, h⟩
                  · have c1295_ : v1055 = true := c1295
                    refine Chain.sub (Sub.bool 39 (b := v1055) rfl c1295_) ?_
                    refine Chain.sub (S' := mk 68 [] [(0, .d (.sl (a0.map cS105))), (1, .d (.sl (a1.map cB))), (2, .d (.lit (.int .i64 a2))), (7, .d (.lit (.int .i64 v325))), (9, .d (.lit (.bool v1056))), (10, .d (.lit (.int .i64 v1057))), (12, .d (.lit (.int .i64 v1))), (13, .d (.lit (.int .i64 v325))), (17, .d (.lit (.int .i64 v990))), (18, .d (.lit (.int .i64 v1057))), (39, .d (.lit (.bool true)))] []) (by simp; exact Sub.table (by simp) (by simp)) ?_
                    refine Chain.runQ 11 fun K hK => ?_; simp; refine hK _ _ ?_; clear hK K
                    refine Chain.sub (S' := mk 68 [] [(0, .d (.sl (a0.map cS105))), (1, .d (.sl (a1.map cB))), (2, .d (.lit (.int .i64 a2))), (7, .d (.lit (.int .i64 v325))), (8, .d (.lit (.bool true))), (9, .d (.lit (.bool v1056))), (10, .d (.lit (.int .i64 v1057))), (12, .d (.lit (.int .i64 v1))), (13, .d (.lit (.int .i64 v325))), (17, .d (.lit (.int .i64 v990))), (18, .d (.lit (.int .i64 v1057))), (40, .tup []), (41, .tup []), (42, .tup []), (43, .tup []), (44, .tup []), (45, .tup []), (46, .tup []), (47, .tup []), (48, .tup [])] []) (Sub.table (by simp) (by simp)) ?_
                    cases h
                    exact Chain.nil (Sub.table (by simp) (by simp))
                  · have c1295_ : v1055 = false := Bool.eq_false_iff.2 c1295
                    refine Chain.sub (Sub.bool 39 (b := v1055) rfl c1295_) ?_
                    refine Chain.sub (S' := mk 68 [] [(0, .d (.sl (a0.map cS105))), (1, .d (.sl (a1.map cB))), (2, .d (.lit (.int .i64 a2))), (7, .d (.lit (.int .i64 v325))), (9, .d (.lit (.bool v1056))), (10, .d (.lit (.int .i64 v1057))), (12, .d (.lit (.int .i64 v1))), (13, .d (.lit (.int .i64 v325))), (17, .d (.lit (.int .i64 v990))), (18, .d (.lit (.int .i64 v1057))), (39, .d (.lit (.bool false)))] []) (by simp; exact Sub.table (by simp) (by simp)) ?_
                    replace h := bsome h; obtain ⟨x1296, hx1296, h⟩ := h
                    obtain ⟨k1297, hx1296k, hx1296, hx1296a, hx1296b⟩ := idx_some hx1296
                    replace h := bsome h; obtain ⟨x1298, hx1298, h⟩ := h
                    obtain ⟨k1299, hx1298k, hx1298, hx1298a, hx1298b⟩ := idx_some hx1298
                    refine Chain.runQ 8 fun K hK => ?_; simp [hx1296, hx1296k, hx1296a, hx1298, hx1298k, hx1298a]; refine hK _ _ ?_; clear hK K
                    refine Chain.sub (S' := mk 68 [] [(0, .d (.sl (a0.map cS105))), (1, .d (.sl (a1.map cB))), (2, .d (.lit (.int .i64 a2))), (7, .d (.lit (.int .i64 v325))), (9, .d (.lit (.bool v1056))), (10, .d (.lit (.int .i64 v1057))), (12, .d (.lit (.int .i64 v1))), (13, .d (.lit (.int .i64 v325))), (17, .d (.lit (.int .i64 v990))), (18, .d (.lit (.int .i64 v1057))), (39, .d (.lit (.bool false))), (40, .d (.sl (a0.map cS105))), (41, .d (.lit (.int .i64 v1057))), (42, .d (.pim [.lit (.int .i64 x1296.Start), .lit (.int .i64 x1296.Commit), .sl (x1296.Reads.map cS), .sl (x1296.Writes.map cS)])), (43, .agg [.d (.lit (.int .i64 x1296.Start)), .d (.lit (.int .i64 x1296.Commit)), .d (.sl (x1296.Reads.map cS)), .d (.sl (x1296.Writes.map cS))]), (44, .d (.sl (a0.map cS105))), (45, .d (.lit (.int .i64 v325))), (46, .d (.pim [.lit (.int .i64 x1298.Start), .lit (.int .i64 x1298.Commit), .sl (x1298.Reads.map cS), .sl (x1298.Writes.map cS)])), (47, .agg [.d (.lit (.int .i64 x1298.Start)), .d (.lit (.int .i64 x1298.Commit)), .d (.sl (x1298.Reads.map cS)), .d (.sl (x1298.Writes.map cS))])] []) (Sub.table (by simp) (by simp)) ?_
                    replace h := bsome h; obtain ⟨r1300, hr1300, h⟩ := h
                    refine Chain.callL (d := 48) (p65 N x1296 x1298 r1300 hr1300) (by simp) rfl rfl (by simp <;> rfl) (by simp <;> rfl) ent65 (by simp <;> rfl) ?_
                    refine Chain.sub (S' := mk 68 [] [(0, .d (.sl (a0.map cS105))), (1, .d (.sl (a1.map cB))), (2, .d (.lit (.int .i64 a2))), (7, .d (.lit (.int .i64 v325))), (9, .d (.lit (.bool v1056))), (10, .d (.lit (.int .i64 v1057))), (12, .d (.lit (.int .i64 v1))), (13, .d (.lit (.int .i64 v325))), (17, .d (.lit (.int .i64 v990))), (18, .d (.lit (.int .i64 v1057))), (39, .d (.lit (.bool false))), (40, .d (.sl (a0.map cS105))), (41, .d (.lit (.int .i64 v1057))), (42, .d (.pim [.lit (.int .i64 x1296.Start), .lit (.int .i64 x1296.Commit), .sl (x1296.Reads.map cS), .sl (x1296.Writes.map cS)])), (43, .agg [.d (.lit (.int .i64 x1296.Start)), .d (.lit (.int .i64 x1296.Commit)), .d (.sl (x1296.Reads.map cS)), .d (.sl (x1296.Writes.map cS))]), (44, .d (.sl (a0.map cS105))), (45, .d (.lit (.int .i64 v325))), (46, .d (.pim [.lit (.int .i64 x1298.Start), .lit (.int .i64 x1298.Commit), .sl (x1298.Reads.map cS), .sl (x1298.Writes.map cS)])), (47, .agg [.d (.lit (.int .i64 x1298.Start)), .d (.lit (.int .i64 x1298.Commit)), .d (.sl (x1298.Reads.map cS)), .d (.sl (x1298.Writes.map cS))]), (48, .d (.lit (.bool r1300)))] []) (by simp; exact Sub.table (by simp) (by simp)) ?_
                    refine Chain.runQ 2 fun K hK => ?_; simp; refine hK _ _ ?_; clear hK K
                    refine Chain.sub (S' := mk 68 [] [(0, .d (.sl (a0.map cS105))), (1, .d (.sl (a1.map cB))), (2, .d (.lit (.int .i64 a2))), (7, .d (.lit (.int .i64 v325))), (8, .d (.lit (.bool r1300))), (9, .d (.lit (.bool v1056))), (10, .d (.lit (.int .i64 v1057))), (12, .d (.lit (.int .i64 v1))), (13, .d (.lit (.int .i64 v325))), (17, .d (.lit (.int .i64 v990))), (18, .d (.lit (.int .i64 v1057))), (40, .d (.sl (a0.map cS105))), (41, .d (.lit (.int .i64 v1057))), (42, .d (.pim [.lit (.int .i64 x1296.Start), .lit (.int .i64 x1296.Commit), .sl (x1296.Reads.map cS), .sl (x1296.Writes.map cS)])), (43, .agg [.d (.lit (.int .i64 x1296.Start)), .d (.lit (.int .i64 x1296.Commit)), .d (.sl (x1296.Reads.map cS)), .d (.sl (x1296.Writes.map cS))]), (44, .d (.sl (a0.map cS105))), (45, .d (.lit (.int .i64 v325))), (46, .d (.pim [.lit (.int .i64 x1298.Start), .lit (.int .i64 x1298.Commit), .sl (x1298.Reads.map cS), .sl (x1298.Writes.map cS)])), (47, .agg [.d (.lit (.int .i64 x1298.Start)), .d (.lit (.int .i64 x1298.Commit)), .d (.sl (x1298.Reads.map cS)), .d (.sl (x1298.Writes.map cS))]), (48, .d (.lit (.bool r1300)))] []) (Sub.table (by simp) (by simp)) ?_
                    cases h
                    exact Chain.nil (Sub.table (by simp) (by simp))
                · clear hj
                  replace h := bsome h; obtain ⟨v1307, hj, h⟩ := h
                  refine AW.regionQ (by kernel_rfl) (by kernel_rfl) (Chain.cut (mk 68 [] [(0, .d (.sl (a0.map cS105))), (1, .d (.sl (a1.map cB))), (2, .d (.lit (.int .i64 a2))), (7, .d (.lit (.int .i64 v325))), (8, .d (.lit (.bool v1294))), (9, .d (.lit (.bool v1307))), (12, .d (.lit (.int .i64 v1))), (13, .d (.lit (.int .i64 v325))), (17, .d (.lit (.int .i64 v990))), (18, .d (.lit (.int .i64 v1057)))] []) ?_ fun S' hS => ?_)
                  · clear h; have h := hj; clear hj
                    refine Chain.runQ 2 fun K hK => ?_; simp; refine hK _ _ ?_; clear hK K
                    refine Chain.sub (S' := mk 68 [] [(0, .d (.sl (a0.map cS105))), (1, .d (.sl (a1.map cB))), (2, .d (.lit (.int .i64 a2))), (7, .d (.lit (.int .i64 v325))), (8, .d (.lit (.bool v1294))), (10, .d (.lit (.int .i64 v1057))), (12, .d (.lit (.int .i64 v1))), (13, .d (.lit (.int .i64 v325))), (17, .d (.lit (.int .i64 v990))), (18, .d (.lit (.int .i64 v1057))), (51, .d (.lit (.bool v1056)))] []) (Sub.table (by simp) (by simp)) ?_
                    replace h := isome h; rcases h with ⟨c1308, h⟩ | ⟨c1308, h⟩
                    · have c1308_ : v1056 = true := c1308
                      refine Chain.sub (Sub.bool 51 (b := v1056) rfl c1308_) ?_
                      refine Chain.sub (S' := mk 68 [] [(0, .d (.sl (a0.map cS105))), (1, .d (.sl (a1.map cB))), (2, .d (.lit (.int .i64 a2))), (7, .d (.lit (.int .i64 v325))), (8, .d (.lit (.bool v1294))), (10, .d (.lit (.int .i64 v1057))), (12, .d (.lit (.int .i64 v1))), (13, .d (.lit (.int .i64 v325))), (17, .d (.lit (.int .i64 v990))), (18, .d (.lit (.int .i64 v1057))), (51, .d (.lit (.bool true)))] []) (by simp; exact Sub.table (by simp) (by simp)) ?_
                      refine Chain.runQ 11 fun K hK => ?_; simp; refine hK _ _ ?_; clear hK K
                      refine Chain.sub (S' := mk 68 [] [(0, .d (.sl (a0.map cS105))), (1, .d (.sl (a1.map cB))), (2, .d (.lit (.int .i64 a2))), (7, .d (.lit (.int .i64 v325))), (8, .d (.lit (.bool v1294))), (9, .d (.lit (.bool true))), (12, .d (.lit (.int .i64 v1))), (13, .d (.lit (.int .i64 v325))), (17, .d (.lit (.int .i64 v990))), (18, .d (.lit (.int .i64 v1057))), (52, .tup []), (53, .tup []), (54, .tup []), (55, .tup []), (56, .tup []), (57, .tup []), (58, .tup []), (59, .tup []), (60, .tup [])] []) (Sub.table (by simp) (by simp)) ?_
                      cases h
                      exact Chain.nil (Sub.table (by simp) (by simp))
                    · have c1308_ : v1056 = false := Bool.eq_false_iff.2 c1308
                      refine Chain.sub (Sub.bool 51 (b := v1056) rfl c1308_) ?_
                      refine Chain.sub (S' := mk 68 [] [(0, .d (.sl (a0.map cS105))), (1, .d (.sl (a1.map cB))), (2, .d (.lit (.int .i64 a2))), (7, .d (.lit (.int .i64 v325))), (8, .d (.lit (.bool v1294))), (10, .d (.lit (.int .i64 v1057))), (12, .d (.lit (.int .i64 v1))), (13, .d (.lit (.int .i64 v325))), (17, .d (.lit (.int .i64 v990))), (18, .d (.lit (.int .i64 v1057))), (51, .d (.lit (.bool false)))] []) (by simp; exact Sub.table (by simp) (by simp)) ?_
                      replace h := bsome h; obtain ⟨x1309, hx1309, h⟩ := h
                      obtain ⟨k1310, hx1309k, hx1309, hx1309a, hx1309b⟩ := idx_some hx1309
                      replace h := bsome h; obtain ⟨x1311, hx1311, h⟩ := h
                      obtain ⟨k1312, hx1311k, hx1311, hx1311a, hx1311b⟩ := idx_some hx1311
                      refine Chain.runQ 8 fun K hK => ?_; simp [hx1309, hx1309k, hx1309a, hx1311, hx1311k, hx1311a]; refine hK _ _ ?_; clear hK K
                      refine Chain.sub (S' := mk 68 [] [(0, .d (.sl (a0.map cS105))), (1, .d (.sl (a1.map cB))), (2, .d (.lit (.int .i64 a2))), (7, .d (.lit (.int .i64 v325))), (8, .d (.lit (.bool v1294))), (12, .d (.lit (.int .i64 v1))), (13, .d (.lit (.int .i64 v325))), (17, .d (.lit (.int .i64 v990))), (18, .d (.lit (.int .i64 v1057))), (51, .d (.lit (.bool false))), (52, .d (.sl (a0.map cS105))), (53, .d (.lit (.int .i64 v325))), (54, .d (.pim [.lit (.int .i64 x1309.Start), .lit (.int .i64 x1309.Commit), .sl (x1309.Reads.map cS), .sl (x1309.Writes.map cS)])), (55, .agg [.d (.lit (.int .i64 x1309.Start)), .d (.lit (.int .i64 x1309.Commit)), .d (.sl (x1309.Reads.map cS)), .d (.sl (x1309.Writes.map cS))]), (56, .d (.sl (a0.map cS105))), (57, .d (.lit (.int .i64 v1057))), (58, .d (.pim [.lit (.int .i64 x1311.Start), .lit (.int .i64 x1311.Commit), .sl (x1311.Reads.map cS), .sl (x1311.Writes.map cS)])), (59, .agg [.d (.lit (.int .i64 x1311.Start)), .d (.lit (.int .i64 x1311.Commit)), .d (.sl (x1311.Reads.map cS)), .d (.sl (x1311.Writes.map cS))])] []) (Sub.table (by simp) (by simp)) ?_
                      replace h := bsome h; obtain ⟨r1313, hr1313, h⟩ := h
                      refine Chain.callL (d := 60) (p65 N x1309 x1311 r1313 hr1313) (by simp) rfl rfl (by simp <;> rfl) (by simp <;> rfl) ent65 (by simp <;> rfl) ?_
                      refine Chain.sub (S' := mk 68 [] [(0, .d (.sl (a0.map cS105))), (1, .d (.sl (a1.map cB))), (2, .d (.lit (.int .i64 a2))), (7, .d (.lit (.int .i64 v325))), (8, .d (.lit (.bool v1294))), (12, .d (.lit (.int .i64 v1))), (13, .d (.lit (.int .i64 v325))), (17, .d (.lit (.int .i64 v990))), (18, .d (.lit (.int .i64 v1057))), (51, .d (.lit (.bool false))), (52, .d (.sl (a0.map cS105))), (53, .d (.lit (.int .i64 v325))), (54, .d (.pim [.lit (.int .i64 x1309.Start), .lit (.int .i64 x1309.Commit), .sl (x1309.Reads.map cS), .sl (x1309.Writes.map cS)])), (55, .agg [.d (.lit (.int .i64 x1309.Start)), .d (.lit (.int .i64 x1309.Commit)), .d (.sl (x1309.Reads.map cS)), .d (.sl (x1309.Writes.map cS))]), (56, .d (.sl (a0.map cS105))), (57, .d (.lit (.int .i64 v1057))), (58, .d (.pim [.lit (.int .i64 x1311.Start), .lit (.int .i64 x1311.Commit), .sl (x1311.Reads.map cS), .sl (x1311.Writes.map cS)])), (59, .agg [.d (.lit (.int .i64 x1311.Start)), .d (.lit (.int .i64 x1311.Commit)), .d (.sl (x1311.Reads.map cS)), .d (.sl (x1311.Writes.map cS))]), (60, .d (.lit (.bool r1313)))] []) (by simp; exact Sub.table (by simp) (by simp)) ?_
                      refine Chain.runQ 2 fun K hK => ?_; simp; refine hK _ _ ?_; clear hK K
                      refine Chain.sub (S' := mk 68 [] [(0, .d (.sl (a0.map cS105))), (1, .d (.sl (a1.map cB))), (2, .d (.lit (.int .i64 a2))), (7, .d (.lit (.int .i64 v325))), (8, .d (.lit (.bool v1294))), (9, .d (.lit (.bool r1313))), (12, .d (.lit (.int .i64 v1))), (13, .d (.lit (.int .i64 v325))), (17, .d (.lit (.int .i64 v990))), (18, .d (.lit (.int .i64 v1057))), (52, .d (.sl (a0.map cS105))), (53, .d (.lit (.int .i64 v325))), (54, .d (.pim [.lit (.int .i64 x1309.Start), .lit (.int .i64 x1309.Commit), .sl (x1309.Reads.map cS), .sl (x1309.Writes.map cS)])), (55, .agg [.d (.lit (.int .i64 x1309.Start)), .d (.lit (.int .i64 x1309.Commit)), .d (.sl (x1309.Reads.map cS)), .d (.sl (x1309.Writes.map cS))]), (56, .d (.sl (a0.map cS105))), (57, .d (.lit (.int .i64 v1057))), (58, .d (.pim [.lit (.int .i64 x1311.Start), .lit (.int .i64 x1311.Commit), .sl (x1311.Reads.map cS), .sl (x1311.Writes.map cS)])), (59, .agg [.d (.lit (.int .i64 x1311.Start)), .d (.lit (.int .i64 x1311.Commit)), .d (.sl (x1311.Reads.map cS)), .d (.sl (x1311.Writes.map cS))]), (60, .d (.lit (.bool r1313)))] []) (Sub.table (by simp) (by simp)) ?_
                      cases h
                      exact Chain.nil (Sub.table (by simp) (by simp))
                  · clear hj
                    cases h
                    refine blockQ.normal ?_
                    refine PostN.next ?_
                    exact (Sub.trans hS (Sub.table (by simp) (by simp)))
          · rintro ⟨v1272, v1273⟩ h
            dsimp only at h ⊢
            refine AW.region ?_
            replace h := bsome h; obtain ⟨v1314, hv1314, h⟩ := h
            have hv1314 := chkI_some hv1314
            refine Chain.runK [] 2 fun K hK => ?_; simp [hv1314]; refine hK _ _ ?_; clear hK K
            refine Chain.sub (S' := mk 68 [] [(0, .d (.sl (a0.map cS105))), (1, .d (.sl (a1.map cB))), (2, .d (.lit (.int .i64 a2))), (7, .d (.lit (.int .i64 v325))), (8, .d (.lit (.bool v1272))), (9, .d (.lit (.bool v1273))), (12, .d (.lit (.int .i64 v1))), (13, .d (.lit (.int .i64 v325))), (17, .d (.lit (.int .i64 v990))), (18, .d (.lit (.int .i64 v1314)))] []) (Sub.table (by simp) (by simp)) ?_
            refine Chain.nil ?_
            cases h
            refine PostI.next ?_
            exact (Sub.table (by simp) (by simp))
        · have c1231_ : decide (v1057 < v990) = false := decide_eq_false c1231
          refine AW.condF (b := decide (v1057 < v990)) rfl c1231_ ?_
          refine AW.sub (Sub.bool 19 (b := decide (v1057 < v990)) rfl c1231_) ?_
          refine AW.sub (S' := mk 68 [] [(0, .d (.sl (a0.map cS105))), (1, .d (.sl (a1.map cB))), (2, .d (.lit (.int .i64 a2))), (7, .d (.lit (.int .i64 v325))), (8, .d (.lit (.bool v1055))), (9, .d (.lit (.bool v1056))), (12, .d (.lit (.int .i64 v1))), (13, .d (.lit (.int .i64 v325))), (17, .d (.lit (.int .i64 v990))), (18, .d (.lit (.int .i64 v1057))), (19, .d (.lit (.bool false)))] []) (by simp; exact Sub.table (by simp) (by simp)) ?_
          refine AW.exit ?_
          cases h
          refine thenQ_pass (by simp) ?_
          refine PostI.out (by simp) ?_
          rintro rfl
          refine blockQ.hit ?_
          refine PostN.next ?_
          exact (Sub.table (by simp) (by simp))
      · rintro ⟨v1229, v1230⟩ h
        dsimp only at h ⊢
        refine thenQ_normal ?_
        replace h := bsome h; obtain ⟨v1316, hj, h⟩ := h
        refine AW.cutR (mk 68 [] [(0, .d (.sl (a0.map cS105))), (1, .d (.sl (a1.map cB))), (2, .d (.lit (.int .i64 a2))), (12, .d (.lit (.int .i64 v1))), (13, .d (.lit (.int .i64 v325))), (66, .d (.lit (.bool v1316)))] []) ?_ ?_
        · clear h; have h := hj; clear hj
          refine Chain.runK [] 2 fun K hK => ?_; simp; refine hK _ _ ?_; clear hK K
          refine Chain.sub (S' := mk 68 [] [(0, .d (.sl (a0.map cS105))), (1, .d (.sl (a1.map cB))), (2, .d (.lit (.int .i64 a2))), (9, .d (.lit (.bool v1230))), (12, .d (.lit (.int .i64 v1))), (13, .d (.lit (.int .i64 v325))), (64, .d (.lit (.bool v1229)))] []) (Sub.table (by simp) (by simp)) ?_
          replace h := isome h; rcases h with ⟨c1317, h⟩ | ⟨c1317, h⟩
          · have c1317_ : v1229 = true := c1317
            refine Chain.sub (Sub.bool 64 (b := v1229) rfl c1317_) ?_
            refine Chain.sub (S' := mk 68 [] [(0, .d (.sl (a0.map cS105))), (1, .d (.sl (a1.map cB))), (2, .d (.lit (.int .i64 a2))), (9, .d (.lit (.bool v1230))), (12, .d (.lit (.int .i64 v1))), (13, .d (.lit (.int .i64 v325))), (64, .d (.lit (.bool true)))] []) (by simp; exact Sub.table (by simp) (by simp)) ?_
            refine Chain.runK [] 2 fun K hK => ?_; simp; refine hK _ _ ?_; clear hK K
            refine Chain.sub (S' := mk 68 [] [(0, .d (.sl (a0.map cS105))), (1, .d (.sl (a1.map cB))), (2, .d (.lit (.int .i64 a2))), (12, .d (.lit (.int .i64 v1))), (13, .d (.lit (.int .i64 v325))), (65, .d (.lit (.bool v1230))), (66, .d (.lit (.bool v1230)))] []) (Sub.table (by simp) (by simp)) ?_
            cases h
            exact Chain.nil (Sub.table (by simp) (by simp))
          · have c1317_ : v1229 = false := Bool.eq_false_iff.2 c1317
            refine Chain.sub (Sub.bool 64 (b := v1229) rfl c1317_) ?_
            refine Chain.sub (S' := mk 68 [] [(0, .d (.sl (a0.map cS105))), (1, .d (.sl (a1.map cB))), (2, .d (.lit (.int .i64 a2))), (9, .d (.lit (.bool v1230))), (12, .d (.lit (.int .i64 v1))), (13, .d (.lit (.int .i64 v325))), (64, .d (.lit (.bool false)))] []) (by simp; exact Sub.table (by simp) (by simp)) ?_
            refine Chain.runK [] 2 fun K hK => ?_; simp; refine hK _ _ ?_; clear hK K
            refine Chain.sub (S' := mk 68 [] [(0, .d (.sl (a0.map cS105))), (1, .d (.sl (a1.map cB))), (2, .d (.lit (.int .i64 a2))), (12, .d (.lit (.int .i64 v1))), (13, .d (.lit (.int .i64 v325))), (65, .tup []), (66, .d (.lit (.bool false)))] []) (Sub.table (by simp) (by simp)) ?_
            cases h
            exact Chain.nil (Sub.table (by simp) (by simp))
        · clear hj
          replace h := isome h; rcases h with ⟨c1318, h⟩ | ⟨c1318, h⟩
          · have c1318_ : v1316 = true := c1318
            refine AW.condT (b := v1316) rfl c1318_ ?_
            refine AW.sub (Sub.bool 66 (b := v1316) rfl c1318_) ?_
            refine AW.sub (S' := mk 68 [] [(0, .d (.sl (a0.map cS105))), (1, .d (.sl (a1.map cB))), (2, .d (.lit (.int .i64 a2))), (12, .d (.lit (.int .i64 v1))), (13, .d (.lit (.int .i64 v325))), (66, .d (.lit (.bool true)))] []) (by simp; exact Sub.table (by simp) (by simp)) ?_
            refine AW.seqR ?_
            refine Chain.runK [] 1 fun K hK => ?_; simp; refine hK _ _ ?_; clear hK K
            refine Chain.sub (S' := mk 68 [] [(6, .d (.lit (.bool true)))] []) (Sub.table (by simp) (by simp)) ?_
            refine Chain.nil ?_
            refine AW.ret ?_
            cases h
            refine blockQ.ret ?_
            refine thenQ_pass (by simp) ?_
            refine PostI.out (by simp) ?_
            rintro rfl
            refine blockQ.ret ?_
            refine PostJ.out (by simp) ?_
            rintro rfl
            refine thenQ_pass (by simp) ?_
            exact FinC.ret (by simp) (by simp)
          · have c1318_ : v1316 = false := Bool.eq_false_iff.2 c1318
            refine AW.condF (b := v1316) rfl c1318_ ?_
            refine AW.sub (Sub.bool 66 (b := v1316) rfl c1318_) ?_
            refine AW.sub (S' := mk 68 [] [(0, .d (.sl (a0.map cS105))), (1, .d (.sl (a1.map cB))), (2, .d (.lit (.int .i64 a2))), (12, .d (.lit (.int .i64 v1))), (13, .d (.lit (.int .i64 v325))), (66, .d (.lit (.bool false)))] []) (by simp; exact Sub.table (by simp) (by simp)) ?_
            refine AW.skip ?_
            refine blockQ.normal ?_
            refine thenQ_normal ?_
            refine AW.region ?_
            replace h := bsome h; obtain ⟨v1319, hv1319, h⟩ := h
            have hv1319 := chkI_some hv1319
            refine Chain.runK [] 2 fun K hK => ?_; simp [hv1319]; refine hK _ _ ?_; clear hK K
            refine Chain.sub (S' := mk 68 [] [(0, .d (.sl (a0.map cS105))), (1, .d (.sl (a1.map cB))), (2, .d (.lit (.int .i64 a2))), (12, .d (.lit (.int .i64 v1))), (13, .d (.lit (.int .i64 v1319)))] []) (Sub.table (by simp) (by simp)) ?_
            refine Chain.nil ?_
            cases h
            refine PostI.next ?_
            exact (Sub.table (by simp) (by simp))
    · have c989_ : decide (v325 < v1) = false := decide_eq_false c989
      refine AW.condF (b := decide (v325 < v1)) rfl c989_ ?_
      refine AW.sub (Sub.bool 14 (b := decide (v325 < v1)) rfl c989_) ?_
      refine AW.sub (S' := mk 68 [] [(0, .d (.sl (a0.map cS105))), (1, .d (.sl (a1.map cB))), (2, .d (.lit (.int .i64 a2))), (12, .d (.lit (.int .i64 v1))), (13, .d (.lit (.int .i64 v325))), (14, .d (.lit (.bool false)))] []) (by simp; exact Sub.table (by simp) (by simp)) ?_
      refine AW.exit ?_
      cases h
      refine thenQ_pass (by simp) ?_
      refine PostI.out (by simp) ?_
      rintro rfl
      refine blockQ.hit ?_
      refine PostJ.next ?_
      exact (Sub.table (by simp) (by simp))
  · rintro ⟨⟩ h
    refine thenQ_normal ?_
    refine AW.seqR ?_
    refine Chain.runK [] 1 fun K hK => ?_; simp; refine hK _ _ ?_; clear hK K
    refine Chain.sub (S' := mk 68 [] [(6, .d (.lit (.bool false)))] []) (Sub.table (by simp) (by simp)) ?_
    refine Chain.nil ?_
    refine AW.ret ?_
    cases h
    exact FinC.ret (by simp) (by simp)

/-- stemma/ssi.Admit -/
def d36 (N : Nat) (a0 : (List S105)) : Option ((List Bool) × Int) :=
  (d38 N a0).bind fun r1 =>
  if (r1 != 0) then (
    some (([] : List Bool), r1)
  ) else
  (mkL 1 (a0.length : Int) false).bind fun l3 =>
  Option.bind (α := List Bool) (
    iterN (σ := ((List Bool) × Int)) (ρ := List Bool) (fun ((l24, v25) : ((List Bool) × Int)) =>
      if v25 < (a0.length : Int) then (
        (idx l24 v25).bind fun x70 =>
        letv (setI l24 v25 true) fun l72 =>
        Option.bind (α := List Bool) (
          (d66 N a0 l72 v25).bind fun r81 =>
          if (!r81) = true then (
            (d67 N a0 l72 v25).bind fun r83 =>
            (idx l72 v25).bind fun x84 =>
            letv (setI l72 v25 (!r83)) fun l85 =>
            some l85
          ) else
          (idx l72 v25).bind fun x86 =>
          letv (setI l72 v25 false) fun l87 =>
          some l87
        ) fun (l80 : List Bool) =>
        (chkI (v25 + 1)).bind fun v88 =>
        some (.inl (l80, v88))
      ) else
      some (.inr l24)
    ) N (l3, 0)
  ) fun (l68 : List Bool) =>
  some (l68, 0)
set_option maxRecDepth 100000 in
set_option maxHeartbeats 4000000 in
theorem p36 (N : Nat) (a0 : (List S105)) (r : ((List Bool) × Int)) (h : d36 N a0 = some r) : FunC Try.prog 36 [.d (.sl (a0.map cS105))] (.tup [.d (.sl (r.1.map cB)), .d (.lit (.int .i64 r.2))]) := by
  unfold d36 at h
  refine FunC.enter 40 [(0, .d (.sl (a0.map cS105)))] (by simp) Try.func36 rfl (of_decide_eq_true rfl) rfl rfl ?_
  refine AW.seqR ?_
  refine Chain.runK [] 2 fun K hK => ?_; simp; refine hK _ _ ?_; clear hK K
  refine Chain.sub (S' := mk 40 [] [(0, .d (.sl (a0.map cS105)))] []) (Sub.table (by simp) (by simp)) ?_
  refine Chain.nil ?_
  refine AW.seq ?_
  refine AW.seqR ?_
  refine Chain.runK [] 1 fun K hK => ?_; simp; refine hK _ _ ?_; clear hK K
  refine Chain.sub (S' := mk 40 [] [(0, .d (.sl (a0.map cS105))), (7, .d (.sl (a0.map cS105)))] []) (Sub.table (by simp) (by simp)) ?_
  replace h := bsome h; obtain ⟨r1, hr1, h⟩ := h
  refine Chain.callL (d := 8) (p38 N a0 r1 hr1) (by simp) rfl rfl (by simp <;> rfl) (by simp <;> rfl) ent38 (by simp <;> rfl) ?_
  refine Chain.sub (S' := mk 40 [] [(0, .d (.sl (a0.map cS105))), (7, .d (.sl (a0.map cS105))), (8, .d (.lit (.int .i64 r1)))] []) (by simp; exact Sub.table (by simp) (by simp)) ?_
  refine Chain.runK [] 1 fun K hK => ?_; simp; refine hK _ _ ?_; clear hK K
  refine Chain.sub (S' := mk 40 [] [(0, .d (.sl (a0.map cS105))), (4, .d (.lit (.int .i64 r1)))] []) (Sub.table (by simp) (by simp)) ?_
  refine Chain.nil ?_
  refine AW.seqR ?_
  refine Chain.runK [] 2 fun K hK => ?_; simp; refine hK _ _ ?_; clear hK K
  refine Chain.sub (S' := mk 40 [] [(0, .d (.sl (a0.map cS105))), (4, .d (.lit (.int .i64 r1))), (10, .d (.lit (.bool (r1 != 0))))] []) (Sub.table (by simp) (by simp)) ?_
  refine Chain.nil ?_
  replace h := isome h; rcases h with ⟨c2, h⟩ | ⟨c2, h⟩
  · have c2_ : (r1 != 0) = true := c2
    refine AW.condT (b := (r1 != 0)) rfl c2_ ?_
    refine AW.sub (Sub.bool 10 (b := (r1 != 0)) rfl c2_) ?_
    refine AW.sub (S' := mk 40 [] [(0, .d (.sl (a0.map cS105))), (4, .d (.lit (.int .i64 r1))), (10, .d (.lit (.bool true)))] []) (by simp; exact Sub.table (by simp) (by simp)) ?_
    refine AW.seqR ?_
    refine Chain.runK [] 3 fun K hK => ?_; simp; refine hK _ _ ?_; clear hK K
    refine Chain.sub (S' := mk 40 [] [(2, .d (.lit (.slice none 0 0))), (3, .d (.lit (.int .i64 r1)))] []) (Sub.table (by simp) (by simp)) ?_
    refine Chain.nil ?_
    refine AW.sub (Sub.wk 2 rfl) ?_
    refine AW.sub (S' := mk 40 [] [(2, .d (.sl (([] : List Bool).map cB))), (3, .d (.lit (.int .i64 r1)))] []) (by simp; exact Sub.table (by simp) (by simp)) ?_
    refine AW.ret ?_
    cases h
    refine thenQ_pass (by simp) ?_
    exact FinC.ret (by simp) (by simp)
  · have c2_ : (r1 != 0) = false := Bool.eq_false_iff.2 c2
    refine AW.condF (b := (r1 != 0)) rfl c2_ ?_
    refine AW.sub (Sub.bool 10 (b := (r1 != 0)) rfl c2_) ?_
    refine AW.sub (S' := mk 40 [] [(0, .d (.sl (a0.map cS105))), (4, .d (.lit (.int .i64 r1))), (10, .d (.lit (.bool false)))] []) (by simp; exact Sub.table (by simp) (by simp)) ?_
    refine AW.skip ?_
    refine thenQ_normal ?_
    refine AW.seqR ?_
    replace h := bsome h; obtain ⟨l3, gl3, h⟩ := h
    obtain ⟨hl3a, hl3b, hl3c, hl3d⟩ := mkL_some cB gl3
    clear gl3
    replace hl3c : List.replicate l3.length [.lit (.bool false)] = l3.map cB := hl3c
    simp only [Nat.mul_one] at hl3b
    refine Chain.runK [] 4 fun K hK => ?_; simp [hl3a, hl3b, hl3c, hl3d]; refine hK _ _ ?_; clear hK K
    refine Chain.sub (S' := mk 40 [] [(0, .d (.sl (a0.map cS105))), (5, .ref 14 0 l3.length)] [(14, some (.arr 4 1 (l3.map cB)))]) (Sub.table (by simp) (by simp)) ?_
    refine Chain.nil ?_
    refine AW.seq ?_
    refine AW.seqR ?_
    refine Chain.runK [] 3 fun K hK => ?_; simp; refine hK _ _ ?_; clear hK K
    refine Chain.sub (S' := mk 40 [] [(0, .d (.sl (a0.map cS105))), (5, .ref 14 0 l3.length), (16, .d (.lit (.int .i64 (a0.length : Int)))), (17, .d (.lit (.int .i64 0)))] [(14, some (.arr 4 1 (l3.map cB)))]) (Sub.table (by simp) (by simp)) ?_
    refine Chain.nil ?_
    refine AW.lastN (fun (l68 : List Bool) => mk 40 [] [(5, .ref 14 0 l68.length)] [(14, some (.arr 4 1 (l68.map cB)))]) h ?_ ?_ <;> clear h
    · intro o h
      refine AW.block ?_
      refine AW.iter (fun ((l24, v25) : ((List Bool) × Int)) => mk 40 [] [(0, .d (.sl (a0.map cS105))), (5, .ref 14 0 l24.length), (16, .d (.lit (.int .i64 (a0.length : Int)))), (17, .d (.lit (.int .i64 v25)))] [(14, some (.arr 4 1 (l24.map cB)))]) h (Sub.table (by simp) (by simp)) ?_
      clear h
      rintro ⟨l24, v25⟩ x h
      dsimp only at h ⊢
      refine AW.seqR ?_
      refine Chain.runK [] 1 fun K hK => ?_; simp; refine hK _ _ ?_; clear hK K
      refine Chain.sub (S' := mk 40 [] [(0, .d (.sl (a0.map cS105))), (5, .ref 14 0 l24.length), (16, .d (.lit (.int .i64 (a0.length : Int)))), (17, .d (.lit (.int .i64 v25))), (18, .d (.lit (.bool (decide (v25 < (a0.length : Int))))))] [(14, some (.arr 4 1 (l24.map cB)))]) (Sub.table (by simp) (by simp)) ?_
      refine Chain.nil ?_
      refine AW.seq ?_
      replace h := isome h; rcases h with ⟨c69, h⟩ | ⟨c69, h⟩
      · have c69_ : decide (v25 < (a0.length : Int)) = true := decide_eq_true c69
        refine AW.condT (b := decide (v25 < (a0.length : Int))) rfl c69_ ?_
        refine AW.sub (Sub.bool 18 (b := decide (v25 < (a0.length : Int))) rfl c69_) ?_
        refine AW.sub (S' := mk 40 [] [(0, .d (.sl (a0.map cS105))), (5, .ref 14 0 l24.length), (16, .d (.lit (.int .i64 (a0.length : Int)))), (17, .d (.lit (.int .i64 v25))), (18, .d (.lit (.bool true)))] [(14, some (.arr 4 1 (l24.map cB)))]) (by simp; exact Sub.table (by simp) (by simp)) ?_
        refine AW.skip ?_
        refine thenQ_normal ?_
        refine AW.seq ?_
        refine AW.block ?_
        refine AW.seqR ?_
        refine Chain.runK [] 2 fun K hK => ?_; simp; refine hK _ _ ?_; clear hK K
        refine Chain.sub (S' := mk 40 [] [(0, .d (.sl (a0.map cS105))), (5, .ref 14 0 l24.length), (6, .d (.lit (.int .i64 v25))), (16, .d (.lit (.int .i64 (a0.length : Int)))), (17, .d (.lit (.int .i64 v25)))] [(14, some (.arr 4 1 (l24.map cB)))]) (Sub.table (by simp) (by simp)) ?_
        refine Chain.nil ?_
        refine AW.seqR ?_
        replace h := bsome h; obtain ⟨x70, hx70, h⟩ := h
        obtain ⟨k71, hx70k, hx70, hx70a, hx70b⟩ := idx_some hx70
        replace h := lsome h; obtain ⟨l72, gl72, h⟩ := h
        obtain ⟨hl72, hl72n⟩ := setI_some cB gl72 hx70k
        replace hl72 : (l24.map cB).set k71 [.lit (.bool true)] = l72.map cB := hl72
        clear gl72
        refine Chain.runK [] 4 fun K hK => ?_; simp [hx70, hx70k, hx70a, hx70b, hl72]; refine hK _ _ ?_; clear hK K
        refine Chain.sub (S' := mk 40 [] [(0, .d (.sl (a0.map cS105))), (5, .ref 14 0 l72.length), (6, .d (.lit (.int .i64 v25))), (16, .d (.lit (.int .i64 (a0.length : Int)))), (17, .d (.lit (.int .i64 v25)))] [(14, some (.arr 4 1 (l72.map cB)))]) (Sub.table (by simp [hl72n]) (by simp [hl72n])) ?_
        refine Chain.nil ?_
        replace h := bsome h; obtain ⟨l80, hj, h⟩ := h
        refine AW.region (Chain.cut (mk 40 [] [(0, .d (.sl (a0.map cS105))), (5, .ref 14 0 l80.length), (16, .d (.lit (.int .i64 (a0.length : Int)))), (17, .d (.lit (.int .i64 v25)))] [(14, some (.arr 4 1 (l80.map cB)))]) ?_ fun S' hS => ?_)
        · clear h; have h := hj; clear hj
          refine Chain.runK [] 5 fun K hK => ?_; simp; refine hK _ _ ?_; clear hK K
          refine Chain.sub (S' := mk 40 [] [(0, .d (.sl (a0.map cS105))), (5, .ref 14 0 l72.length), (6, .d (.lit (.int .i64 v25))), (16, .d (.lit (.int .i64 (a0.length : Int)))), (17, .d (.lit (.int .i64 v25))), (23, .ref 14 0 l72.length), (24, .d (.lit (.int .i64 v25))), (25, .d (.sl (a0.map cS105))), (26, .ref 14 0 l72.length), (27, .d (.lit (.int .i64 v25)))] [(14, some (.arr 4 1 (l72.map cB)))]) (Sub.table (by simp) (by simp)) ?_
          replace h := bsome h; obtain ⟨r81, hr81, h⟩ := h
          refine Chain.callL (d := 28) (p66 N a0 l72 v25 r81 hr81) (by simp) rfl rfl (by simp <;> rfl) (by simp <;> rfl) ent66 (by simp <;> rfl) ?_
          refine Chain.sub (S' := mk 40 [] [(0, .d (.sl (a0.map cS105))), (5, .ref 14 0 l72.length), (6, .d (.lit (.int .i64 v25))), (16, .d (.lit (.int .i64 (a0.length : Int)))), (17, .d (.lit (.int .i64 v25))), (23, .ref 14 0 l72.length), (24, .d (.lit (.int .i64 v25))), (25, .d (.sl (a0.map cS105))), (26, .ref 14 0 l72.length), (27, .d (.lit (.int .i64 v25))), (28, .d (.lit (.bool r81)))] [(14, some (.arr 4 1 (l72.map cB)))]) (by simp; exact Sub.table (by simp) (by simp)) ?_
          refine Chain.runK [] 2 fun K hK => ?_; simp; refine hK _ _ ?_; clear hK K
          refine Chain.sub (S' := mk 40 [] [(0, .d (.sl (a0.map cS105))), (5, .ref 14 0 l72.length), (6, .d (.lit (.int .i64 v25))), (16, .d (.lit (.int .i64 (a0.length : Int)))), (17, .d (.lit (.int .i64 v25))), (23, .ref 14 0 l72.length), (24, .d (.lit (.int .i64 v25))), (30, .d (.lit (.bool (!r81))))] [(14, some (.arr 4 1 (l72.map cB)))]) (Sub.table (by simp) (by simp)) ?_
          replace h := isome h; rcases h with ⟨c82, h⟩ | ⟨c82, h⟩
          · have c82_ : (!r81) = true := c82
            refine Chain.sub (Sub.bool 30 (b := (!r81)) rfl c82_) ?_
            refine Chain.sub (S' := mk 40 [] [(0, .d (.sl (a0.map cS105))), (5, .ref 14 0 l72.length), (6, .d (.lit (.int .i64 v25))), (16, .d (.lit (.int .i64 (a0.length : Int)))), (17, .d (.lit (.int .i64 v25))), (23, .ref 14 0 l72.length), (24, .d (.lit (.int .i64 v25))), (30, .d (.lit (.bool true)))] [(14, some (.arr 4 1 (l72.map cB)))]) (by simp; exact Sub.table (by simp) (by simp)) ?_
            refine Chain.runK [] 3 fun K hK => ?_; simp; refine hK _ _ ?_; clear hK K
            refine Chain.sub (S' := mk 40 [] [(0, .d (.sl (a0.map cS105))), (5, .ref 14 0 l72.length), (16, .d (.lit (.int .i64 (a0.length : Int)))), (17, .d (.lit (.int .i64 v25))), (23, .ref 14 0 l72.length), (24, .d (.lit (.int .i64 v25))), (30, .d (.lit (.bool true))), (31, .d (.sl (a0.map cS105))), (32, .ref 14 0 l72.length), (33, .d (.lit (.int .i64 v25)))] [(14, some (.arr 4 1 (l72.map cB)))]) (Sub.table (by simp) (by simp)) ?_
            replace h := bsome h; obtain ⟨r83, hr83, h⟩ := h
            refine Chain.callL (d := 34) (p67 N a0 l72 v25 r83 hr83) (by simp) rfl rfl (by simp <;> rfl) (by simp <;> rfl) ent67 (by simp <;> rfl) ?_
            refine Chain.sub (S' := mk 40 [] [(0, .d (.sl (a0.map cS105))), (5, .ref 14 0 l72.length), (16, .d (.lit (.int .i64 (a0.length : Int)))), (17, .d (.lit (.int .i64 v25))), (23, .ref 14 0 l72.length), (24, .d (.lit (.int .i64 v25))), (30, .d (.lit (.bool true))), (31, .d (.sl (a0.map cS105))), (32, .ref 14 0 l72.length), (33, .d (.lit (.int .i64 v25))), (34, .d (.lit (.bool r83)))] [(14, some (.arr 4 1 (l72.map cB)))]) (by simp; exact Sub.table (by simp) (by simp)) ?_
            replace h := bsome h; obtain ⟨x84, hx84, h⟩ := h
            obtain ⟨hx84, hx84a, hx84b⟩ := idx_some2 hx84 hx70k
            replace h := lsome h; obtain ⟨l85, gl85, h⟩ := h
            obtain ⟨hl85, hl85n⟩ := setI_some cB gl85 hx70k
            replace hl85 : (l72.map cB).set k71 [.lit (.bool (!r83))] = l85.map cB := hl85
            clear gl85
            refine Chain.runK [] 4 fun K hK => ?_; simp [hx84, hx70k, hx84a, hx84b, hl85]; refine hK _ _ ?_; clear hK K
            refine Chain.sub (S' := mk 40 [] [(0, .d (.sl (a0.map cS105))), (5, .ref 14 0 l85.length), (16, .d (.lit (.int .i64 (a0.length : Int)))), (17, .d (.lit (.int .i64 v25))), (31, .d (.sl (a0.map cS105))), (32, .ref 14 0 l85.length), (33, .d (.lit (.int .i64 v25))), (34, .d (.lit (.bool r83))), (35, .d (.lit (.bool (!r83))))] [(14, some (.arr 4 1 (l85.map cB)))]) (Sub.table (by simp [hl85n]) (by simp [hl85n])) ?_
            cases h
            exact Chain.nil (Sub.table (by simp) (by simp))
          · have c82_ : (!r81) = false := Bool.eq_false_iff.2 c82
            refine Chain.sub (Sub.bool 30 (b := (!r81)) rfl c82_) ?_
            refine Chain.sub (S' := mk 40 [] [(0, .d (.sl (a0.map cS105))), (5, .ref 14 0 l72.length), (6, .d (.lit (.int .i64 v25))), (16, .d (.lit (.int .i64 (a0.length : Int)))), (17, .d (.lit (.int .i64 v25))), (23, .ref 14 0 l72.length), (24, .d (.lit (.int .i64 v25))), (30, .d (.lit (.bool false)))] [(14, some (.arr 4 1 (l72.map cB)))]) (by simp; exact Sub.table (by simp) (by simp)) ?_
            replace h := bsome h; obtain ⟨x86, hx86, h⟩ := h
            obtain ⟨hx86, hx86a, hx86b⟩ := idx_some2 hx86 hx70k
            replace h := lsome h; obtain ⟨l87, gl87, h⟩ := h
            obtain ⟨hl87, hl87n⟩ := setI_some cB gl87 hx70k
            replace hl87 : (l72.map cB).set k71 [.lit (.bool false)] = l87.map cB := hl87
            clear gl87
            refine Chain.runK [] 8 fun K hK => ?_; simp [hx86, hx70k, hx86a, hx86b, hl87]; refine hK _ _ ?_; clear hK K
            refine Chain.sub (S' := mk 40 [] [(0, .d (.sl (a0.map cS105))), (5, .ref 14 0 l87.length), (16, .d (.lit (.int .i64 (a0.length : Int)))), (17, .d (.lit (.int .i64 v25))), (31, .tup []), (32, .tup []), (33, .tup []), (34, .tup []), (35, .tup [])] [(14, some (.arr 4 1 (l87.map cB)))]) (Sub.table (by simp [hl87n]) (by simp [hl87n])) ?_
            cases h
            exact Chain.nil (Sub.table (by simp) (by simp))
        · clear hj
          refine blockQ.normal ?_
          refine thenQ_normal ?_
          refine AW.sub hS ?_
          refine AW.region ?_
          replace h := bsome h; obtain ⟨v88, hv88, h⟩ := h
          have hv88 := chkI_some hv88
          refine Chain.runK [] 2 fun K hK => ?_; simp [hv88]; refine hK _ _ ?_; clear hK K
          refine Chain.sub (S' := mk 40 [] [(0, .d (.sl (a0.map cS105))), (5, .ref 14 0 l80.length), (16, .d (.lit (.int .i64 (a0.length : Int)))), (17, .d (.lit (.int .i64 v88)))] [(14, some (.arr 4 1 (l80.map cB)))]) (Sub.table (by simp) (by simp)) ?_
          refine Chain.nil ?_
          cases h
          refine PostI.next ?_
          exact (Sub.table (by simp) (by simp))
      · have c69_ : decide (v25 < (a0.length : Int)) = false := decide_eq_false c69
        refine AW.condF (b := decide (v25 < (a0.length : Int))) rfl c69_ ?_
        refine AW.sub (Sub.bool 18 (b := decide (v25 < (a0.length : Int))) rfl c69_) ?_
        refine AW.sub (S' := mk 40 [] [(0, .d (.sl (a0.map cS105))), (5, .ref 14 0 l24.length), (16, .d (.lit (.int .i64 (a0.length : Int)))), (17, .d (.lit (.int .i64 v25))), (18, .d (.lit (.bool false)))] [(14, some (.arr 4 1 (l24.map cB)))]) (by simp; exact Sub.table (by simp) (by simp)) ?_
        refine AW.exit ?_
        cases h
        refine thenQ_pass (by simp) ?_
        refine PostI.out (by simp) ?_
        rintro rfl
        refine blockQ.hit ?_
        refine PostN.next ?_
        exact (Sub.table (by simp) (by simp))
    · rintro l68 h
      refine thenQ_normal ?_
      refine AW.seqR ?_
      refine Chain.runK [] 3 fun K hK => ?_; simp; refine hK _ _ ?_; clear hK K
      refine Chain.sub (S' := mk 40 [] [(2, .ref 14 0 l68.length), (3, .d (.lit (.int .i64 0)))] [(14, some (.arr 4 1 (l68.map cB)))]) (Sub.table (by simp) (by simp)) ?_
      refine Chain.nil ?_
      refine AW.sub (Sub.freeze 14 rfl) ?_
      refine AW.sub (S' := mk 40 [] [(2, .d (.sl (l68.map cB))), (3, .d (.lit (.int .i64 0)))] []) (by simp; exact Sub.table (by simp) (by simp)) ?_
      refine AW.ret ?_
      cases h
      exact FinC.ret (by simp) (by simp)

/-- slices.Equal[[]bool,bool] -/
def d41 (N : Nat) (a0 : (List Bool)) (a1 : (List Bool)) : Option Bool :=
  if ((a0.length : Int) != (a1.length : Int)) then (
    some false
  ) else
  bindO (β := Unit) (ρ := Bool) (
    iterN (σ := Int) (ρ := (Out Unit Bool)) (fun (v8 : Int) =>
      if v8 < (a0.length : Int) then (
        (idx a0 v8).bind fun x23 =>
        (idx a1 v8).bind fun x25 =>
        if (!(x23 == x25)) then (
          some (.inr (.ret false))
        ) else
        (chkI (v8 + 1)).bind fun v27 =>
        some (.inl v27)
      ) else
      some (.inr (.go ()))
    ) N 0
  ) fun (_ : Unit) =>
  some true
set_option maxRecDepth 100000 in
set_option maxHeartbeats 4000000 in
theorem p41 (N : Nat) (a0 : (List Bool)) (a1 : (List Bool)) (r : Bool) (h : d41 N a0 a1 = some r) : FunC Try.prog 41 [.d (.sl (a0.map cB)), .d (.sl (a1.map cB))] (.d (.lit (.bool r))) := by
  unfold d41 at h
  refine FunC.enter 26 [(0, .d (.sl (a0.map cB))), (1, .d (.sl (a1.map cB)))] (by simp) Try.func41 rfl (of_decide_eq_true rfl) rfl rfl ?_
  refine AW.seqR ?_
  refine Chain.runK [] 1 fun K hK => ?_; simp; refine hK _ _ ?_; clear hK K
  refine Chain.sub (S' := mk 26 [] [(0, .d (.sl (a0.map cB))), (1, .d (.sl (a1.map cB)))] []) (Sub.table (by simp) (by simp)) ?_
  refine Chain.nil ?_
  refine AW.seq ?_
  refine AW.seqR ?_
  refine Chain.runK [] 5 fun K hK => ?_; simp; refine hK _ _ ?_; clear hK K
  refine Chain.sub (S' := mk 26 [] [(0, .d (.sl (a0.map cB))), (1, .d (.sl (a1.map cB))), (10, .d (.lit (.bool ((a0.length : Int) != (a1.length : Int)))))] []) (Sub.table (by simp) (by simp)) ?_
  refine Chain.nil ?_
  replace h := isome h; rcases h with ⟨c1, h⟩ | ⟨c1, h⟩
  · have c1_ : ((a0.length : Int) != (a1.length : Int)) = true := c1
    refine AW.condT (b := ((a0.length : Int) != (a1.length : Int))) rfl c1_ ?_
    refine AW.sub (Sub.bool 10 (b := ((a0.length : Int) != (a1.length : Int))) rfl c1_) ?_
    refine AW.sub (S' := mk 26 [] [(0, .d (.sl (a0.map cB))), (1, .d (.sl (a1.map cB))), (10, .d (.lit (.bool true)))] []) (by simp; exact Sub.table (by simp) (by simp)) ?_
    refine AW.seqR ?_
    refine Chain.runK [] 1 fun K hK => ?_; simp; refine hK _ _ ?_; clear hK K
    refine Chain.sub (S' := mk 26 [] [(4, .d (.lit (.bool false)))] []) (Sub.table (by simp) (by simp)) ?_
    refine Chain.nil ?_
    refine AW.ret ?_
    cases h
    refine thenQ_pass (by simp) ?_
    exact FinC.ret (by simp) (by simp)
  · have c1_ : ((a0.length : Int) != (a1.length : Int)) = false := Bool.eq_false_iff.2 c1
    refine AW.condF (b := ((a0.length : Int) != (a1.length : Int))) rfl c1_ ?_
    refine AW.sub (Sub.bool 10 (b := ((a0.length : Int) != (a1.length : Int))) rfl c1_) ?_
    refine AW.sub (S' := mk 26 [] [(0, .d (.sl (a0.map cB))), (1, .d (.sl (a1.map cB))), (10, .d (.lit (.bool false)))] []) (by simp; exact Sub.table (by simp) (by simp)) ?_
    refine AW.skip ?_
    refine thenQ_normal ?_
    refine AW.seq ?_
    refine AW.seqR ?_
    refine Chain.runK [] 3 fun K hK => ?_; simp; refine hK _ _ ?_; clear hK K
    refine Chain.sub (S' := mk 26 [] [(0, .d (.sl (a0.map cB))), (1, .d (.sl (a1.map cB))), (12, .d (.lit (.int .i64 (a0.length : Int)))), (13, .d (.lit (.int .i64 0)))] []) (Sub.table (by simp) (by simp)) ?_
    refine Chain.nil ?_
    refine AW.lastJ (fun (_ : Unit) => mk 26 [] [] []) h ?_ ?_ <;> clear h
    · intro o h
      refine AW.block ?_
      refine AW.iter (fun (v8 : Int) => mk 26 [] [(0, .d (.sl (a0.map cB))), (1, .d (.sl (a1.map cB))), (12, .d (.lit (.int .i64 (a0.length : Int)))), (13, .d (.lit (.int .i64 v8)))] []) h (Sub.table (by simp) (by simp)) ?_
      clear h
      rintro v8 x h
      refine AW.seqR ?_
      refine Chain.runK [] 1 fun K hK => ?_; simp; refine hK _ _ ?_; clear hK K
      refine Chain.sub (S' := mk 26 [] [(0, .d (.sl (a0.map cB))), (1, .d (.sl (a1.map cB))), (12, .d (.lit (.int .i64 (a0.length : Int)))), (13, .d (.lit (.int .i64 v8))), (14, .d (.lit (.bool (decide (v8 < (a0.length : Int))))))] []) (Sub.table (by simp) (by simp)) ?_
      refine Chain.nil ?_
      refine AW.seq ?_
      replace h := isome h; rcases h with ⟨c22, h⟩ | ⟨c22, h⟩
      · have c22_ : decide (v8 < (a0.length : Int)) = true := decide_eq_true c22
        refine AW.condT (b := decide (v8 < (a0.length : Int))) rfl c22_ ?_
        refine AW.sub (Sub.bool 14 (b := decide (v8 < (a0.length : Int))) rfl c22_) ?_
        refine AW.sub (S' := mk 26 [] [(0, .d (.sl (a0.map cB))), (1, .d (.sl (a1.map cB))), (12, .d (.lit (.int .i64 (a0.length : Int)))), (13, .d (.lit (.int .i64 v8))), (14, .d (.lit (.bool true)))] []) (by simp; exact Sub.table (by simp) (by simp)) ?_
        refine AW.skip ?_
        refine thenQ_normal ?_
        refine AW.seq ?_
        refine AW.block ?_
        refine AW.seqR ?_
        refine Chain.runK [] 2 fun K hK => ?_; simp; refine hK _ _ ?_; clear hK K
        refine Chain.sub (S' := mk 26 [] [(0, .d (.sl (a0.map cB))), (1, .d (.sl (a1.map cB))), (5, .d (.lit (.int .i64 v8))), (12, .d (.lit (.int .i64 (a0.length : Int)))), (13, .d (.lit (.int .i64 v8)))] []) (Sub.table (by simp) (by simp)) ?_
        refine Chain.nil ?_
        refine AW.seqQ (by kernel_rfl) (by kernel_rfl) ?_
        replace h := bsome h; obtain ⟨x23, hx23, h⟩ := h
        obtain ⟨k24, hx23k, hx23, hx23a, hx23b⟩ := idx_some hx23
        replace h := bsome h; obtain ⟨x25, hx25, h⟩ := h
        obtain ⟨hx25, hx25a, hx25b⟩ := idx_some2 hx25 hx23k
        refine Chain.runQ 9 fun K hK => ?_; simp [hx23, hx23k, hx23a, hx25, hx23k, hx25a]; refine hK _ _ ?_; clear hK K
        refine Chain.sub (S' := mk 26 [] [(0, .d (.sl (a0.map cB))), (1, .d (.sl (a1.map cB))), (12, .d (.lit (.int .i64 (a0.length : Int)))), (13, .d (.lit (.int .i64 v8))), (24, .d (.lit (.bool (!(x23 == x25)))))] []) (Sub.table (by simp) (by simp)) ?_
        refine Chain.nil ?_
        replace h := isome h; rcases h with ⟨c26, h⟩ | ⟨c26, h⟩
        · have c26_ : (!(x23 == x25)) = true := c26
          refine AW.condT (b := (!(x23 == x25))) rfl c26_ ?_
          refine AW.sub (Sub.bool 24 (b := (!(x23 == x25))) rfl c26_) ?_
          refine AW.sub (S' := mk 26 [] [(0, .d (.sl (a0.map cB))), (1, .d (.sl (a1.map cB))), (12, .d (.lit (.int .i64 (a0.length : Int)))), (13, .d (.lit (.int .i64 v8))), (24, .d (.lit (.bool true)))] []) (by simp; exact Sub.table (by simp) (by simp)) ?_
          refine AW.seqR ?_
          refine Chain.runK [] 1 fun K hK => ?_; simp; refine hK _ _ ?_; clear hK K
          refine Chain.sub (S' := mk 26 [] [(4, .d (.lit (.bool false)))] []) (Sub.table (by simp) (by simp)) ?_
          refine Chain.nil ?_
          refine AW.ret ?_
          cases h
          refine blockQ.ret ?_
          refine thenQ_pass (by simp) ?_
          refine PostI.out (by simp) ?_
          rintro rfl
          refine blockQ.ret ?_
          refine PostJ.out (by simp) ?_
          rintro rfl
          refine thenQ_pass (by simp) ?_
          exact FinC.ret (by simp) (by simp)
        · have c26_ : (!(x23 == x25)) = false := Bool.eq_false_iff.2 c26
          refine AW.condF (b := (!(x23 == x25))) rfl c26_ ?_
          refine AW.sub (Sub.bool 24 (b := (!(x23 == x25))) rfl c26_) ?_
          refine AW.sub (S' := mk 26 [] [(0, .d (.sl (a0.map cB))), (1, .d (.sl (a1.map cB))), (12, .d (.lit (.int .i64 (a0.length : Int)))), (13, .d (.lit (.int .i64 v8))), (24, .d (.lit (.bool false)))] []) (by simp; exact Sub.table (by simp) (by simp)) ?_
          refine AW.skip ?_
          refine blockQ.normal ?_
          refine thenQ_normal ?_
          refine AW.region ?_
          replace h := bsome h; obtain ⟨v27, hv27, h⟩ := h
          have hv27 := chkI_some hv27
          refine Chain.runK [] 2 fun K hK => ?_; simp [hv27]; refine hK _ _ ?_; clear hK K
          refine Chain.sub (S' := mk 26 [] [(0, .d (.sl (a0.map cB))), (1, .d (.sl (a1.map cB))), (12, .d (.lit (.int .i64 (a0.length : Int)))), (13, .d (.lit (.int .i64 v27)))] []) (Sub.table (by simp) (by simp)) ?_
          refine Chain.nil ?_
          cases h
          refine PostI.next ?_
          exact (Sub.table (by simp) (by simp))
      · have c22_ : decide (v8 < (a0.length : Int)) = false := decide_eq_false c22
        refine AW.condF (b := decide (v8 < (a0.length : Int))) rfl c22_ ?_
        refine AW.sub (Sub.bool 14 (b := decide (v8 < (a0.length : Int))) rfl c22_) ?_
        refine AW.sub (S' := mk 26 [] [(0, .d (.sl (a0.map cB))), (1, .d (.sl (a1.map cB))), (12, .d (.lit (.int .i64 (a0.length : Int)))), (13, .d (.lit (.int .i64 v8))), (14, .d (.lit (.bool false)))] []) (by simp; exact Sub.table (by simp) (by simp)) ?_
        refine AW.exit ?_
        cases h
        refine thenQ_pass (by simp) ?_
        refine PostI.out (by simp) ?_
        rintro rfl
        refine blockQ.hit ?_
        refine PostJ.next ?_
        exact (Sub.table (by simp) (by simp))
    · rintro ⟨⟩ h
      refine thenQ_normal ?_
      refine AW.seqR ?_
      refine Chain.runK [] 1 fun K hK => ?_; simp; refine hK _ _ ?_; clear hK K
      refine Chain.sub (S' := mk 26 [] [(4, .d (.lit (.bool true)))] []) (Sub.table (by simp) (by simp)) ?_
      refine Chain.nil ?_
      refine AW.ret ?_
      cases h
      exact FinC.ret (by simp) (by simp)

end Go.Proofs.Ytabjbkdlacibjaa
