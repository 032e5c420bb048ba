/- Functions of the program as functional programs; the code computes them. -/
import Derived.Test.YtabjbkdlacibjaaRf3
namespace Go.Proofs.Ytabjbkdlacibjaa
open Go.Ab Go.Rp
attribute [-simp] List.all_eq_true Array.all_toList Array.all_eq_true

/-- stemma/serializability.ReadsFrom -/
def d25 (N : Nat) (a0 : (List S27)) : Option ((List Int) × Int) :=
  (d18 N a0).bind fun r1 =>
  if (r1 != 0) then (
    some (([] : List Int), r1)
  ) else
  Option.bind (α := List Int) (
    iterN (σ := ((List Int) × Int)) (ρ := List Int) (fun ((l53, v54) : ((List Int) × Int)) =>
      if v54 < (a0.length : Int) then (
        (idx a0 v54).bind fun x161 =>
        if (x161.Kind == 1) then (
          (natI v54 a0.length).bind fun n164 =>
          letv (a0.take n164) fun l165 =>
          Option.bind (α := Int) (
            iterN (σ := (Int × Int)) (ρ := Int) (fun ((v175, v176) : (Int × Int)) =>
              if v176 < (l165.length : Int) then (
                (idx l165 v176).bind fun x199 =>
                Option.bind (α := Bool) (
                  if (x199.Kind == 2) then (
                    some (decide (x199.Key = x161.Key))
                  ) else
                  some false
                ) fun (v202 : Bool) =>
                if v202 = true then (
                  (chkI (v176 + 1)).bind fun v205 =>
                  some (.inl (v176, v205))
                ) else
                (chkI (v176 + 1)).bind fun v206 =>
                some (.inl (v175, v206))
              ) else
              some (.inr v175)
            ) N ((-1), 0)
          ) fun (v197 : Int) =>
          (appL 8 l53 [v197]).bind fun l207 =>
          (chkI ((n164 : Int) + 1)).bind fun v208 =>
          some (.inl ((l53 ++ [v197]), v208))
        ) else
        (appL 8 l53 [(-1)]).bind fun l209 =>
        (chkI (v54 + 1)).bind fun v210 =>
        some (.inl ((l53 ++ [(-1)]), v210))
      ) else
      some (.inr l53)
    ) N (([] : List Int), 0)
  ) fun (l159 : List Int) =>
  some (l159, 0)
set_option maxRecDepth 100000 in
set_option maxHeartbeats 4000000 in
theorem p25 (N : Nat) (a0 : (List S27)) (r : ((List Int) × Int)) (h : d25 N a0 = some r) : FunC Try.prog 25 [.d (.sl (a0.map cS27))] (.tup [.d (.sl (r.1.map (cI .i64))), .d (.lit (.int .i64 r.2))]) := by
  unfold d25 at h
  refine FunC.enter 53 [(0, .d (.sl (a0.map cS27)))] (by simp) Try.func25 rfl (of_decide_eq_true rfl) rfl rfl ?_
  refine AW.seqR ?_
  refine Chain.runK [] 2 fun K hK => ?_; simp; refine hK _ _ ?_; clear hK K
  refine Chain.sub (S' := mk 53 [] [(0, .d (.sl (a0.map cS27)))] []) (Sub.table (by simp) (by simp)) ?_
  refine Chain.nil ?_
  refine AW.seq ?_
  refine AW.seqR ?_
  refine Chain.runK [] 1 fun K hK => ?_; simp; refine hK _ _ ?_; clear hK K
  refine Chain.sub (S' := mk 53 [] [(0, .d (.sl (a0.map cS27))), (11, .d (.sl (a0.map cS27)))] []) (Sub.table (by simp) (by simp)) ?_
  replace h := bsome h; obtain ⟨r1, hr1, h⟩ := h
  refine Chain.callL (d := 12) (p18 N a0 r1 hr1) (by simp) rfl rfl (by simp <;> rfl) (by simp <;> rfl) ent18 (by simp <;> rfl) ?_
  refine Chain.sub (S' := mk 53 [] [(0, .d (.sl (a0.map cS27))), (11, .d (.sl (a0.map cS27))), (12, .d (.lit (.int .i64 r1)))] []) (by simp; exact Sub.table (by simp) (by simp)) ?_
  refine Chain.runK [] 1 fun K hK => ?_; simp; refine hK _ _ ?_; clear hK K
  refine Chain.sub (S' := mk 53 [] [(0, .d (.sl (a0.map cS27))), (4, .d (.lit (.int .i64 r1)))] []) (Sub.table (by simp) (by simp)) ?_
  refine Chain.nil ?_
  refine AW.seqR ?_
  refine Chain.runK [] 2 fun K hK => ?_; simp; refine hK _ _ ?_; clear hK K
  refine Chain.sub (S' := mk 53 [] [(0, .d (.sl (a0.map cS27))), (4, .d (.lit (.int .i64 r1))), (14, .d (.lit (.bool (r1 != 0))))] []) (Sub.table (by simp) (by simp)) ?_
  refine Chain.nil ?_
  replace h := isome h; rcases h with ⟨c2, h⟩ | ⟨c2, h⟩
  · have c2_ : (r1 != 0) = true := c2
    refine AW.condT (b := (r1 != 0)) rfl c2_ ?_
    refine AW.sub (Sub.bool 14 (b := (r1 != 0)) rfl c2_) ?_
    refine AW.sub (S' := mk 53 [] [(0, .d (.sl (a0.map cS27))), (4, .d (.lit (.int .i64 r1))), (14, .d (.lit (.bool true)))] []) (by simp; exact Sub.table (by simp) (by simp)) ?_
    refine AW.seqR ?_
    refine Chain.runK [] 3 fun K hK => ?_; simp; refine hK _ _ ?_; clear hK K
    refine Chain.sub (S' := mk 53 [] [(2, .d (.lit (.slice none 0 0))), (3, .d (.lit (.int .i64 r1)))] []) (Sub.table (by simp) (by simp)) ?_
    refine Chain.nil ?_
    refine AW.sub (Sub.wk 2 rfl) ?_
    refine AW.sub (S' := mk 53 [] [(2, .d (.sl (([] : List Int).map (cI .i64)))), (3, .d (.lit (.int .i64 r1)))] []) (by simp; exact Sub.table (by simp) (by simp)) ?_
    refine AW.ret ?_
    cases h
    refine thenQ_pass (by simp) ?_
    exact FinC.ret (by simp) (by simp)
  · have c2_ : (r1 != 0) = false := Bool.eq_false_iff.2 c2
    refine AW.condF (b := (r1 != 0)) rfl c2_ ?_
    refine AW.sub (Sub.bool 14 (b := (r1 != 0)) rfl c2_) ?_
    refine AW.sub (S' := mk 53 [] [(0, .d (.sl (a0.map cS27))), (4, .d (.lit (.int .i64 r1))), (14, .d (.lit (.bool false)))] []) (by simp; exact Sub.table (by simp) (by simp)) ?_
    refine AW.skip ?_
    refine thenQ_normal ?_
    refine AW.seqR ?_
    refine Chain.runK [] 1 fun K hK => ?_; simp; refine hK _ _ ?_; clear hK K
    refine Chain.sub (S' := mk 53 [] [(0, .d (.sl (a0.map cS27))), (5, .d (.lit (.slice none 0 0)))] []) (Sub.table (by simp) (by simp)) ?_
    refine Chain.nil ?_
    refine AW.seq ?_
    refine AW.seqR ?_
    refine Chain.runK [] 3 fun K hK => ?_; simp; refine hK _ _ ?_; clear hK K
    refine Chain.sub (S' := mk 53 [] [(0, .d (.sl (a0.map cS27))), (5, .d (.lit (.slice none 0 0))), (16, .d (.sl (a0.map cS27))), (17, .d (.lit (.int .i64 (a0.length : Int)))), (18, .d (.lit (.int .i64 0)))] []) (Sub.table (by simp) (by simp)) ?_
    refine Chain.nil ?_
    refine AW.lastN (fun (l159 : List Int) => mk 53 [] [(5, .ref 50 0 l159.length)] [(50, some (.arr 3 1 (l159.map (cI .i64))))]) h ?_ ?_ <;> clear h
    · intro o h
      refine AW.block ?_
      refine AW.iter (fun ((l53, v54) : ((List Int) × Int)) => mk 53 [] [(0, .d (.sl (a0.map cS27))), (5, .ref 50 0 l53.length), (16, .d (.sl (a0.map cS27))), (17, .d (.lit (.int .i64 (a0.length : Int)))), (18, .d (.lit (.int .i64 v54)))] [(50, some (.arr 3 1 (l53.map (cI .i64))))]) h (Sub.trans (Sub.nilOwn (t := 5) (id := 50) (T := 3) (n := 1) rfl rfl (by decide)) (by simp; exact Sub.table (by simp) (by simp))) ?_
      clear h
      rintro ⟨l53, v54⟩ x h
      dsimp only at h ⊢
      refine AW.seqR ?_
      refine Chain.runK [] 1 fun K hK => ?_; simp; refine hK _ _ ?_; clear hK K
      refine Chain.sub (S' := mk 53 [] [(0, .d (.sl (a0.map cS27))), (5, .ref 50 0 l53.length), (16, .d (.sl (a0.map cS27))), (17, .d (.lit (.int .i64 (a0.length : Int)))), (18, .d (.lit (.int .i64 v54))), (19, .d (.lit (.bool (decide (v54 < (a0.length : Int))))))] [(50, some (.arr 3 1 (l53.map (cI .i64))))]) (Sub.table (by simp) (by simp)) ?_
      refine Chain.nil ?_
      refine AW.seq ?_
      replace h := isome h; rcases h with ⟨c160, h⟩ | ⟨c160, h⟩
      · have c160_ : decide (v54 < (a0.length : Int)) = true := decide_eq_true c160
        refine AW.condT (b := decide (v54 < (a0.length : Int))) rfl c160_ ?_
        refine AW.sub (Sub.bool 19 (b := decide (v54 < (a0.length : Int))) rfl c160_) ?_
        refine AW.sub (S' := mk 53 [] [(0, .d (.sl (a0.map cS27))), (5, .ref 50 0 l53.length), (16, .d (.sl (a0.map cS27))), (17, .d (.lit (.int .i64 (a0.length : Int)))), (18, .d (.lit (.int .i64 v54))), (19, .d (.lit (.bool true)))] [(50, some (.arr 3 1 (l53.map (cI .i64))))]) (by simp; exact Sub.table (by simp) (by simp)) ?_
        refine AW.skip ?_
        refine thenQ_normal ?_
        refine AW.seq ?_
        refine AW.block ?_
        refine AW.seqR ?_
        replace h := bsome h; obtain ⟨x161, hx161, h⟩ := h
        obtain ⟨k162, hx161k, hx161, hx161a, hx161b⟩ := idx_some hx161
        refine Chain.runK [] 6 fun K hK => ?_; simp [hx161, hx161k, hx161a]; refine hK _ _ ?_; clear hK K
        refine Chain.sub (S' := mk 53 [] [(0, .d (.sl (a0.map cS27))), (5, .ref 50 0 l53.length), (6, .d (.lit (.int .i64 v54))), (7, .ptr 7 0 0), (16, .d (.sl (a0.map cS27))), (17, .d (.lit (.int .i64 (a0.length : Int)))), (18, .d (.lit (.int .i64 v54)))] [(7, some (.box [.d (.lit (.int .i64 x161.Tx)), .d (.lit (.int .i64 x161.Kind)), .d (.lit (.string x161.Key))])), (50, some (.arr 3 1 (l53.map (cI .i64))))]) (Sub.table (by simp) (by simp)) ?_
        refine Chain.nil ?_
        refine AW.seqR ?_
        refine Chain.runK [] 1 fun K hK => ?_; simp; refine hK _ _ ?_; clear hK K
        refine Chain.sub (S' := mk 53 [] [(0, .d (.sl (a0.map cS27))), (5, .ref 50 0 l53.length), (6, .d (.lit (.int .i64 v54))), (7, .ptr 7 0 0), (8, .d (.lit (.int .i64 (-1)))), (16, .d (.sl (a0.map cS27))), (17, .d (.lit (.int .i64 (a0.length : Int)))), (18, .d (.lit (.int .i64 v54)))] [(7, some (.box [.d (.lit (.int .i64 x161.Tx)), .d (.lit (.int .i64 x161.Kind)), .d (.lit (.string x161.Key))])), (50, some (.arr 3 1 (l53.map (cI .i64))))]) (Sub.table (by simp) (by simp)) ?_
        refine Chain.nil ?_
        refine AW.seq ?_
        refine AW.seqR ?_
        refine Chain.runK [] 3 fun K hK => ?_; simp; refine hK _ _ ?_; clear hK K
        refine Chain.sub (S' := mk 53 [] [(0, .d (.sl (a0.map cS27))), (5, .ref 50 0 l53.length), (6, .d (.lit (.int .i64 v54))), (7, .ptr 7 0 0), (8, .d (.lit (.int .i64 (-1)))), (16, .d (.sl (a0.map cS27))), (17, .d (.lit (.int .i64 (a0.length : Int)))), (18, .d (.lit (.int .i64 v54))), (25, .d (.lit (.bool (x161.Kind == 1))))] [(7, some (.box [.d (.lit (.int .i64 x161.Tx)), .d (.lit (.int .i64 x161.Kind)), .d (.lit (.string x161.Key))])), (50, some (.arr 3 1 (l53.map (cI .i64))))]) (Sub.table (by simp) (by simp)) ?_
        refine Chain.nil ?_
        replace h := isome h; rcases h with ⟨c163, h⟩ | ⟨c163, h⟩
        · have c163_ : (x161.Kind == 1) = true := c163
          refine AW.condT (b := (x161.Kind == 1)) rfl c163_ ?_
          refine AW.sub (Sub.bool 25 (b := (x161.Kind == 1)) rfl c163_) ?_
          refine AW.sub (S' := mk 53 [] [(0, .d (.sl (a0.map cS27))), (5, .ref 50 0 l53.length), (6, .d (.lit (.int .i64 v54))), (7, .ptr 7 0 0), (8, .d (.lit (.int .i64 (-1)))), (16, .d (.sl (a0.map cS27))), (17, .d (.lit (.int .i64 (a0.length : Int)))), (18, .d (.lit (.int .i64 v54))), (25, .d (.lit (.bool true)))] [(7, some (.box [.d (.lit (.int .i64 x161.Tx)), .d (.lit (.int .i64 x161.Kind)), .d (.lit (.string x161.Key))])), (50, some (.arr 3 1 (l53.map (cI .i64))))]) (by simp; exact Sub.table (by simp) (by simp)) ?_
          refine AW.seqR ?_
          replace h := bsome h; obtain ⟨n164, gn164, h⟩ := h
          obtain ⟨hn164a, hn164⟩ := natI_some gn164
          clear gn164
          subst hn164a
          replace h := lsome h; obtain ⟨l165, gl165, h⟩ := h
          have hl165 : ((a0.map cS27).take n164) = l165.map cS27 := by rw [← gl165]; simp
          clear gl165
          refine Chain.runK [] 5 fun K hK => ?_; simp [hn164, hl165]; refine hK _ _ ?_; clear hK K
          refine Chain.sub (S' := mk 53 [] [(0, .d (.sl (a0.map cS27))), (5, .ref 50 0 l53.length), (7, .ptr 7 0 0), (8, .d (.lit (.int .i64 (-1)))), (16, .d (.sl (a0.map cS27))), (17, .d (.lit (.int .i64 (a0.length : Int)))), (18, .d (.lit (.int .i64 (n164 : Int)))), (28, .d (.sl (l165.map cS27))), (29, .d (.lit (.int .i64 (l165.length : Int)))), (30, .d (.lit (.int .i64 0)))] [(7, some (.box [.d (.lit (.int .i64 x161.Tx)), .d (.lit (.int .i64 x161.Kind)), .d (.lit (.string x161.Key))])), (50, some (.arr 3 1 (l53.map (cI .i64))))]) (Sub.table (by simp) (by simp)) ?_
          refine Chain.nil ?_
          refine AW.lastN (fun (v197 : Int) => mk 53 [] [(0, .d (.sl (a0.map cS27))), (5, .ref 50 0 l53.length), (8, .d (.lit (.int .i64 v197))), (16, .d (.sl (a0.map cS27))), (17, .d (.lit (.int .i64 (a0.length : Int)))), (18, .d (.lit (.int .i64 (n164 : Int))))] [(50, some (.arr 3 1 (l53.map (cI .i64))))]) h ?_ ?_ <;> clear h
          · intro o h
            refine AW.block ?_
            refine AW.iter (fun ((v175, v176) : (Int × Int)) => mk 53 [] [(0, .d (.sl (a0.map cS27))), (5, .ref 50 0 l53.length), (7, .ptr 7 0 0), (8, .d (.lit (.int .i64 v175))), (16, .d (.sl (a0.map cS27))), (17, .d (.lit (.int .i64 (a0.length : Int)))), (18, .d (.lit (.int .i64 (n164 : Int)))), (28, .d (.sl (l165.map cS27))), (29, .d (.lit (.int .i64 (l165.length : Int)))), (30, .d (.lit (.int .i64 v176)))] [(7, some (.box [.d (.lit (.int .i64 x161.Tx)), .d (.lit (.int .i64 x161.Kind)), .d (.lit (.string x161.Key))])), (50, some (.arr 3 1 (l53.map (cI .i64))))]) h (Sub.table (by simp) (by simp)) ?_
            clear h
            rintro ⟨v175, v176⟩ x h
            dsimp only at h ⊢
            refine AW.seqR ?_
            refine Chain.runK [] 1 fun K hK => ?_; simp; refine hK _ _ ?_; clear hK K
            refine Chain.sub (S' := mk 53 [] [(0, .d (.sl (a0.map cS27))), (5, .ref 50 0 l53.length), (7, .ptr 7 0 0), (8, .d (.lit (.int .i64 v175))), (16, .d (.sl (a0.map cS27))), (17, .d (.lit (.int .i64 (a0.length : Int)))), (18, .d (.lit (.int .i64 (n164 : Int)))), (28, .d (.sl (l165.map cS27))), (29, .d (.lit (.int .i64 (l165.length : Int)))), (30, .d (.lit (.int .i64 v176))), (31, .d (.lit (.bool (decide (v176 < (l165.length : Int))))))] [(7, some (.box [.d (.lit (.int .i64 x161.Tx)), .d (.lit (.int .i64 x161.Kind)), .d (.lit (.string x161.Key))])), (50, some (.arr 3 1 (l53.map (cI .i64))))]) (Sub.table (by simp) (by simp)) ?_
            refine Chain.nil ?_
            refine AW.seq ?_
            replace h := isome h; rcases h with ⟨c198, h⟩ | ⟨c198, h⟩
            · have c198_ : decide (v176 < (l165.length : Int)) = true := decide_eq_true c198
              refine AW.condT (b := decide (v176 < (l165.length : Int))) rfl c198_ ?_
              refine AW.sub (Sub.bool 31 (b := decide (v176 < (l165.length : Int))) rfl c198_) ?_
              refine AW.sub (S' := mk 53 [] [(0, .d (.sl (a0.map cS27))), (5, .ref 50 0 l53.length), (7, .ptr 7 0 0), (8, .d (.lit (.int .i64 v175))), (16, .d (.sl (a0.map cS27))), (17, .d (.lit (.int .i64 (a0.length : Int)))), (18, .d (.lit (.int .i64 (n164 : Int)))), (28, .d (.sl (l165.map cS27))), (29, .d (.lit (.int .i64 (l165.length : Int)))), (30, .d (.lit (.int .i64 v176))), (31, .d (.lit (.bool true)))] [(7, some (.box [.d (.lit (.int .i64 x161.Tx)), .d (.lit (.int .i64 x161.Kind)), .d (.lit (.string x161.Key))])), (50, some (.arr 3 1 (l53.map (cI .i64))))]) (by simp; exact Sub.table (by simp) (by simp)) ?_
              refine AW.skip ?_
              refine thenQ_normal ?_
              refine AW.seq ?_
              refine AW.block ?_
              refine AW.seqR ?_
              replace h := bsome h; obtain ⟨x199, hx199, h⟩ := h
              obtain ⟨k200, hx199k, hx199, hx199a, hx199b⟩ := idx_some hx199
              refine Chain.runK [] 6 fun K hK => ?_; simp [hx199, hx199k, hx199a]; refine hK _ _ ?_; clear hK K
              refine Chain.sub (S' := mk 53 [] [(0, .d (.sl (a0.map cS27))), (5, .ref 50 0 l53.length), (7, .ptr 7 0 0), (8, .d (.lit (.int .i64 v175))), (9, .d (.lit (.int .i64 v176))), (10, .ptr 10 0 0), (16, .d (.sl (a0.map cS27))), (17, .d (.lit (.int .i64 (a0.length : Int)))), (18, .d (.lit (.int .i64 (n164 : Int)))), (28, .d (.sl (l165.map cS27))), (29, .d (.lit (.int .i64 (l165.length : Int)))), (30, .d (.lit (.int .i64 v176)))] [(7, some (.box [.d (.lit (.int .i64 x161.Tx)), .d (.lit (.int .i64 x161.Kind)), .d (.lit (.string x161.Key))])), (10, some (.box [.d (.lit (.int .i64 x199.Tx)), .d (.lit (.int .i64 x199.Kind)), .d (.lit (.string x199.Key))])), (50, some (.arr 3 1 (l53.map (cI .i64))))]) (Sub.table (by simp) (by simp)) ?_
              refine Chain.nil ?_
              replace h := bsome h; obtain ⟨v202, hj, h⟩ := h
              refine AW.cutR (mk 53 [] [(0, .d (.sl (a0.map cS27))), (5, .ref 50 0 l53.length), (7, .ptr 7 0 0), (8, .d (.lit (.int .i64 v175))), (9, .d (.lit (.int .i64 v176))), (16, .d (.sl (a0.map cS27))), (17, .d (.lit (.int .i64 (a0.length : Int)))), (18, .d (.lit (.int .i64 (n164 : Int)))), (28, .d (.sl (l165.map cS27))), (29, .d (.lit (.int .i64 (l165.length : Int)))), (30, .d (.lit (.int .i64 v176))), (44, .d (.lit (.bool v202)))] [(7, some (.box [.d (.lit (.int .i64 x161.Tx)), .d (.lit (.int .i64 x161.Kind)), .d (.lit (.string x161.Key))])), (50, some (.arr 3 1 (l53.map (cI .i64))))]) ?_ ?_
              · clear h; have h := hj; clear hj
                refine Chain.runK [] 4 fun K hK => ?_; simp; refine hK _ _ ?_; clear hK K
                refine Chain.sub (S' := mk 53 [] [(0, .d (.sl (a0.map cS27))), (5, .ref 50 0 l53.length), (7, .ptr 7 0 0), (8, .d (.lit (.int .i64 v175))), (9, .d (.lit (.int .i64 v176))), (10, .ptr 10 0 0), (16, .d (.sl (a0.map cS27))), (17, .d (.lit (.int .i64 (a0.length : Int)))), (18, .d (.lit (.int .i64 (n164 : Int)))), (28, .d (.sl (l165.map cS27))), (29, .d (.lit (.int .i64 (l165.length : Int)))), (30, .d (.lit (.int .i64 v176))), (38, .d (.lit (.bool (x199.Kind == 2))))] [(7, some (.box [.d (.lit (.int .i64 x161.Tx)), .d (.lit (.int .i64 x161.Kind)), .d (.lit (.string x161.Key))])), (10, some (.box [.d (.lit (.int .i64 x199.Tx)), .d (.lit (.int .i64 x199.Kind)), .d (.lit (.string x199.Key))])), (50, some (.arr 3 1 (l53.map (cI .i64))))]) (Sub.table (by simp) (by simp)) ?_
                replace h := isome h; rcases h with ⟨c203, h⟩ | ⟨c203, h⟩
                · have c203_ : (x199.Kind == 2) = true := c203
                  refine Chain.sub (Sub.bool 38 (b := (x199.Kind == 2)) rfl c203_) ?_
                  refine Chain.sub (S' := mk 53 [] [(0, .d (.sl (a0.map cS27))), (5, .ref 50 0 l53.length), (7, .ptr 7 0 0), (8, .d (.lit (.int .i64 v175))), (9, .d (.lit (.int .i64 v176))), (10, .ptr 10 0 0), (16, .d (.sl (a0.map cS27))), (17, .d (.lit (.int .i64 (a0.length : Int)))), (18, .d (.lit (.int .i64 (n164 : Int)))), (28, .d (.sl (l165.map cS27))), (29, .d (.lit (.int .i64 (l165.length : Int)))), (30, .d (.lit (.int .i64 v176))), (38, .d (.lit (.bool true)))] [(7, some (.box [.d (.lit (.int .i64 x161.Tx)), .d (.lit (.int .i64 x161.Kind)), .d (.lit (.string x161.Key))])), (10, some (.box [.d (.lit (.int .i64 x199.Tx)), .d (.lit (.int .i64 x199.Kind)), .d (.lit (.string x199.Key))])), (50, some (.arr 3 1 (l53.map (cI .i64))))]) (by simp; exact Sub.table (by simp) (by simp)) ?_
                  refine Chain.runK [] 6 fun K hK => ?_; simp; refine hK _ _ ?_; clear hK K
                  refine Chain.sub (S' := mk 53 [] [(0, .d (.sl (a0.map cS27))), (5, .ref 50 0 l53.length), (7, .ptr 7 0 0), (8, .d (.lit (.int .i64 v175))), (9, .d (.lit (.int .i64 v176))), (16, .d (.sl (a0.map cS27))), (17, .d (.lit (.int .i64 (a0.length : Int)))), (18, .d (.lit (.int .i64 (n164 : Int)))), (28, .d (.sl (l165.map cS27))), (29, .d (.lit (.int .i64 (l165.length : Int)))), (30, .d (.lit (.int .i64 v176))), (39, .ptr 10 0 2), (40, .d (.lit (.string x199.Key))), (41, .ptr 7 0 2), (42, .d (.lit (.string x161.Key))), (43, .d (.lit (.bool (decide (x199.Key = x161.Key))))), (44, .d (.lit (.bool (decide (x199.Key = x161.Key)))))] [(7, some (.box [.d (.lit (.int .i64 x161.Tx)), .d (.lit (.int .i64 x161.Kind)), .d (.lit (.string x161.Key))])), (10, some (.box [.d (.lit (.int .i64 x199.Tx)), .d (.lit (.int .i64 x199.Kind)), .d (.lit (.string x199.Key))])), (50, some (.arr 3 1 (l53.map (cI .i64))))]) (Sub.table (by simp) (by simp)) ?_
                  cases h
                  exact Chain.nil (Sub.table (by simp) (by simp))
                · have c203_ : (x199.Kind == 2) = false := Bool.eq_false_iff.2 c203
                  refine Chain.sub (Sub.bool 38 (b := (x199.Kind == 2)) rfl c203_) ?_
                  refine Chain.sub (S' := mk 53 [] [(0, .d (.sl (a0.map cS27))), (5, .ref 50 0 l53.length), (7, .ptr 7 0 0), (8, .d (.lit (.int .i64 v175))), (9, .d (.lit (.int .i64 v176))), (10, .ptr 10 0 0), (16, .d (.sl (a0.map cS27))), (17, .d (.lit (.int .i64 (a0.length : Int)))), (18, .d (.lit (.int .i64 (n164 : Int)))), (28, .d (.sl (l165.map cS27))), (29, .d (.lit (.int .i64 (l165.length : Int)))), (30, .d (.lit (.int .i64 v176))), (38, .d (.lit (.bool false)))] [(7, some (.box [.d (.lit (.int .i64 x161.Tx)), .d (.lit (.int .i64 x161.Kind)), .d (.lit (.string x161.Key))])), (10, some (.box [.d (.lit (.int .i64 x199.Tx)), .d (.lit (.int .i64 x199.Kind)), .d (.lit (.string x199.Key))])), (50, some (.arr 3 1 (l53.map (cI .i64))))]) (by simp; exact Sub.table (by simp) (by simp)) ?_
                  refine Chain.runK [] 6 fun K hK => ?_; simp; refine hK _ _ ?_; clear hK K
                  refine Chain.sub (S' := mk 53 [] [(0, .d (.sl (a0.map cS27))), (5, .ref 50 0 l53.length), (7, .ptr 7 0 0), (8, .d (.lit (.int .i64 v175))), (9, .d (.lit (.int .i64 v176))), (16, .d (.sl (a0.map cS27))), (17, .d (.lit (.int .i64 (a0.length : Int)))), (18, .d (.lit (.int .i64 (n164 : Int)))), (28, .d (.sl (l165.map cS27))), (29, .d (.lit (.int .i64 (l165.length : Int)))), (30, .d (.lit (.int .i64 v176))), (39, .tup []), (40, .tup []), (41, .tup []), (42, .tup []), (43, .tup []), (44, .d (.lit (.bool false)))] [(7, some (.box [.d (.lit (.int .i64 x161.Tx)), .d (.lit (.int .i64 x161.Kind)), .d (.lit (.string x161.Key))])), (50, some (.arr 3 1 (l53.map (cI .i64))))]) (Sub.table (by simp) (by simp)) ?_
                  cases h
                  exact Chain.nil (Sub.table (by simp) (by simp))
              · clear hj
                replace h := isome h; rcases h with ⟨c204, h⟩ | ⟨c204, h⟩
                · have c204_ : v202 = true := c204
                  refine AW.condT (b := v202) rfl c204_ ?_
                  refine AW.sub (Sub.bool 44 (b := v202) rfl c204_) ?_
                  refine AW.sub (S' := mk 53 [] [(0, .d (.sl (a0.map cS27))), (5, .ref 50 0 l53.length), (7, .ptr 7 0 0), (8, .d (.lit (.int .i64 v175))), (9, .d (.lit (.int .i64 v176))), (16, .d (.sl (a0.map cS27))), (17, .d (.lit (.int .i64 (a0.length : Int)))), (18, .d (.lit (.int .i64 (n164 : Int)))), (28, .d (.sl (l165.map cS27))), (29, .d (.lit (.int .i64 (l165.length : Int)))), (30, .d (.lit (.int .i64 v176))), (44, .d (.lit (.bool true)))] [(7, some (.box [.d (.lit (.int .i64 x161.Tx)), .d (.lit (.int .i64 x161.Kind)), .d (.lit (.string x161.Key))])), (50, some (.arr 3 1 (l53.map (cI .i64))))]) (by simp; exact Sub.table (by simp) (by simp)) ?_
                  refine AW.region ?_
                  refine Chain.runK [] 2 fun K hK => ?_; simp; refine hK _ _ ?_; clear hK K
                  refine Chain.sub (S' := mk 53 [] [(0, .d (.sl (a0.map cS27))), (5, .ref 50 0 l53.length), (7, .ptr 7 0 0), (8, .d (.lit (.int .i64 v176))), (16, .d (.sl (a0.map cS27))), (17, .d (.lit (.int .i64 (a0.length : Int)))), (18, .d (.lit (.int .i64 (n164 : Int)))), (28, .d (.sl (l165.map cS27))), (29, .d (.lit (.int .i64 (l165.length : Int)))), (30, .d (.lit (.int .i64 v176)))] [(7, some (.box [.d (.lit (.int .i64 x161.Tx)), .d (.lit (.int .i64 x161.Kind)), .d (.lit (.string x161.Key))])), (50, some (.arr 3 1 (l53.map (cI .i64))))]) (Sub.table (by simp) (by simp)) ?_
                  refine Chain.nil ?_
                  refine blockQ.normal ?_
                  refine thenQ_normal ?_
                  refine AW.region ?_
                  replace h := bsome h; obtain ⟨v205, hv205, h⟩ := h
                  have hv205 := chkI_some hv205
                  refine Chain.runK [] 2 fun K hK => ?_; simp [hv205]; refine hK _ _ ?_; clear hK K
                  refine Chain.sub (S' := mk 53 [] [(0, .d (.sl (a0.map cS27))), (5, .ref 50 0 l53.length), (7, .ptr 7 0 0), (8, .d (.lit (.int .i64 v176))), (16, .d (.sl (a0.map cS27))), (17, .d (.lit (.int .i64 (a0.length : Int)))), (18, .d (.lit (.int .i64 (n164 : Int)))), (28, .d (.sl (l165.map cS27))), (29, .d (.lit (.int .i64 (l165.length : Int)))), (30, .d (.lit (.int .i64 v205)))] [(7, some (.box [.d (.lit (.int .i64 x161.Tx)), .d (.lit (.int .i64 x161.Kind)), .d (.lit (.string x161.Key))])), (50, some (.arr 3 1 (l53.map (cI .i64))))]) (Sub.table (by simp) (by simp)) ?_
                  refine Chain.nil ?_
                  cases h
                  refine PostI.next ?_
                  exact (Sub.table (by simp) (by simp))
                · have c204_ : v202 = false := Bool.eq_false_iff.2 c204
                  refine AW.condF (b := v202) rfl c204_ ?_
                  refine AW.sub (Sub.bool 44 (b := v202) rfl c204_) ?_
                  refine AW.sub (S' := mk 53 [] [(0, .d (.sl (a0.map cS27))), (5, .ref 50 0 l53.length), (7, .ptr 7 0 0), (8, .d (.lit (.int .i64 v175))), (9, .d (.lit (.int .i64 v176))), (16, .d (.sl (a0.map cS27))), (17, .d (.lit (.int .i64 (a0.length : Int)))), (18, .d (.lit (.int .i64 (n164 : Int)))), (28, .d (.sl (l165.map cS27))), (29, .d (.lit (.int .i64 (l165.length : Int)))), (30, .d (.lit (.int .i64 v176))), (44, .d (.lit (.bool false)))] [(7, some (.box [.d (.lit (.int .i64 x161.Tx)), .d (.lit (.int .i64 x161.Kind)), .d (.lit (.string x161.Key))])), (50, some (.arr 3 1 (l53.map (cI .i64))))]) (by simp; exact Sub.table (by simp) (by simp)) ?_
                  refine AW.skip ?_
                  refine blockQ.normal ?_
                  refine thenQ_normal ?_
                  refine AW.region ?_
                  replace h := bsome h; obtain ⟨v206, hv206, h⟩ := h
                  have hv206 := chkI_some hv206
                  refine Chain.runK [] 2 fun K hK => ?_; simp [hv206]; refine hK _ _ ?_; clear hK K
                  refine Chain.sub (S' := mk 53 [] [(0, .d (.sl (a0.map cS27))), (5, .ref 50 0 l53.length), (7, .ptr 7 0 0), (8, .d (.lit (.int .i64 v175))), (16, .d (.sl (a0.map cS27))), (17, .d (.lit (.int .i64 (a0.length : Int)))), (18, .d (.lit (.int .i64 (n164 : Int)))), (28, .d (.sl (l165.map cS27))), (29, .d (.lit (.int .i64 (l165.length : Int)))), (30, .d (.lit (.int .i64 v206)))] [(7, some (.box [.d (.lit (.int .i64 x161.Tx)), .d (.lit (.int .i64 x161.Kind)), .d (.lit (.string x161.Key))])), (50, some (.arr 3 1 (l53.map (cI .i64))))]) (Sub.table (by simp) (by simp)) ?_
                  refine Chain.nil ?_
                  cases h
                  refine PostI.next ?_
                  exact (Sub.table (by simp) (by simp))
            · have c198_ : decide (v176 < (l165.length : Int)) = false := decide_eq_false c198
              refine AW.condF (b := decide (v176 < (l165.length : Int))) rfl c198_ ?_
              refine AW.sub (Sub.bool 31 (b := decide (v176 < (l165.length : Int))) rfl c198_) ?_
              refine AW.sub (S' := mk 53 [] [(0, .d (.sl (a0.map cS27))), (5, .ref 50 0 l53.length), (7, .ptr 7 0 0), (8, .d (.lit (.int .i64 v175))), (16, .d (.sl (a0.map cS27))), (17, .d (.lit (.int .i64 (a0.length : Int)))), (18, .d (.lit (.int .i64 (n164 : Int)))), (28, .d (.sl (l165.map cS27))), (29, .d (.lit (.int .i64 (l165.length : Int)))), (30, .d (.lit (.int .i64 v176))), (31, .d (.lit (.bool false)))] [(7, some (.box [.d (.lit (.int .i64 x161.Tx)), .d (.lit (.int .i64 x161.Kind)), .d (.lit (.string x161.Key))])), (50, some (.arr 3 1 (l53.map (cI .i64))))]) (by simp; exact Sub.table (by simp) (by simp)) ?_
              refine AW.exit ?_
              cases h
              refine thenQ_pass (by simp) ?_
              refine PostI.out (by simp) ?_
              rintro rfl
              refine blockQ.hit ?_
              refine PostN.next ?_
              exact (Sub.table (by simp) (by simp))
          · rintro v197 h
            refine thenQ_normal ?_
            refine AW.region ?_
            replace h := bsome h; obtain ⟨l207, hl207, h⟩ := h
            obtain ⟨hl207a, hl207⟩ := appL_some hl207
            subst hl207
            try simp only [List.length_append, List.length_cons, List.length_nil, Nat.zero_add] at hl207a
            refine Chain.runK [49] 5 fun K hK => ?_; simp [hl207a]; refine hK _ _ ?_; clear hK K
            refine Chain.sub (S' := mk 53 [] [(0, .d (.sl (a0.map cS27))), (5, .ref 50 0 ((l53 ++ [v197]).length)), (16, .d (.sl (a0.map cS27))), (17, .d (.lit (.int .i64 (a0.length : Int)))), (18, .d (.lit (.int .i64 (n164 : Int))))] [(50, some (.arr 3 1 ((l53 ++ [v197]).map (cI .i64))))]) (Sub.table (by simp) (by simp)) ?_
            refine Chain.nil ?_
            refine blockQ.normal ?_
            refine thenQ_normal ?_
            refine AW.region ?_
            replace h := bsome h; obtain ⟨v208, hv208, h⟩ := h
            have hv208 := chkI_some hv208
            refine Chain.runK [] 2 fun K hK => ?_; simp [hv208]; refine hK _ _ ?_; clear hK K
            refine Chain.sub (S' := mk 53 [] [(0, .d (.sl (a0.map cS27))), (5, .ref 50 0 ((l53 ++ [v197]).length)), (16, .d (.sl (a0.map cS27))), (17, .d (.lit (.int .i64 (a0.length : Int)))), (18, .d (.lit (.int .i64 v208)))] [(50, some (.arr 3 1 ((l53 ++ [v197]).map (cI .i64))))]) (Sub.table (by simp) (by simp)) ?_
            refine Chain.nil ?_
            cases h
            refine PostI.next ?_
            exact (Sub.table (by simp) (by simp))
        · have c163_ : (x161.Kind == 1) = false := Bool.eq_false_iff.2 c163
          refine AW.condF (b := (x161.Kind == 1)) rfl c163_ ?_
          refine AW.sub (Sub.bool 25 (b := (x161.Kind == 1)) rfl c163_) ?_
          refine AW.sub (S' := mk 53 [] [(0, .d (.sl (a0.map cS27))), (5, .ref 50 0 l53.length), (6, .d (.lit (.int .i64 v54))), (7, .ptr 7 0 0), (8, .d (.lit (.int .i64 (-1)))), (16, .d (.sl (a0.map cS27))), (17, .d (.lit (.int .i64 (a0.length : Int)))), (18, .d (.lit (.int .i64 v54))), (25, .d (.lit (.bool false)))] [(7, some (.box [.d (.lit (.int .i64 x161.Tx)), .d (.lit (.int .i64 x161.Kind)), .d (.lit (.string x161.Key))])), (50, some (.arr 3 1 (l53.map (cI .i64))))]) (by simp; exact Sub.table (by simp) (by simp)) ?_
          refine AW.skip ?_
          refine thenQ_normal ?_
          refine AW.region ?_
          replace h := bsome h; obtain ⟨l209, hl209, h⟩ := h
          obtain ⟨hl209a, hl209⟩ := appL_some hl209
          subst hl209
          try simp only [List.length_append, List.length_cons, List.length_nil, Nat.zero_add] at hl209a
          refine Chain.runK [49] 5 fun K hK => ?_; simp [hl209a]; refine hK _ _ ?_; clear hK K
          refine Chain.sub (S' := mk 53 [] [(0, .d (.sl (a0.map cS27))), (5, .ref 50 0 ((l53 ++ [(-1)]).length)), (16, .d (.sl (a0.map cS27))), (17, .d (.lit (.int .i64 (a0.length : Int)))), (18, .d (.lit (.int .i64 v54)))] [(50, some (.arr 3 1 ((l53 ++ [(-1)]).map (cI .i64))))]) (Sub.table (by simp) (by simp)) ?_
          refine Chain.nil ?_
          refine blockQ.normal ?_
          refine thenQ_normal ?_
          refine AW.region ?_
          replace h := bsome h; obtain ⟨v210, hv210, h⟩ := h
          have hv210 := chkI_some hv210
          refine Chain.runK [] 2 fun K hK => ?_; simp [hv210]; refine hK _ _ ?_; clear hK K
          refine Chain.sub (S' := mk 53 [] [(0, .d (.sl (a0.map cS27))), (5, .ref 50 0 ((l53 ++ [(-1)]).length)), (16, .d (.sl (a0.map cS27))), (17, .d (.lit (.int .i64 (a0.length : Int)))), (18, .d (.lit (.int .i64 v210)))] [(50, some (.arr 3 1 ((l53 ++ [(-1)]).map (cI .i64))))]) (Sub.table (by simp) (by simp)) ?_
          refine Chain.nil ?_
          cases h
          refine PostI.next ?_
          exact (Sub.table (by simp) (by simp))
      · have c160_ : decide (v54 < (a0.length : Int)) = false := decide_eq_false c160
        refine AW.condF (b := decide (v54 < (a0.length : Int))) rfl c160_ ?_
        refine AW.sub (Sub.bool 19 (b := decide (v54 < (a0.length : Int))) rfl c160_) ?_
        refine AW.sub (S' := mk 53 [] [(0, .d (.sl (a0.map cS27))), (5, .ref 50 0 l53.length), (16, .d (.sl (a0.map cS27))), (17, .d (.lit (.int .i64 (a0.length : Int)))), (18, .d (.lit (.int .i64 v54))), (19, .d (.lit (.bool false)))] [(50, some (.arr 3 1 (l53.map (cI .i64))))]) (by simp; exact Sub.table (by simp) (by simp)) ?_
        refine AW.exit ?_
        cases h
        refine thenQ_pass (by simp) ?_
        refine PostI.out (by simp) ?_
        rintro rfl
        refine blockQ.hit ?_
        refine PostN.next ?_
        exact (Sub.table (by simp) (by simp))
    · rintro l159 h
      refine thenQ_normal ?_
      refine AW.seqR ?_
      refine Chain.runK [] 3 fun K hK => ?_; simp; refine hK _ _ ?_; clear hK K
      refine Chain.sub (S' := mk 53 [] [(2, .ref 50 0 l159.length), (3, .d (.lit (.int .i64 0)))] [(50, some (.arr 3 1 (l159.map (cI .i64))))]) (Sub.table (by simp) (by simp)) ?_
      refine Chain.nil ?_
      refine AW.sub (Sub.freeze 50 rfl) ?_
      refine AW.sub (S' := mk 53 [] [(2, .d (.sl (l159.map (cI .i64)))), (3, .d (.lit (.int .i64 0)))] []) (by simp; exact Sub.table (by simp) (by simp)) ?_
      refine AW.ret ?_
      cases h
      exact FinC.ret (by simp) (by simp)

/-- slices.Index[[]int,int] -/
def d86 (N : Nat) (a0 : (List Int)) (a1 : Int) : Option Int :=
  bindO (β := Unit) (ρ := Int) (
    iterN (σ := Int) (ρ := (Out Unit Int)) (fun (v6 : Int) =>
      if v6 < (a0.length : Int) then (
        (idx a0 v6).bind fun x19 =>
        if (a1 == x19) then (
          some (.inr (.ret v6))
        ) else
        (chkI (v6 + 1)).bind fun v22 =>
        some (.inl v22)
      ) else
      some (.inr (.go ()))
    ) N 0
  ) fun (_ : Unit) =>
  some (-1)
set_option maxRecDepth 100000 in
set_option maxHeartbeats 4000000 in
theorem p86 (N : Nat) (a0 : (List Int)) (a1 : Int) (r : Int) (h : d86 N a0 a1 = some r) : FunC Try.prog 86 [.d (.sl (a0.map (cI .i64))), .d (.lit (.int .i64 a1))] (.d (.lit (.int .i64 r))) := by
  unfold d86 at h
  refine FunC.enter 19 [(0, .d (.sl (a0.map (cI .i64)))), (1, .d (.lit (.int .i64 a1)))] (by simp) Try.func86 rfl (of_decide_eq_true rfl) rfl rfl ?_
  refine AW.seqR ?_
  refine Chain.runK [] 1 fun K hK => ?_; simp; refine hK _ _ ?_; clear hK K
  refine Chain.sub (S' := mk 19 [] [(0, .d (.sl (a0.map (cI .i64)))), (1, .d (.lit (.int .i64 a1)))] []) (Sub.table (by simp) (by simp)) ?_
  refine Chain.nil ?_
  refine AW.seq ?_
  refine AW.seqR ?_
  refine Chain.runK [] 3 fun K hK => ?_; simp; refine hK _ _ ?_; clear hK K
  refine Chain.sub (S' := mk 19 [] [(0, .d (.sl (a0.map (cI .i64)))), (1, .d (.lit (.int .i64 a1))), (7, .d (.lit (.int .i64 (a0.length : Int)))), (8, .d (.lit (.int .i64 0)))] []) (Sub.table (by simp) (by simp)) ?_
  refine Chain.nil ?_
  refine AW.lastJ (fun (_ : Unit) => mk 19 [] [] []) h ?_ ?_ <;> clear h
  · intro o h
    refine AW.block ?_
    refine AW.iter (fun (v6 : Int) => mk 19 [] [(0, .d (.sl (a0.map (cI .i64)))), (1, .d (.lit (.int .i64 a1))), (7, .d (.lit (.int .i64 (a0.length : Int)))), (8, .d (.lit (.int .i64 v6)))] []) h (Sub.table (by simp) (by simp)) ?_
    clear h
    rintro v6 x h
    refine AW.seqR ?_
    refine Chain.runK [] 1 fun K hK => ?_; simp; refine hK _ _ ?_; clear hK K
    refine Chain.sub (S' := mk 19 [] [(0, .d (.sl (a0.map (cI .i64)))), (1, .d (.lit (.int .i64 a1))), (7, .d (.lit (.int .i64 (a0.length : Int)))), (8, .d (.lit (.int .i64 v6))), (9, .d (.lit (.bool (decide (v6 < (a0.length : Int))))))] []) (Sub.table (by simp) (by simp)) ?_
    refine Chain.nil ?_
    refine AW.seq ?_
    replace h := isome h; rcases h with ⟨c18, h⟩ | ⟨c18, h⟩
    · have c18_ : decide (v6 < (a0.length : Int)) = true := decide_eq_true c18
      refine AW.condT (b := decide (v6 < (a0.length : Int))) rfl c18_ ?_
      refine AW.sub (Sub.bool 9 (b := decide (v6 < (a0.length : Int))) rfl c18_) ?_
      refine AW.sub (S' := mk 19 [] [(0, .d (.sl (a0.map (cI .i64)))), (1, .d (.lit (.int .i64 a1))), (7, .d (.lit (.int .i64 (a0.length : Int)))), (8, .d (.lit (.int .i64 v6))), (9, .d (.lit (.bool true)))] []) (by simp; exact Sub.table (by simp) (by simp)) ?_
      refine AW.skip ?_
      refine thenQ_normal ?_
      refine AW.seq ?_
      refine AW.block ?_
      refine AW.seqR ?_
      refine Chain.runK [] 2 fun K hK => ?_; simp; refine hK _ _ ?_; clear hK K
      refine Chain.sub (S' := mk 19 [] [(0, .d (.sl (a0.map (cI .i64)))), (1, .d (.lit (.int .i64 a1))), (5, .d (.lit (.int .i64 v6))), (7, .d (.lit (.int .i64 (a0.length : Int)))), (8, .d (.lit (.int .i64 v6)))] []) (Sub.table (by simp) (by simp)) ?_
      refine Chain.nil ?_
      refine AW.seqR ?_
      replace h := bsome h; obtain ⟨x19, hx19, h⟩ := h
      obtain ⟨k20, hx19k, hx19, hx19a, hx19b⟩ := idx_some hx19
      refine Chain.runK [] 6 fun K hK => ?_; simp [hx19, hx19k, hx19a]; refine hK _ _ ?_; clear hK K
      refine Chain.sub (S' := mk 19 [] [(0, .d (.sl (a0.map (cI .i64)))), (1, .d (.lit (.int .i64 a1))), (5, .d (.lit (.int .i64 v6))), (7, .d (.lit (.int .i64 (a0.length : Int)))), (8, .d (.lit (.int .i64 v6))), (16, .d (.lit (.bool (a1 == x19))))] []) (Sub.table (by simp) (by simp)) ?_
      refine Chain.nil ?_
      replace h := isome h; rcases h with ⟨c21, h⟩ | ⟨c21, h⟩
      · have c21_ : (a1 == x19) = true := c21
        refine AW.condT (b := (a1 == x19)) rfl c21_ ?_
        refine AW.sub (Sub.bool 16 (b := (a1 == x19)) rfl c21_) ?_
        refine AW.sub (S' := mk 19 [] [(0, .d (.sl (a0.map (cI .i64)))), (1, .d (.lit (.int .i64 a1))), (5, .d (.lit (.int .i64 v6))), (7, .d (.lit (.int .i64 (a0.length : Int)))), (8, .d (.lit (.int .i64 v6))), (16, .d (.lit (.bool true)))] []) (by simp; exact Sub.table (by simp) (by simp)) ?_
        refine AW.seqR ?_
        refine Chain.runK [] 2 fun K hK => ?_; simp; refine hK _ _ ?_; clear hK K
        refine Chain.sub (S' := mk 19 [] [(4, .d (.lit (.int .i64 v6)))] []) (Sub.table (by simp) (by simp)) ?_
        refine Chain.nil ?_
        refine AW.ret ?_
        cases h
        refine blockQ.ret ?_
        refine thenQ_pass (by simp) ?_
        refine PostI.out (by simp) ?_
        rintro rfl
        refine blockQ.ret ?_
        refine PostJ.out (by simp) ?_
        rintro rfl
        refine thenQ_pass (by simp) ?_
        exact FinC.ret (by simp) (by simp)
      · have c21_ : (a1 == x19) = false := Bool.eq_false_iff.2 c21
        refine AW.condF (b := (a1 == x19)) rfl c21_ ?_
        refine AW.sub (Sub.bool 16 (b := (a1 == x19)) rfl c21_) ?_
        refine AW.sub (S' := mk 19 [] [(0, .d (.sl (a0.map (cI .i64)))), (1, .d (.lit (.int .i64 a1))), (5, .d (.lit (.int .i64 v6))), (7, .d (.lit (.int .i64 (a0.length : Int)))), (8, .d (.lit (.int .i64 v6))), (16, .d (.lit (.bool false)))] []) (by simp; exact Sub.table (by simp) (by simp)) ?_
        refine AW.skip ?_
        refine blockQ.normal ?_
        refine thenQ_normal ?_
        refine AW.region ?_
        replace h := bsome h; obtain ⟨v22, hv22, h⟩ := h
        have hv22 := chkI_some hv22
        refine Chain.runK [] 2 fun K hK => ?_; simp [hv22]; refine hK _ _ ?_; clear hK K
        refine Chain.sub (S' := mk 19 [] [(0, .d (.sl (a0.map (cI .i64)))), (1, .d (.lit (.int .i64 a1))), (7, .d (.lit (.int .i64 (a0.length : Int)))), (8, .d (.lit (.int .i64 v22)))] []) (Sub.table (by simp) (by simp)) ?_
        refine Chain.nil ?_
        cases h
        refine PostI.next ?_
        exact (Sub.table (by simp) (by simp))
    · have c18_ : decide (v6 < (a0.length : Int)) = false := decide_eq_false c18
      refine AW.condF (b := decide (v6 < (a0.length : Int))) rfl c18_ ?_
      refine AW.sub (Sub.bool 9 (b := decide (v6 < (a0.length : Int))) rfl c18_) ?_
      refine AW.sub (S' := mk 19 [] [(0, .d (.sl (a0.map (cI .i64)))), (1, .d (.lit (.int .i64 a1))), (7, .d (.lit (.int .i64 (a0.length : Int)))), (8, .d (.lit (.int .i64 v6))), (9, .d (.lit (.bool false)))] []) (by simp; exact Sub.table (by simp) (by simp)) ?_
      refine AW.exit ?_
      cases h
      refine thenQ_pass (by simp) ?_
      refine PostI.out (by simp) ?_
      rintro rfl
      refine blockQ.hit ?_
      refine PostJ.next ?_
      exact (Sub.table (by simp) (by simp))
  · rintro ⟨⟩ h
    refine thenQ_normal ?_
    refine AW.seqR ?_
    refine Chain.runK [] 1 fun K hK => ?_; simp; refine hK _ _ ?_; clear hK K
    refine Chain.sub (S' := mk 19 [] [(4, .d (.lit (.int .i64 (-1))))] []) (Sub.table (by simp) (by simp)) ?_
    refine Chain.nil ?_
    refine AW.ret ?_
    cases h
    exact FinC.ret (by simp) (by simp)

/-- slices.Contains[[]int,int] -/
def d57 (N : Nat) (a0 : (List Int)) (a1 : Int) : Option Bool :=
  (d86 N a0 a1).bind fun r1 =>
  some (decide (r1 ≥ 0))
set_option maxRecDepth 100000 in
set_option maxHeartbeats 4000000 in
theorem p57 (N : Nat) (a0 : (List Int)) (a1 : Int) (r : Bool) (h : d57 N a0 a1 = some r) : FunC Try.prog 57 [.d (.sl (a0.map (cI .i64))), .d (.lit (.int .i64 a1))] (.d (.lit (.bool r))) := by
  unfold d57 at h
  refine FunC.enter 9 [(0, .d (.sl (a0.map (cI .i64)))), (1, .d (.lit (.int .i64 a1)))] (by simp) Try.func57 rfl (of_decide_eq_true rfl) rfl rfl ?_
  refine AW.seqR ?_
  refine Chain.runK [] 1 fun K hK => ?_; simp; refine hK _ _ ?_; clear hK K
  refine Chain.sub (S' := mk 9 [] [(0, .d (.sl (a0.map (cI .i64)))), (1, .d (.lit (.int .i64 a1)))] []) (Sub.table (by simp) (by simp)) ?_
  refine Chain.nil ?_
  refine AW.seqR ?_
  refine Chain.runK [] 2 fun K hK => ?_; simp; refine hK _ _ ?_; clear hK K
  refine Chain.sub (S' := mk 9 [] [(5, .d (.sl (a0.map (cI .i64)))), (6, .d (.lit (.int .i64 a1)))] []) (Sub.table (by simp) (by simp)) ?_
  replace h := bsome h; obtain ⟨r1, hr1, h⟩ := h
  refine Chain.callL (d := 7) (p86 N a0 a1 r1 hr1) (by simp) rfl rfl (by simp <;> rfl) (by simp <;> rfl) ent86 (by simp <;> rfl) ?_
  refine Chain.sub (S' := mk 9 [] [(5, .d (.sl (a0.map (cI .i64)))), (6, .d (.lit (.int .i64 a1))), (7, .d (.lit (.int .i64 r1)))] []) (by simp; exact Sub.table (by simp) (by simp)) ?_
  refine Chain.runK [] 2 fun K hK => ?_; simp; refine hK _ _ ?_; clear hK K
  refine Chain.sub (S' := mk 9 [] [(4, .d (.lit (.bool (decide (r1 ≥ 0)))))] []) (Sub.table (by simp) (by simp)) ?_
  refine Chain.nil ?_
  refine AW.ret ?_
  cases h
  exact FinC.ret (by simp) (by simp)

/-- stemma/serializability.Serialize -/
def d26 (N : Nat) (a0 : (List S27)) (a1 : (List Int)) : Option ((List S27) × Int) :=
  (d18 N a0).bind fun r1 =>
  if (r1 != 0) then (
    some (([] : List S27), r1)
  ) else
  bindO (β := List S27) (ρ := ((List S27) × Int)) (
    iterN (σ := ((List S27) × Int)) (ρ := (Out (List S27) ((List S27) × Int))) (fun ((l43, v44) : ((List S27) × Int)) =>
      if v44 < (a1.length : Int) then (
        (idx a1 v44).bind fun x131 =>
        (natI v44 a1.length).bind fun n133 =>
        letv (a1.take n133) fun l134 =>
        (d57 N l134 x131).bind fun r135 =>
        if r135 = true then (
          some (.inr (.ret (([] : List S27), 5)))
        ) else
        Option.bind (α := List S27) (
          iterN (σ := ((List S27) × Int)) (ρ := List S27) (fun ((l144, v145) : ((List S27) × Int)) =>
            if v145 < (a0.length : Int) then (
              (idx a0 v145).bind fun x164 =>
              if (x164.Tx == x131) then (
                (appL 32 l144 [x164]).bind fun l167 =>
                (chkI (v145 + 1)).bind fun v168 =>
                some (.inl ((l144 ++ [x164]), v168))
              ) else
              (chkI (v145 + 1)).bind fun v169 =>
              some (.inl (l144, v169))
            ) else
            some (.inr l144)
          ) N (l43, 0)
        ) fun (l162 : List S27) =>
        (chkI ((n133 : Int) + 1)).bind fun v170 =>
        some (.inl (l162, v170))
      ) else
      some (.inr (.go l43))
    ) N (([] : List S27), 0)
  ) fun (l129 : List S27) =>
  if ((l129.length : Int) != (a0.length : Int)) then (
    some (([] : List S27), 4)
  ) else
  some (l129, 0)
set_option maxRecDepth 100000 in
set_option maxHeartbeats 4000000 in
theorem p26 (N : Nat) (a0 : (List S27)) (a1 : (List Int)) (r : ((List S27) × Int)) (h : d26 N a0 a1 = some r) : FunC Try.prog 26 [.d (.sl (a0.map cS27)), .d (.sl (a1.map (cI .i64)))] (.tup [.d (.sl (r.1.map cS27)), .d (.lit (.int .i64 r.2))]) := by
  unfold d26 at h
  refine FunC.enter 51 [(0, .d (.sl (a0.map cS27))), (1, .d (.sl (a1.map (cI .i64))))] (by simp) Try.func26 rfl (of_decide_eq_true rfl) rfl rfl ?_
  refine AW.seqR ?_
  refine Chain.runK [] 2 fun K hK => ?_; simp; refine hK _ _ ?_; clear hK K
  refine Chain.sub (S' := mk 51 [] [(0, .d (.sl (a0.map cS27))), (1, .d (.sl (a1.map (cI .i64))))] []) (Sub.table (by simp) (by simp)) ?_
  refine Chain.nil ?_
  refine AW.seq ?_
  refine AW.seqR ?_
  refine Chain.runK [] 1 fun K hK => ?_; simp; refine hK _ _ ?_; clear hK K
  refine Chain.sub (S' := mk 51 [] [(0, .d (.sl (a0.map cS27))), (1, .d (.sl (a1.map (cI .i64)))), (12, .d (.sl (a0.map cS27)))] []) (Sub.table (by simp) (by simp)) ?_
  replace h := bsome h; obtain ⟨r1, hr1, h⟩ := h
  refine Chain.callL (d := 13) (p18 N a0 r1 hr1) (by simp) rfl rfl (by simp <;> rfl) (by simp <;> rfl) ent18 (by simp <;> rfl) ?_
  refine Chain.sub (S' := mk 51 [] [(0, .d (.sl (a0.map cS27))), (1, .d (.sl (a1.map (cI .i64)))), (12, .d (.sl (a0.map cS27))), (13, .d (.lit (.int .i64 r1)))] []) (by simp; exact Sub.table (by simp) (by simp)) ?_
  refine Chain.runK [] 1 fun K hK => ?_; simp; refine hK _ _ ?_; clear hK K
  refine Chain.sub (S' := mk 51 [] [(0, .d (.sl (a0.map cS27))), (1, .d (.sl (a1.map (cI .i64)))), (6, .d (.lit (.int .i64 r1)))] []) (Sub.table (by simp) (by simp)) ?_
  refine Chain.nil ?_
  refine AW.seqR ?_
  refine Chain.runK [] 2 fun K hK => ?_; simp; refine hK _ _ ?_; clear hK K
  refine Chain.sub (S' := mk 51 [] [(0, .d (.sl (a0.map cS27))), (1, .d (.sl (a1.map (cI .i64)))), (6, .d (.lit (.int .i64 r1))), (15, .d (.lit (.bool (r1 != 0))))] []) (Sub.table (by simp) (by simp)) ?_
  refine Chain.nil ?_
  replace h := isome h; rcases h with ⟨c2, h⟩ | ⟨c2, h⟩
  · have c2_ : (r1 != 0) = true := c2
    refine AW.condT (b := (r1 != 0)) rfl c2_ ?_
    refine AW.sub (Sub.bool 15 (b := (r1 != 0)) rfl c2_) ?_
    refine AW.sub (S' := mk 51 [] [(0, .d (.sl (a0.map cS27))), (1, .d (.sl (a1.map (cI .i64)))), (6, .d (.lit (.int .i64 r1))), (15, .d (.lit (.bool true)))] []) (by simp; exact Sub.table (by simp) (by simp)) ?_
    refine AW.seqR ?_
    refine Chain.runK [] 3 fun K hK => ?_; simp; refine hK _ _ ?_; clear hK K
    refine Chain.sub (S' := mk 51 [] [(4, .d (.lit (.slice none 0 0))), (5, .d (.lit (.int .i64 r1)))] []) (Sub.table (by simp) (by simp)) ?_
    refine Chain.nil ?_
    refine AW.sub (Sub.wk 4 rfl) ?_
    refine AW.sub (S' := mk 51 [] [(4, .d (.sl (([] : List S27).map cS27))), (5, .d (.lit (.int .i64 r1)))] []) (by simp; exact Sub.table (by simp) (by simp)) ?_
    refine AW.ret ?_
    cases h
    refine thenQ_pass (by simp) ?_
    exact FinC.ret (by simp) (by simp)
  · have c2_ : (r1 != 0) = false := Bool.eq_false_iff.2 c2
    refine AW.condF (b := (r1 != 0)) rfl c2_ ?_
    refine AW.sub (Sub.bool 15 (b := (r1 != 0)) rfl c2_) ?_
    refine AW.sub (S' := mk 51 [] [(0, .d (.sl (a0.map cS27))), (1, .d (.sl (a1.map (cI .i64)))), (6, .d (.lit (.int .i64 r1))), (15, .d (.lit (.bool false)))] []) (by simp; exact Sub.table (by simp) (by simp)) ?_
    refine AW.skip ?_
    refine thenQ_normal ?_
    refine AW.seqR ?_
    refine Chain.runK [] 1 fun K hK => ?_; simp; refine hK _ _ ?_; clear hK K
    refine Chain.sub (S' := mk 51 [] [(0, .d (.sl (a0.map cS27))), (1, .d (.sl (a1.map (cI .i64)))), (7, .d (.lit (.slice none 0 0)))] []) (Sub.table (by simp) (by simp)) ?_
    refine Chain.nil ?_
    refine AW.seq ?_
    refine AW.seqR ?_
    refine Chain.runK [] 3 fun K hK => ?_; simp; refine hK _ _ ?_; clear hK K
    refine Chain.sub (S' := mk 51 [] [(0, .d (.sl (a0.map cS27))), (1, .d (.sl (a1.map (cI .i64)))), (7, .d (.lit (.slice none 0 0))), (17, .d (.sl (a1.map (cI .i64)))), (18, .d (.lit (.int .i64 (a1.length : Int)))), (19, .d (.lit (.int .i64 0)))] []) (Sub.table (by simp) (by simp)) ?_
    refine Chain.nil ?_
    refine AW.lastJ (fun (l129 : List S27) => mk 51 [] [(0, .d (.sl (a0.map cS27))), (7, .ref 42 0 l129.length)] [(42, some (.arr 27 3 (l129.map cS27)))]) h ?_ ?_ <;> clear h
    · intro o h
      refine AW.block ?_
      refine AW.iter (fun ((l43, v44) : ((List S27) × Int)) => mk 51 [] [(0, .d (.sl (a0.map cS27))), (1, .d (.sl (a1.map (cI .i64)))), (7, .ref 42 0 l43.length), (17, .d (.sl (a1.map (cI .i64)))), (18, .d (.lit (.int .i64 (a1.length : Int)))), (19, .d (.lit (.int .i64 v44)))] [(42, some (.arr 27 3 (l43.map cS27)))]) h (Sub.trans (Sub.nilOwn (t := 7) (id := 42) (T := 27) (n := 3) rfl rfl (by decide)) (by simp; exact Sub.table (by simp) (by simp))) ?_
      clear h
      rintro ⟨l43, v44⟩ x h
      dsimp only at h ⊢
      refine AW.seqR ?_
      refine Chain.runK [] 1 fun K hK => ?_; simp; refine hK _ _ ?_; clear hK K
      refine Chain.sub (S' := mk 51 [] [(0, .d (.sl (a0.map cS27))), (1, .d (.sl (a1.map (cI .i64)))), (7, .ref 42 0 l43.length), (17, .d (.sl (a1.map (cI .i64)))), (18, .d (.lit (.int .i64 (a1.length : Int)))), (19, .d (.lit (.int .i64 v44))), (20, .d (.lit (.bool (decide (v44 < (a1.length : Int))))))] [(42, some (.arr 27 3 (l43.map cS27)))]) (Sub.table (by simp) (by simp)) ?_
      refine Chain.nil ?_
      refine AW.seq ?_
      replace h := isome h; rcases h with ⟨c130, h⟩ | ⟨c130, h⟩
      · have c130_ : decide (v44 < (a1.length : Int)) = true := decide_eq_true c130
        refine AW.condT (b := decide (v44 < (a1.length : Int))) rfl c130_ ?_
        refine AW.sub (Sub.bool 20 (b := decide (v44 < (a1.length : Int))) rfl c130_) ?_
        refine AW.sub (S' := mk 51 [] [(0, .d (.sl (a0.map cS27))), (1, .d (.sl (a1.map (cI .i64)))), (7, .ref 42 0 l43.length), (17, .d (.sl (a1.map (cI .i64)))), (18, .d (.lit (.int .i64 (a1.length : Int)))), (19, .d (.lit (.int .i64 v44))), (20, .d (.lit (.bool true)))] [(42, some (.arr 27 3 (l43.map cS27)))]) (by simp; exact Sub.table (by simp) (by simp)) ?_
        refine AW.skip ?_
        refine thenQ_normal ?_
        refine AW.seq ?_
        refine AW.block ?_
        refine AW.seqR ?_
        replace h := bsome h; obtain ⟨x131, hx131, h⟩ := h
        obtain ⟨k132, hx131k, hx131, hx131a, hx131b⟩ := idx_some hx131
        refine Chain.runK [] 5 fun K hK => ?_; simp [hx131, hx131k, hx131a]; refine hK _ _ ?_; clear hK K
        refine Chain.sub (S' := mk 51 [] [(0, .d (.sl (a0.map cS27))), (1, .d (.sl (a1.map (cI .i64)))), (7, .ref 42 0 l43.length), (8, .d (.lit (.int .i64 v44))), (9, .d (.lit (.int .i64 x131))), (17, .d (.sl (a1.map (cI .i64)))), (18, .d (.lit (.int .i64 (a1.length : Int)))), (19, .d (.lit (.int .i64 v44)))] [(42, some (.arr 27 3 (l43.map cS27)))]) (Sub.table (by simp) (by simp)) ?_
        refine Chain.nil ?_
        refine AW.seq ?_
        refine AW.seqR ?_
        replace h := bsome h; obtain ⟨n133, gn133, h⟩ := h
        obtain ⟨hn133a, hn133⟩ := natI_some gn133
        clear gn133
        subst hn133a
        replace h := lsome h; obtain ⟨l134, gl134, h⟩ := h
        have hl134 : ((a1.map (cI .i64)).take n133) = l134.map (cI .i64) := by rw [← gl134]; simp
        clear gl134
        refine Chain.runK [] 4 fun K hK => ?_; simp [hn133, hl134]; refine hK _ _ ?_; clear hK K
        refine Chain.sub (S' := mk 51 [] [(0, .d (.sl (a0.map cS27))), (1, .d (.sl (a1.map (cI .i64)))), (7, .ref 42 0 l43.length), (9, .d (.lit (.int .i64 x131))), (17, .d (.sl (a1.map (cI .i64)))), (18, .d (.lit (.int .i64 (a1.length : Int)))), (19, .d (.lit (.int .i64 (n133 : Int)))), (26, .d (.sl (l134.map (cI .i64)))), (27, .d (.lit (.int .i64 x131)))] [(42, some (.arr 27 3 (l43.map cS27)))]) (Sub.table (by simp) (by simp)) ?_
        replace h := bsome h; obtain ⟨r135, hr135, h⟩ := h
        refine Chain.callL (d := 28) (p57 N l134 x131 r135 hr135) (by simp) rfl rfl (by simp <;> rfl) (by simp <;> rfl) ent57 (by simp <;> rfl) ?_
        refine Chain.sub (S' := mk 51 [] [(0, .d (.sl (a0.map cS27))), (1, .d (.sl (a1.map (cI .i64)))), (7, .ref 42 0 l43.length), (9, .d (.lit (.int .i64 x131))), (17, .d (.sl (a1.map (cI .i64)))), (18, .d (.lit (.int .i64 (a1.length : Int)))), (19, .d (.lit (.int .i64 (n133 : Int)))), (26, .d (.sl (l134.map (cI .i64)))), (27, .d (.lit (.int .i64 x131))), (28, .d (.lit (.bool r135)))] [(42, some (.arr 27 3 (l43.map cS27)))]) (by simp; exact Sub.table (by simp) (by simp)) ?_
        refine Chain.nil ?_
        replace h := isome h; rcases h with ⟨c136, h⟩ | ⟨c136, h⟩
        · have c136_ : r135 = true := c136
          refine AW.condT (b := r135) rfl c136_ ?_
          refine AW.sub (Sub.bool 28 (b := r135) rfl c136_) ?_
          refine AW.sub (S' := mk 51 [] [(0, .d (.sl (a0.map cS27))), (1, .d (.sl (a1.map (cI .i64)))), (7, .ref 42 0 l43.length), (9, .d (.lit (.int .i64 x131))), (17, .d (.sl (a1.map (cI .i64)))), (18, .d (.lit (.int .i64 (a1.length : Int)))), (19, .d (.lit (.int .i64 (n133 : Int)))), (26, .d (.sl (l134.map (cI .i64)))), (27, .d (.lit (.int .i64 x131))), (28, .d (.lit (.bool true)))] [(42, some (.arr 27 3 (l43.map cS27)))]) (by simp; exact Sub.table (by simp) (by simp)) ?_
          refine AW.seqR ?_
          refine Chain.runK [] 2 fun K hK => ?_; simp; refine hK _ _ ?_; clear hK K
          refine Chain.sub (S' := mk 51 [] [(4, .d (.lit (.slice none 0 0))), (5, .d (.lit (.int .i64 5)))] []) (Sub.table (by simp) (by simp)) ?_
          refine Chain.nil ?_
          refine AW.sub (Sub.wk 4 rfl) ?_
          refine AW.sub (S' := mk 51 [] [(4, .d (.sl (([] : List S27).map cS27))), (5, .d (.lit (.int .i64 5)))] []) (by simp; exact Sub.table (by simp) (by simp)) ?_
          refine AW.ret ?_
          cases h
          refine thenQ_pass (by simp) ?_
          refine blockQ.ret ?_
          refine thenQ_pass (by simp) ?_
          refine PostI.out (by simp) ?_
          rintro rfl
          refine blockQ.ret ?_
          refine PostJ.out (by simp) ?_
          rintro rfl
          refine thenQ_pass (by simp) ?_
          exact FinC.ret (by simp) (by simp)
        · have c136_ : r135 = false := Bool.eq_false_iff.2 c136
          refine AW.condF (b := r135) rfl c136_ ?_
          refine AW.sub (Sub.bool 28 (b := r135) rfl c136_) ?_
          refine AW.sub (S' := mk 51 [] [(0, .d (.sl (a0.map cS27))), (1, .d (.sl (a1.map (cI .i64)))), (7, .ref 42 0 l43.length), (9, .d (.lit (.int .i64 x131))), (17, .d (.sl (a1.map (cI .i64)))), (18, .d (.lit (.int .i64 (a1.length : Int)))), (19, .d (.lit (.int .i64 (n133 : Int)))), (26, .d (.sl (l134.map (cI .i64)))), (27, .d (.lit (.int .i64 x131))), (28, .d (.lit (.bool false)))] [(42, some (.arr 27 3 (l43.map cS27)))]) (by simp; exact Sub.table (by simp) (by simp)) ?_
          refine AW.skip ?_
          refine thenQ_normal ?_
          refine AW.seqR ?_
          refine Chain.runK [] 3 fun K hK => ?_; simp; refine hK _ _ ?_; clear hK K
          refine Chain.sub (S' := mk 51 [] [(0, .d (.sl (a0.map cS27))), (1, .d (.sl (a1.map (cI .i64)))), (7, .ref 42 0 l43.length), (9, .d (.lit (.int .i64 x131))), (17, .d (.sl (a1.map (cI .i64)))), (18, .d (.lit (.int .i64 (a1.length : Int)))), (19, .d (.lit (.int .i64 (n133 : Int)))), (29, .d (.sl (a0.map cS27))), (30, .d (.lit (.int .i64 (a0.length : Int)))), (31, .d (.lit (.int .i64 0)))] [(42, some (.arr 27 3 (l43.map cS27)))]) (Sub.table (by simp) (by simp)) ?_
          refine Chain.nil ?_
          refine AW.lastN (fun (l162 : List S27) => mk 51 [] [(0, .d (.sl (a0.map cS27))), (1, .d (.sl (a1.map (cI .i64)))), (7, .ref 42 0 l162.length), (17, .d (.sl (a1.map (cI .i64)))), (18, .d (.lit (.int .i64 (a1.length : Int)))), (19, .d (.lit (.int .i64 (n133 : Int))))] [(42, some (.arr 27 3 (l162.map cS27)))]) h ?_ ?_ <;> clear h
          · intro o h
            refine AW.block ?_
            refine AW.iter (fun ((l144, v145) : ((List S27) × Int)) => mk 51 [] [(0, .d (.sl (a0.map cS27))), (1, .d (.sl (a1.map (cI .i64)))), (7, .ref 42 0 l144.length), (9, .d (.lit (.int .i64 x131))), (17, .d (.sl (a1.map (cI .i64)))), (18, .d (.lit (.int .i64 (a1.length : Int)))), (19, .d (.lit (.int .i64 (n133 : Int)))), (29, .d (.sl (a0.map cS27))), (30, .d (.lit (.int .i64 (a0.length : Int)))), (31, .d (.lit (.int .i64 v145)))] [(42, some (.arr 27 3 (l144.map cS27)))]) h (Sub.table (by simp) (by simp)) ?_
            clear h
            rintro ⟨l144, v145⟩ x h
            dsimp only at h ⊢
            refine AW.seqR ?_
            refine Chain.runK [] 1 fun K hK => ?_; simp; refine hK _ _ ?_; clear hK K
            refine Chain.sub (S' := mk 51 [] [(0, .d (.sl (a0.map cS27))), (1, .d (.sl (a1.map (cI .i64)))), (7, .ref 42 0 l144.length), (9, .d (.lit (.int .i64 x131))), (17, .d (.sl (a1.map (cI .i64)))), (18, .d (.lit (.int .i64 (a1.length : Int)))), (19, .d (.lit (.int .i64 (n133 : Int)))), (29, .d (.sl (a0.map cS27))), (30, .d (.lit (.int .i64 (a0.length : Int)))), (31, .d (.lit (.int .i64 v145))), (32, .d (.lit (.bool (decide (v145 < (a0.length : Int))))))] [(42, some (.arr 27 3 (l144.map cS27)))]) (Sub.table (by simp) (by simp)) ?_
            refine Chain.nil ?_
            refine AW.seq ?_
            replace h := isome h; rcases h with ⟨c163, h⟩ | ⟨c163, h⟩
            · have c163_ : decide (v145 < (a0.length : Int)) = true := decide_eq_true c163
              refine AW.condT (b := decide (v145 < (a0.length : Int))) rfl c163_ ?_
              refine AW.sub (Sub.bool 32 (b := decide (v145 < (a0.length : Int))) rfl c163_) ?_
              refine AW.sub (S' := mk 51 [] [(0, .d (.sl (a0.map cS27))), (1, .d (.sl (a1.map (cI .i64)))), (7, .ref 42 0 l144.length), (9, .d (.lit (.int .i64 x131))), (17, .d (.sl (a1.map (cI .i64)))), (18, .d (.lit (.int .i64 (a1.length : Int)))), (19, .d (.lit (.int .i64 (n133 : Int)))), (29, .d (.sl (a0.map cS27))), (30, .d (.lit (.int .i64 (a0.length : Int)))), (31, .d (.lit (.int .i64 v145))), (32, .d (.lit (.bool true)))] [(42, some (.arr 27 3 (l144.map cS27)))]) (by simp; exact Sub.table (by simp) (by simp)) ?_
              refine AW.skip ?_
              refine thenQ_normal ?_
              refine AW.seq ?_
              refine AW.block ?_
              refine AW.seqR ?_
              replace h := bsome h; obtain ⟨x164, hx164, h⟩ := h
              obtain ⟨k165, hx164k, hx164, hx164a, hx164b⟩ := idx_some hx164
              refine Chain.runK [] 4 fun K hK => ?_; simp [hx164, hx164k, hx164a]; refine hK _ _ ?_; clear hK K
              refine Chain.sub (S' := mk 51 [] [(0, .d (.sl (a0.map cS27))), (1, .d (.sl (a1.map (cI .i64)))), (7, .ref 42 0 l144.length), (9, .d (.lit (.int .i64 x131))), (11, .ptr 11 0 0), (17, .d (.sl (a1.map (cI .i64)))), (18, .d (.lit (.int .i64 (a1.length : Int)))), (19, .d (.lit (.int .i64 (n133 : Int)))), (29, .d (.sl (a0.map cS27))), (30, .d (.lit (.int .i64 (a0.length : Int)))), (31, .d (.lit (.int .i64 v145)))] [(11, some (.box [.d (.lit (.int .i64 x164.Tx)), .d (.lit (.int .i64 x164.Kind)), .d (.lit (.string x164.Key))])), (42, some (.arr 27 3 (l144.map cS27)))]) (Sub.table (by simp) (by simp)) ?_
              refine Chain.nil ?_
              refine AW.seqR ?_
              refine Chain.runK [] 4 fun K hK => ?_; simp; refine hK _ _ ?_; clear hK K
              refine Chain.sub (S' := mk 51 [] [(0, .d (.sl (a0.map cS27))), (1, .d (.sl (a1.map (cI .i64)))), (7, .ref 42 0 l144.length), (9, .d (.lit (.int .i64 x131))), (11, .ptr 11 0 0), (17, .d (.sl (a1.map (cI .i64)))), (18, .d (.lit (.int .i64 (a1.length : Int)))), (19, .d (.lit (.int .i64 (n133 : Int)))), (29, .d (.sl (a0.map cS27))), (30, .d (.lit (.int .i64 (a0.length : Int)))), (31, .d (.lit (.int .i64 v145))), (38, .d (.lit (.bool (x164.Tx == x131))))] [(11, some (.box [.d (.lit (.int .i64 x164.Tx)), .d (.lit (.int .i64 x164.Kind)), .d (.lit (.string x164.Key))])), (42, some (.arr 27 3 (l144.map cS27)))]) (Sub.table (by simp) (by simp)) ?_
              refine Chain.nil ?_
              replace h := isome h; rcases h with ⟨c166, h⟩ | ⟨c166, h⟩
              · have c166_ : (x164.Tx == x131) = true := c166
                refine AW.condT (b := (x164.Tx == x131)) rfl c166_ ?_
                refine AW.sub (Sub.bool 38 (b := (x164.Tx == x131)) rfl c166_) ?_
                refine AW.sub (S' := mk 51 [] [(0, .d (.sl (a0.map cS27))), (1, .d (.sl (a1.map (cI .i64)))), (7, .ref 42 0 l144.length), (9, .d (.lit (.int .i64 x131))), (11, .ptr 11 0 0), (17, .d (.sl (a1.map (cI .i64)))), (18, .d (.lit (.int .i64 (a1.length : Int)))), (19, .d (.lit (.int .i64 (n133 : Int)))), (29, .d (.sl (a0.map cS27))), (30, .d (.lit (.int .i64 (a0.length : Int)))), (31, .d (.lit (.int .i64 v145))), (38, .d (.lit (.bool true)))] [(11, some (.box [.d (.lit (.int .i64 x164.Tx)), .d (.lit (.int .i64 x164.Kind)), .d (.lit (.string x164.Key))])), (42, some (.arr 27 3 (l144.map cS27)))]) (by simp; exact Sub.table (by simp) (by simp)) ?_
                refine AW.region ?_
                replace h := bsome h; obtain ⟨l167, hl167, h⟩ := h
                obtain ⟨hl167a, hl167⟩ := appL_some hl167
                subst hl167
                try simp only [List.length_append, List.length_cons, List.length_nil, Nat.zero_add] at hl167a
                refine Chain.runK [41] 5 fun K hK => ?_; simp [hl167a]; refine hK _ _ ?_; clear hK K
                refine Chain.sub (S' := mk 51 [] [(0, .d (.sl (a0.map cS27))), (1, .d (.sl (a1.map (cI .i64)))), (7, .ref 42 0 ((l144 ++ [x164]).length)), (9, .d (.lit (.int .i64 x131))), (17, .d (.sl (a1.map (cI .i64)))), (18, .d (.lit (.int .i64 (a1.length : Int)))), (19, .d (.lit (.int .i64 (n133 : Int)))), (29, .d (.sl (a0.map cS27))), (30, .d (.lit (.int .i64 (a0.length : Int)))), (31, .d (.lit (.int .i64 v145)))] [(42, some (.arr 27 3 ((l144 ++ [x164]).map cS27)))]) (Sub.table (by simp) (by simp)) ?_
                refine Chain.nil ?_
                refine blockQ.normal ?_
                refine thenQ_normal ?_
                refine AW.region ?_
                replace h := bsome h; obtain ⟨v168, hv168, h⟩ := h
                have hv168 := chkI_some hv168
                refine Chain.runK [] 2 fun K hK => ?_; simp [hv168]; refine hK _ _ ?_; clear hK K
                refine Chain.sub (S' := mk 51 [] [(0, .d (.sl (a0.map cS27))), (1, .d (.sl (a1.map (cI .i64)))), (7, .ref 42 0 ((l144 ++ [x164]).length)), (9, .d (.lit (.int .i64 x131))), (17, .d (.sl (a1.map (cI .i64)))), (18, .d (.lit (.int .i64 (a1.length : Int)))), (19, .d (.lit (.int .i64 (n133 : Int)))), (29, .d (.sl (a0.map cS27))), (30, .d (.lit (.int .i64 (a0.length : Int)))), (31, .d (.lit (.int .i64 v168)))] [(42, some (.arr 27 3 ((l144 ++ [x164]).map cS27)))]) (Sub.table (by simp) (by simp)) ?_
                refine Chain.nil ?_
                cases h
                refine PostI.next ?_
                exact (Sub.table (by simp) (by simp))
              · have c166_ : (x164.Tx == x131) = false := Bool.eq_false_iff.2 c166
                refine AW.condF (b := (x164.Tx == x131)) rfl c166_ ?_
                refine AW.sub (Sub.bool 38 (b := (x164.Tx == x131)) rfl c166_) ?_
                refine AW.sub (S' := mk 51 [] [(0, .d (.sl (a0.map cS27))), (1, .d (.sl (a1.map (cI .i64)))), (7, .ref 42 0 l144.length), (9, .d (.lit (.int .i64 x131))), (11, .ptr 11 0 0), (17, .d (.sl (a1.map (cI .i64)))), (18, .d (.lit (.int .i64 (a1.length : Int)))), (19, .d (.lit (.int .i64 (n133 : Int)))), (29, .d (.sl (a0.map cS27))), (30, .d (.lit (.int .i64 (a0.length : Int)))), (31, .d (.lit (.int .i64 v145))), (38, .d (.lit (.bool false)))] [(11, some (.box [.d (.lit (.int .i64 x164.Tx)), .d (.lit (.int .i64 x164.Kind)), .d (.lit (.string x164.Key))])), (42, some (.arr 27 3 (l144.map cS27)))]) (by simp; exact Sub.table (by simp) (by simp)) ?_
                refine AW.skip ?_
                refine blockQ.normal ?_
                refine thenQ_normal ?_
                refine AW.region ?_
                replace h := bsome h; obtain ⟨v169, hv169, h⟩ := h
                have hv169 := chkI_some hv169
                refine Chain.runK [] 2 fun K hK => ?_; simp [hv169]; refine hK _ _ ?_; clear hK K
                refine Chain.sub (S' := mk 51 [] [(0, .d (.sl (a0.map cS27))), (1, .d (.sl (a1.map (cI .i64)))), (7, .ref 42 0 l144.length), (9, .d (.lit (.int .i64 x131))), (17, .d (.sl (a1.map (cI .i64)))), (18, .d (.lit (.int .i64 (a1.length : Int)))), (19, .d (.lit (.int .i64 (n133 : Int)))), (29, .d (.sl (a0.map cS27))), (30, .d (.lit (.int .i64 (a0.length : Int)))), (31, .d (.lit (.int .i64 v169)))] [(42, some (.arr 27 3 (l144.map cS27)))]) (Sub.table (by simp) (by simp)) ?_
                refine Chain.nil ?_
                cases h
                refine PostI.next ?_
                exact (Sub.table (by simp) (by simp))
            · have c163_ : decide (v145 < (a0.length : Int)) = false := decide_eq_false c163
              refine AW.condF (b := decide (v145 < (a0.length : Int))) rfl c163_ ?_
              refine AW.sub (Sub.bool 32 (b := decide (v145 < (a0.length : Int))) rfl c163_) ?_
              refine AW.sub (S' := mk 51 [] [(0, .d (.sl (a0.map cS27))), (1, .d (.sl (a1.map (cI .i64)))), (7, .ref 42 0 l144.length), (9, .d (.lit (.int .i64 x131))), (17, .d (.sl (a1.map (cI .i64)))), (18, .d (.lit (.int .i64 (a1.length : Int)))), (19, .d (.lit (.int .i64 (n133 : Int)))), (29, .d (.sl (a0.map cS27))), (30, .d (.lit (.int .i64 (a0.length : Int)))), (31, .d (.lit (.int .i64 v145))), (32, .d (.lit (.bool false)))] [(42, some (.arr 27 3 (l144.map cS27)))]) (by simp; exact Sub.table (by simp) (by simp)) ?_
              refine AW.exit ?_
              cases h
              refine thenQ_pass (by simp) ?_
              refine PostI.out (by simp) ?_
              rintro rfl
              refine blockQ.hit ?_
              refine PostN.next ?_
              exact (Sub.table (by simp) (by simp))
          · rintro l162 h
            refine blockQ.normal ?_
            refine thenQ_normal ?_
            refine AW.region ?_
            replace h := bsome h; obtain ⟨v170, hv170, h⟩ := h
            have hv170 := chkI_some hv170
            refine Chain.runK [] 2 fun K hK => ?_; simp [hv170]; refine hK _ _ ?_; clear hK K
            refine Chain.sub (S' := mk 51 [] [(0, .d (.sl (a0.map cS27))), (1, .d (.sl (a1.map (cI .i64)))), (7, .ref 42 0 l162.length), (17, .d (.sl (a1.map (cI .i64)))), (18, .d (.lit (.int .i64 (a1.length : Int)))), (19, .d (.lit (.int .i64 v170)))] [(42, some (.arr 27 3 (l162.map cS27)))]) (Sub.table (by simp) (by simp)) ?_
            refine Chain.nil ?_
            cases h
            refine PostI.next ?_
            exact (Sub.table (by simp) (by simp))
      · have c130_ : decide (v44 < (a1.length : Int)) = false := decide_eq_false c130
        refine AW.condF (b := decide (v44 < (a1.length : Int))) rfl c130_ ?_
        refine AW.sub (Sub.bool 20 (b := decide (v44 < (a1.length : Int))) rfl c130_) ?_
        refine AW.sub (S' := mk 51 [] [(0, .d (.sl (a0.map cS27))), (1, .d (.sl (a1.map (cI .i64)))), (7, .ref 42 0 l43.length), (17, .d (.sl (a1.map (cI .i64)))), (18, .d (.lit (.int .i64 (a1.length : Int)))), (19, .d (.lit (.int .i64 v44))), (20, .d (.lit (.bool false)))] [(42, some (.arr 27 3 (l43.map cS27)))]) (by simp; exact Sub.table (by simp) (by simp)) ?_
        refine AW.exit ?_
        cases h
        refine thenQ_pass (by simp) ?_
        refine PostI.out (by simp) ?_
        rintro rfl
        refine blockQ.hit ?_
        refine PostJ.next ?_
        exact (Sub.table (by simp) (by simp))
    · rintro l129 h
      refine thenQ_normal ?_
      refine AW.seq ?_
      refine AW.seqR ?_
      refine Chain.runK [] 5 fun K hK => ?_; simp; refine hK _ _ ?_; clear hK K
      refine Chain.sub (S' := mk 51 [] [(7, .ref 42 0 l129.length), (49, .d (.lit (.bool ((l129.length : Int) != (a0.length : Int)))))] [(42, some (.arr 27 3 (l129.map cS27)))]) (Sub.table (by simp) (by simp)) ?_
      refine Chain.nil ?_
      replace h := isome h; rcases h with ⟨c171, h⟩ | ⟨c171, h⟩
      · have c171_ : ((l129.length : Int) != (a0.length : Int)) = true := c171
        refine AW.condT (b := ((l129.length : Int) != (a0.length : Int))) rfl c171_ ?_
        refine AW.sub (Sub.bool 49 (b := ((l129.length : Int) != (a0.length : Int))) rfl c171_) ?_
        refine AW.sub (S' := mk 51 [] [(7, .ref 42 0 l129.length), (49, .d (.lit (.bool true)))] [(42, some (.arr 27 3 (l129.map cS27)))]) (by simp; exact Sub.table (by simp) (by simp)) ?_
        refine AW.seqR ?_
        refine Chain.runK [] 2 fun K hK => ?_; simp; refine hK _ _ ?_; clear hK K
        refine Chain.sub (S' := mk 51 [] [(4, .d (.lit (.slice none 0 0))), (5, .d (.lit (.int .i64 4)))] []) (Sub.table (by simp) (by simp)) ?_
        refine Chain.nil ?_
        refine AW.sub (Sub.wk 4 rfl) ?_
        refine AW.sub (S' := mk 51 [] [(4, .d (.sl (([] : List S27).map cS27))), (5, .d (.lit (.int .i64 4)))] []) (by simp; exact Sub.table (by simp) (by simp)) ?_
        refine AW.ret ?_
        cases h
        refine thenQ_pass (by simp) ?_
        exact FinC.ret (by simp) (by simp)
      · have c171_ : ((l129.length : Int) != (a0.length : Int)) = false := Bool.eq_false_iff.2 c171
        refine AW.condF (b := ((l129.length : Int) != (a0.length : Int))) rfl c171_ ?_
        refine AW.sub (Sub.bool 49 (b := ((l129.length : Int) != (a0.length : Int))) rfl c171_) ?_
        refine AW.sub (S' := mk 51 [] [(7, .ref 42 0 l129.length), (49, .d (.lit (.bool false)))] [(42, some (.arr 27 3 (l129.map cS27)))]) (by simp; exact Sub.table (by simp) (by simp)) ?_
        refine AW.skip ?_
        refine thenQ_normal ?_
        refine AW.seqR ?_
        refine Chain.runK [] 3 fun K hK => ?_; simp; refine hK _ _ ?_; clear hK K
        refine Chain.sub (S' := mk 51 [] [(4, .ref 42 0 l129.length), (5, .d (.lit (.int .i64 0)))] [(42, some (.arr 27 3 (l129.map cS27)))]) (Sub.table (by simp) (by simp)) ?_
        refine Chain.nil ?_
        refine AW.sub (Sub.freeze 42 rfl) ?_
        refine AW.sub (S' := mk 51 [] [(4, .d (.sl (l129.map cS27))), (5, .d (.lit (.int .i64 0)))] []) (by simp; exact Sub.table (by simp) (by simp)) ?_
        refine AW.ret ?_
        cases h
        exact FinC.ret (by simp) (by simp)

end Go.Proofs.Ytabjbkdlacibjaa
