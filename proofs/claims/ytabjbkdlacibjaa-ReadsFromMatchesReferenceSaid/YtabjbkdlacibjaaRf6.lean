/- Functions of the program as functional programs; the code computes them. -/
import Derived.Test.YtabjbkdlacibjaaRf5
namespace Go.Proofs.Ytabjbkdlacibjaa
open Go.Ab Go.Rp
attribute [-simp] List.all_eq_true Array.all_toList Array.all_eq_true

/-- stemma/stemlaw5.ReadsFromMatchesReference -/
def d5 (N : Nat) (a0 : (List S27)) (a1 : (List Int)) : Option Bool :=
  (d15 N ).bind fun r1 =>
  if (!r1) = true then (
    some false
  ) else
  (d11 N a0).bind fun r3 =>
  (d25 N r3).bind fun r4 =>
  (d26 N r3 a1).bind fun r5 =>
  (d12 N a0).bind fun r6 =>
  if (r6 != 0) then (
    Option.bind (α := Bool) (
      if (r4.2 == r6) then (
        if (r5.2 == r6) then (
          if ((r4.1.length : Int) == 0) then (
            some ((r5.1.length : Int) == 0)
          ) else
          some false
        ) else
        some false
      ) else
      some false
    ) fun (v11 : Bool) =>
    some v11
  ) else
  Option.bind (α := List Int) (
    iterN (σ := ((List (ByteArray × Int)) × (List Int) × Int)) (ρ := List Int) (fun ((m31, l32, v33) : ((List (ByteArray × Int)) × (List Int) × Int)) =>
      if v33 < (a0.length : Int) then (
        (idx a0 v33).bind fun x71 =>
        letv ((mget m31 x71.Key).getD 0) fun v73 =>
        letv (mget m31 x71.Key).isSome fun v74 =>
        Option.bind (α := Bool) (
          if (x71.Kind == 2) then (
            some true
          ) else
          some (!v74)
        ) fun (v76 : Bool) =>
        Option.bind (α := Int) (
          if v76 = true then (
            some (-1)
          ) else
          some v73
        ) fun (v79 : Int) =>
        if (x71.Kind == 2) then (
          (appL 8 l32 [v79]).bind fun l82 =>
          (chkI (v33 + 1)).bind fun v83 =>
          some (.inl ((mput m31 x71.Key v33), (l32 ++ [v79]), v83))
        ) else
        (appL 8 l32 [v79]).bind fun l84 =>
        (chkI (v33 + 1)).bind fun v85 =>
        some (.inl (m31, (l32 ++ [v79]), v85))
      ) else
      some (.inr l32)
    ) N (([] : List (ByteArray × Int)), ([] : List Int), 0)
  ) fun (l69 : List Int) =>
  Option.bind (α := Bool) (
    if (r4.2 != 0) then (
      some true
    ) else
    (d22 N r4.1 l69).bind fun r90 =>
    some (!r90)
  ) fun (v88 : Bool) =>
  if v88 = true then (
    some false
  ) else
  bindO (β := List S27) (ρ := Bool) (
    iterN (σ := ((List S27) × (List (Int × Bool)) × Int)) (ρ := (Out (List S27) Bool)) (fun ((l133, m134, v135) : ((List S27) × (List (Int × Bool)) × Int)) =>
      if v135 < (a1.length : Int) then (
        (idx a1 v135).bind fun x225 =>
        letv ((mget m134 x225).getD false) fun v227 =>
        if v227 = true then (
          Option.bind (α := Bool) (
            if (r5.2 == 5) then (
              some ((r5.1.length : Int) == 0)
            ) else
            some false
          ) fun (v230 : Bool) =>
          some (.inr (.ret v230))
        ) else
        Option.bind (α := List S27) (
          iterN (σ := ((List S27) × Int)) (ρ := List S27) (fun ((l239, v240) : ((List S27) × Int)) =>
            if v240 < (r3.length : Int) then (
              (idx r3 v240).bind fun x259 =>
              if (x259.Tx == x225) then (
                (appL 32 l239 [x259]).bind fun l262 =>
                (chkI (v240 + 1)).bind fun v263 =>
                some (.inl ((l239 ++ [x259]), v263))
              ) else
              (chkI (v240 + 1)).bind fun v264 =>
              some (.inl (l239, v264))
            ) else
            some (.inr l239)
          ) N (l133, 0)
        ) fun (l257 : List S27) =>
        (chkI (v135 + 1)).bind fun v265 =>
        some (.inl (l257, (mput m134 x225 true), v265))
      ) else
      some (.inr (.go l133))
    ) N (([] : List S27), ([] : List (Int × Bool)), 0)
  ) fun (l223 : List S27) =>
  if (l223.length : Int) < (r3.length : Int) then (
    Option.bind (α := Bool) (
      if (r5.2 == 4) then (
        some ((r5.1.length : Int) == 0)
      ) else
      some false
    ) fun (v268 : Bool) =>
    some v268
  ) else
  Option.bind (α := Bool) (
    if (r5.2 == 0) then (
      (d27 N r5.1 l223).bind fun r274 =>
      some r274
    ) else
    some false
  ) fun (v272 : Bool) =>
  some v272
set_option maxRecDepth 100000 in
set_option maxHeartbeats 4000000 in
theorem p5 (N : Nat) (a0 : (List S27)) (a1 : (List Int)) (r : Bool) (h : d5 N a0 a1 = some r) : FunC Try.prog 5 [.d (.sl (a0.map cS27)), .d (.sl (a1.map (cI .i64)))] (.d (.lit (.bool r))) := by
  unfold d5 at h
  refine FunC.enter 156 [(0, .d (.sl (a0.map cS27))), (1, .d (.sl (a1.map (cI .i64))))] (by simp) Try.func5 rfl (of_decide_eq_true rfl) rfl rfl ?_
  refine AW.seqR ?_
  refine Chain.runK [] 1 fun K hK => ?_; simp; refine hK _ _ ?_; clear hK K
  refine Chain.sub (S' := mk 156 [] [(0, .d (.sl (a0.map cS27))), (1, .d (.sl (a1.map (cI .i64))))] []) (Sub.table (by simp) (by simp)) ?_
  refine Chain.nil ?_
  refine AW.seq ?_
  refine AW.seqR ?_
  replace h := bsome h; obtain ⟨r1, hr1, h⟩ := h
  refine Chain.callL (d := 23) (p15 N  r1 hr1) (by simp) rfl rfl (by simp <;> rfl) (by simp <;> rfl) ent15 (by simp <;> rfl) ?_
  refine Chain.sub (S' := mk 156 [] [(0, .d (.sl (a0.map cS27))), (1, .d (.sl (a1.map (cI .i64)))), (23, .d (.lit (.bool r1)))] []) (by simp; exact Sub.table (by simp) (by simp)) ?_
  refine Chain.runK [] 1 fun K hK => ?_; simp; refine hK _ _ ?_; clear hK K
  refine Chain.sub (S' := mk 156 [] [(0, .d (.sl (a0.map cS27))), (1, .d (.sl (a1.map (cI .i64)))), (24, .d (.lit (.bool (!r1))))] []) (Sub.table (by simp) (by simp)) ?_
  refine Chain.nil ?_
  replace h := isome h; rcases h with ⟨c2, h⟩ | ⟨c2, h⟩
  · have c2_ : (!r1) = true := c2
    refine AW.condT (b := (!r1)) rfl c2_ ?_
    refine AW.sub (Sub.bool 24 (b := (!r1)) rfl c2_) ?_
    refine AW.sub (S' := mk 156 [] [(0, .d (.sl (a0.map cS27))), (1, .d (.sl (a1.map (cI .i64)))), (24, .d (.lit (.bool true)))] []) (by simp; exact Sub.table (by simp) (by simp)) ?_
    refine AW.seqR ?_
    refine Chain.runK [] 1 fun K hK => ?_; simp; refine hK _ _ ?_; clear hK K
    refine Chain.sub (S' := mk 156 [] [(4, .d (.lit (.bool false)))] []) (Sub.table (by simp) (by simp)) ?_
    refine Chain.nil ?_
    refine AW.ret ?_
    cases h
    refine thenQ_pass (by simp) ?_
    exact FinC.ret (by simp) (by simp)
  · have c2_ : (!r1) = false := Bool.eq_false_iff.2 c2
    refine AW.condF (b := (!r1)) rfl c2_ ?_
    refine AW.sub (Sub.bool 24 (b := (!r1)) rfl c2_) ?_
    refine AW.sub (S' := mk 156 [] [(0, .d (.sl (a0.map cS27))), (1, .d (.sl (a1.map (cI .i64)))), (24, .d (.lit (.bool false)))] []) (by simp; exact Sub.table (by simp) (by simp)) ?_
    refine AW.skip ?_
    refine thenQ_normal ?_
    refine AW.seqR ?_
    refine Chain.runK [] 1 fun K hK => ?_; simp; refine hK _ _ ?_; clear hK K
    refine Chain.sub (S' := mk 156 [] [(0, .d (.sl (a0.map cS27))), (1, .d (.sl (a1.map (cI .i64)))), (25, .d (.sl (a0.map cS27)))] []) (Sub.table (by simp) (by simp)) ?_
    replace h := bsome h; obtain ⟨r3, hr3, h⟩ := h
    refine Chain.callC (d := 26) (p11 N a0 r3 hr3) (by simp) rfl rfl (by simp <;> rfl) (by simp <;> rfl) ent11 (by simp) (.inl ⟨by simp, by simp⟩) ?_
    refine Chain.sub (S' := mk 156 [] [(0, .d (.sl (a0.map cS27))), (1, .d (.sl (a1.map (cI .i64)))), (25, .d (.sl (a0.map cS27))), (26, .d (.sl (r3.map cS27)))] []) (by simp; exact Sub.table (by simp) (by simp)) ?_
    refine Chain.runK [] 1 fun K hK => ?_; simp; refine hK _ _ ?_; clear hK K
    refine Chain.sub (S' := mk 156 [] [(0, .d (.sl (a0.map cS27))), (1, .d (.sl (a1.map (cI .i64)))), (5, .d (.sl (r3.map cS27)))] []) (Sub.table (by simp) (by simp)) ?_
    refine Chain.nil ?_
    refine AW.seqR ?_
    refine Chain.runK [] 1 fun K hK => ?_; simp; refine hK _ _ ?_; clear hK K
    refine Chain.sub (S' := mk 156 [] [(0, .d (.sl (a0.map cS27))), (1, .d (.sl (a1.map (cI .i64)))), (5, .d (.sl (r3.map cS27))), (28, .d (.sl (r3.map cS27)))] []) (Sub.table (by simp) (by simp)) ?_
    replace h := bsome h; obtain ⟨r4, hr4, h⟩ := h
    refine Chain.callC (d := 29) (p25 N r3 r4 hr4) (by simp) rfl rfl (by simp <;> rfl) (by simp <;> rfl) ent25 (by simp) (.inl ⟨by simp, by simp⟩) ?_
    refine Chain.sub (S' := mk 156 [] [(0, .d (.sl (a0.map cS27))), (1, .d (.sl (a1.map (cI .i64)))), (5, .d (.sl (r3.map cS27))), (28, .d (.sl (r3.map cS27))), (29, .tup [.d (.sl (r4.1.map (cI .i64))), .d (.lit (.int .i64 r4.2))])] []) (by simp; exact Sub.table (by simp) (by simp)) ?_
    refine Chain.runK [] 5 fun K hK => ?_; simp; refine hK _ _ ?_; clear hK K
    refine Chain.sub (S' := mk 156 [] [(0, .d (.sl (a0.map cS27))), (1, .d (.sl (a1.map (cI .i64)))), (5, .d (.sl (r3.map cS27))), (6, .d (.sl (r4.1.map (cI .i64)))), (7, .d (.lit (.int .i64 r4.2)))] []) (Sub.table (by simp) (by simp)) ?_
    refine Chain.nil ?_
    refine AW.seqR ?_
    refine Chain.runK [] 2 fun K hK => ?_; simp; refine hK _ _ ?_; clear hK K
    refine Chain.sub (S' := mk 156 [] [(0, .d (.sl (a0.map cS27))), (1, .d (.sl (a1.map (cI .i64)))), (5, .d (.sl (r3.map cS27))), (6, .d (.sl (r4.1.map (cI .i64)))), (7, .d (.lit (.int .i64 r4.2))), (33, .d (.sl (r3.map cS27))), (34, .d (.sl (a1.map (cI .i64))))] []) (Sub.table (by simp) (by simp)) ?_
    replace h := bsome h; obtain ⟨r5, hr5, h⟩ := h
    refine Chain.callC (d := 35) (p26 N r3 a1 r5 hr5) (by simp) rfl rfl (by simp <;> rfl) (by simp <;> rfl) ent26 (by simp) (.inl ⟨by simp, by simp⟩) ?_
    refine Chain.sub (S' := mk 156 [] [(0, .d (.sl (a0.map cS27))), (1, .d (.sl (a1.map (cI .i64)))), (5, .d (.sl (r3.map cS27))), (6, .d (.sl (r4.1.map (cI .i64)))), (7, .d (.lit (.int .i64 r4.2))), (33, .d (.sl (r3.map cS27))), (34, .d (.sl (a1.map (cI .i64)))), (35, .tup [.d (.sl (r5.1.map cS27)), .d (.lit (.int .i64 r5.2))])] []) (by simp; exact Sub.table (by simp) (by simp)) ?_
    refine Chain.runK [] 5 fun K hK => ?_; simp; refine hK _ _ ?_; clear hK K
    refine Chain.sub (S' := mk 156 [] [(0, .d (.sl (a0.map cS27))), (1, .d (.sl (a1.map (cI .i64)))), (5, .d (.sl (r3.map cS27))), (6, .d (.sl (r4.1.map (cI .i64)))), (7, .d (.lit (.int .i64 r4.2))), (8, .d (.sl (r5.1.map cS27))), (9, .d (.lit (.int .i64 r5.2)))] []) (Sub.table (by simp) (by simp)) ?_
    refine Chain.nil ?_
    refine AW.seq ?_
    refine AW.seqR ?_
    refine Chain.runK [] 1 fun K hK => ?_; simp; refine hK _ _ ?_; clear hK K
    refine Chain.sub (S' := mk 156 [] [(0, .d (.sl (a0.map cS27))), (1, .d (.sl (a1.map (cI .i64)))), (5, .d (.sl (r3.map cS27))), (6, .d (.sl (r4.1.map (cI .i64)))), (7, .d (.lit (.int .i64 r4.2))), (8, .d (.sl (r5.1.map cS27))), (9, .d (.lit (.int .i64 r5.2))), (38, .d (.sl (a0.map cS27)))] []) (Sub.table (by simp) (by simp)) ?_
    replace h := bsome h; obtain ⟨r6, hr6, h⟩ := h
    refine Chain.callL (d := 39) (p12 N a0 r6 hr6) (by simp) rfl rfl (by simp <;> rfl) (by simp <;> rfl) ent12 (by simp <;> rfl) ?_
    refine Chain.sub (S' := mk 156 [] [(0, .d (.sl (a0.map cS27))), (1, .d (.sl (a1.map (cI .i64)))), (5, .d (.sl (r3.map cS27))), (6, .d (.sl (r4.1.map (cI .i64)))), (7, .d (.lit (.int .i64 r4.2))), (8, .d (.sl (r5.1.map cS27))), (9, .d (.lit (.int .i64 r5.2))), (38, .d (.sl (a0.map cS27))), (39, .d (.lit (.int .i64 r6)))] []) (by simp; exact Sub.table (by simp) (by simp)) ?_
    refine Chain.runK [] 1 fun K hK => ?_; simp; refine hK _ _ ?_; clear hK K
    refine Chain.sub (S' := mk 156 [] [(0, .d (.sl (a0.map cS27))), (1, .d (.sl (a1.map (cI .i64)))), (5, .d (.sl (r3.map cS27))), (6, .d (.sl (r4.1.map (cI .i64)))), (7, .d (.lit (.int .i64 r4.2))), (8, .d (.sl (r5.1.map cS27))), (9, .d (.lit (.int .i64 r5.2))), (10, .d (.lit (.int .i64 r6)))] []) (Sub.table (by simp) (by simp)) ?_
    refine Chain.nil ?_
    refine AW.seqR ?_
    refine Chain.runK [] 2 fun K hK => ?_; simp; refine hK _ _ ?_; clear hK K
    refine Chain.sub (S' := mk 156 [] [(0, .d (.sl (a0.map cS27))), (1, .d (.sl (a1.map (cI .i64)))), (5, .d (.sl (r3.map cS27))), (6, .d (.sl (r4.1.map (cI .i64)))), (7, .d (.lit (.int .i64 r4.2))), (8, .d (.sl (r5.1.map cS27))), (9, .d (.lit (.int .i64 r5.2))), (10, .d (.lit (.int .i64 r6))), (41, .d (.lit (.bool (r6 != 0))))] []) (Sub.table (by simp) (by simp)) ?_
    refine Chain.nil ?_
    replace h := isome h; rcases h with ⟨c7, h⟩ | ⟨c7, h⟩
    · have c7_ : (r6 != 0) = true := c7
      refine AW.condT (b := (r6 != 0)) rfl c7_ ?_
      refine AW.sub (Sub.bool 41 (b := (r6 != 0)) rfl c7_) ?_
      refine AW.sub (S' := mk 156 [] [(0, .d (.sl (a0.map cS27))), (1, .d (.sl (a1.map (cI .i64)))), (5, .d (.sl (r3.map cS27))), (6, .d (.sl (r4.1.map (cI .i64)))), (7, .d (.lit (.int .i64 r4.2))), (8, .d (.sl (r5.1.map cS27))), (9, .d (.lit (.int .i64 r5.2))), (10, .d (.lit (.int .i64 r6))), (41, .d (.lit (.bool true)))] []) (by simp; exact Sub.table (by simp) (by simp)) ?_
      replace h := bsome h; obtain ⟨v11, hj, h⟩ := h
      refine AW.cutR (mk 156 [] [(4, .d (.lit (.bool v11)))] []) ?_ ?_
      · clear h; have h := hj; clear hj
        refine Chain.runK [] 4 fun K hK => ?_; simp; refine hK _ _ ?_; clear hK K
        refine Chain.sub (S' := mk 156 [] [(6, .d (.sl (r4.1.map (cI .i64)))), (8, .d (.sl (r5.1.map cS27))), (9, .d (.lit (.int .i64 r5.2))), (10, .d (.lit (.int .i64 r6))), (45, .d (.lit (.bool (r4.2 == r6))))] []) (Sub.table (by simp) (by simp)) ?_
        replace h := isome h; rcases h with ⟨c12, h⟩ | ⟨c12, h⟩
        · have c12_ : (r4.2 == r6) = true := c12
          refine Chain.sub (Sub.bool 45 (b := (r4.2 == r6)) rfl c12_) ?_
          refine Chain.sub (S' := mk 156 [] [(6, .d (.sl (r4.1.map (cI .i64)))), (8, .d (.sl (r5.1.map cS27))), (9, .d (.lit (.int .i64 r5.2))), (10, .d (.lit (.int .i64 r6))), (45, .d (.lit (.bool true)))] []) (by simp; exact Sub.table (by simp) (by simp)) ?_
          refine Chain.runK [] 5 fun K hK => ?_; simp; refine hK _ _ ?_; clear hK K
          refine Chain.sub (S' := mk 156 [] [(6, .d (.sl (r4.1.map (cI .i64)))), (8, .d (.sl (r5.1.map cS27))), (50, .d (.lit (.bool (r5.2 == r6))))] []) (Sub.table (by simp) (by simp)) ?_
          replace h := isome h; rcases h with ⟨c13, h⟩ | ⟨c13, h⟩
          · have c13_ : (r5.2 == r6) = true := c13
            refine Chain.sub (Sub.bool 50 (b := (r5.2 == r6)) rfl c13_) ?_
            refine Chain.sub (S' := mk 156 [] [(6, .d (.sl (r4.1.map (cI .i64)))), (8, .d (.sl (r5.1.map cS27))), (50, .d (.lit (.bool true)))] []) (by simp; exact Sub.table (by simp) (by simp)) ?_
            refine Chain.runK [] 5 fun K hK => ?_; simp; refine hK _ _ ?_; clear hK K
            refine Chain.sub (S' := mk 156 [] [(8, .d (.sl (r5.1.map cS27))), (55, .d (.lit (.bool ((r4.1.length : Int) == 0))))] []) (Sub.table (by simp) (by simp)) ?_
            replace h := isome h; rcases h with ⟨c14, h⟩ | ⟨c14, h⟩
            · have c14_ : ((r4.1.length : Int) == 0) = true := c14
              refine Chain.sub (Sub.bool 55 (b := ((r4.1.length : Int) == 0)) rfl c14_) ?_
              refine Chain.sub (S' := mk 156 [] [(8, .d (.sl (r5.1.map cS27))), (55, .d (.lit (.bool true)))] []) (by simp; exact Sub.table (by simp) (by simp)) ?_
              refine Chain.runK [] 5 fun K hK => ?_; simp; refine hK _ _ ?_; clear hK K
              refine Chain.sub (S' := mk 156 [] [(4, .d (.lit (.bool ((r5.1.length : Int) == 0))))] []) (Sub.table (by simp) (by simp)) ?_
              cases h
              exact Chain.nil (Sub.table (by simp) (by simp))
            · have c14_ : ((r4.1.length : Int) == 0) = false := Bool.eq_false_iff.2 c14
              refine Chain.sub (Sub.bool 55 (b := ((r4.1.length : Int) == 0)) rfl c14_) ?_
              refine Chain.sub (S' := mk 156 [] [(8, .d (.sl (r5.1.map cS27))), (55, .d (.lit (.bool false)))] []) (by simp; exact Sub.table (by simp) (by simp)) ?_
              refine Chain.runK [] 5 fun K hK => ?_; simp; refine hK _ _ ?_; clear hK K
              refine Chain.sub (S' := mk 156 [] [(4, .d (.lit (.bool false)))] []) (Sub.table (by simp) (by simp)) ?_
              cases h
              exact Chain.nil (Sub.table (by simp) (by simp))
          · have c13_ : (r5.2 == r6) = false := Bool.eq_false_iff.2 c13
            refine Chain.sub (Sub.bool 50 (b := (r5.2 == r6)) rfl c13_) ?_
            refine Chain.sub (S' := mk 156 [] [(6, .d (.sl (r4.1.map (cI .i64)))), (8, .d (.sl (r5.1.map cS27))), (50, .d (.lit (.bool false)))] []) (by simp; exact Sub.table (by simp) (by simp)) ?_
            refine Chain.runK [] 10 fun K hK => ?_; simp; refine hK _ _ ?_; clear hK K
            refine Chain.sub (S' := mk 156 [] [(4, .d (.lit (.bool false)))] []) (Sub.table (by simp) (by simp)) ?_
            cases h
            exact Chain.nil (Sub.table (by simp) (by simp))
        · have c12_ : (r4.2 == r6) = false := Bool.eq_false_iff.2 c12
          refine Chain.sub (Sub.bool 45 (b := (r4.2 == r6)) rfl c12_) ?_
          refine Chain.sub (S' := mk 156 [] [(6, .d (.sl (r4.1.map (cI .i64)))), (8, .d (.sl (r5.1.map cS27))), (9, .d (.lit (.int .i64 r5.2))), (10, .d (.lit (.int .i64 r6))), (45, .d (.lit (.bool false)))] []) (by simp; exact Sub.table (by simp) (by simp)) ?_
          refine Chain.runK [] 15 fun K hK => ?_; simp; refine hK _ _ ?_; clear hK K
          refine Chain.sub (S' := mk 156 [] [(4, .d (.lit (.bool false)))] []) (Sub.table (by simp) (by simp)) ?_
          cases h
          exact Chain.nil (Sub.table (by simp) (by simp))
      · clear hj
        refine AW.ret ?_
        cases h
        refine thenQ_pass (by simp) ?_
        exact FinC.ret (by simp) (by simp)
    · have c7_ : (r6 != 0) = false := Bool.eq_false_iff.2 c7
      refine AW.condF (b := (r6 != 0)) rfl c7_ ?_
      refine AW.sub (Sub.bool 41 (b := (r6 != 0)) rfl c7_) ?_
      refine AW.sub (S' := mk 156 [] [(0, .d (.sl (a0.map cS27))), (1, .d (.sl (a1.map (cI .i64)))), (5, .d (.sl (r3.map cS27))), (6, .d (.sl (r4.1.map (cI .i64)))), (7, .d (.lit (.int .i64 r4.2))), (8, .d (.sl (r5.1.map cS27))), (9, .d (.lit (.int .i64 r5.2))), (10, .d (.lit (.int .i64 r6))), (41, .d (.lit (.bool false)))] []) (by simp; exact Sub.table (by simp) (by simp)) ?_
      refine AW.skip ?_
      refine thenQ_normal ?_
      refine AW.seqR ?_
      refine Chain.mmake .string (by simp) rfl rfl (by simp) ?_
      refine Chain.sub (S' := mk 156 [] [(0, .d (.sl (a0.map cS27))), (1, .d (.sl (a1.map (cI .i64)))), (5, .d (.sl (r3.map cS27))), (6, .d (.sl (r4.1.map (cI .i64)))), (7, .d (.lit (.int .i64 r4.2))), (8, .d (.sl (r5.1.map cS27))), (9, .d (.lit (.int .i64 r5.2))), (10, .d (.lit (.int .i64 r6))), (41, .d (.lit (.bool false))), (60, .mref 60)] [(60, some (.mp .string (encM MKey.sk (vI .i64) ([] : List (ByteArray × Int)))))]) (by simp; exact Sub.table (by simp) (by simp [encM_nil])) ?_
      refine Chain.runK [] 1 fun K hK => ?_; simp; refine hK _ _ ?_; clear hK K
      refine Chain.sub (S' := mk 156 [] [(0, .d (.sl (a0.map cS27))), (1, .d (.sl (a1.map (cI .i64)))), (5, .d (.sl (r3.map cS27))), (6, .d (.sl (r4.1.map (cI .i64)))), (7, .d (.lit (.int .i64 r4.2))), (8, .d (.sl (r5.1.map cS27))), (9, .d (.lit (.int .i64 r5.2))), (11, .mref 60)] [(60, some (.mp .string (encM MKey.sk (vI .i64) ([] : List (ByteArray × Int)))))]) (Sub.table (by simp) (by simp)) ?_
      refine Chain.nil ?_
      refine AW.seqR ?_
      refine Chain.runK [] 1 fun K hK => ?_; simp; refine hK _ _ ?_; clear hK K
      refine Chain.sub (S' := mk 156 [] [(0, .d (.sl (a0.map cS27))), (1, .d (.sl (a1.map (cI .i64)))), (5, .d (.sl (r3.map cS27))), (6, .d (.sl (r4.1.map (cI .i64)))), (7, .d (.lit (.int .i64 r4.2))), (8, .d (.sl (r5.1.map cS27))), (9, .d (.lit (.int .i64 r5.2))), (11, .mref 60), (12, .d (.lit (.slice none 0 0)))] [(60, some (.mp .string (encM MKey.sk (vI .i64) ([] : List (ByteArray × Int)))))]) (Sub.table (by simp) (by simp)) ?_
      refine Chain.nil ?_
      refine AW.seq ?_
      refine AW.seqR ?_
      refine Chain.runK [] 3 fun K hK => ?_; simp; refine hK _ _ ?_; clear hK K
      refine Chain.sub (S' := mk 156 [] [(1, .d (.sl (a1.map (cI .i64)))), (5, .d (.sl (r3.map cS27))), (6, .d (.sl (r4.1.map (cI .i64)))), (7, .d (.lit (.int .i64 r4.2))), (8, .d (.sl (r5.1.map cS27))), (9, .d (.lit (.int .i64 r5.2))), (11, .mref 60), (12, .d (.lit (.slice none 0 0))), (61, .d (.sl (a0.map cS27))), (62, .d (.lit (.int .i64 (a0.length : Int)))), (63, .d (.lit (.int .i64 0)))] [(60, some (.mp .string (encM MKey.sk (vI .i64) ([] : List (ByteArray × Int)))))]) (Sub.table (by simp) (by simp)) ?_
      refine Chain.nil ?_
      refine AW.lastN (fun (l69 : List Int) => mk 156 [] [(1, .d (.sl (a1.map (cI .i64)))), (5, .d (.sl (r3.map cS27))), (6, .d (.sl (r4.1.map (cI .i64)))), (7, .d (.lit (.int .i64 r4.2))), (8, .d (.sl (r5.1.map cS27))), (9, .d (.lit (.int .i64 r5.2))), (12, .ref 92 0 l69.length)] [(92, some (.arr 3 1 (l69.map (cI .i64))))]) h ?_ ?_ <;> clear h
      · intro o h
        refine AW.block ?_
        refine AW.iter (fun ((m31, l32, v33) : ((List (ByteArray × Int)) × (List Int) × Int)) => mk 156 [] [(1, .d (.sl (a1.map (cI .i64)))), (5, .d (.sl (r3.map cS27))), (6, .d (.sl (r4.1.map (cI .i64)))), (7, .d (.lit (.int .i64 r4.2))), (8, .d (.sl (r5.1.map cS27))), (9, .d (.lit (.int .i64 r5.2))), (11, .mref 60), (12, .ref 92 0 l32.length), (61, .d (.sl (a0.map cS27))), (62, .d (.lit (.int .i64 (a0.length : Int)))), (63, .d (.lit (.int .i64 v33)))] [(60, some (.mp .string (encM MKey.sk (vI .i64) m31))), (92, some (.arr 3 1 (l32.map (cI .i64))))]) h (Sub.trans (Sub.nilOwn (t := 12) (id := 92) (T := 3) (n := 1) rfl rfl (by decide)) (by simp; exact Sub.table (by simp) (by simp))) ?_
        clear h
        rintro ⟨m31, l32, v33⟩ x h
        dsimp only at h ⊢
        refine AW.seqR ?_
        refine Chain.runK [] 1 fun K hK => ?_; simp; refine hK _ _ ?_; clear hK K
        refine Chain.sub (S' := mk 156 [] [(1, .d (.sl (a1.map (cI .i64)))), (5, .d (.sl (r3.map cS27))), (6, .d (.sl (r4.1.map (cI .i64)))), (7, .d (.lit (.int .i64 r4.2))), (8, .d (.sl (r5.1.map cS27))), (9, .d (.lit (.int .i64 r5.2))), (11, .mref 60), (12, .ref 92 0 l32.length), (61, .d (.sl (a0.map cS27))), (62, .d (.lit (.int .i64 (a0.length : Int)))), (63, .d (.lit (.int .i64 v33))), (64, .d (.lit (.bool (decide (v33 < (a0.length : Int))))))] [(60, some (.mp .string (encM MKey.sk (vI .i64) m31))), (92, some (.arr 3 1 (l32.map (cI .i64))))]) (Sub.table (by simp) (by simp)) ?_
        refine Chain.nil ?_
        refine AW.seq ?_
        replace h := isome h; rcases h with ⟨c70, h⟩ | ⟨c70, h⟩
        · have c70_ : decide (v33 < (a0.length : Int)) = true := decide_eq_true c70
          refine AW.condT (b := decide (v33 < (a0.length : Int))) rfl c70_ ?_
          refine AW.sub (Sub.bool 64 (b := decide (v33 < (a0.length : Int))) rfl c70_) ?_
          refine AW.sub (S' := mk 156 [] [(1, .d (.sl (a1.map (cI .i64)))), (5, .d (.sl (r3.map cS27))), (6, .d (.sl (r4.1.map (cI .i64)))), (7, .d (.lit (.int .i64 r4.2))), (8, .d (.sl (r5.1.map cS27))), (9, .d (.lit (.int .i64 r5.2))), (11, .mref 60), (12, .ref 92 0 l32.length), (61, .d (.sl (a0.map cS27))), (62, .d (.lit (.int .i64 (a0.length : Int)))), (63, .d (.lit (.int .i64 v33))), (64, .d (.lit (.bool true)))] [(60, some (.mp .string (encM MKey.sk (vI .i64) m31))), (92, some (.arr 3 1 (l32.map (cI .i64))))]) (by simp; exact Sub.table (by simp) (by simp)) ?_
          refine AW.skip ?_
          refine thenQ_normal ?_
          refine AW.seq ?_
          refine AW.block ?_
          refine AW.seqR ?_
          replace h := bsome h; obtain ⟨x71, hx71, h⟩ := h
          obtain ⟨k72, hx71k, hx71, hx71a, hx71b⟩ := idx_some hx71
          refine Chain.runK [] 6 fun K hK => ?_; simp [hx71, hx71k, hx71a]; refine hK _ _ ?_; clear hK K
          refine Chain.sub (S' := mk 156 [] [(1, .d (.sl (a1.map (cI .i64)))), (5, .d (.sl (r3.map cS27))), (6, .d (.sl (r4.1.map (cI .i64)))), (7, .d (.lit (.int .i64 r4.2))), (8, .d (.sl (r5.1.map cS27))), (9, .d (.lit (.int .i64 r5.2))), (11, .mref 60), (12, .ref 92 0 l32.length), (13, .d (.lit (.int .i64 v33))), (14, .ptr 14 0 0), (61, .d (.sl (a0.map cS27))), (62, .d (.lit (.int .i64 (a0.length : Int)))), (63, .d (.lit (.int .i64 v33)))] [(14, some (.box [.d (.lit (.int .i64 x71.Tx)), .d (.lit (.int .i64 x71.Kind)), .d (.lit (.string x71.Key))])), (60, some (.mp .string (encM MKey.sk (vI .i64) m31))), (92, some (.arr 3 1 (l32.map (cI .i64))))]) (Sub.table (by simp) (by simp)) ?_
          refine Chain.nil ?_
          refine AW.seqR ?_
          refine Chain.runK [] 3 fun K hK => ?_; simp; refine hK _ _ ?_; clear hK K
          refine Chain.sub (S' := mk 156 [] [(1, .d (.sl (a1.map (cI .i64)))), (5, .d (.sl (r3.map cS27))), (6, .d (.sl (r4.1.map (cI .i64)))), (7, .d (.lit (.int .i64 r4.2))), (8, .d (.sl (r5.1.map cS27))), (9, .d (.lit (.int .i64 r5.2))), (11, .mref 60), (12, .ref 92 0 l32.length), (13, .d (.lit (.int .i64 v33))), (14, .ptr 14 0 0), (61, .d (.sl (a0.map cS27))), (62, .d (.lit (.int .i64 (a0.length : Int)))), (63, .d (.lit (.int .i64 v33))), (69, .mref 60), (71, .d (.lit (.string x71.Key)))] [(14, some (.box [.d (.lit (.int .i64 x71.Tx)), .d (.lit (.int .i64 x71.Kind)), .d (.lit (.string x71.Key))])), (60, some (.mp .string (encM MKey.sk (vI .i64) m31))), (92, some (.arr 3 1 (l32.map (cI .i64))))]) (Sub.table (by simp) (by simp)) ?_
          replace h := lsome h; obtain ⟨v73, hv73, h⟩ := h
          refine Chain.lookE (vf := (vI .i64)) sk_inj m31 x71.Key 0 (by simp) rfl ty52 rfl ty9 ty3 rfl rfl rfl rfl rfl rfl rfl ?_
          replace h := lsome h; obtain ⟨v74, hv74, h⟩ := h
          refine Chain.sub (S' := mk 156 [] [(1, .d (.sl (a1.map (cI .i64)))), (5, .d (.sl (r3.map cS27))), (6, .d (.sl (r4.1.map (cI .i64)))), (7, .d (.lit (.int .i64 r4.2))), (8, .d (.sl (r5.1.map cS27))), (9, .d (.lit (.int .i64 r5.2))), (11, .mref 60), (12, .ref 92 0 l32.length), (13, .d (.lit (.int .i64 v33))), (14, .ptr 14 0 0), (61, .d (.sl (a0.map cS27))), (62, .d (.lit (.int .i64 (a0.length : Int)))), (63, .d (.lit (.int .i64 v33))), (69, .mref 60), (71, .d (.lit (.string x71.Key))), (72, .tup [.d (.lit (.int .i64 v73)), .d (.lit (.bool v74))])] [(14, some (.box [.d (.lit (.int .i64 x71.Tx)), .d (.lit (.int .i64 x71.Kind)), .d (.lit (.string x71.Key))])), (60, some (.mp .string (encM MKey.sk (vI .i64) m31))), (92, some (.arr 3 1 (l32.map (cI .i64))))]) (by simp [vI, vB, vS, hv73, hv74]; exact Sub.table (by simp) (by simp)) ?_
          refine Chain.runK [] 5 fun K hK => ?_; simp; refine hK _ _ ?_; clear hK K
          refine Chain.sub (S' := mk 156 [] [(1, .d (.sl (a1.map (cI .i64)))), (5, .d (.sl (r3.map cS27))), (6, .d (.sl (r4.1.map (cI .i64)))), (7, .d (.lit (.int .i64 r4.2))), (8, .d (.sl (r5.1.map cS27))), (9, .d (.lit (.int .i64 r5.2))), (11, .mref 60), (12, .ref 92 0 l32.length), (13, .d (.lit (.int .i64 v33))), (14, .ptr 14 0 0), (15, .d (.lit (.int .i64 v73))), (16, .d (.lit (.bool v74))), (61, .d (.sl (a0.map cS27))), (62, .d (.lit (.int .i64 (a0.length : Int)))), (63, .d (.lit (.int .i64 v33)))] [(14, some (.box [.d (.lit (.int .i64 x71.Tx)), .d (.lit (.int .i64 x71.Kind)), .d (.lit (.string x71.Key))])), (60, some (.mp .string (encM MKey.sk (vI .i64) m31))), (92, some (.arr 3 1 (l32.map (cI .i64))))]) (Sub.table (by simp) (by simp)) ?_
          refine Chain.nil ?_
          refine AW.seq ?_
          replace h := bsome h; obtain ⟨v76, hj, h⟩ := h
          refine AW.cutR (mk 156 [] [(1, .d (.sl (a1.map (cI .i64)))), (5, .d (.sl (r3.map cS27))), (6, .d (.sl (r4.1.map (cI .i64)))), (7, .d (.lit (.int .i64 r4.2))), (8, .d (.sl (r5.1.map cS27))), (9, .d (.lit (.int .i64 r5.2))), (11, .mref 60), (12, .ref 92 0 l32.length), (13, .d (.lit (.int .i64 v33))), (14, .ptr 14 0 0), (15, .d (.lit (.int .i64 v73))), (61, .d (.sl (a0.map cS27))), (62, .d (.lit (.int .i64 (a0.length : Int)))), (63, .d (.lit (.int .i64 v33))), (81, .d (.lit (.bool v76)))] [(14, some (.box [.d (.lit (.int .i64 x71.Tx)), .d (.lit (.int .i64 x71.Kind)), .d (.lit (.string x71.Key))])), (60, some (.mp .string (encM MKey.sk (vI .i64) m31))), (92, some (.arr 3 1 (l32.map (cI .i64))))]) ?_ ?_
          · clear h; have h := hj; clear hj
            refine Chain.runK [] 4 fun K hK => ?_; simp; refine hK _ _ ?_; clear hK K
            refine Chain.sub (S' := mk 156 [] [(1, .d (.sl (a1.map (cI .i64)))), (5, .d (.sl (r3.map cS27))), (6, .d (.sl (r4.1.map (cI .i64)))), (7, .d (.lit (.int .i64 r4.2))), (8, .d (.sl (r5.1.map cS27))), (9, .d (.lit (.int .i64 r5.2))), (11, .mref 60), (12, .ref 92 0 l32.length), (13, .d (.lit (.int .i64 v33))), (14, .ptr 14 0 0), (15, .d (.lit (.int .i64 v73))), (16, .d (.lit (.bool v74))), (61, .d (.sl (a0.map cS27))), (62, .d (.lit (.int .i64 (a0.length : Int)))), (63, .d (.lit (.int .i64 v33))), (78, .d (.lit (.bool (x71.Kind == 2))))] [(14, some (.box [.d (.lit (.int .i64 x71.Tx)), .d (.lit (.int .i64 x71.Kind)), .d (.lit (.string x71.Key))])), (60, some (.mp .string (encM MKey.sk (vI .i64) m31))), (92, some (.arr 3 1 (l32.map (cI .i64))))]) (Sub.table (by simp) (by simp)) ?_
            replace h := isome h; rcases h with ⟨c77, h⟩ | ⟨c77, h⟩
            · have c77_ : (x71.Kind == 2) = true := c77
              refine Chain.sub (Sub.bool 78 (b := (x71.Kind == 2)) rfl c77_) ?_
              refine Chain.sub (S' := mk 156 [] [(1, .d (.sl (a1.map (cI .i64)))), (5, .d (.sl (r3.map cS27))), (6, .d (.sl (r4.1.map (cI .i64)))), (7, .d (.lit (.int .i64 r4.2))), (8, .d (.sl (r5.1.map cS27))), (9, .d (.lit (.int .i64 r5.2))), (11, .mref 60), (12, .ref 92 0 l32.length), (13, .d (.lit (.int .i64 v33))), (14, .ptr 14 0 0), (15, .d (.lit (.int .i64 v73))), (16, .d (.lit (.bool v74))), (61, .d (.sl (a0.map cS27))), (62, .d (.lit (.int .i64 (a0.length : Int)))), (63, .d (.lit (.int .i64 v33))), (78, .d (.lit (.bool true)))] [(14, some (.box [.d (.lit (.int .i64 x71.Tx)), .d (.lit (.int .i64 x71.Kind)), .d (.lit (.string x71.Key))])), (60, some (.mp .string (encM MKey.sk (vI .i64) m31))), (92, some (.arr 3 1 (l32.map (cI .i64))))]) (by simp; exact Sub.table (by simp) (by simp)) ?_
              refine Chain.runK [] 3 fun K hK => ?_; simp; refine hK _ _ ?_; clear hK K
              refine Chain.sub (S' := mk 156 [] [(1, .d (.sl (a1.map (cI .i64)))), (5, .d (.sl (r3.map cS27))), (6, .d (.sl (r4.1.map (cI .i64)))), (7, .d (.lit (.int .i64 r4.2))), (8, .d (.sl (r5.1.map cS27))), (9, .d (.lit (.int .i64 r5.2))), (11, .mref 60), (12, .ref 92 0 l32.length), (13, .d (.lit (.int .i64 v33))), (14, .ptr 14 0 0), (15, .d (.lit (.int .i64 v73))), (61, .d (.sl (a0.map cS27))), (62, .d (.lit (.int .i64 (a0.length : Int)))), (63, .d (.lit (.int .i64 v33))), (79, .tup []), (80, .tup []), (81, .d (.lit (.bool true)))] [(14, some (.box [.d (.lit (.int .i64 x71.Tx)), .d (.lit (.int .i64 x71.Kind)), .d (.lit (.string x71.Key))])), (60, some (.mp .string (encM MKey.sk (vI .i64) m31))), (92, some (.arr 3 1 (l32.map (cI .i64))))]) (Sub.table (by simp) (by simp)) ?_
              cases h
              exact Chain.nil (Sub.table (by simp) (by simp))
            · have c77_ : (x71.Kind == 2) = false := Bool.eq_false_iff.2 c77
              refine Chain.sub (Sub.bool 78 (b := (x71.Kind == 2)) rfl c77_) ?_
              refine Chain.sub (S' := mk 156 [] [(1, .d (.sl (a1.map (cI .i64)))), (5, .d (.sl (r3.map cS27))), (6, .d (.sl (r4.1.map (cI .i64)))), (7, .d (.lit (.int .i64 r4.2))), (8, .d (.sl (r5.1.map cS27))), (9, .d (.lit (.int .i64 r5.2))), (11, .mref 60), (12, .ref 92 0 l32.length), (13, .d (.lit (.int .i64 v33))), (14, .ptr 14 0 0), (15, .d (.lit (.int .i64 v73))), (16, .d (.lit (.bool v74))), (61, .d (.sl (a0.map cS27))), (62, .d (.lit (.int .i64 (a0.length : Int)))), (63, .d (.lit (.int .i64 v33))), (78, .d (.lit (.bool false)))] [(14, some (.box [.d (.lit (.int .i64 x71.Tx)), .d (.lit (.int .i64 x71.Kind)), .d (.lit (.string x71.Key))])), (60, some (.mp .string (encM MKey.sk (vI .i64) m31))), (92, some (.arr 3 1 (l32.map (cI .i64))))]) (by simp; exact Sub.table (by simp) (by simp)) ?_
              refine Chain.runK [] 3 fun K hK => ?_; simp; refine hK _ _ ?_; clear hK K
              refine Chain.sub (S' := mk 156 [] [(1, .d (.sl (a1.map (cI .i64)))), (5, .d (.sl (r3.map cS27))), (6, .d (.sl (r4.1.map (cI .i64)))), (7, .d (.lit (.int .i64 r4.2))), (8, .d (.sl (r5.1.map cS27))), (9, .d (.lit (.int .i64 r5.2))), (11, .mref 60), (12, .ref 92 0 l32.length), (13, .d (.lit (.int .i64 v33))), (14, .ptr 14 0 0), (15, .d (.lit (.int .i64 v73))), (61, .d (.sl (a0.map cS27))), (62, .d (.lit (.int .i64 (a0.length : Int)))), (63, .d (.lit (.int .i64 v33))), (79, .d (.lit (.bool v74))), (80, .d (.lit (.bool (!v74)))), (81, .d (.lit (.bool (!v74))))] [(14, some (.box [.d (.lit (.int .i64 x71.Tx)), .d (.lit (.int .i64 x71.Kind)), .d (.lit (.string x71.Key))])), (60, some (.mp .string (encM MKey.sk (vI .i64) m31))), (92, some (.arr 3 1 (l32.map (cI .i64))))]) (Sub.table (by simp) (by simp)) ?_
              cases h
              exact Chain.nil (Sub.table (by simp) (by simp))
          · clear hj
            refine AW.lastN (fun (v79 : Int) => mk 156 [] [(1, .d (.sl (a1.map (cI .i64)))), (5, .d (.sl (r3.map cS27))), (6, .d (.sl (r4.1.map (cI .i64)))), (7, .d (.lit (.int .i64 r4.2))), (8, .d (.sl (r5.1.map cS27))), (9, .d (.lit (.int .i64 r5.2))), (11, .mref 60), (12, .ref 92 0 l32.length), (13, .d (.lit (.int .i64 v33))), (14, .ptr 14 0 0), (15, .d (.lit (.int .i64 v79))), (61, .d (.sl (a0.map cS27))), (62, .d (.lit (.int .i64 (a0.length : Int)))), (63, .d (.lit (.int .i64 v33)))] [(14, some (.box [.d (.lit (.int .i64 x71.Tx)), .d (.lit (.int .i64 x71.Kind)), .d (.lit (.string x71.Key))])), (60, some (.mp .string (encM MKey.sk (vI .i64) m31))), (92, some (.arr 3 1 (l32.map (cI .i64))))]) h ?_ ?_ <;> clear h
            · intro o h
              replace h := isome h; rcases h with ⟨c80, h⟩ | ⟨c80, h⟩
              · have c80_ : v76 = true := c80
                refine AW.condT (b := v76) rfl c80_ ?_
                refine AW.sub (Sub.bool 81 (b := v76) rfl c80_) ?_
                refine AW.sub (S' := mk 156 [] [(1, .d (.sl (a1.map (cI .i64)))), (5, .d (.sl (r3.map cS27))), (6, .d (.sl (r4.1.map (cI .i64)))), (7, .d (.lit (.int .i64 r4.2))), (8, .d (.sl (r5.1.map cS27))), (9, .d (.lit (.int .i64 r5.2))), (11, .mref 60), (12, .ref 92 0 l32.length), (13, .d (.lit (.int .i64 v33))), (14, .ptr 14 0 0), (15, .d (.lit (.int .i64 v73))), (61, .d (.sl (a0.map cS27))), (62, .d (.lit (.int .i64 (a0.length : Int)))), (63, .d (.lit (.int .i64 v33))), (81, .d (.lit (.bool true)))] [(14, some (.box [.d (.lit (.int .i64 x71.Tx)), .d (.lit (.int .i64 x71.Kind)), .d (.lit (.string x71.Key))])), (60, some (.mp .string (encM MKey.sk (vI .i64) m31))), (92, some (.arr 3 1 (l32.map (cI .i64))))]) (by simp; exact Sub.table (by simp) (by simp)) ?_
                refine AW.region ?_
                refine Chain.runK [] 1 fun K hK => ?_; simp; refine hK _ _ ?_; clear hK K
                refine Chain.sub (S' := mk 156 [] [(1, .d (.sl (a1.map (cI .i64)))), (5, .d (.sl (r3.map cS27))), (6, .d (.sl (r4.1.map (cI .i64)))), (7, .d (.lit (.int .i64 r4.2))), (8, .d (.sl (r5.1.map cS27))), (9, .d (.lit (.int .i64 r5.2))), (11, .mref 60), (12, .ref 92 0 l32.length), (13, .d (.lit (.int .i64 v33))), (14, .ptr 14 0 0), (15, .d (.lit (.int .i64 (-1)))), (61, .d (.sl (a0.map cS27))), (62, .d (.lit (.int .i64 (a0.length : Int)))), (63, .d (.lit (.int .i64 v33)))] [(14, some (.box [.d (.lit (.int .i64 x71.Tx)), .d (.lit (.int .i64 x71.Kind)), .d (.lit (.string x71.Key))])), (60, some (.mp .string (encM MKey.sk (vI .i64) m31))), (92, some (.arr 3 1 (l32.map (cI .i64))))]) (Sub.table (by simp) (by simp)) ?_
                refine Chain.nil ?_
                cases h
                refine PostN.next ?_
                exact (Sub.table (by simp) (by simp))
              · have c80_ : v76 = false := Bool.eq_false_iff.2 c80
                refine AW.condF (b := v76) rfl c80_ ?_
                refine AW.sub (Sub.bool 81 (b := v76) rfl c80_) ?_
                refine AW.sub (S' := mk 156 [] [(1, .d (.sl (a1.map (cI .i64)))), (5, .d (.sl (r3.map cS27))), (6, .d (.sl (r4.1.map (cI .i64)))), (7, .d (.lit (.int .i64 r4.2))), (8, .d (.sl (r5.1.map cS27))), (9, .d (.lit (.int .i64 r5.2))), (11, .mref 60), (12, .ref 92 0 l32.length), (13, .d (.lit (.int .i64 v33))), (14, .ptr 14 0 0), (15, .d (.lit (.int .i64 v73))), (61, .d (.sl (a0.map cS27))), (62, .d (.lit (.int .i64 (a0.length : Int)))), (63, .d (.lit (.int .i64 v33))), (81, .d (.lit (.bool false)))] [(14, some (.box [.d (.lit (.int .i64 x71.Tx)), .d (.lit (.int .i64 x71.Kind)), .d (.lit (.string x71.Key))])), (60, some (.mp .string (encM MKey.sk (vI .i64) m31))), (92, some (.arr 3 1 (l32.map (cI .i64))))]) (by simp; exact Sub.table (by simp) (by simp)) ?_
                refine AW.skip ?_
                cases h
                refine PostN.next ?_
                exact (Sub.table (by simp) (by simp))
            · rintro v79 h
              refine thenQ_normal ?_
              refine AW.seq ?_
              refine AW.seqR ?_
              refine Chain.runK [] 3 fun K hK => ?_; simp; refine hK _ _ ?_; clear hK K
              refine Chain.sub (S' := mk 156 [] [(1, .d (.sl (a1.map (cI .i64)))), (5, .d (.sl (r3.map cS27))), (6, .d (.sl (r4.1.map (cI .i64)))), (7, .d (.lit (.int .i64 r4.2))), (8, .d (.sl (r5.1.map cS27))), (9, .d (.lit (.int .i64 r5.2))), (11, .mref 60), (12, .ref 92 0 l32.length), (13, .d (.lit (.int .i64 v33))), (14, .ptr 14 0 0), (15, .d (.lit (.int .i64 v79))), (61, .d (.sl (a0.map cS27))), (62, .d (.lit (.int .i64 (a0.length : Int)))), (63, .d (.lit (.int .i64 v33))), (84, .d (.lit (.bool (x71.Kind == 2))))] [(14, some (.box [.d (.lit (.int .i64 x71.Tx)), .d (.lit (.int .i64 x71.Kind)), .d (.lit (.string x71.Key))])), (60, some (.mp .string (encM MKey.sk (vI .i64) m31))), (92, some (.arr 3 1 (l32.map (cI .i64))))]) (Sub.table (by simp) (by simp)) ?_
              refine Chain.nil ?_
              replace h := isome h; rcases h with ⟨c81, h⟩ | ⟨c81, h⟩
              · have c81_ : (x71.Kind == 2) = true := c81
                refine AW.condT (b := (x71.Kind == 2)) rfl c81_ ?_
                refine AW.sub (Sub.bool 84 (b := (x71.Kind == 2)) rfl c81_) ?_
                refine AW.sub (S' := mk 156 [] [(1, .d (.sl (a1.map (cI .i64)))), (5, .d (.sl (r3.map cS27))), (6, .d (.sl (r4.1.map (cI .i64)))), (7, .d (.lit (.int .i64 r4.2))), (8, .d (.sl (r5.1.map cS27))), (9, .d (.lit (.int .i64 r5.2))), (11, .mref 60), (12, .ref 92 0 l32.length), (13, .d (.lit (.int .i64 v33))), (14, .ptr 14 0 0), (15, .d (.lit (.int .i64 v79))), (61, .d (.sl (a0.map cS27))), (62, .d (.lit (.int .i64 (a0.length : Int)))), (63, .d (.lit (.int .i64 v33))), (84, .d (.lit (.bool true)))] [(14, some (.box [.d (.lit (.int .i64 x71.Tx)), .d (.lit (.int .i64 x71.Kind)), .d (.lit (.string x71.Key))])), (60, some (.mp .string (encM MKey.sk (vI .i64) m31))), (92, some (.arr 3 1 (l32.map (cI .i64))))]) (by simp; exact Sub.table (by simp) (by simp)) ?_
                refine AW.region ?_
                refine Chain.runK [] 4 fun K hK => ?_; simp; refine hK _ _ ?_; clear hK K
                refine Chain.sub (S' := mk 156 [] [(1, .d (.sl (a1.map (cI .i64)))), (5, .d (.sl (r3.map cS27))), (6, .d (.sl (r4.1.map (cI .i64)))), (7, .d (.lit (.int .i64 r4.2))), (8, .d (.sl (r5.1.map cS27))), (9, .d (.lit (.int .i64 r5.2))), (11, .mref 60), (12, .ref 92 0 l32.length), (15, .d (.lit (.int .i64 v79))), (61, .d (.sl (a0.map cS27))), (62, .d (.lit (.int .i64 (a0.length : Int)))), (63, .d (.lit (.int .i64 v33))), (85, .mref 60), (87, .d (.lit (.string x71.Key))), (88, .d (.lit (.int .i64 v33)))] [(60, some (.mp .string (encM MKey.sk (vI .i64) m31))), (92, some (.arr 3 1 (l32.map (cI .i64))))]) (Sub.table (by simp) (by simp)) ?_
                refine Chain.msetE (vf := (vI .i64)) sk_inj m31 x71.Key v33 (by simp) (.inl rfl) ty52 rfl ty9 rfl rfl rfl rfl rfl rfl rfl ?_
                refine Chain.sub (S' := mk 156 [] [(1, .d (.sl (a1.map (cI .i64)))), (5, .d (.sl (r3.map cS27))), (6, .d (.sl (r4.1.map (cI .i64)))), (7, .d (.lit (.int .i64 r4.2))), (8, .d (.sl (r5.1.map cS27))), (9, .d (.lit (.int .i64 r5.2))), (11, .mref 60), (12, .ref 92 0 l32.length), (15, .d (.lit (.int .i64 v79))), (61, .d (.sl (a0.map cS27))), (62, .d (.lit (.int .i64 (a0.length : Int)))), (63, .d (.lit (.int .i64 v33))), (85, .mref 60), (87, .d (.lit (.string x71.Key))), (88, .d (.lit (.int .i64 v33)))] [(60, some (.mp .string (encM MKey.sk (vI .i64) (mput m31 x71.Key v33)))), (92, some (.arr 3 1 (l32.map (cI .i64))))]) (by simp; exact Sub.table (by simp) (by simp)) ?_
                refine Chain.nil ?_
                refine thenQ_normal ?_
                refine AW.region ?_
                replace h := bsome h; obtain ⟨l82, hl82, h⟩ := h
                obtain ⟨hl82a, hl82⟩ := appL_some hl82
                subst hl82
                try simp only [List.length_append, List.length_cons, List.length_nil, Nat.zero_add] at hl82a
                refine Chain.runK [91] 5 fun K hK => ?_; simp [hl82a]; refine hK _ _ ?_; clear hK K
                refine Chain.sub (S' := mk 156 [] [(1, .d (.sl (a1.map (cI .i64)))), (5, .d (.sl (r3.map cS27))), (6, .d (.sl (r4.1.map (cI .i64)))), (7, .d (.lit (.int .i64 r4.2))), (8, .d (.sl (r5.1.map cS27))), (9, .d (.lit (.int .i64 r5.2))), (11, .mref 60), (12, .ref 92 0 ((l32 ++ [v79]).length)), (61, .d (.sl (a0.map cS27))), (62, .d (.lit (.int .i64 (a0.length : Int)))), (63, .d (.lit (.int .i64 v33)))] [(60, some (.mp .string (encM MKey.sk (vI .i64) (mput m31 x71.Key v33)))), (92, some (.arr 3 1 ((l32 ++ [v79]).map (cI .i64))))]) (Sub.table (by simp) (by simp)) ?_
                refine Chain.nil ?_
                refine blockQ.normal ?_
                refine thenQ_normal ?_
                refine AW.region ?_
                replace h := bsome h; obtain ⟨v83, hv83, h⟩ := h
                have hv83 := chkI_some hv83
                refine Chain.runK [] 2 fun K hK => ?_; simp [hv83]; refine hK _ _ ?_; clear hK K
                refine Chain.sub (S' := mk 156 [] [(1, .d (.sl (a1.map (cI .i64)))), (5, .d (.sl (r3.map cS27))), (6, .d (.sl (r4.1.map (cI .i64)))), (7, .d (.lit (.int .i64 r4.2))), (8, .d (.sl (r5.1.map cS27))), (9, .d (.lit (.int .i64 r5.2))), (11, .mref 60), (12, .ref 92 0 ((l32 ++ [v79]).length)), (61, .d (.sl (a0.map cS27))), (62, .d (.lit (.int .i64 (a0.length : Int)))), (63, .d (.lit (.int .i64 v83)))] [(60, some (.mp .string (encM MKey.sk (vI .i64) (mput m31 x71.Key v33)))), (92, some (.arr 3 1 ((l32 ++ [v79]).map (cI .i64))))]) (Sub.table (by simp) (by simp)) ?_
                refine Chain.nil ?_
                cases h
                refine PostI.next ?_
                exact (Sub.table (by simp) (by simp))
              · have c81_ : (x71.Kind == 2) = false := Bool.eq_false_iff.2 c81
                refine AW.condF (b := (x71.Kind == 2)) rfl c81_ ?_
                refine AW.sub (Sub.bool 84 (b := (x71.Kind == 2)) rfl c81_) ?_
                refine AW.sub (S' := mk 156 [] [(1, .d (.sl (a1.map (cI .i64)))), (5, .d (.sl (r3.map cS27))), (6, .d (.sl (r4.1.map (cI .i64)))), (7, .d (.lit (.int .i64 r4.2))), (8, .d (.sl (r5.1.map cS27))), (9, .d (.lit (.int .i64 r5.2))), (11, .mref 60), (12, .ref 92 0 l32.length), (13, .d (.lit (.int .i64 v33))), (14, .ptr 14 0 0), (15, .d (.lit (.int .i64 v79))), (61, .d (.sl (a0.map cS27))), (62, .d (.lit (.int .i64 (a0.length : Int)))), (63, .d (.lit (.int .i64 v33))), (84, .d (.lit (.bool false)))] [(14, some (.box [.d (.lit (.int .i64 x71.Tx)), .d (.lit (.int .i64 x71.Kind)), .d (.lit (.string x71.Key))])), (60, some (.mp .string (encM MKey.sk (vI .i64) m31))), (92, some (.arr 3 1 (l32.map (cI .i64))))]) (by simp; exact Sub.table (by simp) (by simp)) ?_
                refine AW.skip ?_
                refine thenQ_normal ?_
                refine AW.region ?_
                replace h := bsome h; obtain ⟨l84, hl84, h⟩ := h
                obtain ⟨hl84a, hl84⟩ := appL_some hl84
                subst hl84
                try simp only [List.length_append, List.length_cons, List.length_nil, Nat.zero_add] at hl84a
                refine Chain.runK [91] 5 fun K hK => ?_; simp [hl84a]; refine hK _ _ ?_; clear hK K
                refine Chain.sub (S' := mk 156 [] [(1, .d (.sl (a1.map (cI .i64)))), (5, .d (.sl (r3.map cS27))), (6, .d (.sl (r4.1.map (cI .i64)))), (7, .d (.lit (.int .i64 r4.2))), (8, .d (.sl (r5.1.map cS27))), (9, .d (.lit (.int .i64 r5.2))), (11, .mref 60), (12, .ref 92 0 ((l32 ++ [v79]).length)), (61, .d (.sl (a0.map cS27))), (62, .d (.lit (.int .i64 (a0.length : Int)))), (63, .d (.lit (.int .i64 v33)))] [(60, some (.mp .string (encM MKey.sk (vI .i64) m31))), (92, some (.arr 3 1 ((l32 ++ [v79]).map (cI .i64))))]) (Sub.table (by simp) (by simp)) ?_
                refine Chain.nil ?_
                refine blockQ.normal ?_
                refine thenQ_normal ?_
                refine AW.region ?_
                replace h := bsome h; obtain ⟨v85, hv85, h⟩ := h
                have hv85 := chkI_some hv85
                refine Chain.runK [] 2 fun K hK => ?_; simp [hv85]; refine hK _ _ ?_; clear hK K
                refine Chain.sub (S' := mk 156 [] [(1, .d (.sl (a1.map (cI .i64)))), (5, .d (.sl (r3.map cS27))), (6, .d (.sl (r4.1.map (cI .i64)))), (7, .d (.lit (.int .i64 r4.2))), (8, .d (.sl (r5.1.map cS27))), (9, .d (.lit (.int .i64 r5.2))), (11, .mref 60), (12, .ref 92 0 ((l32 ++ [v79]).length)), (61, .d (.sl (a0.map cS27))), (62, .d (.lit (.int .i64 (a0.length : Int)))), (63, .d (.lit (.int .i64 v85)))] [(60, some (.mp .string (encM MKey.sk (vI .i64) m31))), (92, some (.arr 3 1 ((l32 ++ [v79]).map (cI .i64))))]) (Sub.table (by simp) (by simp)) ?_
                refine Chain.nil ?_
                cases h
                refine PostI.next ?_
                exact (Sub.table (by simp) (by simp))
        · have c70_ : decide (v33 < (a0.length : Int)) = false := decide_eq_false c70
          refine AW.condF (b := decide (v33 < (a0.length : Int))) rfl c70_ ?_
          refine AW.sub (Sub.bool 64 (b := decide (v33 < (a0.length : Int))) rfl c70_) ?_
          refine AW.sub (S' := mk 156 [] [(1, .d (.sl (a1.map (cI .i64)))), (5, .d (.sl (r3.map cS27))), (6, .d (.sl (r4.1.map (cI .i64)))), (7, .d (.lit (.int .i64 r4.2))), (8, .d (.sl (r5.1.map cS27))), (9, .d (.lit (.int .i64 r5.2))), (11, .mref 60), (12, .ref 92 0 l32.length), (61, .d (.sl (a0.map cS27))), (62, .d (.lit (.int .i64 (a0.length : Int)))), (63, .d (.lit (.int .i64 v33))), (64, .d (.lit (.bool false)))] [(60, some (.mp .string (encM MKey.sk (vI .i64) m31))), (92, some (.arr 3 1 (l32.map (cI .i64))))]) (by simp; exact Sub.table (by simp) (by simp)) ?_
          refine AW.exit ?_
          cases h
          refine thenQ_pass (by simp) ?_
          refine PostI.out (by simp) ?_
          rintro rfl
          refine blockQ.hit ?_
          refine PostN.next ?_
          exact (Sub.table (by simp) (by simp))
      · rintro l69 h
        refine thenQ_normal ?_
        refine AW.seq ?_
        replace h := bsome h; obtain ⟨v88, hj, h⟩ := h
        refine AW.cutR (mk 156 [] [(1, .d (.sl (a1.map (cI .i64)))), (5, .d (.sl (r3.map cS27))), (8, .d (.sl (r5.1.map cS27))), (9, .d (.lit (.int .i64 r5.2))), (101, .d (.lit (.bool v88)))] []) ?_ ?_
        · clear h; have h := hj; clear hj
          refine Chain.runK [] 3 fun K hK => ?_; simp; refine hK _ _ ?_; clear hK K
          refine Chain.sub (S' := mk 156 [] [(1, .d (.sl (a1.map (cI .i64)))), (5, .d (.sl (r3.map cS27))), (6, .d (.sl (r4.1.map (cI .i64)))), (8, .d (.sl (r5.1.map cS27))), (9, .d (.lit (.int .i64 r5.2))), (12, .ref 92 0 l69.length), (96, .d (.lit (.bool (r4.2 != 0))))] [(92, some (.arr 3 1 (l69.map (cI .i64))))]) (Sub.table (by simp) (by simp)) ?_
          replace h := isome h; rcases h with ⟨c89, h⟩ | ⟨c89, h⟩
          · have c89_ : (r4.2 != 0) = true := c89
            refine Chain.sub (Sub.bool 96 (b := (r4.2 != 0)) rfl c89_) ?_
            refine Chain.sub (S' := mk 156 [] [(1, .d (.sl (a1.map (cI .i64)))), (5, .d (.sl (r3.map cS27))), (6, .d (.sl (r4.1.map (cI .i64)))), (8, .d (.sl (r5.1.map cS27))), (9, .d (.lit (.int .i64 r5.2))), (12, .ref 92 0 l69.length), (96, .d (.lit (.bool true)))] [(92, some (.arr 3 1 (l69.map (cI .i64))))]) (by simp; exact Sub.table (by simp) (by simp)) ?_
            refine Chain.runK [] 5 fun K hK => ?_; simp; refine hK _ _ ?_; clear hK K
            refine Chain.sub (S' := mk 156 [] [(1, .d (.sl (a1.map (cI .i64)))), (5, .d (.sl (r3.map cS27))), (8, .d (.sl (r5.1.map cS27))), (9, .d (.lit (.int .i64 r5.2))), (101, .d (.lit (.bool true)))] []) (Sub.table (by simp) (by simp)) ?_
            cases h
            exact Chain.nil (Sub.table (by simp) (by simp))
          · have c89_ : (r4.2 != 0) = false := Bool.eq_false_iff.2 c89
            refine Chain.sub (Sub.bool 96 (b := (r4.2 != 0)) rfl c89_) ?_
            refine Chain.sub (S' := mk 156 [] [(1, .d (.sl (a1.map (cI .i64)))), (5, .d (.sl (r3.map cS27))), (6, .d (.sl (r4.1.map (cI .i64)))), (8, .d (.sl (r5.1.map cS27))), (9, .d (.lit (.int .i64 r5.2))), (12, .ref 92 0 l69.length), (96, .d (.lit (.bool false)))] [(92, some (.arr 3 1 (l69.map (cI .i64))))]) (by simp; exact Sub.table (by simp) (by simp)) ?_
            refine Chain.runK [] 2 fun K hK => ?_; simp; refine hK _ _ ?_; clear hK K
            refine Chain.sub (S' := mk 156 [] [(1, .d (.sl (a1.map (cI .i64)))), (5, .d (.sl (r3.map cS27))), (8, .d (.sl (r5.1.map cS27))), (9, .d (.lit (.int .i64 r5.2))), (96, .d (.lit (.bool false))), (97, .d (.sl (r4.1.map (cI .i64)))), (98, .ref 92 0 l69.length)] [(92, some (.arr 3 1 (l69.map (cI .i64))))]) (Sub.table (by simp) (by simp)) ?_
            replace h := bsome h; obtain ⟨r90, hr90, h⟩ := h
            refine Chain.callL (d := 99) (p22 N r4.1 l69 r90 hr90) (by simp) rfl rfl (by simp <;> rfl) (by simp <;> rfl) ent22 (by simp <;> rfl) ?_
            refine Chain.sub (S' := mk 156 [] [(1, .d (.sl (a1.map (cI .i64)))), (5, .d (.sl (r3.map cS27))), (8, .d (.sl (r5.1.map cS27))), (9, .d (.lit (.int .i64 r5.2))), (96, .d (.lit (.bool false))), (97, .d (.sl (r4.1.map (cI .i64)))), (98, .ref 92 0 l69.length), (99, .d (.lit (.bool r90)))] [(92, some (.arr 3 1 (l69.map (cI .i64))))]) (by simp; exact Sub.table (by simp) (by simp)) ?_
            refine Chain.runK [] 2 fun K hK => ?_; simp; refine hK _ _ ?_; clear hK K
            refine Chain.sub (S' := mk 156 [] [(1, .d (.sl (a1.map (cI .i64)))), (5, .d (.sl (r3.map cS27))), (8, .d (.sl (r5.1.map cS27))), (9, .d (.lit (.int .i64 r5.2))), (101, .d (.lit (.bool (!r90))))] []) (Sub.table (by simp) (by simp)) ?_
            cases h
            exact Chain.nil (Sub.table (by simp) (by simp))
        · clear hj
          replace h := isome h; rcases h with ⟨c91, h⟩ | ⟨c91, h⟩
          · have c91_ : v88 = true := c91
            refine AW.condT (b := v88) rfl c91_ ?_
            refine AW.sub (Sub.bool 101 (b := v88) rfl c91_) ?_
            refine AW.sub (S' := mk 156 [] [(1, .d (.sl (a1.map (cI .i64)))), (5, .d (.sl (r3.map cS27))), (8, .d (.sl (r5.1.map cS27))), (9, .d (.lit (.int .i64 r5.2))), (101, .d (.lit (.bool true)))] []) (by simp; exact Sub.table (by simp) (by simp)) ?_
            refine AW.seqR ?_
            refine Chain.runK [] 1 fun K hK => ?_; simp; refine hK _ _ ?_; clear hK K
            refine Chain.sub (S' := mk 156 [] [(4, .d (.lit (.bool false)))] []) (Sub.table (by simp) (by simp)) ?_
            refine Chain.nil ?_
            refine AW.ret ?_
            cases h
            refine thenQ_pass (by simp) ?_
            exact FinC.ret (by simp) (by simp)
          · have c91_ : v88 = false := Bool.eq_false_iff.2 c91
            refine AW.condF (b := v88) rfl c91_ ?_
            refine AW.sub (Sub.bool 101 (b := v88) rfl c91_) ?_
            refine AW.sub (S' := mk 156 [] [(1, .d (.sl (a1.map (cI .i64)))), (5, .d (.sl (r3.map cS27))), (8, .d (.sl (r5.1.map cS27))), (9, .d (.lit (.int .i64 r5.2))), (101, .d (.lit (.bool false)))] []) (by simp; exact Sub.table (by simp) (by simp)) ?_
            refine AW.skip ?_
            refine thenQ_normal ?_
            refine AW.seqR ?_
            refine Chain.runK [] 1 fun K hK => ?_; simp; refine hK _ _ ?_; clear hK K
            refine Chain.sub (S' := mk 156 [] [(1, .d (.sl (a1.map (cI .i64)))), (5, .d (.sl (r3.map cS27))), (8, .d (.sl (r5.1.map cS27))), (9, .d (.lit (.int .i64 r5.2))), (17, .d (.lit (.slice none 0 0)))] []) (Sub.table (by simp) (by simp)) ?_
            refine Chain.nil ?_
            refine AW.seqR ?_
            refine Chain.mmake (.int .i64) (by simp) rfl rfl (by simp) ?_
            refine Chain.sub (S' := mk 156 [] [(1, .d (.sl (a1.map (cI .i64)))), (5, .d (.sl (r3.map cS27))), (8, .d (.sl (r5.1.map cS27))), (9, .d (.lit (.int .i64 r5.2))), (17, .d (.lit (.slice none 0 0))), (102, .mref 102)] [(102, some (.mp (.int .i64) (encM MKey.ik vB ([] : List (Int × Bool)))))]) (by simp; exact Sub.table (by simp) (by simp [encM_nil])) ?_
            refine Chain.runK [] 1 fun K hK => ?_; simp; refine hK _ _ ?_; clear hK K
            refine Chain.sub (S' := mk 156 [] [(1, .d (.sl (a1.map (cI .i64)))), (5, .d (.sl (r3.map cS27))), (8, .d (.sl (r5.1.map cS27))), (9, .d (.lit (.int .i64 r5.2))), (17, .d (.lit (.slice none 0 0))), (18, .mref 102)] [(102, some (.mp (.int .i64) (encM MKey.ik vB ([] : List (Int × Bool)))))]) (Sub.table (by simp) (by simp)) ?_
            refine Chain.nil ?_
            refine AW.seq ?_
            refine AW.seqR ?_
            refine Chain.runK [] 3 fun K hK => ?_; simp; refine hK _ _ ?_; clear hK K
            refine Chain.sub (S' := mk 156 [] [(5, .d (.sl (r3.map cS27))), (8, .d (.sl (r5.1.map cS27))), (9, .d (.lit (.int .i64 r5.2))), (17, .d (.lit (.slice none 0 0))), (18, .mref 102), (103, .d (.sl (a1.map (cI .i64)))), (104, .d (.lit (.int .i64 (a1.length : Int)))), (105, .d (.lit (.int .i64 0)))] [(102, some (.mp (.int .i64) (encM MKey.ik vB ([] : List (Int × Bool)))))]) (Sub.table (by simp) (by simp)) ?_
            refine Chain.nil ?_
            refine AW.lastJ (fun (l223 : List S27) => mk 156 [] [(5, .d (.sl (r3.map cS27))), (8, .d (.sl (r5.1.map cS27))), (9, .d (.lit (.int .i64 r5.2))), (17, .ref 134 0 l223.length)] [(134, some (.arr 27 3 (l223.map cS27)))]) h ?_ ?_ <;> clear h
            · intro o h
              refine AW.block ?_
              refine AW.iter (fun ((l133, m134, v135) : ((List S27) × (List (Int × Bool)) × Int)) => mk 156 [] [(5, .d (.sl (r3.map cS27))), (8, .d (.sl (r5.1.map cS27))), (9, .d (.lit (.int .i64 r5.2))), (17, .ref 134 0 l133.length), (18, .mref 102), (103, .d (.sl (a1.map (cI .i64)))), (104, .d (.lit (.int .i64 (a1.length : Int)))), (105, .d (.lit (.int .i64 v135)))] [(102, some (.mp (.int .i64) (encM MKey.ik vB m134))), (134, some (.arr 27 3 (l133.map cS27)))]) h (Sub.trans (Sub.nilOwn (t := 17) (id := 134) (T := 27) (n := 3) rfl rfl (by decide)) (by simp; exact Sub.table (by simp) (by simp))) ?_
              clear h
              rintro ⟨l133, m134, v135⟩ x h
              dsimp only at h ⊢
              refine AW.seqR ?_
              refine Chain.runK [] 1 fun K hK => ?_; simp; refine hK _ _ ?_; clear hK K
              refine Chain.sub (S' := mk 156 [] [(5, .d (.sl (r3.map cS27))), (8, .d (.sl (r5.1.map cS27))), (9, .d (.lit (.int .i64 r5.2))), (17, .ref 134 0 l133.length), (18, .mref 102), (103, .d (.sl (a1.map (cI .i64)))), (104, .d (.lit (.int .i64 (a1.length : Int)))), (105, .d (.lit (.int .i64 v135))), (106, .d (.lit (.bool (decide (v135 < (a1.length : Int))))))] [(102, some (.mp (.int .i64) (encM MKey.ik vB m134))), (134, some (.arr 27 3 (l133.map cS27)))]) (Sub.table (by simp) (by simp)) ?_
              refine Chain.nil ?_
              refine AW.seq ?_
              replace h := isome h; rcases h with ⟨c224, h⟩ | ⟨c224, h⟩
              · have c224_ : decide (v135 < (a1.length : Int)) = true := decide_eq_true c224
                refine AW.condT (b := decide (v135 < (a1.length : Int))) rfl c224_ ?_
                refine AW.sub (Sub.bool 106 (b := decide (v135 < (a1.length : Int))) rfl c224_) ?_
                refine AW.sub (S' := mk 156 [] [(5, .d (.sl (r3.map cS27))), (8, .d (.sl (r5.1.map cS27))), (9, .d (.lit (.int .i64 r5.2))), (17, .ref 134 0 l133.length), (18, .mref 102), (103, .d (.sl (a1.map (cI .i64)))), (104, .d (.lit (.int .i64 (a1.length : Int)))), (105, .d (.lit (.int .i64 v135))), (106, .d (.lit (.bool true)))] [(102, some (.mp (.int .i64) (encM MKey.ik vB m134))), (134, some (.arr 27 3 (l133.map cS27)))]) (by simp; exact Sub.table (by simp) (by simp)) ?_
                refine AW.skip ?_
                refine thenQ_normal ?_
                refine AW.seq ?_
                refine AW.block ?_
                refine AW.seqR ?_
                replace h := bsome h; obtain ⟨x225, hx225, h⟩ := h
                obtain ⟨k226, hx225k, hx225, hx225a, hx225b⟩ := idx_some hx225
                refine Chain.runK [] 3 fun K hK => ?_; simp [hx225, hx225k, hx225a]; refine hK _ _ ?_; clear hK K
                refine Chain.sub (S' := mk 156 [] [(5, .d (.sl (r3.map cS27))), (8, .d (.sl (r5.1.map cS27))), (9, .d (.lit (.int .i64 r5.2))), (17, .ref 134 0 l133.length), (18, .mref 102), (20, .d (.lit (.int .i64 x225))), (103, .d (.sl (a1.map (cI .i64)))), (104, .d (.lit (.int .i64 (a1.length : Int)))), (105, .d (.lit (.int .i64 v135)))] [(102, some (.mp (.int .i64) (encM MKey.ik vB m134))), (134, some (.arr 27 3 (l133.map cS27)))]) (Sub.table (by simp) (by simp)) ?_
                refine Chain.nil ?_
                refine AW.seq ?_
                refine AW.seqR ?_
                refine Chain.runK [] 2 fun K hK => ?_; simp; refine hK _ _ ?_; clear hK K
                refine Chain.sub (S' := mk 156 [] [(5, .d (.sl (r3.map cS27))), (8, .d (.sl (r5.1.map cS27))), (9, .d (.lit (.int .i64 r5.2))), (17, .ref 134 0 l133.length), (18, .mref 102), (20, .d (.lit (.int .i64 x225))), (103, .d (.sl (a1.map (cI .i64)))), (104, .d (.lit (.int .i64 (a1.length : Int)))), (105, .d (.lit (.int .i64 v135))), (109, .mref 102), (110, .d (.lit (.int .i64 x225)))] [(102, some (.mp (.int .i64) (encM MKey.ik vB m134))), (134, some (.arr 27 3 (l133.map cS27)))]) (Sub.table (by simp) (by simp)) ?_
                replace h := lsome h; obtain ⟨v227, hv227, h⟩ := h
                refine Chain.lookE (vf := vB) ik_inj m134 x225 false (by simp) rfl ty54 rfl ty3 ty4 rfl rfl rfl rfl rfl rfl rfl ?_
                refine Chain.sub (S' := mk 156 [] [(5, .d (.sl (r3.map cS27))), (8, .d (.sl (r5.1.map cS27))), (9, .d (.lit (.int .i64 r5.2))), (17, .ref 134 0 l133.length), (18, .mref 102), (20, .d (.lit (.int .i64 x225))), (103, .d (.sl (a1.map (cI .i64)))), (104, .d (.lit (.int .i64 (a1.length : Int)))), (105, .d (.lit (.int .i64 v135))), (109, .mref 102), (110, .d (.lit (.int .i64 x225))), (111, .d (.lit (.bool v227)))] [(102, some (.mp (.int .i64) (encM MKey.ik vB m134))), (134, some (.arr 27 3 (l133.map cS27)))]) (by simp [vI, vB, vS, hv227]; exact Sub.table (by simp) (by simp)) ?_
                refine Chain.nil ?_
                replace h := isome h; rcases h with ⟨c228, h⟩ | ⟨c228, h⟩
                · have c228_ : v227 = true := c228
                  refine AW.condT (b := v227) rfl c228_ ?_
                  refine AW.sub (Sub.bool 111 (b := v227) rfl c228_) ?_
                  refine AW.sub (S' := mk 156 [] [(5, .d (.sl (r3.map cS27))), (8, .d (.sl (r5.1.map cS27))), (9, .d (.lit (.int .i64 r5.2))), (17, .ref 134 0 l133.length), (18, .mref 102), (20, .d (.lit (.int .i64 x225))), (103, .d (.sl (a1.map (cI .i64)))), (104, .d (.lit (.int .i64 (a1.length : Int)))), (105, .d (.lit (.int .i64 v135))), (109, .mref 102), (110, .d (.lit (.int .i64 x225))), (111, .d (.lit (.bool true)))] [(102, some (.mp (.int .i64) (encM MKey.ik vB m134))), (134, some (.arr 27 3 (l133.map cS27)))]) (by simp; exact Sub.table (by simp) (by simp)) ?_
                  replace h := bsome h; obtain ⟨v230, hj, h⟩ := h
                  refine AW.cutR (mk 156 [] [(4, .d (.lit (.bool v230)))] []) ?_ ?_
                  · clear h; have h := hj; clear hj
                    refine Chain.runK [] 3 fun K hK => ?_; simp; refine hK _ _ ?_; clear hK K
                    refine Chain.sub (S' := mk 156 [] [(8, .d (.sl (r5.1.map cS27))), (114, .d (.lit (.bool (r5.2 == 5))))] []) (Sub.table (by simp) (by simp)) ?_
                    replace h := isome h; rcases h with ⟨c231, h⟩ | ⟨c231, h⟩
                    · have c231_ : (r5.2 == 5) = true := c231
                      refine Chain.sub (Sub.bool 114 (b := (r5.2 == 5)) rfl c231_) ?_
                      refine Chain.sub (S' := mk 156 [] [(8, .d (.sl (r5.1.map cS27))), (114, .d (.lit (.bool true)))] []) (by simp; exact Sub.table (by simp) (by simp)) ?_
                      refine Chain.runK [] 5 fun K hK => ?_; simp; refine hK _ _ ?_; clear hK K
                      refine Chain.sub (S' := mk 156 [] [(4, .d (.lit (.bool ((r5.1.length : Int) == 0))))] []) (Sub.table (by simp) (by simp)) ?_
                      cases h
                      exact Chain.nil (Sub.table (by simp) (by simp))
                    · have c231_ : (r5.2 == 5) = false := Bool.eq_false_iff.2 c231
                      refine Chain.sub (Sub.bool 114 (b := (r5.2 == 5)) rfl c231_) ?_
                      refine Chain.sub (S' := mk 156 [] [(8, .d (.sl (r5.1.map cS27))), (114, .d (.lit (.bool false)))] []) (by simp; exact Sub.table (by simp) (by simp)) ?_
                      refine Chain.runK [] 5 fun K hK => ?_; simp; refine hK _ _ ?_; clear hK K
                      refine Chain.sub (S' := mk 156 [] [(4, .d (.lit (.bool false)))] []) (Sub.table (by simp) (by simp)) ?_
                      cases h
                      exact Chain.nil (Sub.table (by simp) (by simp))
                  · clear hj
                    refine AW.ret ?_
                    cases h
                    refine thenQ_pass (by simp) ?_
                    refine blockQ.ret ?_
                    refine thenQ_pass (by simp) ?_
                    refine PostI.out (by simp) ?_
                    rintro rfl
                    refine blockQ.ret ?_
                    refine PostJ.out (by simp) ?_
                    rintro rfl
                    refine thenQ_pass (by simp) ?_
                    exact FinC.ret (by simp) (by simp)
                · have c228_ : v227 = false := Bool.eq_false_iff.2 c228
                  refine AW.condF (b := v227) rfl c228_ ?_
                  refine AW.sub (Sub.bool 111 (b := v227) rfl c228_) ?_
                  refine AW.sub (S' := mk 156 [] [(5, .d (.sl (r3.map cS27))), (8, .d (.sl (r5.1.map cS27))), (9, .d (.lit (.int .i64 r5.2))), (17, .ref 134 0 l133.length), (18, .mref 102), (20, .d (.lit (.int .i64 x225))), (103, .d (.sl (a1.map (cI .i64)))), (104, .d (.lit (.int .i64 (a1.length : Int)))), (105, .d (.lit (.int .i64 v135))), (109, .mref 102), (110, .d (.lit (.int .i64 x225))), (111, .d (.lit (.bool false)))] [(102, some (.mp (.int .i64) (encM MKey.ik vB m134))), (134, some (.arr 27 3 (l133.map cS27)))]) (by simp; exact Sub.table (by simp) (by simp)) ?_
                  refine AW.skip ?_
                  refine thenQ_normal ?_
                  refine AW.seqR ?_
                  refine Chain.runK [] 2 fun K hK => ?_; simp; refine hK _ _ ?_; clear hK K
                  refine Chain.sub (S' := mk 156 [] [(5, .d (.sl (r3.map cS27))), (8, .d (.sl (r5.1.map cS27))), (9, .d (.lit (.int .i64 r5.2))), (17, .ref 134 0 l133.length), (18, .mref 102), (20, .d (.lit (.int .i64 x225))), (103, .d (.sl (a1.map (cI .i64)))), (104, .d (.lit (.int .i64 (a1.length : Int)))), (105, .d (.lit (.int .i64 v135))), (119, .mref 102), (120, .d (.lit (.int .i64 x225)))] [(102, some (.mp (.int .i64) (encM MKey.ik vB m134))), (134, some (.arr 27 3 (l133.map cS27)))]) (Sub.table (by simp) (by simp)) ?_
                  refine Chain.msetE (vf := vB) ik_inj m134 x225 true (by simp) (.inl rfl) ty54 rfl ty3 rfl rfl rfl rfl rfl rfl rfl ?_
                  refine Chain.sub (S' := mk 156 [] [(5, .d (.sl (r3.map cS27))), (8, .d (.sl (r5.1.map cS27))), (9, .d (.lit (.int .i64 r5.2))), (17, .ref 134 0 l133.length), (18, .mref 102), (20, .d (.lit (.int .i64 x225))), (103, .d (.sl (a1.map (cI .i64)))), (104, .d (.lit (.int .i64 (a1.length : Int)))), (105, .d (.lit (.int .i64 v135))), (119, .mref 102), (120, .d (.lit (.int .i64 x225)))] [(102, some (.mp (.int .i64) (encM MKey.ik vB (mput m134 x225 true)))), (134, some (.arr 27 3 (l133.map cS27)))]) (by simp; exact Sub.table (by simp) (by simp)) ?_
                  refine Chain.nil ?_
                  refine AW.seqR ?_
                  refine Chain.runK [] 3 fun K hK => ?_; simp; refine hK _ _ ?_; clear hK K
                  refine Chain.sub (S' := mk 156 [] [(5, .d (.sl (r3.map cS27))), (8, .d (.sl (r5.1.map cS27))), (9, .d (.lit (.int .i64 r5.2))), (17, .ref 134 0 l133.length), (18, .mref 102), (20, .d (.lit (.int .i64 x225))), (103, .d (.sl (a1.map (cI .i64)))), (104, .d (.lit (.int .i64 (a1.length : Int)))), (105, .d (.lit (.int .i64 v135))), (121, .d (.sl (r3.map cS27))), (122, .d (.lit (.int .i64 (r3.length : Int)))), (123, .d (.lit (.int .i64 0)))] [(102, some (.mp (.int .i64) (encM MKey.ik vB (mput m134 x225 true)))), (134, some (.arr 27 3 (l133.map cS27)))]) (Sub.table (by simp) (by simp)) ?_
                  refine Chain.nil ?_
                  refine AW.lastN (fun (l257 : List S27) => mk 156 [] [(5, .d (.sl (r3.map cS27))), (8, .d (.sl (r5.1.map cS27))), (9, .d (.lit (.int .i64 r5.2))), (17, .ref 134 0 l257.length), (18, .mref 102), (103, .d (.sl (a1.map (cI .i64)))), (104, .d (.lit (.int .i64 (a1.length : Int)))), (105, .d (.lit (.int .i64 v135)))] [(102, some (.mp (.int .i64) (encM MKey.ik vB (mput m134 x225 true)))), (134, some (.arr 27 3 (l257.map cS27)))]) h ?_ ?_ <;> clear h
                  · intro o h
                    refine AW.block ?_
                    refine AW.iter (fun ((l239, v240) : ((List S27) × Int)) => mk 156 [] [(5, .d (.sl (r3.map cS27))), (8, .d (.sl (r5.1.map cS27))), (9, .d (.lit (.int .i64 r5.2))), (17, .ref 134 0 l239.length), (18, .mref 102), (20, .d (.lit (.int .i64 x225))), (103, .d (.sl (a1.map (cI .i64)))), (104, .d (.lit (.int .i64 (a1.length : Int)))), (105, .d (.lit (.int .i64 v135))), (121, .d (.sl (r3.map cS27))), (122, .d (.lit (.int .i64 (r3.length : Int)))), (123, .d (.lit (.int .i64 v240)))] [(102, some (.mp (.int .i64) (encM MKey.ik vB (mput m134 x225 true)))), (134, some (.arr 27 3 (l239.map cS27)))]) h (Sub.table (by simp) (by simp)) ?_
                    clear h
                    rintro ⟨l239, v240⟩ x h
                    dsimp only at h ⊢
                    refine AW.seqR ?_
                    refine Chain.runK [] 1 fun K hK => ?_; simp; refine hK _ _ ?_; clear hK K
                    refine Chain.sub (S' := mk 156 [] [(5, .d (.sl (r3.map cS27))), (8, .d (.sl (r5.1.map cS27))), (9, .d (.lit (.int .i64 r5.2))), (17, .ref 134 0 l239.length), (18, .mref 102), (20, .d (.lit (.int .i64 x225))), (103, .d (.sl (a1.map (cI .i64)))), (104, .d (.lit (.int .i64 (a1.length : Int)))), (105, .d (.lit (.int .i64 v135))), (121, .d (.sl (r3.map cS27))), (122, .d (.lit (.int .i64 (r3.length : Int)))), (123, .d (.lit (.int .i64 v240))), (124, .d (.lit (.bool (decide (v240 < (r3.length : Int))))))] [(102, some (.mp (.int .i64) (encM MKey.ik vB (mput m134 x225 true)))), (134, some (.arr 27 3 (l239.map cS27)))]) (Sub.table (by simp) (by simp)) ?_
                    refine Chain.nil ?_
                    refine AW.seq ?_
                    replace h := isome h; rcases h with ⟨c258, h⟩ | ⟨c258, h⟩
                    · have c258_ : decide (v240 < (r3.length : Int)) = true := decide_eq_true c258
                      refine AW.condT (b := decide (v240 < (r3.length : Int))) rfl c258_ ?_
                      refine AW.sub (Sub.bool 124 (b := decide (v240 < (r3.length : Int))) rfl c258_) ?_
                      refine AW.sub (S' := mk 156 [] [(5, .d (.sl (r3.map cS27))), (8, .d (.sl (r5.1.map cS27))), (9, .d (.lit (.int .i64 r5.2))), (17, .ref 134 0 l239.length), (18, .mref 102), (20, .d (.lit (.int .i64 x225))), (103, .d (.sl (a1.map (cI .i64)))), (104, .d (.lit (.int .i64 (a1.length : Int)))), (105, .d (.lit (.int .i64 v135))), (121, .d (.sl (r3.map cS27))), (122, .d (.lit (.int .i64 (r3.length : Int)))), (123, .d (.lit (.int .i64 v240))), (124, .d (.lit (.bool true)))] [(102, some (.mp (.int .i64) (encM MKey.ik vB (mput m134 x225 true)))), (134, some (.arr 27 3 (l239.map cS27)))]) (by simp; exact Sub.table (by simp) (by simp)) ?_
                      refine AW.skip ?_
                      refine thenQ_normal ?_
                      refine AW.seq ?_
                      refine AW.block ?_
                      refine AW.seqR ?_
                      replace h := bsome h; obtain ⟨x259, hx259, h⟩ := h
                      obtain ⟨k260, hx259k, hx259, hx259a, hx259b⟩ := idx_some hx259
                      refine Chain.runK [] 4 fun K hK => ?_; simp [hx259, hx259k, hx259a]; refine hK _ _ ?_; clear hK K
                      refine Chain.sub (S' := mk 156 [] [(5, .d (.sl (r3.map cS27))), (8, .d (.sl (r5.1.map cS27))), (9, .d (.lit (.int .i64 r5.2))), (17, .ref 134 0 l239.length), (18, .mref 102), (20, .d (.lit (.int .i64 x225))), (22, .ptr 22 0 0), (103, .d (.sl (a1.map (cI .i64)))), (104, .d (.lit (.int .i64 (a1.length : Int)))), (105, .d (.lit (.int .i64 v135))), (121, .d (.sl (r3.map cS27))), (122, .d (.lit (.int .i64 (r3.length : Int)))), (123, .d (.lit (.int .i64 v240)))] [(22, some (.box [.d (.lit (.int .i64 x259.Tx)), .d (.lit (.int .i64 x259.Kind)), .d (.lit (.string x259.Key))])), (102, some (.mp (.int .i64) (encM MKey.ik vB (mput m134 x225 true)))), (134, some (.arr 27 3 (l239.map cS27)))]) (Sub.table (by simp) (by simp)) ?_
                      refine Chain.nil ?_
                      refine AW.seqR ?_
                      refine Chain.runK [] 4 fun K hK => ?_; simp; refine hK _ _ ?_; clear hK K
                      refine Chain.sub (S' := mk 156 [] [(5, .d (.sl (r3.map cS27))), (8, .d (.sl (r5.1.map cS27))), (9, .d (.lit (.int .i64 r5.2))), (17, .ref 134 0 l239.length), (18, .mref 102), (20, .d (.lit (.int .i64 x225))), (22, .ptr 22 0 0), (103, .d (.sl (a1.map (cI .i64)))), (104, .d (.lit (.int .i64 (a1.length : Int)))), (105, .d (.lit (.int .i64 v135))), (121, .d (.sl (r3.map cS27))), (122, .d (.lit (.int .i64 (r3.length : Int)))), (123, .d (.lit (.int .i64 v240))), (130, .d (.lit (.bool (x259.Tx == x225))))] [(22, some (.box [.d (.lit (.int .i64 x259.Tx)), .d (.lit (.int .i64 x259.Kind)), .d (.lit (.string x259.Key))])), (102, some (.mp (.int .i64) (encM MKey.ik vB (mput m134 x225 true)))), (134, some (.arr 27 3 (l239.map cS27)))]) (Sub.table (by simp) (by simp)) ?_
                      refine Chain.nil ?_
                      replace h := isome h; rcases h with ⟨c261, h⟩ | ⟨c261, h⟩
                      · have c261_ : (x259.Tx == x225) = true := c261
                        refine AW.condT (b := (x259.Tx == x225)) rfl c261_ ?_
                        refine AW.sub (Sub.bool 130 (b := (x259.Tx == x225)) rfl c261_) ?_
                        refine AW.sub (S' := mk 156 [] [(5, .d (.sl (r3.map cS27))), (8, .d (.sl (r5.1.map cS27))), (9, .d (.lit (.int .i64 r5.2))), (17, .ref 134 0 l239.length), (18, .mref 102), (20, .d (.lit (.int .i64 x225))), (22, .ptr 22 0 0), (103, .d (.sl (a1.map (cI .i64)))), (104, .d (.lit (.int .i64 (a1.length : Int)))), (105, .d (.lit (.int .i64 v135))), (121, .d (.sl (r3.map cS27))), (122, .d (.lit (.int .i64 (r3.length : Int)))), (123, .d (.lit (.int .i64 v240))), (130, .d (.lit (.bool true)))] [(22, some (.box [.d (.lit (.int .i64 x259.Tx)), .d (.lit (.int .i64 x259.Kind)), .d (.lit (.string x259.Key))])), (102, some (.mp (.int .i64) (encM MKey.ik vB (mput m134 x225 true)))), (134, some (.arr 27 3 (l239.map cS27)))]) (by simp; exact Sub.table (by simp) (by simp)) ?_
                        refine AW.region ?_
                        replace h := bsome h; obtain ⟨l262, hl262, h⟩ := h
                        obtain ⟨hl262a, hl262⟩ := appL_some hl262
                        subst hl262
                        try simp only [List.length_append, List.length_cons, List.length_nil, Nat.zero_add] at hl262a
                        refine Chain.runK [133] 5 fun K hK => ?_; simp [hl262a]; refine hK _ _ ?_; clear hK K
                        refine Chain.sub (S' := mk 156 [] [(5, .d (.sl (r3.map cS27))), (8, .d (.sl (r5.1.map cS27))), (9, .d (.lit (.int .i64 r5.2))), (17, .ref 134 0 ((l239 ++ [x259]).length)), (18, .mref 102), (20, .d (.lit (.int .i64 x225))), (103, .d (.sl (a1.map (cI .i64)))), (104, .d (.lit (.int .i64 (a1.length : Int)))), (105, .d (.lit (.int .i64 v135))), (121, .d (.sl (r3.map cS27))), (122, .d (.lit (.int .i64 (r3.length : Int)))), (123, .d (.lit (.int .i64 v240)))] [(102, some (.mp (.int .i64) (encM MKey.ik vB (mput m134 x225 true)))), (134, some (.arr 27 3 ((l239 ++ [x259]).map cS27)))]) (Sub.table (by simp) (by simp)) ?_
                        refine Chain.nil ?_
                        refine blockQ.normal ?_
                        refine thenQ_normal ?_
                        refine AW.region ?_
                        replace h := bsome h; obtain ⟨v263, hv263, h⟩ := h
                        have hv263 := chkI_some hv263
                        refine Chain.runK [] 2 fun K hK => ?_; simp [hv263]; refine hK _ _ ?_; clear hK K
                        refine Chain.sub (S' := mk 156 [] [(5, .d (.sl (r3.map cS27))), (8, .d (.sl (r5.1.map cS27))), (9, .d (.lit (.int .i64 r5.2))), (17, .ref 134 0 ((l239 ++ [x259]).length)), (18, .mref 102), (20, .d (.lit (.int .i64 x225))), (103, .d (.sl (a1.map (cI .i64)))), (104, .d (.lit (.int .i64 (a1.length : Int)))), (105, .d (.lit (.int .i64 v135))), (121, .d (.sl (r3.map cS27))), (122, .d (.lit (.int .i64 (r3.length : Int)))), (123, .d (.lit (.int .i64 v263)))] [(102, some (.mp (.int .i64) (encM MKey.ik vB (mput m134 x225 true)))), (134, some (.arr 27 3 ((l239 ++ [x259]).map cS27)))]) (Sub.table (by simp) (by simp)) ?_
                        refine Chain.nil ?_
                        cases h
                        refine PostI.next ?_
                        exact (Sub.table (by simp) (by simp))
                      · have c261_ : (x259.Tx == x225) = false := Bool.eq_false_iff.2 c261
                        refine AW.condF (b := (x259.Tx == x225)) rfl c261_ ?_
                        refine AW.sub (Sub.bool 130 (b := (x259.Tx == x225)) rfl c261_) ?_
                        refine AW.sub (S' := mk 156 [] [(5, .d (.sl (r3.map cS27))), (8, .d (.sl (r5.1.map cS27))), (9, .d (.lit (.int .i64 r5.2))), (17, .ref 134 0 l239.length), (18, .mref 102), (20, .d (.lit (.int .i64 x225))), (22, .ptr 22 0 0), (103, .d (.sl (a1.map (cI .i64)))), (104, .d (.lit (.int .i64 (a1.length : Int)))), (105, .d (.lit (.int .i64 v135))), (121, .d (.sl (r3.map cS27))), (122, .d (.lit (.int .i64 (r3.length : Int)))), (123, .d (.lit (.int .i64 v240))), (130, .d (.lit (.bool false)))] [(22, some (.box [.d (.lit (.int .i64 x259.Tx)), .d (.lit (.int .i64 x259.Kind)), .d (.lit (.string x259.Key))])), (102, some (.mp (.int .i64) (encM MKey.ik vB (mput m134 x225 true)))), (134, some (.arr 27 3 (l239.map cS27)))]) (by simp; exact Sub.table (by simp) (by simp)) ?_
                        refine AW.skip ?_
                        refine blockQ.normal ?_
                        refine thenQ_normal ?_
                        refine AW.region ?_
                        replace h := bsome h; obtain ⟨v264, hv264, h⟩ := h
                        have hv264 := chkI_some hv264
                        refine Chain.runK [] 2 fun K hK => ?_; simp [hv264]; refine hK _ _ ?_; clear hK K
                        refine Chain.sub (S' := mk 156 [] [(5, .d (.sl (r3.map cS27))), (8, .d (.sl (r5.1.map cS27))), (9, .d (.lit (.int .i64 r5.2))), (17, .ref 134 0 l239.length), (18, .mref 102), (20, .d (.lit (.int .i64 x225))), (103, .d (.sl (a1.map (cI .i64)))), (104, .d (.lit (.int .i64 (a1.length : Int)))), (105, .d (.lit (.int .i64 v135))), (121, .d (.sl (r3.map cS27))), (122, .d (.lit (.int .i64 (r3.length : Int)))), (123, .d (.lit (.int .i64 v264)))] [(102, some (.mp (.int .i64) (encM MKey.ik vB (mput m134 x225 true)))), (134, some (.arr 27 3 (l239.map cS27)))]) (Sub.table (by simp) (by simp)) ?_
                        refine Chain.nil ?_
                        cases h
                        refine PostI.next ?_
                        exact (Sub.table (by simp) (by simp))
                    · have c258_ : decide (v240 < (r3.length : Int)) = false := decide_eq_false c258
                      refine AW.condF (b := decide (v240 < (r3.length : Int))) rfl c258_ ?_
                      refine AW.sub (Sub.bool 124 (b := decide (v240 < (r3.length : Int))) rfl c258_) ?_
                      refine AW.sub (S' := mk 156 [] [(5, .d (.sl (r3.map cS27))), (8, .d (.sl (r5.1.map cS27))), (9, .d (.lit (.int .i64 r5.2))), (17, .ref 134 0 l239.length), (18, .mref 102), (20, .d (.lit (.int .i64 x225))), (103, .d (.sl (a1.map (cI .i64)))), (104, .d (.lit (.int .i64 (a1.length : Int)))), (105, .d (.lit (.int .i64 v135))), (121, .d (.sl (r3.map cS27))), (122, .d (.lit (.int .i64 (r3.length : Int)))), (123, .d (.lit (.int .i64 v240))), (124, .d (.lit (.bool false)))] [(102, some (.mp (.int .i64) (encM MKey.ik vB (mput m134 x225 true)))), (134, some (.arr 27 3 (l239.map cS27)))]) (by simp; exact Sub.table (by simp) (by simp)) ?_
                      refine AW.exit ?_
                      cases h
                      refine thenQ_pass (by simp) ?_
                      refine PostI.out (by simp) ?_
                      rintro rfl
                      refine blockQ.hit ?_
                      refine PostN.next ?_
                      exact (Sub.table (by simp) (by simp))
                  · rintro l257 h
                    refine blockQ.normal ?_
                    refine thenQ_normal ?_
                    refine AW.region ?_
                    replace h := bsome h; obtain ⟨v265, hv265, h⟩ := h
                    have hv265 := chkI_some hv265
                    refine Chain.runK [] 2 fun K hK => ?_; simp [hv265]; refine hK _ _ ?_; clear hK K
                    refine Chain.sub (S' := mk 156 [] [(5, .d (.sl (r3.map cS27))), (8, .d (.sl (r5.1.map cS27))), (9, .d (.lit (.int .i64 r5.2))), (17, .ref 134 0 l257.length), (18, .mref 102), (103, .d (.sl (a1.map (cI .i64)))), (104, .d (.lit (.int .i64 (a1.length : Int)))), (105, .d (.lit (.int .i64 v265)))] [(102, some (.mp (.int .i64) (encM MKey.ik vB (mput m134 x225 true)))), (134, some (.arr 27 3 (l257.map cS27)))]) (Sub.table (by simp) (by simp)) ?_
                    refine Chain.nil ?_
                    cases h
                    refine PostI.next ?_
                    exact (Sub.table (by simp) (by simp))
              · have c224_ : decide (v135 < (a1.length : Int)) = false := decide_eq_false c224
                refine AW.condF (b := decide (v135 < (a1.length : Int))) rfl c224_ ?_
                refine AW.sub (Sub.bool 106 (b := decide (v135 < (a1.length : Int))) rfl c224_) ?_
                refine AW.sub (S' := mk 156 [] [(5, .d (.sl (r3.map cS27))), (8, .d (.sl (r5.1.map cS27))), (9, .d (.lit (.int .i64 r5.2))), (17, .ref 134 0 l133.length), (18, .mref 102), (103, .d (.sl (a1.map (cI .i64)))), (104, .d (.lit (.int .i64 (a1.length : Int)))), (105, .d (.lit (.int .i64 v135))), (106, .d (.lit (.bool false)))] [(102, some (.mp (.int .i64) (encM MKey.ik vB m134))), (134, some (.arr 27 3 (l133.map cS27)))]) (by simp; exact Sub.table (by simp) (by simp)) ?_
                refine AW.exit ?_
                cases h
                refine thenQ_pass (by simp) ?_
                refine PostI.out (by simp) ?_
                rintro rfl
                refine blockQ.hit ?_
                refine PostJ.next ?_
                exact (Sub.table (by simp) (by simp))
            · rintro l223 h
              refine thenQ_normal ?_
              refine AW.seq ?_
              refine AW.seqR ?_
              refine Chain.runK [] 5 fun K hK => ?_; simp; refine hK _ _ ?_; clear hK K
              refine Chain.sub (S' := mk 156 [] [(8, .d (.sl (r5.1.map cS27))), (9, .d (.lit (.int .i64 r5.2))), (17, .ref 134 0 l223.length), (141, .d (.lit (.bool (decide ((l223.length : Int) < (r3.length : Int))))))] [(134, some (.arr 27 3 (l223.map cS27)))]) (Sub.table (by simp) (by simp)) ?_
              refine Chain.nil ?_
              replace h := isome h; rcases h with ⟨c266, h⟩ | ⟨c266, h⟩
              · have c266_ : decide ((l223.length : Int) < (r3.length : Int)) = true := decide_eq_true c266
                refine AW.condT (b := decide ((l223.length : Int) < (r3.length : Int))) rfl c266_ ?_
                refine AW.sub (Sub.bool 141 (b := decide ((l223.length : Int) < (r3.length : Int))) rfl c266_) ?_
                refine AW.sub (S' := mk 156 [] [(8, .d (.sl (r5.1.map cS27))), (9, .d (.lit (.int .i64 r5.2))), (17, .ref 134 0 l223.length), (141, .d (.lit (.bool true)))] [(134, some (.arr 27 3 (l223.map cS27)))]) (by simp; exact Sub.table (by simp) (by simp)) ?_
                replace h := bsome h; obtain ⟨v268, hj, h⟩ := h
                refine AW.cutR (mk 156 [] [(4, .d (.lit (.bool v268)))] []) ?_ ?_
                · clear h; have h := hj; clear hj
                  refine Chain.runK [] 3 fun K hK => ?_; simp; refine hK _ _ ?_; clear hK K
                  refine Chain.sub (S' := mk 156 [] [(8, .d (.sl (r5.1.map cS27))), (144, .d (.lit (.bool (r5.2 == 4))))] []) (Sub.table (by simp) (by simp)) ?_
                  replace h := isome h; rcases h with ⟨c269, h⟩ | ⟨c269, h⟩
                  · have c269_ : (r5.2 == 4) = true := c269
                    refine Chain.sub (Sub.bool 144 (b := (r5.2 == 4)) rfl c269_) ?_
                    refine Chain.sub (S' := mk 156 [] [(8, .d (.sl (r5.1.map cS27))), (144, .d (.lit (.bool true)))] []) (by simp; exact Sub.table (by simp) (by simp)) ?_
                    refine Chain.runK [] 5 fun K hK => ?_; simp; refine hK _ _ ?_; clear hK K
                    refine Chain.sub (S' := mk 156 [] [(4, .d (.lit (.bool ((r5.1.length : Int) == 0))))] []) (Sub.table (by simp) (by simp)) ?_
                    cases h
                    exact Chain.nil (Sub.table (by simp) (by simp))
                  · have c269_ : (r5.2 == 4) = false := Bool.eq_false_iff.2 c269
                    refine Chain.sub (Sub.bool 144 (b := (r5.2 == 4)) rfl c269_) ?_
                    refine Chain.sub (S' := mk 156 [] [(8, .d (.sl (r5.1.map cS27))), (144, .d (.lit (.bool false)))] []) (by simp; exact Sub.table (by simp) (by simp)) ?_
                    refine Chain.runK [] 5 fun K hK => ?_; simp; refine hK _ _ ?_; clear hK K
                    refine Chain.sub (S' := mk 156 [] [(4, .d (.lit (.bool false)))] []) (Sub.table (by simp) (by simp)) ?_
                    cases h
                    exact Chain.nil (Sub.table (by simp) (by simp))
                · clear hj
                  refine AW.ret ?_
                  cases h
                  refine thenQ_pass (by simp) ?_
                  exact FinC.ret (by simp) (by simp)
              · have c266_ : decide ((l223.length : Int) < (r3.length : Int)) = false := decide_eq_false c266
                refine AW.condF (b := decide ((l223.length : Int) < (r3.length : Int))) rfl c266_ ?_
                refine AW.sub (Sub.bool 141 (b := decide ((l223.length : Int) < (r3.length : Int))) rfl c266_) ?_
                refine AW.sub (S' := mk 156 [] [(8, .d (.sl (r5.1.map cS27))), (9, .d (.lit (.int .i64 r5.2))), (17, .ref 134 0 l223.length), (141, .d (.lit (.bool false)))] [(134, some (.arr 27 3 (l223.map cS27)))]) (by simp; exact Sub.table (by simp) (by simp)) ?_
                refine AW.skip ?_
                refine thenQ_normal ?_
                replace h := bsome h; obtain ⟨v272, hj, h⟩ := h
                refine AW.cutR (mk 156 [] [(4, .d (.lit (.bool v272)))] []) ?_ ?_
                · clear h; have h := hj; clear hj
                  refine Chain.runK [] 3 fun K hK => ?_; simp; refine hK _ _ ?_; clear hK K
                  refine Chain.sub (S' := mk 156 [] [(8, .d (.sl (r5.1.map cS27))), (17, .ref 134 0 l223.length), (151, .d (.lit (.bool (r5.2 == 0))))] [(134, some (.arr 27 3 (l223.map cS27)))]) (Sub.table (by simp) (by simp)) ?_
                  replace h := isome h; rcases h with ⟨c273, h⟩ | ⟨c273, h⟩
                  · have c273_ : (r5.2 == 0) = true := c273
                    refine Chain.sub (Sub.bool 151 (b := (r5.2 == 0)) rfl c273_) ?_
                    refine Chain.sub (S' := mk 156 [] [(8, .d (.sl (r5.1.map cS27))), (17, .ref 134 0 l223.length), (151, .d (.lit (.bool true)))] [(134, some (.arr 27 3 (l223.map cS27)))]) (by simp; exact Sub.table (by simp) (by simp)) ?_
                    refine Chain.runK [] 2 fun K hK => ?_; simp; refine hK _ _ ?_; clear hK K
                    refine Chain.sub (S' := mk 156 [] [(151, .d (.lit (.bool true))), (152, .d (.sl (r5.1.map cS27))), (153, .ref 134 0 l223.length)] [(134, some (.arr 27 3 (l223.map cS27)))]) (Sub.table (by simp) (by simp)) ?_
                    replace h := bsome h; obtain ⟨r274, hr274, h⟩ := h
                    refine Chain.callL (d := 154) (p27 N r5.1 l223 r274 hr274) (by simp) rfl rfl (by simp <;> rfl) (by simp <;> rfl) ent27 (by simp <;> rfl) ?_
                    refine Chain.sub (S' := mk 156 [] [(151, .d (.lit (.bool true))), (152, .d (.sl (r5.1.map cS27))), (153, .ref 134 0 l223.length), (154, .d (.lit (.bool r274)))] [(134, some (.arr 27 3 (l223.map cS27)))]) (by simp; exact Sub.table (by simp) (by simp)) ?_
                    refine Chain.runK [] 2 fun K hK => ?_; simp; refine hK _ _ ?_; clear hK K
                    refine Chain.sub (S' := mk 156 [] [(4, .d (.lit (.bool r274)))] []) (Sub.table (by simp) (by simp)) ?_
                    cases h
                    exact Chain.nil (Sub.table (by simp) (by simp))
                  · have c273_ : (r5.2 == 0) = false := Bool.eq_false_iff.2 c273
                    refine Chain.sub (Sub.bool 151 (b := (r5.2 == 0)) rfl c273_) ?_
                    refine Chain.sub (S' := mk 156 [] [(8, .d (.sl (r5.1.map cS27))), (17, .ref 134 0 l223.length), (151, .d (.lit (.bool false)))] [(134, some (.arr 27 3 (l223.map cS27)))]) (by simp; exact Sub.table (by simp) (by simp)) ?_
                    refine Chain.runK [] 5 fun K hK => ?_; simp; refine hK _ _ ?_; clear hK K
                    refine Chain.sub (S' := mk 156 [] [(4, .d (.lit (.bool false)))] []) (Sub.table (by simp) (by simp)) ?_
                    cases h
                    exact Chain.nil (Sub.table (by simp) (by simp))
                · clear hj
                  refine AW.ret ?_
                  cases h
                  exact FinC.ret (by simp) (by simp)

end Go.Proofs.Ytabjbkdlacibjaa
