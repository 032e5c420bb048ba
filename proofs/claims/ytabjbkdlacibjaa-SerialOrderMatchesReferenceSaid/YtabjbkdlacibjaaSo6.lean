/- Functions of the program as functional programs; the code computes them. -/
import Derived.Test.YtabjbkdlacibjaaSo5
namespace Go.Proofs.Ytabjbkdlacibjaa
open Go.Ab Go.Rp
attribute [-simp] List.all_eq_true Array.all_toList Array.all_eq_true

/-- stemma/stemref5.TopologicalOrder -/
def d31 (N : Nat) (a0 : (List Int)) (p1 : Int → Int → Option Bool) : Option ((List Int) × Bool) :=
  (d64 N a0).bind fun r1 =>
  bindO (β := List Int) (ρ := ((List Int) × Bool)) (
    iterN (σ := ((List Int) × (List Int))) (ρ := (Out (List Int) ((List Int) × Bool))) (fun ((l188, l189) : ((List Int) × (List Int))) =>
      if (l188.length : Int) > 0 then (
        Option.bind (α := Int) (
          iterN (σ := Int) (ρ := Int) (fun (v608 : Int) =>
            if v608 < (l188.length : Int) then (
              (idx l188 v608).bind fun x698 =>
              Option.bind (α := Bool) (
                iterN (σ := (Bool × Int)) (ρ := Bool) (fun ((v706, v707) : (Bool × Int)) =>
                  if v707 < (l188.length : Int) then (
                    (idx l188 v707).bind fun x730 =>
                    Option.bind (α := Bool) (
                      if v706 = true then (
                        (p1 x730 x698).bind fun r736 =>
                        some (!r736)
                      ) else
                      some false
                    ) fun (v734 : Bool) =>
                    (chkI (v707 + 1)).bind fun v737 =>
                    some (.inl (v734, v737))
                  ) else
                  some (.inr v706)
                ) N (true, 0)
              ) fun (v728 : Bool) =>
              if v728 = true then (
                some (.inr v608)
              ) else
              (chkI (v608 + 1)).bind fun v739 =>
              some (.inl v739)
            ) else
            some (.inr (-1))
          ) N 0
        ) fun (v696 : Int) =>
        if v696 < 0 then (
          some (.inr (.ret (([] : List Int), false)))
        ) else
        (idx l188 v696).bind fun x741 =>
        (appL 8 l189 [x741]).bind fun l743 =>
        (natI v696 l188.length).bind fun n744 =>
        letv (l188.take n744) fun l745 =>
        (appL 8 ([] : List Int) l745).bind fun l746 =>
        (chkI ((n744 : Int) + 1)).bind fun v747 =>
        (natI v747 l188.length).bind fun n748 =>
        letv (l188.drop n748) fun l749 =>
        (appL 8 (([] : List Int) ++ l745) l749).bind fun l750 =>
        some (.inl (((([] : List Int) ++ l745) ++ l749), (l189 ++ [x741])))
      ) else
      some (.inr (.go l189))
    ) N (r1, ([] : List Int))
  ) fun (l564 : List Int) =>
  some (l564, true)
set_option maxRecDepth 100000 in
set_option maxHeartbeats 4000000 in
theorem p31 (N : Nat) (a0 : (List Int)) (g1 : Nat) (cs1 : List D) (p1 : Int → Int → Option Bool) (ent_1 : Rp.Enters Try.prog g1) (hp1 : ∀ a0 a1 r, p1 a0 a1 = some r → FunC Try.prog g1 ([.d (.lit (.int .i64 a0)), .d (.lit (.int .i64 a1))] ++ cs1.map .d) (.d (.lit (.bool r)))) (r : ((List Int) × Bool)) (h : d31 N a0 p1 = some r) : FunC Try.prog 31 [.d (.sl (a0.map (cI .i64))), .fn (.func g1) (cs1.map .d)] (.tup [.d (.sl (r.1.map (cI .i64))), .d (.lit (.bool r.2))]) := by
  unfold d31 at h
  refine FunC.enter 64 [(0, .d (.sl (a0.map (cI .i64)))), (1, .fn (.func g1) (cs1.map .d))] (by simp) Try.func31 rfl (of_decide_eq_true rfl) rfl rfl ?_
  refine AW.seqR ?_
  refine Chain.runK [] 2 fun K hK => ?_; simp; refine hK _ _ ?_; clear hK K
  refine Chain.sub (S' := mk 64 [] [(0, .d (.sl (a0.map (cI .i64)))), (1, .fn (.func g1) (cs1.map .d))] []) (Sub.table (by simp) (by simp)) ?_
  refine Chain.nil ?_
  refine AW.seqR ?_
  refine Chain.runK [] 1 fun K hK => ?_; simp; refine hK _ _ ?_; clear hK K
  refine Chain.sub (S' := mk 64 [] [(1, .fn (.func g1) (cs1.map .d)), (14, .d (.sl (a0.map (cI .i64))))] []) (Sub.table (by simp) (by simp)) ?_
  replace h := bsome h; obtain ⟨r1, hr1, h⟩ := h
  refine Chain.callC (d := 15) (p64 N a0 r1 hr1) (by simp) rfl rfl (by simp <;> rfl) (by simp <;> rfl) ent64 (by simp) (.inl ⟨by simp, by simp⟩) ?_
  refine Chain.sub (S' := mk 64 [] [(1, .fn (.func g1) (cs1.map .d)), (14, .d (.sl (a0.map (cI .i64)))), (15, .d (.sl (r1.map (cI .i64))))] []) (by simp; exact Sub.table (by simp) (by simp)) ?_
  refine Chain.runK [] 1 fun K hK => ?_; simp; refine hK _ _ ?_; clear hK K
  refine Chain.sub (S' := mk 64 [] [(1, .fn (.func g1) (cs1.map .d)), (6, .d (.sl (r1.map (cI .i64))))] []) (Sub.table (by simp) (by simp)) ?_
  refine Chain.nil ?_
  refine AW.seqR ?_
  refine Chain.runK [] 1 fun K hK => ?_; simp; refine hK _ _ ?_; clear hK K
  refine Chain.sub (S' := mk 64 [] [(1, .fn (.func g1) (cs1.map .d)), (6, .d (.sl (r1.map (cI .i64)))), (7, .d (.lit (.slice none 0 0)))] []) (Sub.table (by simp) (by simp)) ?_
  refine Chain.nil ?_
  refine AW.seqJ (fun (l564 : List Int) => mk 64 [] [(7, .ref 52 0 l564.length)] [(52, some (.arr 3 1 (l564.map (cI .i64))))]) h ?_ ?_ <;> clear h
  · intro o h
    refine AW.block ?_
    refine AW.iter (fun ((l188, l189) : ((List Int) × (List Int))) => mk 64 [] [(1, .fn (.func g1) (cs1.map .d)), (6, .d (.sl (l188.map (cI .i64)))), (7, .ref 52 0 l189.length)] [(52, some (.arr 3 1 (l189.map (cI .i64))))]) h (Sub.trans (Sub.nilOwn (t := 7) (id := 52) (T := 3) (n := 1) rfl rfl (by decide)) (by simp; exact Sub.table (by simp) (by simp))) ?_
    clear h
    rintro ⟨l188, l189⟩ x h
    dsimp only at h ⊢
    refine AW.seq ?_
    refine AW.seqR ?_
    refine Chain.runK [] 3 fun K hK => ?_; simp; refine hK _ _ ?_; clear hK K
    refine Chain.sub (S' := mk 64 [] [(1, .fn (.func g1) (cs1.map .d)), (6, .d (.sl (l188.map (cI .i64)))), (7, .ref 52 0 l189.length), (18, .d (.lit (.bool (decide ((l188.length : Int) > 0)))))] [(52, some (.arr 3 1 (l189.map (cI .i64))))]) (Sub.table (by simp) (by simp)) ?_
    refine Chain.nil ?_
    replace h := isome h; rcases h with ⟨c565, h⟩ | ⟨c565, h⟩
    · have c565_ : decide ((l188.length : Int) > 0) = true := decide_eq_true c565
      refine AW.condT (b := decide ((l188.length : Int) > 0)) rfl c565_ ?_
      refine AW.sub (Sub.bool 18 (b := decide ((l188.length : Int) > 0)) rfl c565_) ?_
      refine AW.sub (S' := mk 64 [] [(1, .fn (.func g1) (cs1.map .d)), (6, .d (.sl (l188.map (cI .i64)))), (7, .ref 52 0 l189.length), (18, .d (.lit (.bool true)))] [(52, some (.arr 3 1 (l189.map (cI .i64))))]) (by simp; exact Sub.table (by simp) (by simp)) ?_
      refine AW.skip ?_
      refine thenQ_normal ?_
      refine AW.block ?_
      refine AW.seqR ?_
      refine Chain.runK [] 1 fun K hK => ?_; simp; refine hK _ _ ?_; clear hK K
      refine Chain.sub (S' := mk 64 [] [(1, .fn (.func g1) (cs1.map .d)), (6, .d (.sl (l188.map (cI .i64)))), (7, .ref 52 0 l189.length), (8, .d (.lit (.int .i64 (-1))))] [(52, some (.arr 3 1 (l189.map (cI .i64))))]) (Sub.table (by simp) (by simp)) ?_
      refine Chain.nil ?_
      refine AW.seq ?_
      refine AW.seqR ?_
      refine Chain.runK [] 3 fun K hK => ?_; simp; refine hK _ _ ?_; clear hK K
      refine Chain.sub (S' := mk 64 [] [(1, .fn (.func g1) (cs1.map .d)), (6, .d (.sl (l188.map (cI .i64)))), (7, .ref 52 0 l189.length), (8, .d (.lit (.int .i64 (-1)))), (19, .d (.sl (l188.map (cI .i64)))), (20, .d (.lit (.int .i64 (l188.length : Int)))), (21, .d (.lit (.int .i64 0)))] [(52, some (.arr 3 1 (l189.map (cI .i64))))]) (Sub.table (by simp) (by simp)) ?_
      refine Chain.nil ?_
      refine AW.lastN (fun (v696 : Int) => mk 64 [] [(1, .fn (.func g1) (cs1.map .d)), (6, .d (.sl (l188.map (cI .i64)))), (7, .ref 52 0 l189.length), (8, .d (.lit (.int .i64 v696)))] [(52, some (.arr 3 1 (l189.map (cI .i64))))]) h ?_ ?_ <;> clear h
      · intro o h
        refine AW.block ?_
        refine AW.iter (fun (v608 : Int) => mk 64 [] [(1, .fn (.func g1) (cs1.map .d)), (6, .d (.sl (l188.map (cI .i64)))), (7, .ref 52 0 l189.length), (8, .d (.lit (.int .i64 (-1)))), (19, .d (.sl (l188.map (cI .i64)))), (20, .d (.lit (.int .i64 (l188.length : Int)))), (21, .d (.lit (.int .i64 v608)))] [(52, some (.arr 3 1 (l189.map (cI .i64))))]) h (Sub.table (by simp) (by simp)) ?_
        clear h
        rintro v608 x h
        refine AW.seqR ?_
        refine Chain.runK [] 1 fun K hK => ?_; simp; refine hK _ _ ?_; clear hK K
        refine Chain.sub (S' := mk 64 [] [(1, .fn (.func g1) (cs1.map .d)), (6, .d (.sl (l188.map (cI .i64)))), (7, .ref 52 0 l189.length), (8, .d (.lit (.int .i64 (-1)))), (19, .d (.sl (l188.map (cI .i64)))), (20, .d (.lit (.int .i64 (l188.length : Int)))), (21, .d (.lit (.int .i64 v608))), (22, .d (.lit (.bool (decide (v608 < (l188.length : Int))))))] [(52, some (.arr 3 1 (l189.map (cI .i64))))]) (Sub.table (by simp) (by simp)) ?_
        refine Chain.nil ?_
        refine AW.seq ?_
        replace h := isome h; rcases h with ⟨c697, h⟩ | ⟨c697, h⟩
        · have c697_ : decide (v608 < (l188.length : Int)) = true := decide_eq_true c697
          refine AW.condT (b := decide (v608 < (l188.length : Int))) rfl c697_ ?_
          refine AW.sub (Sub.bool 22 (b := decide (v608 < (l188.length : Int))) rfl c697_) ?_
          refine AW.sub (S' := mk 64 [] [(1, .fn (.func g1) (cs1.map .d)), (6, .d (.sl (l188.map (cI .i64)))), (7, .ref 52 0 l189.length), (8, .d (.lit (.int .i64 (-1)))), (19, .d (.sl (l188.map (cI .i64)))), (20, .d (.lit (.int .i64 (l188.length : Int)))), (21, .d (.lit (.int .i64 v608))), (22, .d (.lit (.bool true)))] [(52, some (.arr 3 1 (l189.map (cI .i64))))]) (by simp; exact Sub.table (by simp) (by simp)) ?_
          refine AW.skip ?_
          refine thenQ_normal ?_
          refine AW.seq ?_
          refine AW.block ?_
          refine AW.seqR ?_
          replace h := bsome h; obtain ⟨x698, hx698, h⟩ := h
          obtain ⟨k699, hx698k, hx698, hx698a, hx698b⟩ := idx_some hx698
          refine Chain.runK [] 5 fun K hK => ?_; simp [hx698, hx698k, hx698a]; refine hK _ _ ?_; clear hK K
          refine Chain.sub (S' := mk 64 [] [(1, .fn (.func g1) (cs1.map .d)), (6, .d (.sl (l188.map (cI .i64)))), (7, .ref 52 0 l189.length), (8, .d (.lit (.int .i64 (-1)))), (9, .d (.lit (.int .i64 v608))), (10, .d (.lit (.int .i64 x698))), (19, .d (.sl (l188.map (cI .i64)))), (20, .d (.lit (.int .i64 (l188.length : Int)))), (21, .d (.lit (.int .i64 v608)))] [(52, some (.arr 3 1 (l189.map (cI .i64))))]) (Sub.table (by simp) (by simp)) ?_
          refine Chain.nil ?_
          refine AW.seqR ?_
          refine Chain.runK [] 1 fun K hK => ?_; simp; refine hK _ _ ?_; clear hK K
          refine Chain.sub (S' := mk 64 [] [(1, .fn (.func g1) (cs1.map .d)), (6, .d (.sl (l188.map (cI .i64)))), (7, .ref 52 0 l189.length), (8, .d (.lit (.int .i64 (-1)))), (9, .d (.lit (.int .i64 v608))), (10, .d (.lit (.int .i64 x698))), (11, .d (.lit (.bool true))), (19, .d (.sl (l188.map (cI .i64)))), (20, .d (.lit (.int .i64 (l188.length : Int)))), (21, .d (.lit (.int .i64 v608)))] [(52, some (.arr 3 1 (l189.map (cI .i64))))]) (Sub.table (by simp) (by simp)) ?_
          refine Chain.nil ?_
          refine AW.seq ?_
          refine AW.seqR ?_
          refine Chain.runK [] 3 fun K hK => ?_; simp; refine hK _ _ ?_; clear hK K
          refine Chain.sub (S' := mk 64 [] [(1, .fn (.func g1) (cs1.map .d)), (6, .d (.sl (l188.map (cI .i64)))), (7, .ref 52 0 l189.length), (8, .d (.lit (.int .i64 (-1)))), (9, .d (.lit (.int .i64 v608))), (10, .d (.lit (.int .i64 x698))), (11, .d (.lit (.bool true))), (19, .d (.sl (l188.map (cI .i64)))), (20, .d (.lit (.int .i64 (l188.length : Int)))), (21, .d (.lit (.int .i64 v608))), (26, .d (.sl (l188.map (cI .i64)))), (27, .d (.lit (.int .i64 (l188.length : Int)))), (28, .d (.lit (.int .i64 0)))] [(52, some (.arr 3 1 (l189.map (cI .i64))))]) (Sub.table (by simp) (by simp)) ?_
          refine Chain.nil ?_
          refine AW.lastN (fun (v728 : Bool) => mk 64 [] [(1, .fn (.func g1) (cs1.map .d)), (6, .d (.sl (l188.map (cI .i64)))), (7, .ref 52 0 l189.length), (8, .d (.lit (.int .i64 (-1)))), (9, .d (.lit (.int .i64 v608))), (11, .d (.lit (.bool v728))), (19, .d (.sl (l188.map (cI .i64)))), (20, .d (.lit (.int .i64 (l188.length : Int)))), (21, .d (.lit (.int .i64 v608)))] [(52, some (.arr 3 1 (l189.map (cI .i64))))]) h ?_ ?_ <;> clear h
          · intro o h
            refine AW.block ?_
            refine AW.iter (fun ((v706, v707) : (Bool × Int)) => mk 64 [] [(1, .fn (.func g1) (cs1.map .d)), (6, .d (.sl (l188.map (cI .i64)))), (7, .ref 52 0 l189.length), (8, .d (.lit (.int .i64 (-1)))), (9, .d (.lit (.int .i64 v608))), (10, .d (.lit (.int .i64 x698))), (11, .d (.lit (.bool v706))), (19, .d (.sl (l188.map (cI .i64)))), (20, .d (.lit (.int .i64 (l188.length : Int)))), (21, .d (.lit (.int .i64 v608))), (26, .d (.sl (l188.map (cI .i64)))), (27, .d (.lit (.int .i64 (l188.length : Int)))), (28, .d (.lit (.int .i64 v707)))] [(52, some (.arr 3 1 (l189.map (cI .i64))))]) h (Sub.table (by simp) (by simp)) ?_
            clear h
            rintro ⟨v706, v707⟩ x h
            dsimp only at h ⊢
            refine AW.seqR ?_
            refine Chain.runK [] 1 fun K hK => ?_; simp; refine hK _ _ ?_; clear hK K
            refine Chain.sub (S' := mk 64 [] [(1, .fn (.func g1) (cs1.map .d)), (6, .d (.sl (l188.map (cI .i64)))), (7, .ref 52 0 l189.length), (8, .d (.lit (.int .i64 (-1)))), (9, .d (.lit (.int .i64 v608))), (10, .d (.lit (.int .i64 x698))), (11, .d (.lit (.bool v706))), (19, .d (.sl (l188.map (cI .i64)))), (20, .d (.lit (.int .i64 (l188.length : Int)))), (21, .d (.lit (.int .i64 v608))), (26, .d (.sl (l188.map (cI .i64)))), (27, .d (.lit (.int .i64 (l188.length : Int)))), (28, .d (.lit (.int .i64 v707))), (29, .d (.lit (.bool (decide (v707 < (l188.length : Int))))))] [(52, some (.arr 3 1 (l189.map (cI .i64))))]) (Sub.table (by simp) (by simp)) ?_
            refine Chain.nil ?_
            refine AW.seq ?_
            replace h := isome h; rcases h with ⟨c729, h⟩ | ⟨c729, h⟩
            · have c729_ : decide (v707 < (l188.length : Int)) = true := decide_eq_true c729
              refine AW.condT (b := decide (v707 < (l188.length : Int))) rfl c729_ ?_
              refine AW.sub (Sub.bool 29 (b := decide (v707 < (l188.length : Int))) rfl c729_) ?_
              refine AW.sub (S' := mk 64 [] [(1, .fn (.func g1) (cs1.map .d)), (6, .d (.sl (l188.map (cI .i64)))), (7, .ref 52 0 l189.length), (8, .d (.lit (.int .i64 (-1)))), (9, .d (.lit (.int .i64 v608))), (10, .d (.lit (.int .i64 x698))), (11, .d (.lit (.bool v706))), (19, .d (.sl (l188.map (cI .i64)))), (20, .d (.lit (.int .i64 (l188.length : Int)))), (21, .d (.lit (.int .i64 v608))), (26, .d (.sl (l188.map (cI .i64)))), (27, .d (.lit (.int .i64 (l188.length : Int)))), (28, .d (.lit (.int .i64 v707))), (29, .d (.lit (.bool true)))] [(52, some (.arr 3 1 (l189.map (cI .i64))))]) (by simp; exact Sub.table (by simp) (by simp)) ?_
              refine AW.skip ?_
              refine thenQ_normal ?_
              refine AW.seq ?_
              refine AW.block ?_
              refine AW.seqR ?_
              replace h := bsome h; obtain ⟨x730, hx730, h⟩ := h
              obtain ⟨k731, hx730k, hx730, hx730a, hx730b⟩ := idx_some hx730
              refine Chain.runK [] 3 fun K hK => ?_; simp [hx730, hx730k, hx730a]; refine hK _ _ ?_; clear hK K
              refine Chain.sub (S' := mk 64 [] [(1, .fn (.func g1) (cs1.map .d)), (6, .d (.sl (l188.map (cI .i64)))), (7, .ref 52 0 l189.length), (8, .d (.lit (.int .i64 (-1)))), (9, .d (.lit (.int .i64 v608))), (10, .d (.lit (.int .i64 x698))), (11, .d (.lit (.bool v706))), (13, .d (.lit (.int .i64 x730))), (19, .d (.sl (l188.map (cI .i64)))), (20, .d (.lit (.int .i64 (l188.length : Int)))), (21, .d (.lit (.int .i64 v608))), (26, .d (.sl (l188.map (cI .i64)))), (27, .d (.lit (.int .i64 (l188.length : Int)))), (28, .d (.lit (.int .i64 v707)))] [(52, some (.arr 3 1 (l189.map (cI .i64))))]) (Sub.table (by simp) (by simp)) ?_
              refine Chain.nil ?_
              replace h := bsome h; obtain ⟨v734, hj, h⟩ := h
              refine AW.region (Chain.cut (mk 64 [] [(1, .fn (.func g1) (cs1.map .d)), (6, .d (.sl (l188.map (cI .i64)))), (7, .ref 52 0 l189.length), (8, .d (.lit (.int .i64 (-1)))), (9, .d (.lit (.int .i64 v608))), (10, .d (.lit (.int .i64 x698))), (11, .d (.lit (.bool v734))), (19, .d (.sl (l188.map (cI .i64)))), (20, .d (.lit (.int .i64 (l188.length : Int)))), (21, .d (.lit (.int .i64 v608))), (26, .d (.sl (l188.map (cI .i64)))), (27, .d (.lit (.int .i64 (l188.length : Int)))), (28, .d (.lit (.int .i64 v707)))] [(52, some (.arr 3 1 (l189.map (cI .i64))))]) ?_ fun S' hS => ?_)
              · clear h; have h := hj; clear hj
                refine Chain.runK [] 2 fun K hK => ?_; simp; refine hK _ _ ?_; clear hK K
                refine Chain.sub (S' := mk 64 [] [(1, .fn (.func g1) (cs1.map .d)), (6, .d (.sl (l188.map (cI .i64)))), (7, .ref 52 0 l189.length), (8, .d (.lit (.int .i64 (-1)))), (9, .d (.lit (.int .i64 v608))), (10, .d (.lit (.int .i64 x698))), (13, .d (.lit (.int .i64 x730))), (19, .d (.sl (l188.map (cI .i64)))), (20, .d (.lit (.int .i64 (l188.length : Int)))), (21, .d (.lit (.int .i64 v608))), (26, .d (.sl (l188.map (cI .i64)))), (27, .d (.lit (.int .i64 (l188.length : Int)))), (28, .d (.lit (.int .i64 v707))), (33, .d (.lit (.bool v706)))] [(52, some (.arr 3 1 (l189.map (cI .i64))))]) (Sub.table (by simp) (by simp)) ?_
                replace h := isome h; rcases h with ⟨c735, h⟩ | ⟨c735, h⟩
                · have c735_ : v706 = true := c735
                  refine Chain.sub (Sub.bool 33 (b := v706) rfl c735_) ?_
                  refine Chain.sub (S' := mk 64 [] [(1, .fn (.func g1) (cs1.map .d)), (6, .d (.sl (l188.map (cI .i64)))), (7, .ref 52 0 l189.length), (8, .d (.lit (.int .i64 (-1)))), (9, .d (.lit (.int .i64 v608))), (10, .d (.lit (.int .i64 x698))), (13, .d (.lit (.int .i64 x730))), (19, .d (.sl (l188.map (cI .i64)))), (20, .d (.lit (.int .i64 (l188.length : Int)))), (21, .d (.lit (.int .i64 v608))), (26, .d (.sl (l188.map (cI .i64)))), (27, .d (.lit (.int .i64 (l188.length : Int)))), (28, .d (.lit (.int .i64 v707))), (33, .d (.lit (.bool true)))] [(52, some (.arr 3 1 (l189.map (cI .i64))))]) (by simp; exact Sub.table (by simp) (by simp)) ?_
                  refine Chain.runK [] 3 fun K hK => ?_; simp; refine hK _ _ ?_; clear hK K
                  refine Chain.sub (S' := mk 64 [] [(1, .fn (.func g1) (cs1.map .d)), (6, .d (.sl (l188.map (cI .i64)))), (7, .ref 52 0 l189.length), (8, .d (.lit (.int .i64 (-1)))), (9, .d (.lit (.int .i64 v608))), (10, .d (.lit (.int .i64 x698))), (19, .d (.sl (l188.map (cI .i64)))), (20, .d (.lit (.int .i64 (l188.length : Int)))), (21, .d (.lit (.int .i64 v608))), (26, .d (.sl (l188.map (cI .i64)))), (27, .d (.lit (.int .i64 (l188.length : Int)))), (28, .d (.lit (.int .i64 v707))), (33, .d (.lit (.bool true))), (34, .fn (.func g1) (cs1.map .d)), (35, .d (.lit (.int .i64 x730))), (36, .d (.lit (.int .i64 x698)))] [(52, some (.arr 3 1 (l189.map (cI .i64))))]) (Sub.table (by simp) (by simp)) ?_
                  replace h := bsome h; obtain ⟨r736, hr736, h⟩ := h
                  refine Chain.callL (d := 37) (hp1 x730 x698 r736 hr736) (by simp) rfl rfl (by simp <;> rfl) (by simp <;> rfl) ent_1 (by simp <;> rfl) ?_
                  refine Chain.sub (S' := mk 64 [] [(1, .fn (.func g1) (cs1.map .d)), (6, .d (.sl (l188.map (cI .i64)))), (7, .ref 52 0 l189.length), (8, .d (.lit (.int .i64 (-1)))), (9, .d (.lit (.int .i64 v608))), (10, .d (.lit (.int .i64 x698))), (19, .d (.sl (l188.map (cI .i64)))), (20, .d (.lit (.int .i64 (l188.length : Int)))), (21, .d (.lit (.int .i64 v608))), (26, .d (.sl (l188.map (cI .i64)))), (27, .d (.lit (.int .i64 (l188.length : Int)))), (28, .d (.lit (.int .i64 v707))), (33, .d (.lit (.bool true))), (34, .fn (.func g1) (cs1.map .d)), (35, .d (.lit (.int .i64 x730))), (36, .d (.lit (.int .i64 x698))), (37, .d (.lit (.bool r736)))] [(52, some (.arr 3 1 (l189.map (cI .i64))))]) (by simp; exact Sub.table (by simp) (by simp)) ?_
                  refine Chain.runK [] 3 fun K hK => ?_; simp; refine hK _ _ ?_; clear hK K
                  refine Chain.sub (S' := mk 64 [] [(1, .fn (.func g1) (cs1.map .d)), (6, .d (.sl (l188.map (cI .i64)))), (7, .ref 52 0 l189.length), (8, .d (.lit (.int .i64 (-1)))), (9, .d (.lit (.int .i64 v608))), (10, .d (.lit (.int .i64 x698))), (11, .d (.lit (.bool (!r736)))), (19, .d (.sl (l188.map (cI .i64)))), (20, .d (.lit (.int .i64 (l188.length : Int)))), (21, .d (.lit (.int .i64 v608))), (26, .d (.sl (l188.map (cI .i64)))), (27, .d (.lit (.int .i64 (l188.length : Int)))), (28, .d (.lit (.int .i64 v707))), (34, .fn (.func g1) (cs1.map .d)), (35, .d (.lit (.int .i64 x730))), (36, .d (.lit (.int .i64 x698))), (37, .d (.lit (.bool r736))), (38, .d (.lit (.bool (!r736))))] [(52, some (.arr 3 1 (l189.map (cI .i64))))]) (Sub.table (by simp) (by simp)) ?_
                  cases h
                  exact Chain.nil (Sub.table (by simp) (by simp))
                · have c735_ : v706 = false := Bool.eq_false_iff.2 c735
                  refine Chain.sub (Sub.bool 33 (b := v706) rfl c735_) ?_
                  refine Chain.sub (S' := mk 64 [] [(1, .fn (.func g1) (cs1.map .d)), (6, .d (.sl (l188.map (cI .i64)))), (7, .ref 52 0 l189.length), (8, .d (.lit (.int .i64 (-1)))), (9, .d (.lit (.int .i64 v608))), (10, .d (.lit (.int .i64 x698))), (13, .d (.lit (.int .i64 x730))), (19, .d (.sl (l188.map (cI .i64)))), (20, .d (.lit (.int .i64 (l188.length : Int)))), (21, .d (.lit (.int .i64 v608))), (26, .d (.sl (l188.map (cI .i64)))), (27, .d (.lit (.int .i64 (l188.length : Int)))), (28, .d (.lit (.int .i64 v707))), (33, .d (.lit (.bool false)))] [(52, some (.arr 3 1 (l189.map (cI .i64))))]) (by simp; exact Sub.table (by simp) (by simp)) ?_
                  refine Chain.runK [] 7 fun K hK => ?_; simp; refine hK _ _ ?_; clear hK K
                  refine Chain.sub (S' := mk 64 [] [(1, .fn (.func g1) (cs1.map .d)), (6, .d (.sl (l188.map (cI .i64)))), (7, .ref 52 0 l189.length), (8, .d (.lit (.int .i64 (-1)))), (9, .d (.lit (.int .i64 v608))), (10, .d (.lit (.int .i64 x698))), (11, .d (.lit (.bool false))), (19, .d (.sl (l188.map (cI .i64)))), (20, .d (.lit (.int .i64 (l188.length : Int)))), (21, .d (.lit (.int .i64 v608))), (26, .d (.sl (l188.map (cI .i64)))), (27, .d (.lit (.int .i64 (l188.length : Int)))), (28, .d (.lit (.int .i64 v707))), (34, .tup []), (35, .tup []), (36, .tup []), (37, .tup []), (38, .tup [])] [(52, some (.arr 3 1 (l189.map (cI .i64))))]) (Sub.table (by simp) (by simp)) ?_
                  cases h
                  exact Chain.nil (Sub.table (by simp) (by simp))
              · clear hj
                refine blockQ.normal ?_
                refine thenQ_normal ?_
                refine AW.sub hS ?_
                refine AW.region ?_
                replace h := bsome h; obtain ⟨v737, hv737, h⟩ := h
                have hv737 := chkI_some hv737
                refine Chain.runK [] 2 fun K hK => ?_; simp [hv737]; refine hK _ _ ?_; clear hK K
                refine Chain.sub (S' := mk 64 [] [(1, .fn (.func g1) (cs1.map .d)), (6, .d (.sl (l188.map (cI .i64)))), (7, .ref 52 0 l189.length), (8, .d (.lit (.int .i64 (-1)))), (9, .d (.lit (.int .i64 v608))), (10, .d (.lit (.int .i64 x698))), (11, .d (.lit (.bool v734))), (19, .d (.sl (l188.map (cI .i64)))), (20, .d (.lit (.int .i64 (l188.length : Int)))), (21, .d (.lit (.int .i64 v608))), (26, .d (.sl (l188.map (cI .i64)))), (27, .d (.lit (.int .i64 (l188.length : Int)))), (28, .d (.lit (.int .i64 v737)))] [(52, some (.arr 3 1 (l189.map (cI .i64))))]) (Sub.table (by simp) (by simp)) ?_
                refine Chain.nil ?_
                cases h
                refine PostI.next ?_
                exact (Sub.table (by simp) (by simp))
            · have c729_ : decide (v707 < (l188.length : Int)) = false := decide_eq_false c729
              refine AW.condF (b := decide (v707 < (l188.length : Int))) rfl c729_ ?_
              refine AW.sub (Sub.bool 29 (b := decide (v707 < (l188.length : Int))) rfl c729_) ?_
              refine AW.sub (S' := mk 64 [] [(1, .fn (.func g1) (cs1.map .d)), (6, .d (.sl (l188.map (cI .i64)))), (7, .ref 52 0 l189.length), (8, .d (.lit (.int .i64 (-1)))), (9, .d (.lit (.int .i64 v608))), (10, .d (.lit (.int .i64 x698))), (11, .d (.lit (.bool v706))), (19, .d (.sl (l188.map (cI .i64)))), (20, .d (.lit (.int .i64 (l188.length : Int)))), (21, .d (.lit (.int .i64 v608))), (26, .d (.sl (l188.map (cI .i64)))), (27, .d (.lit (.int .i64 (l188.length : Int)))), (28, .d (.lit (.int .i64 v707))), (29, .d (.lit (.bool false)))] [(52, some (.arr 3 1 (l189.map (cI .i64))))]) (by simp; exact Sub.table (by simp) (by simp)) ?_
              refine AW.exit ?_
              cases h
              refine thenQ_pass (by simp) ?_
              refine PostI.out (by simp) ?_
              rintro rfl
              refine blockQ.hit ?_
              refine PostN.next ?_
              exact (Sub.table (by simp) (by simp))
          · rintro v728 h
            refine thenQ_normal ?_
            refine AW.seqR ?_
            refine Chain.runK [] 1 fun K hK => ?_; simp; refine hK _ _ ?_; clear hK K
            refine Chain.sub (S' := mk 64 [] [(1, .fn (.func g1) (cs1.map .d)), (6, .d (.sl (l188.map (cI .i64)))), (7, .ref 52 0 l189.length), (8, .d (.lit (.int .i64 (-1)))), (9, .d (.lit (.int .i64 v608))), (19, .d (.sl (l188.map (cI .i64)))), (20, .d (.lit (.int .i64 (l188.length : Int)))), (21, .d (.lit (.int .i64 v608))), (41, .d (.lit (.bool v728)))] [(52, some (.arr 3 1 (l189.map (cI .i64))))]) (Sub.table (by simp) (by simp)) ?_
            refine Chain.nil ?_
            replace h := isome h; rcases h with ⟨c738, h⟩ | ⟨c738, h⟩
            · have c738_ : v728 = true := c738
              refine AW.condT (b := v728) rfl c738_ ?_
              refine AW.sub (Sub.bool 41 (b := v728) rfl c738_) ?_
              refine AW.sub (S' := mk 64 [] [(1, .fn (.func g1) (cs1.map .d)), (6, .d (.sl (l188.map (cI .i64)))), (7, .ref 52 0 l189.length), (8, .d (.lit (.int .i64 (-1)))), (9, .d (.lit (.int .i64 v608))), (19, .d (.sl (l188.map (cI .i64)))), (20, .d (.lit (.int .i64 (l188.length : Int)))), (21, .d (.lit (.int .i64 v608))), (41, .d (.lit (.bool true)))] [(52, some (.arr 3 1 (l189.map (cI .i64))))]) (by simp; exact Sub.table (by simp) (by simp)) ?_
              refine AW.seqR ?_
              refine Chain.runK [] 2 fun K hK => ?_; simp; refine hK _ _ ?_; clear hK K
              refine Chain.sub (S' := mk 64 [] [(1, .fn (.func g1) (cs1.map .d)), (6, .d (.sl (l188.map (cI .i64)))), (7, .ref 52 0 l189.length), (8, .d (.lit (.int .i64 v608)))] [(52, some (.arr 3 1 (l189.map (cI .i64))))]) (Sub.table (by simp) (by simp)) ?_
              refine Chain.nil ?_
              refine AW.exit ?_
              cases h
              refine blockQ.pass (by decide) ?_
              refine thenQ_pass (by simp) ?_
              refine PostI.out (by simp) ?_
              rintro rfl
              refine blockQ.hit ?_
              refine PostN.next ?_
              exact (Sub.table (by simp) (by simp))
            · have c738_ : v728 = false := Bool.eq_false_iff.2 c738
              refine AW.condF (b := v728) rfl c738_ ?_
              refine AW.sub (Sub.bool 41 (b := v728) rfl c738_) ?_
              refine AW.sub (S' := mk 64 [] [(1, .fn (.func g1) (cs1.map .d)), (6, .d (.sl (l188.map (cI .i64)))), (7, .ref 52 0 l189.length), (8, .d (.lit (.int .i64 (-1)))), (9, .d (.lit (.int .i64 v608))), (19, .d (.sl (l188.map (cI .i64)))), (20, .d (.lit (.int .i64 (l188.length : Int)))), (21, .d (.lit (.int .i64 v608))), (41, .d (.lit (.bool false)))] [(52, some (.arr 3 1 (l189.map (cI .i64))))]) (by simp; exact Sub.table (by simp) (by simp)) ?_
              refine AW.skip ?_
              refine blockQ.normal ?_
              refine thenQ_normal ?_
              refine AW.region ?_
              replace h := bsome h; obtain ⟨v739, hv739, h⟩ := h
              have hv739 := chkI_some hv739
              refine Chain.runK [] 2 fun K hK => ?_; simp [hv739]; refine hK _ _ ?_; clear hK K
              refine Chain.sub (S' := mk 64 [] [(1, .fn (.func g1) (cs1.map .d)), (6, .d (.sl (l188.map (cI .i64)))), (7, .ref 52 0 l189.length), (8, .d (.lit (.int .i64 (-1)))), (19, .d (.sl (l188.map (cI .i64)))), (20, .d (.lit (.int .i64 (l188.length : Int)))), (21, .d (.lit (.int .i64 v739)))] [(52, some (.arr 3 1 (l189.map (cI .i64))))]) (Sub.table (by simp) (by simp)) ?_
              refine Chain.nil ?_
              cases h
              refine PostI.next ?_
              exact (Sub.table (by simp) (by simp))
        · have c697_ : decide (v608 < (l188.length : Int)) = false := decide_eq_false c697
          refine AW.condF (b := decide (v608 < (l188.length : Int))) rfl c697_ ?_
          refine AW.sub (Sub.bool 22 (b := decide (v608 < (l188.length : Int))) rfl c697_) ?_
          refine AW.sub (S' := mk 64 [] [(1, .fn (.func g1) (cs1.map .d)), (6, .d (.sl (l188.map (cI .i64)))), (7, .ref 52 0 l189.length), (8, .d (.lit (.int .i64 (-1)))), (19, .d (.sl (l188.map (cI .i64)))), (20, .d (.lit (.int .i64 (l188.length : Int)))), (21, .d (.lit (.int .i64 v608))), (22, .d (.lit (.bool false)))] [(52, some (.arr 3 1 (l189.map (cI .i64))))]) (by simp; exact Sub.table (by simp) (by simp)) ?_
          refine AW.exit ?_
          cases h
          refine thenQ_pass (by simp) ?_
          refine PostI.out (by simp) ?_
          rintro rfl
          refine blockQ.hit ?_
          refine PostN.next ?_
          exact (Sub.table (by simp) (by simp))
      · rintro v696 h
        refine thenQ_normal ?_
        refine AW.seq ?_
        refine AW.seqR ?_
        refine Chain.runK [] 2 fun K hK => ?_; simp; refine hK _ _ ?_; clear hK K
        refine Chain.sub (S' := mk 64 [] [(1, .fn (.func g1) (cs1.map .d)), (6, .d (.sl (l188.map (cI .i64)))), (7, .ref 52 0 l189.length), (8, .d (.lit (.int .i64 v696))), (45, .d (.lit (.bool (decide (v696 < 0)))))] [(52, some (.arr 3 1 (l189.map (cI .i64))))]) (Sub.table (by simp) (by simp)) ?_
        refine Chain.nil ?_
        replace h := isome h; rcases h with ⟨c740, h⟩ | ⟨c740, h⟩
        · have c740_ : decide (v696 < 0) = true := decide_eq_true c740
          refine AW.condT (b := decide (v696 < 0)) rfl c740_ ?_
          refine AW.sub (Sub.bool 45 (b := decide (v696 < 0)) rfl c740_) ?_
          refine AW.sub (S' := mk 64 [] [(1, .fn (.func g1) (cs1.map .d)), (6, .d (.sl (l188.map (cI .i64)))), (7, .ref 52 0 l189.length), (8, .d (.lit (.int .i64 v696))), (45, .d (.lit (.bool true)))] [(52, some (.arr 3 1 (l189.map (cI .i64))))]) (by simp; exact Sub.table (by simp) (by simp)) ?_
          refine AW.seqR ?_
          refine Chain.runK [] 2 fun K hK => ?_; simp; refine hK _ _ ?_; clear hK K
          refine Chain.sub (S' := mk 64 [] [(4, .d (.lit (.slice none 0 0))), (5, .d (.lit (.bool false)))] []) (Sub.table (by simp) (by simp)) ?_
          refine Chain.nil ?_
          refine AW.sub (Sub.wk 4 rfl) ?_
          refine AW.sub (S' := mk 64 [] [(4, .d (.sl (([] : List Int).map (cI .i64)))), (5, .d (.lit (.bool false)))] []) (by simp; exact Sub.table (by simp) (by simp)) ?_
          refine AW.ret ?_
          cases h
          refine thenQ_pass (by simp) ?_
          refine blockQ.ret ?_
          refine PostI.out (by simp) ?_
          rintro rfl
          refine blockQ.ret ?_
          refine PostJ.out (by simp) ?_
          rintro rfl
          exact FinC.ret (by simp) (by simp)
        · have c740_ : decide (v696 < 0) = false := decide_eq_false c740
          refine AW.condF (b := decide (v696 < 0)) rfl c740_ ?_
          refine AW.sub (Sub.bool 45 (b := decide (v696 < 0)) rfl c740_) ?_
          refine AW.sub (S' := mk 64 [] [(1, .fn (.func g1) (cs1.map .d)), (6, .d (.sl (l188.map (cI .i64)))), (7, .ref 52 0 l189.length), (8, .d (.lit (.int .i64 v696))), (45, .d (.lit (.bool false)))] [(52, some (.arr 3 1 (l189.map (cI .i64))))]) (by simp; exact Sub.table (by simp) (by simp)) ?_
          refine AW.skip ?_
          refine thenQ_normal ?_
          refine AW.seqR ?_
          replace h := bsome h; obtain ⟨x741, hx741, h⟩ := h
          obtain ⟨k742, hx741k, hx741, hx741a, hx741b⟩ := idx_some hx741
          replace h := bsome h; obtain ⟨l743, hl743, h⟩ := h
          obtain ⟨hl743a, hl743⟩ := appL_some hl743
          subst hl743
          try simp only [List.length_append, List.length_cons, List.length_nil, Nat.zero_add] at hl743a
          refine Chain.runK [51] 8 fun K hK => ?_; simp [hx741, hx741k, hx741a, hl743a]; refine hK _ _ ?_; clear hK K
          refine Chain.sub (S' := mk 64 [] [(1, .fn (.func g1) (cs1.map .d)), (6, .d (.sl (l188.map (cI .i64)))), (7, .ref 52 0 ((l189 ++ [x741]).length)), (8, .d (.lit (.int .i64 v696)))] [(52, some (.arr 3 1 ((l189 ++ [x741]).map (cI .i64))))]) (Sub.table (by simp) (by simp)) ?_
          refine Chain.nil ?_
          replace h := bsome h; obtain ⟨n744, gn744, h⟩ := h
          obtain ⟨hn744a, hn744⟩ := natI_some gn744
          clear gn744
          subst hn744a
          replace h := lsome h; obtain ⟨l745, gl745, h⟩ := h
          have hl745 : ((l188.map (cI .i64)).take n744) = l745.map (cI .i64) := by rw [← gl745]; simp
          clear gl745
          replace h := bsome h; obtain ⟨l746, hl746, h⟩ := h
          obtain ⟨hl746a, hl746⟩ := appL_some hl746
          subst hl746
          try simp only [List.length_append, List.length_cons, List.length_nil, Nat.zero_add] at hl746a
          replace h := bsome h; obtain ⟨v747, hv747, h⟩ := h
          have hv747 := chkI_some hv747
          replace h := bsome h; obtain ⟨n748, gn748, h⟩ := h
          obtain ⟨hn748a, hn748⟩ := natI_some gn748
          clear gn748
          subst hn748a
          replace h := lsome h; obtain ⟨l749, gl749, h⟩ := h
          have hl749 : ((l188.map (cI .i64)).drop n748) = l749.map (cI .i64) := by rw [← gl749]; simp
          clear gl749
          replace h := bsome h; obtain ⟨l750, hl750, h⟩ := h
          obtain ⟨hl750a, hl750⟩ := appL_some hl750
          subst hl750
          try simp only [List.length_append, List.length_cons, List.length_nil, Nat.zero_add] at hl750a
          refine AW.lastAnyS [[], [], [], [1, 2], [0, 1, 2, 3], [], [], [6], [5, 6, 7], [0, 1, 2, 3, 4, 5, 6, 7, 8], [0, 1, 2, 3, 4, 5, 6, 7, 8, 9]] (fun (b : Nat → Bool) => mk 64 [] [(1, .fn (.func g1) (cs1.map .d)), (6, (if b 10 then .ref 53 0 (((([] : List Int) ++ l745) ++ l749).length) else .d (.sl (l188.map (cI .i64))))), (7, .ref 52 0 ((l189 ++ [x741]).length)), (8, .d (.lit (.int .i64 (n744 : Int)))), (53, (if b 4 then .junk else (if b 0 then .ref 53 0 (([] : List Int).length) else .junk))), (54, (if b 1 then .d (.sl (l188.map (cI .i64))) else .junk)), (55, (if b 2 then .d (.lit (.int .i64 (n744 : Int))) else .junk)), (56, (if b 3 then .d (.sl (l745.map (cI .i64))) else .junk)), (57, (if b 9 then .junk else (if b 4 then .ref 53 0 ((([] : List Int) ++ l745).length) else .junk))), (58, (if b 5 then .d (.sl (l188.map (cI .i64))) else .junk)), (59, (if b 6 then .d (.lit (.int .i64 (n744 : Int))) else .junk)), (60, (if b 7 then .d (.lit (.int .i64 (n748 : Int))) else .junk)), (61, (if b 8 then .d (.sl (l749.map (cI .i64))) else .junk)), (62, (if b 9 then .ref 53 0 (((([] : List Int) ++ l745) ++ l749).length) else .junk))] [(52, some (.arr 3 1 ((l189 ++ [x741]).map (cI .i64)))), (53, (if b 9 then some (.arr 3 1 (((([] : List Int) ++ l745) ++ l749).map (cI .i64))) else (if b 4 then some (.arr 3 1 ((([] : List Int) ++ l745).map (cI .i64))) else (if b 0 then some (.arr 3 1 (([] : List Int).map (cI .i64))) else none))))]) (mk 64 [] [(1, .fn (.func g1) (cs1.map .d)), (6, .ref 53 0 (((([] : List Int) ++ l745) ++ l749).length)), (7, .ref 52 0 ((l189 ++ [x741]).length))] [(52, some (.arr 3 1 ((l189 ++ [x741]).map (cI .i64)))), (53, some (.arr 3 1 (((([] : List Int) ++ l745) ++ l749).map (cI .i64))))]) (by kernel_rfl) (by kernel_rfl) (Sub.table (by simp) (by simp)) (Steps.cons ?_ (Steps.cons ?_ (Steps.cons ?_ (Steps.cons ?_ (Steps.cons ?_ (Steps.cons ?_ (Steps.cons ?_ (Steps.cons ?_ (Steps.cons ?_ (Steps.cons ?_ (Steps.cons ?_ (Steps.nil)))))))))))) ?_ ?_
          · intro b h0 ha hd
            have f4 : b 4 = false := hd 4 (by decide)
            have f9 : b 9 = false := hd 9 (by decide)
            have f10 : b 10 = false := hd 10 (by decide)
            refine Chain.runK [] 1 fun K hK => ?_; simp [h0, f4, f9, f10]; refine hK _ _ ?_; clear hK K
            exact Chain.nil (Sub.table (by simp [h0, f4, f9, f10]) (by simp [h0, f4, f9, f10]))
          · intro b h0 ha hd
            have f3 : b 3 = false := hd 3 (by decide)
            have f4 : b 4 = false := hd 4 (by decide)
            have f9 : b 9 = false := hd 9 (by decide)
            have f10 : b 10 = false := hd 10 (by decide)
            refine Chain.runK [] 1 fun K hK => ?_; simp [h0, f3, f4, f9, f10]; refine hK _ _ ?_; clear hK K
            exact Chain.nil (Sub.table (by simp [h0, f3, f4, f9, f10]) (by simp [h0, f3, f4, f9, f10]))
          · intro b h0 ha hd
            have f3 : b 3 = false := hd 3 (by decide)
            have f4 : b 4 = false := hd 4 (by decide)
            have f9 : b 9 = false := hd 9 (by decide)
            have f10 : b 10 = false := hd 10 (by decide)
            refine Chain.runK [] 1 fun K hK => ?_; simp [h0, f3, f4, f9, f10]; refine hK _ _ ?_; clear hK K
            exact Chain.nil (Sub.table (by simp [h0, f3, f4, f9, f10]) (by simp [h0, f3, f4, f9, f10]))
          · intro b h0 ha hd
            have t1 : b 1 = true := ha 1 (by decide)
            have t2 : b 2 = true := ha 2 (by decide)
            have f4 : b 4 = false := hd 4 (by decide)
            have f9 : b 9 = false := hd 9 (by decide)
            have f10 : b 10 = false := hd 10 (by decide)
            refine Chain.runK [] 1 fun K hK => ?_; simp [h0, t1, t2, f4, f9, f10, hn744, hl745]; refine hK _ _ ?_; clear hK K
            exact Chain.nil (Sub.table (by simp [h0, t1, t2, f4, f9, f10]) (by simp [h0, t1, t2, f4, f9, f10]))
          · intro b h0 ha hd
            have t0 : b 0 = true := ha 0 (by decide)
            have t1 : b 1 = true := ha 1 (by decide)
            have t2 : b 2 = true := ha 2 (by decide)
            have t3 : b 3 = true := ha 3 (by decide)
            have f9 : b 9 = false := hd 9 (by decide)
            have f10 : b 10 = false := hd 10 (by decide)
            refine Chain.runK [] 1 fun K hK => ?_; simp [h0, t0, t1, t2, t3, f9, f10, hl746a]; refine hK _ _ ?_; clear hK K
            exact Chain.nil (Sub.table (by simp [h0, t0, t1, t2, t3, f9, f10]) (by simp [h0, t0, t1, t2, t3, f9, f10]))
          · intro b h0 ha hd
            have f8 : b 8 = false := hd 8 (by decide)
            have f9 : b 9 = false := hd 9 (by decide)
            have f10 : b 10 = false := hd 10 (by decide)
            refine Chain.runK [] 1 fun K hK => ?_; simp [h0, f8, f9, f10]; refine hK _ _ ?_; clear hK K
            exact Chain.nil (Sub.table (by simp [h0, f8, f9, f10]) (by simp [h0, f8, f9, f10]))
          · intro b h0 ha hd
            have f7 : b 7 = false := hd 7 (by decide)
            have f8 : b 8 = false := hd 8 (by decide)
            have f9 : b 9 = false := hd 9 (by decide)
            have f10 : b 10 = false := hd 10 (by decide)
            refine Chain.runK [] 1 fun K hK => ?_; simp [h0, f7, f8, f9, f10]; refine hK _ _ ?_; clear hK K
            exact Chain.nil (Sub.table (by simp [h0, f7, f8, f9, f10]) (by simp [h0, f7, f8, f9, f10]))
          · intro b h0 ha hd
            have t6 : b 6 = true := ha 6 (by decide)
            have f8 : b 8 = false := hd 8 (by decide)
            have f9 : b 9 = false := hd 9 (by decide)
            have f10 : b 10 = false := hd 10 (by decide)
            refine Chain.runK [] 1 fun K hK => ?_; simp [h0, t6, f8, f9, f10, hv747]; refine hK _ _ ?_; clear hK K
            exact Chain.nil (Sub.table (by simp [h0, t6, f8, f9, f10]) (by simp [h0, t6, f8, f9, f10]))
          · intro b h0 ha hd
            have t5 : b 5 = true := ha 5 (by decide)
            have t6 : b 6 = true := ha 6 (by decide)
            have t7 : b 7 = true := ha 7 (by decide)
            have f9 : b 9 = false := hd 9 (by decide)
            have f10 : b 10 = false := hd 10 (by decide)
            refine Chain.runK [] 1 fun K hK => ?_; simp [h0, t5, t6, t7, f9, f10, hn748, hl749]; refine hK _ _ ?_; clear hK K
            exact Chain.nil (Sub.table (by simp [h0, t5, t6, t7, f9, f10]) (by simp [h0, t5, t6, t7, f9, f10]))
          · intro b h0 ha hd
            have t0 : b 0 = true := ha 0 (by decide)
            have t1 : b 1 = true := ha 1 (by decide)
            have t2 : b 2 = true := ha 2 (by decide)
            have t3 : b 3 = true := ha 3 (by decide)
            have t4 : b 4 = true := ha 4 (by decide)
            have t5 : b 5 = true := ha 5 (by decide)
            have t6 : b 6 = true := ha 6 (by decide)
            have t7 : b 7 = true := ha 7 (by decide)
            have t8 : b 8 = true := ha 8 (by decide)
            have f10 : b 10 = false := hd 10 (by decide)
            refine Chain.runK [] 1 fun K hK => ?_; simp [h0, t0, t1, t2, t3, t4, t5, t6, t7, t8, f10, hl750a]; refine hK _ _ ?_; clear hK K
            exact Chain.nil (Sub.table (by simp [h0, t0, t1, t2, t3, t4, t5, t6, t7, t8, f10]) (by simp [h0, t0, t1, t2, t3, t4, t5, t6, t7, t8, f10]))
          · intro b h0 ha hd
            have t0 : b 0 = true := ha 0 (by decide)
            have t1 : b 1 = true := ha 1 (by decide)
            have t2 : b 2 = true := ha 2 (by decide)
            have t3 : b 3 = true := ha 3 (by decide)
            have t4 : b 4 = true := ha 4 (by decide)
            have t5 : b 5 = true := ha 5 (by decide)
            have t6 : b 6 = true := ha 6 (by decide)
            have t7 : b 7 = true := ha 7 (by decide)
            have t8 : b 8 = true := ha 8 (by decide)
            have t9 : b 9 = true := ha 9 (by decide)
            refine Chain.runK [] 1 fun K hK => ?_; simp [h0, t0, t1, t2, t3, t4, t5, t6, t7, t8, t9]; refine hK _ _ ?_; clear hK K
            exact Chain.nil (Sub.table (by simp [h0, t0, t1, t2, t3, t4, t5, t6, t7, t8, t9]) (by simp [h0, t0, t1, t2, t3, t4, t5, t6, t7, t8, t9]))
          · intro b hb
            have t0 := hb 0 (by decide)
            have t1 := hb 1 (by decide)
            have t2 := hb 2 (by decide)
            have t3 := hb 3 (by decide)
            have t4 := hb 4 (by decide)
            have t5 := hb 5 (by decide)
            have t6 := hb 6 (by decide)
            have t7 := hb 7 (by decide)
            have t8 := hb 8 (by decide)
            have t9 := hb 9 (by decide)
            have t10 := hb 10 (by decide)
            exact Sub.table (by simp [t0, t1, t2, t3, t4, t5, t6, t7, t8, t9, t10]) (by simp [t0, t1, t2, t3, t4, t5, t6, t7, t8, t9, t10])
          · skip
            cases h
            refine blockQ.normal ?_
            refine PostI.next ?_
            exact (Sub.trans (Sub.freeze 53 rfl) (by simp; exact Sub.table (by simp) (by simp)))
    · have c565_ : decide ((l188.length : Int) > 0) = false := decide_eq_false c565
      refine AW.condF (b := decide ((l188.length : Int) > 0)) rfl c565_ ?_
      refine AW.sub (Sub.bool 18 (b := decide ((l188.length : Int) > 0)) rfl c565_) ?_
      refine AW.sub (S' := mk 64 [] [(1, .fn (.func g1) (cs1.map .d)), (6, .d (.sl (l188.map (cI .i64)))), (7, .ref 52 0 l189.length), (18, .d (.lit (.bool false)))] [(52, some (.arr 3 1 (l189.map (cI .i64))))]) (by simp; exact Sub.table (by simp) (by simp)) ?_
      refine AW.exit ?_
      cases h
      refine thenQ_pass (by simp) ?_
      refine PostI.out (by simp) ?_
      rintro rfl
      refine blockQ.hit ?_
      refine PostJ.next ?_
      exact (Sub.table (by simp) (by simp))
  · rintro l564 h
    refine AW.seqR ?_
    refine Chain.runK [] 3 fun K hK => ?_; simp; refine hK _ _ ?_; clear hK K
    refine Chain.sub (S' := mk 64 [] [(4, .ref 52 0 l564.length), (5, .d (.lit (.bool true)))] [(52, some (.arr 3 1 (l564.map (cI .i64))))]) (Sub.table (by simp) (by simp)) ?_
    refine Chain.nil ?_
    refine AW.sub (Sub.freeze 52 rfl) ?_
    refine AW.sub (S' := mk 64 [] [(4, .d (.sl (l564.map (cI .i64)))), (5, .d (.lit (.bool true)))] []) (by simp; exact Sub.table (by simp) (by simp)) ?_
    refine AW.ret ?_
    cases h
    exact FinC.ret (by simp) (by simp)

/-- slices.Index[[]int,int] -/
def d86 (N : Nat) (a0 : (List Int)) (a1 : Int) : Option Int :=
  bindO (β := Unit) (ρ := Int) (
    iterN (σ := Int) (ρ := (Out Unit Int)) (fun (v6 : Int) =>
      if v6 < (a0.length : Int) then (
        (idx a0 v6).bind fun x19 =>
        if (a1 == x19) then (
          some (.inr (.ret v6))
        ) else
        (chkI (v6 + 1)).bind fun v22 =>
        some (.inl v22)
      ) else
      some (.inr (.go ()))
    ) N 0
  ) fun (_ : Unit) =>
  some (-1)
set_option maxRecDepth 100000 in
set_option maxHeartbeats 4000000 in
theorem p86 (N : Nat) (a0 : (List Int)) (a1 : Int) (r : Int) (h : d86 N a0 a1 = some r) : FunC Try.prog 86 [.d (.sl (a0.map (cI .i64))), .d (.lit (.int .i64 a1))] (.d (.lit (.int .i64 r))) := by
  unfold d86 at h
  refine FunC.enter 19 [(0, .d (.sl (a0.map (cI .i64)))), (1, .d (.lit (.int .i64 a1)))] (by simp) Try.func86 rfl (of_decide_eq_true rfl) rfl rfl ?_
  refine AW.seqR ?_
  refine Chain.runK [] 1 fun K hK => ?_; simp; refine hK _ _ ?_; clear hK K
  refine Chain.sub (S' := mk 19 [] [(0, .d (.sl (a0.map (cI .i64)))), (1, .d (.lit (.int .i64 a1)))] []) (Sub.table (by simp) (by simp)) ?_
  refine Chain.nil ?_
  refine AW.seq ?_
  refine AW.seqR ?_
  refine Chain.runK [] 3 fun K hK => ?_; simp; refine hK _ _ ?_; clear hK K
  refine Chain.sub (S' := mk 19 [] [(0, .d (.sl (a0.map (cI .i64)))), (1, .d (.lit (.int .i64 a1))), (7, .d (.lit (.int .i64 (a0.length : Int)))), (8, .d (.lit (.int .i64 0)))] []) (Sub.table (by simp) (by simp)) ?_
  refine Chain.nil ?_
  refine AW.lastJ (fun (_ : Unit) => mk 19 [] [] []) h ?_ ?_ <;> clear h
  · intro o h
    refine AW.block ?_
    refine AW.iter (fun (v6 : Int) => mk 19 [] [(0, .d (.sl (a0.map (cI .i64)))), (1, .d (.lit (.int .i64 a1))), (7, .d (.lit (.int .i64 (a0.length : Int)))), (8, .d (.lit (.int .i64 v6)))] []) h (Sub.table (by simp) (by simp)) ?_
    clear h
    rintro v6 x h
    refine AW.seqR ?_
    refine Chain.runK [] 1 fun K hK => ?_; simp; refine hK _ _ ?_; clear hK K
    refine Chain.sub (S' := mk 19 [] [(0, .d (.sl (a0.map (cI .i64)))), (1, .d (.lit (.int .i64 a1))), (7, .d (.lit (.int .i64 (a0.length : Int)))), (8, .d (.lit (.int .i64 v6))), (9, .d (.lit (.bool (decide (v6 < (a0.length : Int))))))] []) (Sub.table (by simp) (by simp)) ?_
    refine Chain.nil ?_
    refine AW.seq ?_
    replace h := isome h; rcases h with ⟨c18, h⟩ | ⟨c18, h⟩
    · have c18_ : decide (v6 < (a0.length : Int)) = true := decide_eq_true c18
      refine AW.condT (b := decide (v6 < (a0.length : Int))) rfl c18_ ?_
      refine AW.sub (Sub.bool 9 (b := decide (v6 < (a0.length : Int))) rfl c18_) ?_
      refine AW.sub (S' := mk 19 [] [(0, .d (.sl (a0.map (cI .i64)))), (1, .d (.lit (.int .i64 a1))), (7, .d (.lit (.int .i64 (a0.length : Int)))), (8, .d (.lit (.int .i64 v6))), (9, .d (.lit (.bool true)))] []) (by simp; exact Sub.table (by simp) (by simp)) ?_
      refine AW.skip ?_
      refine thenQ_normal ?_
      refine AW.seq ?_
      refine AW.block ?_
      refine AW.seqR ?_
      refine Chain.runK [] 2 fun K hK => ?_; simp; refine hK _ _ ?_; clear hK K
      refine Chain.sub (S' := mk 19 [] [(0, .d (.sl (a0.map (cI .i64)))), (1, .d (.lit (.int .i64 a1))), (5, .d (.lit (.int .i64 v6))), (7, .d (.lit (.int .i64 (a0.length : Int)))), (8, .d (.lit (.int .i64 v6)))] []) (Sub.table (by simp) (by simp)) ?_
      refine Chain.nil ?_
      refine AW.seqR ?_
      replace h := bsome h; obtain ⟨x19, hx19, h⟩ := h
      obtain ⟨k20, hx19k, hx19, hx19a, hx19b⟩ := idx_some hx19
      refine Chain.runK [] 6 fun K hK => ?_; simp [hx19, hx19k, hx19a]; refine hK _ _ ?_; clear hK K
      refine Chain.sub (S' := mk 19 [] [(0, .d (.sl (a0.map (cI .i64)))), (1, .d (.lit (.int .i64 a1))), (5, .d (.lit (.int .i64 v6))), (7, .d (.lit (.int .i64 (a0.length : Int)))), (8, .d (.lit (.int .i64 v6))), (16, .d (.lit (.bool (a1 == x19))))] []) (Sub.table (by simp) (by simp)) ?_
      refine Chain.nil ?_
      replace h := isome h; rcases h with ⟨c21, h⟩ | ⟨c21, h⟩
      · have c21_ : (a1 == x19) = true := c21
        refine AW.condT (b := (a1 == x19)) rfl c21_ ?_
        refine AW.sub (Sub.bool 16 (b := (a1 == x19)) rfl c21_) ?_
        refine AW.sub (S' := mk 19 [] [(0, .d (.sl (a0.map (cI .i64)))), (1, .d (.lit (.int .i64 a1))), (5, .d (.lit (.int .i64 v6))), (7, .d (.lit (.int .i64 (a0.length : Int)))), (8, .d (.lit (.int .i64 v6))), (16, .d (.lit (.bool true)))] []) (by simp; exact Sub.table (by simp) (by simp)) ?_
        refine AW.seqR ?_
        refine Chain.runK [] 2 fun K hK => ?_; simp; refine hK _ _ ?_; clear hK K
        refine Chain.sub (S' := mk 19 [] [(4, .d (.lit (.int .i64 v6)))] []) (Sub.table (by simp) (by simp)) ?_
        refine Chain.nil ?_
        refine AW.ret ?_
        cases h
        refine blockQ.ret ?_
        refine thenQ_pass (by simp) ?_
        refine PostI.out (by simp) ?_
        rintro rfl
        refine blockQ.ret ?_
        refine PostJ.out (by simp) ?_
        rintro rfl
        refine thenQ_pass (by simp) ?_
        exact FinC.ret (by simp) (by simp)
      · have c21_ : (a1 == x19) = false := Bool.eq_false_iff.2 c21
        refine AW.condF (b := (a1 == x19)) rfl c21_ ?_
        refine AW.sub (Sub.bool 16 (b := (a1 == x19)) rfl c21_) ?_
        refine AW.sub (S' := mk 19 [] [(0, .d (.sl (a0.map (cI .i64)))), (1, .d (.lit (.int .i64 a1))), (5, .d (.lit (.int .i64 v6))), (7, .d (.lit (.int .i64 (a0.length : Int)))), (8, .d (.lit (.int .i64 v6))), (16, .d (.lit (.bool false)))] []) (by simp; exact Sub.table (by simp) (by simp)) ?_
        refine AW.skip ?_
        refine blockQ.normal ?_
        refine thenQ_normal ?_
        refine AW.region ?_
        replace h := bsome h; obtain ⟨v22, hv22, h⟩ := h
        have hv22 := chkI_some hv22
        refine Chain.runK [] 2 fun K hK => ?_; simp [hv22]; refine hK _ _ ?_; clear hK K
        refine Chain.sub (S' := mk 19 [] [(0, .d (.sl (a0.map (cI .i64)))), (1, .d (.lit (.int .i64 a1))), (7, .d (.lit (.int .i64 (a0.length : Int)))), (8, .d (.lit (.int .i64 v22)))] []) (Sub.table (by simp) (by simp)) ?_
        refine Chain.nil ?_
        cases h
        refine PostI.next ?_
        exact (Sub.table (by simp) (by simp))
    · have c18_ : decide (v6 < (a0.length : Int)) = false := decide_eq_false c18
      refine AW.condF (b := decide (v6 < (a0.length : Int))) rfl c18_ ?_
      refine AW.sub (Sub.bool 9 (b := decide (v6 < (a0.length : Int))) rfl c18_) ?_
      refine AW.sub (S' := mk 19 [] [(0, .d (.sl (a0.map (cI .i64)))), (1, .d (.lit (.int .i64 a1))), (7, .d (.lit (.int .i64 (a0.length : Int)))), (8, .d (.lit (.int .i64 v6))), (9, .d (.lit (.bool false)))] []) (by simp; exact Sub.table (by simp) (by simp)) ?_
      refine AW.exit ?_
      cases h
      refine thenQ_pass (by simp) ?_
      refine PostI.out (by simp) ?_
      rintro rfl
      refine blockQ.hit ?_
      refine PostJ.next ?_
      exact (Sub.table (by simp) (by simp))
  · rintro ⟨⟩ h
    refine thenQ_normal ?_
    refine AW.seqR ?_
    refine Chain.runK [] 1 fun K hK => ?_; simp; refine hK _ _ ?_; clear hK K
    refine Chain.sub (S' := mk 19 [] [(4, .d (.lit (.int .i64 (-1))))] []) (Sub.table (by simp) (by simp)) ?_
    refine Chain.nil ?_
    refine AW.ret ?_
    cases h
    exact FinC.ret (by simp) (by simp)

/-- slices.Contains[[]int,int] -/
def d57 (N : Nat) (a0 : (List Int)) (a1 : Int) : Option Bool :=
  (d86 N a0 a1).bind fun r1 =>
  some (decide (r1 ≥ 0))
set_option maxRecDepth 100000 in
set_option maxHeartbeats 4000000 in
theorem p57 (N : Nat) (a0 : (List Int)) (a1 : Int) (r : Bool) (h : d57 N a0 a1 = some r) : FunC Try.prog 57 [.d (.sl (a0.map (cI .i64))), .d (.lit (.int .i64 a1))] (.d (.lit (.bool r))) := by
  unfold d57 at h
  refine FunC.enter 9 [(0, .d (.sl (a0.map (cI .i64)))), (1, .d (.lit (.int .i64 a1)))] (by simp) Try.func57 rfl (of_decide_eq_true rfl) rfl rfl ?_
  refine AW.seqR ?_
  refine Chain.runK [] 1 fun K hK => ?_; simp; refine hK _ _ ?_; clear hK K
  refine Chain.sub (S' := mk 9 [] [(0, .d (.sl (a0.map (cI .i64)))), (1, .d (.lit (.int .i64 a1)))] []) (Sub.table (by simp) (by simp)) ?_
  refine Chain.nil ?_
  refine AW.seqR ?_
  refine Chain.runK [] 2 fun K hK => ?_; simp; refine hK _ _ ?_; clear hK K
  refine Chain.sub (S' := mk 9 [] [(5, .d (.sl (a0.map (cI .i64)))), (6, .d (.lit (.int .i64 a1)))] []) (Sub.table (by simp) (by simp)) ?_
  replace h := bsome h; obtain ⟨r1, hr1, h⟩ := h
  refine Chain.callL (d := 7) (p86 N a0 a1 r1 hr1) (by simp) rfl rfl (by simp <;> rfl) (by simp <;> rfl) ent86 (by simp <;> rfl) ?_
  refine Chain.sub (S' := mk 9 [] [(5, .d (.sl (a0.map (cI .i64)))), (6, .d (.lit (.int .i64 a1))), (7, .d (.lit (.int .i64 r1)))] []) (by simp; exact Sub.table (by simp) (by simp)) ?_
  refine Chain.runK [] 2 fun K hK => ?_; simp; refine hK _ _ ?_; clear hK K
  refine Chain.sub (S' := mk 9 [] [(4, .d (.lit (.bool (decide (r1 ≥ 0)))))] []) (Sub.table (by simp) (by simp)) ?_
  refine Chain.nil ?_
  refine AW.ret ?_
  cases h
  exact FinC.ret (by simp) (by simp)

end Go.Proofs.Ytabjbkdlacibjaa
