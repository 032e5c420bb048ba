/- Functions of the program as functional programs; the code computes them. -/
import Derived.Test.YtabjbkdlacibjaaCg3
namespace Go.Proofs.Ytabjbkdlacibjaa
open Go.Ab Go.Rp
attribute [-simp] List.all_eq_true Array.all_toList Array.all_eq_true

/-- stemma/serializability.ConflictGraph -/
def d17 (N : Nat) (a0 : (List S27)) : Option ((List S43) × Int) :=
  (d18 N a0).bind fun r1 =>
  if (r1 != 0) then (
    some (([] : List S43), r1)
  ) else
  (d56 N a0).bind fun r3 =>
  (lenL 400 (List.replicate 400 false)).bind fun _ =>
  (lenL 400 r3).bind fun _ =>
  Option.bind (α := List S43) (
    iterN (σ := ((List S43) × Int)) (ρ := List S43) (fun ((l40, v41) : ((List S43) × Int)) =>
      if v41 < 20 then (
        (arrI v41 20).bind fun k118 =>
        (subL r3 (k118 * 20) 20).bind fun l119 =>
        Option.bind (α := List S43) (
          iterN (σ := ((List S43) × Int)) (ρ := List S43) (fun ((l126, v127) : ((List S43) × Int)) =>
            if v127 < 20 then (
              (arrI v127 20).bind fun k146 =>
              (l119[k146]?).bind fun x147 =>
              if x147 = true then (
                (appL 16 l126 [(S43.mk v41 v127)]).bind fun l149 =>
                (chkI (v127 + 1)).bind fun v150 =>
                some (.inl ((l126 ++ [(S43.mk v41 v127)]), v150))
              ) else
              (chkI (v127 + 1)).bind fun v151 =>
              some (.inl (l126, v151))
            ) else
            some (.inr l126)
          ) N (l40, 0)
        ) fun (l144 : List S43) =>
        (chkI (v41 + 1)).bind fun v152 =>
        some (.inl (l144, v152))
      ) else
      some (.inr l40)
    ) N (([] : List S43), 0)
  ) fun (l116 : List S43) =>
  some (l116, 0)
set_option maxRecDepth 100000 in
set_option maxHeartbeats 4000000 in
theorem p17 (N : Nat) (a0 : (List S27)) (r : ((List S43) × Int)) (h : d17 N a0 = some r) : FunC Try.prog 17 [.d (.sl (a0.map cS27))] (.tup [.d (.sl (r.1.map cS43)), .d (.lit (.int .i64 r.2))]) := by
  unfold d17 at h
  refine FunC.enter 37 [(0, .d (.sl (a0.map cS27)))] (by simp) Try.func17 rfl (of_decide_eq_true rfl) rfl rfl ?_
  refine AW.seqR ?_
  refine Chain.runK [] 2 fun K hK => ?_; simp; refine hK _ _ ?_; clear hK K
  refine Chain.sub (S' := mk 37 [] [(0, .d (.sl (a0.map cS27)))] []) (Sub.table (by simp) (by simp)) ?_
  refine Chain.nil ?_
  refine AW.seq ?_
  refine AW.seqR ?_
  refine Chain.runK [] 1 fun K hK => ?_; simp; refine hK _ _ ?_; clear hK K
  refine Chain.sub (S' := mk 37 [] [(0, .d (.sl (a0.map cS27))), (10, .d (.sl (a0.map cS27)))] []) (Sub.table (by simp) (by simp)) ?_
  replace h := bsome h; obtain ⟨r1, hr1, h⟩ := h
  refine Chain.callL (d := 11) (p18 N a0 r1 hr1) (by simp) rfl rfl (by simp <;> rfl) (by simp <;> rfl) ent18 (by simp <;> rfl) ?_
  refine Chain.sub (S' := mk 37 [] [(0, .d (.sl (a0.map cS27))), (10, .d (.sl (a0.map cS27))), (11, .d (.lit (.int .i64 r1)))] []) (by simp; exact Sub.table (by simp) (by simp)) ?_
  refine Chain.runK [] 1 fun K hK => ?_; simp; refine hK _ _ ?_; clear hK K
  refine Chain.sub (S' := mk 37 [] [(0, .d (.sl (a0.map cS27))), (4, .d (.lit (.int .i64 r1)))] []) (Sub.table (by simp) (by simp)) ?_
  refine Chain.nil ?_
  refine AW.seqR ?_
  refine Chain.runK [] 2 fun K hK => ?_; simp; refine hK _ _ ?_; clear hK K
  refine Chain.sub (S' := mk 37 [] [(0, .d (.sl (a0.map cS27))), (4, .d (.lit (.int .i64 r1))), (13, .d (.lit (.bool (r1 != 0))))] []) (Sub.table (by simp) (by simp)) ?_
  refine Chain.nil ?_
  replace h := isome h; rcases h with ⟨c2, h⟩ | ⟨c2, h⟩
  · have c2_ : (r1 != 0) = true := c2
    refine AW.condT (b := (r1 != 0)) rfl c2_ ?_
    refine AW.sub (Sub.bool 13 (b := (r1 != 0)) rfl c2_) ?_
    refine AW.sub (S' := mk 37 [] [(0, .d (.sl (a0.map cS27))), (4, .d (.lit (.int .i64 r1))), (13, .d (.lit (.bool true)))] []) (by simp; exact Sub.table (by simp) (by simp)) ?_
    refine AW.seqR ?_
    refine Chain.runK [] 3 fun K hK => ?_; simp; refine hK _ _ ?_; clear hK K
    refine Chain.sub (S' := mk 37 [] [(2, .d (.lit (.slice none 0 0))), (3, .d (.lit (.int .i64 r1)))] []) (Sub.table (by simp) (by simp)) ?_
    refine Chain.nil ?_
    refine AW.sub (Sub.wk 2 rfl) ?_
    refine AW.sub (S' := mk 37 [] [(2, .d (.sl (([] : List S43).map cS43))), (3, .d (.lit (.int .i64 r1)))] []) (by simp; exact Sub.table (by simp) (by simp)) ?_
    refine AW.ret ?_
    cases h
    refine thenQ_pass (by simp) ?_
    exact FinC.ret (by simp) (by simp)
  · have c2_ : (r1 != 0) = false := Bool.eq_false_iff.2 c2
    refine AW.condF (b := (r1 != 0)) rfl c2_ ?_
    refine AW.sub (Sub.bool 13 (b := (r1 != 0)) rfl c2_) ?_
    refine AW.sub (S' := mk 37 [] [(0, .d (.sl (a0.map cS27))), (4, .d (.lit (.int .i64 r1))), (13, .d (.lit (.bool false)))] []) (by simp; exact Sub.table (by simp) (by simp)) ?_
    refine AW.skip ?_
    refine thenQ_normal ?_
    refine AW.seqR ?_
    refine Chain.runK [] 1 fun K hK => ?_; simp; refine hK _ _ ?_; clear hK K
    refine Chain.sub (S' := mk 37 [] [(15, .d (.sl (a0.map cS27)))] []) (Sub.table (by simp) (by simp)) ?_
    replace h := bsome h; obtain ⟨r3, hr3, h⟩ := h
    refine Chain.callC (d := 16) (p56 N a0 r3 hr3) (by simp) rfl rfl (by simp <;> rfl) (by simp <;> rfl) ent56 (by simp) (.inl ⟨by simp, by simp⟩) ?_
    refine Chain.sub (S' := mk 37 [] [(15, .d (.sl (a0.map cS27))), (16, .agg (r3.map vB))] []) (by simp; exact Sub.table (by simp) (by simp)) ?_
    refine Chain.runK [] 1 fun K hK => ?_; simp; refine hK _ _ ?_; clear hK K
    refine Chain.sub (S' := mk 37 [] [(5, .ptr 5 0 0), (16, .agg (r3.map vB))] [(5, some (.box ((List.replicate 400 false).map vB)))]) (Sub.table (by simp) (by simp)) ?_
    replace h := bsome h; obtain ⟨q4, gq4, h⟩ := h
    have hq4 := (lenL_some gq4).1
    replace h := bsome h; obtain ⟨q5, gq5, h⟩ := h
    have hq5 := (lenL_some gq5).1
    refine Chain.runK [] 1 fun K hK => ?_; simp [hq4, hq5]; refine hK _ _ ?_; clear hK K
    refine Chain.sub (S' := mk 37 [] [(5, .ptr 5 0 0)] [(5, some (.box (r3.map vB)))]) (Sub.table (by simp) (by simp)) ?_
    refine Chain.nil ?_
    refine AW.seqR ?_
    refine Chain.runK [] 1 fun K hK => ?_; simp; refine hK _ _ ?_; clear hK K
    refine Chain.sub (S' := mk 37 [] [(5, .ptr 5 0 0), (6, .d (.lit (.slice none 0 0)))] [(5, some (.box (r3.map vB)))]) (Sub.table (by simp) (by simp)) ?_
    refine Chain.nil ?_
    refine AW.seq ?_
    refine AW.seqR ?_
    refine Chain.runK [] 1 fun K hK => ?_; simp; refine hK _ _ ?_; clear hK K
    refine Chain.sub (S' := mk 37 [] [(5, .ptr 5 0 0), (6, .d (.lit (.slice none 0 0))), (17, .d (.lit (.int .i64 0)))] [(5, some (.box (r3.map vB)))]) (Sub.table (by simp) (by simp)) ?_
    refine Chain.nil ?_
    refine AW.lastN (fun (l116 : List S43) => mk 37 [] [(6, .ref 33 0 l116.length)] [(33, some (.arr 43 2 (l116.map cS43)))]) h ?_ ?_ <;> clear h
    · intro o h
      refine AW.block ?_
      refine AW.iter (fun ((l40, v41) : ((List S43) × Int)) => mk 37 [] [(5, .ptr 5 0 0), (6, .ref 33 0 l40.length), (17, .d (.lit (.int .i64 v41)))] [(5, some (.box (r3.map vB))), (33, some (.arr 43 2 (l40.map cS43)))]) h (Sub.trans (Sub.nilOwn (t := 6) (id := 33) (T := 43) (n := 2) rfl rfl (by decide)) (by simp; exact Sub.table (by simp) (by simp))) ?_
      clear h
      rintro ⟨l40, v41⟩ x h
      dsimp only at h ⊢
      refine AW.seqR ?_
      refine Chain.runK [] 1 fun K hK => ?_; simp; refine hK _ _ ?_; clear hK K
      refine Chain.sub (S' := mk 37 [] [(5, .ptr 5 0 0), (6, .ref 33 0 l40.length), (17, .d (.lit (.int .i64 v41))), (18, .d (.lit (.bool (decide (v41 < 20)))))] [(5, some (.box (r3.map vB))), (33, some (.arr 43 2 (l40.map cS43)))]) (Sub.table (by simp) (by simp)) ?_
      refine Chain.nil ?_
      refine AW.seq ?_
      replace h := isome h; rcases h with ⟨c117, h⟩ | ⟨c117, h⟩
      · have c117_ : decide (v41 < 20) = true := decide_eq_true c117
        refine AW.condT (b := decide (v41 < 20)) rfl c117_ ?_
        refine AW.sub (Sub.bool 18 (b := decide (v41 < 20)) rfl c117_) ?_
        refine AW.sub (S' := mk 37 [] [(5, .ptr 5 0 0), (6, .ref 33 0 l40.length), (17, .d (.lit (.int .i64 v41))), (18, .d (.lit (.bool true)))] [(5, some (.box (r3.map vB))), (33, some (.arr 43 2 (l40.map cS43)))]) (by simp; exact Sub.table (by simp) (by simp)) ?_
        refine AW.skip ?_
        refine thenQ_normal ?_
        refine AW.seq ?_
        refine AW.block ?_
        refine AW.seqR ?_
        refine Chain.runK [] 2 fun K hK => ?_; simp; refine hK _ _ ?_; clear hK K
        refine Chain.sub (S' := mk 37 [] [(5, .ptr 5 0 0), (6, .ref 33 0 l40.length), (7, .d (.lit (.int .i64 v41))), (17, .d (.lit (.int .i64 v41)))] [(5, some (.box (r3.map vB))), (33, some (.arr 43 2 (l40.map cS43)))]) (Sub.table (by simp) (by simp)) ?_
        refine Chain.nil ?_
        refine AW.seqR ?_
        replace h := bsome h; obtain ⟨k118, gk118, h⟩ := h
        obtain ⟨hk118, hk118a, hk118b, hk118c⟩ := arrI_some gk118
        have hk118b : v41 < 20 := hk118b
        replace h := bsome h; obtain ⟨l119, gl119, h⟩ := h
        obtain ⟨hl119a, hl119b, hl119c⟩ := subL_some vB gl119
        refine Chain.runK [] 4 fun K hK => ?_; simp [hk118, hk118a, hk118b, hl119a, hl119b]; refine hK _ _ ?_; clear hK K
        refine Chain.sub (S' := mk 37 [] [(5, .ptr 5 0 0), (6, .ref 33 0 l40.length), (7, .d (.lit (.int .i64 v41))), (17, .d (.lit (.int .i64 v41))), (22, .agg (l119.map vB)), (23, .d (.lit (.int .i64 0)))] [(5, some (.box (r3.map vB))), (33, some (.arr 43 2 (l40.map cS43)))]) (Sub.table (by simp) (by simp)) ?_
        refine Chain.nil ?_
        refine AW.lastN (fun (l144 : List S43) => mk 37 [] [(5, .ptr 5 0 0), (6, .ref 33 0 l144.length), (17, .d (.lit (.int .i64 v41)))] [(5, some (.box (r3.map vB))), (33, some (.arr 43 2 (l144.map cS43)))]) h ?_ ?_ <;> clear h
        · intro o h
          refine AW.block ?_
          refine AW.iter (fun ((l126, v127) : ((List S43) × Int)) => mk 37 [] [(5, .ptr 5 0 0), (6, .ref 33 0 l126.length), (7, .d (.lit (.int .i64 v41))), (17, .d (.lit (.int .i64 v41))), (22, .agg (l119.map vB)), (23, .d (.lit (.int .i64 v127)))] [(5, some (.box (r3.map vB))), (33, some (.arr 43 2 (l126.map cS43)))]) h (Sub.table (by simp) (by simp)) ?_
          clear h
          rintro ⟨l126, v127⟩ x h
          dsimp only at h ⊢
          refine AW.seqR ?_
          refine Chain.runK [] 1 fun K hK => ?_; simp; refine hK _ _ ?_; clear hK K
          refine Chain.sub (S' := mk 37 [] [(5, .ptr 5 0 0), (6, .ref 33 0 l126.length), (7, .d (.lit (.int .i64 v41))), (17, .d (.lit (.int .i64 v41))), (22, .agg (l119.map vB)), (23, .d (.lit (.int .i64 v127))), (24, .d (.lit (.bool (decide (v127 < 20)))))] [(5, some (.box (r3.map vB))), (33, some (.arr 43 2 (l126.map cS43)))]) (Sub.table (by simp) (by simp)) ?_
          refine Chain.nil ?_
          refine AW.seq ?_
          replace h := isome h; rcases h with ⟨c145, h⟩ | ⟨c145, h⟩
          · have c145_ : decide (v127 < 20) = true := decide_eq_true c145
            refine AW.condT (b := decide (v127 < 20)) rfl c145_ ?_
            refine AW.sub (Sub.bool 24 (b := decide (v127 < 20)) rfl c145_) ?_
            refine AW.sub (S' := mk 37 [] [(5, .ptr 5 0 0), (6, .ref 33 0 l126.length), (7, .d (.lit (.int .i64 v41))), (17, .d (.lit (.int .i64 v41))), (22, .agg (l119.map vB)), (23, .d (.lit (.int .i64 v127))), (24, .d (.lit (.bool true)))] [(5, some (.box (r3.map vB))), (33, some (.arr 43 2 (l126.map cS43)))]) (by simp; exact Sub.table (by simp) (by simp)) ?_
            refine AW.skip ?_
            refine thenQ_normal ?_
            refine AW.seq ?_
            refine AW.block ?_
            refine AW.seqR ?_
            replace h := bsome h; obtain ⟨k146, gk146, h⟩ := h
            obtain ⟨hk146, hk146a, hk146b, hk146c⟩ := arrI_some gk146
            have hk146b : v127 < 20 := hk146b
            replace h := bsome h; obtain ⟨x147, hx147, h⟩ := h
            refine Chain.runK [] 4 fun K hK => ?_; simp [hk146, hk146a, hk146b, hx147]; refine hK _ _ ?_; clear hK K
            refine Chain.sub (S' := mk 37 [] [(5, .ptr 5 0 0), (6, .ref 33 0 l126.length), (7, .d (.lit (.int .i64 v41))), (8, .d (.lit (.int .i64 v127))), (9, .d (.lit (.bool x147))), (17, .d (.lit (.int .i64 v41))), (22, .agg (l119.map vB)), (23, .d (.lit (.int .i64 v127)))] [(5, some (.box (r3.map vB))), (33, some (.arr 43 2 (l126.map cS43)))]) (Sub.table (by simp) (by simp)) ?_
            refine Chain.nil ?_
            refine AW.seqR ?_
            refine Chain.runK [] 1 fun K hK => ?_; simp; refine hK _ _ ?_; clear hK K
            refine Chain.sub (S' := mk 37 [] [(5, .ptr 5 0 0), (6, .ref 33 0 l126.length), (7, .d (.lit (.int .i64 v41))), (8, .d (.lit (.int .i64 v127))), (17, .d (.lit (.int .i64 v41))), (22, .agg (l119.map vB)), (23, .d (.lit (.int .i64 v127))), (27, .d (.lit (.bool x147)))] [(5, some (.box (r3.map vB))), (33, some (.arr 43 2 (l126.map cS43)))]) (Sub.table (by simp) (by simp)) ?_
            refine Chain.nil ?_
            replace h := isome h; rcases h with ⟨c148, h⟩ | ⟨c148, h⟩
            · have c148_ : x147 = true := c148
              refine AW.condT (b := x147) rfl c148_ ?_
              refine AW.sub (Sub.bool 27 (b := x147) rfl c148_) ?_
              refine AW.sub (S' := mk 37 [] [(5, .ptr 5 0 0), (6, .ref 33 0 l126.length), (7, .d (.lit (.int .i64 v41))), (8, .d (.lit (.int .i64 v127))), (17, .d (.lit (.int .i64 v41))), (22, .agg (l119.map vB)), (23, .d (.lit (.int .i64 v127))), (27, .d (.lit (.bool true)))] [(5, some (.box (r3.map vB))), (33, some (.arr 43 2 (l126.map cS43)))]) (by simp; exact Sub.table (by simp) (by simp)) ?_
              refine AW.region ?_
              replace h := bsome h; obtain ⟨l149, hl149, h⟩ := h
              obtain ⟨hl149a, hl149⟩ := appL_some hl149
              subst hl149
              try simp only [List.length_append, List.length_cons, List.length_nil, Nat.zero_add] at hl149a
              refine Chain.runK [32] 7 fun K hK => ?_; simp [hl149a]; refine hK _ _ ?_; clear hK K
              refine Chain.sub (S' := mk 37 [] [(5, .ptr 5 0 0), (6, .ref 33 0 ((l126 ++ [(S43.mk v41 v127)]).length)), (7, .d (.lit (.int .i64 v41))), (17, .d (.lit (.int .i64 v41))), (22, .agg (l119.map vB)), (23, .d (.lit (.int .i64 v127)))] [(5, some (.box (r3.map vB))), (33, some (.arr 43 2 ((l126 ++ [(S43.mk v41 v127)]).map cS43)))]) (Sub.table (by simp) (by simp)) ?_
              refine Chain.nil ?_
              refine blockQ.normal ?_
              refine thenQ_normal ?_
              refine AW.region ?_
              replace h := bsome h; obtain ⟨v150, hv150, h⟩ := h
              have hv150 := chkI_some hv150
              refine Chain.runK [] 2 fun K hK => ?_; simp [hv150]; refine hK _ _ ?_; clear hK K
              refine Chain.sub (S' := mk 37 [] [(5, .ptr 5 0 0), (6, .ref 33 0 ((l126 ++ [(S43.mk v41 v127)]).length)), (7, .d (.lit (.int .i64 v41))), (17, .d (.lit (.int .i64 v41))), (22, .agg (l119.map vB)), (23, .d (.lit (.int .i64 v150)))] [(5, some (.box (r3.map vB))), (33, some (.arr 43 2 ((l126 ++ [(S43.mk v41 v127)]).map cS43)))]) (Sub.table (by simp) (by simp)) ?_
              refine Chain.nil ?_
              cases h
              refine PostI.next ?_
              exact (Sub.table (by simp) (by simp))
            · have c148_ : x147 = false := Bool.eq_false_iff.2 c148
              refine AW.condF (b := x147) rfl c148_ ?_
              refine AW.sub (Sub.bool 27 (b := x147) rfl c148_) ?_
              refine AW.sub (S' := mk 37 [] [(5, .ptr 5 0 0), (6, .ref 33 0 l126.length), (7, .d (.lit (.int .i64 v41))), (8, .d (.lit (.int .i64 v127))), (17, .d (.lit (.int .i64 v41))), (22, .agg (l119.map vB)), (23, .d (.lit (.int .i64 v127))), (27, .d (.lit (.bool false)))] [(5, some (.box (r3.map vB))), (33, some (.arr 43 2 (l126.map cS43)))]) (by simp; exact Sub.table (by simp) (by simp)) ?_
              refine AW.skip ?_
              refine blockQ.normal ?_
              refine thenQ_normal ?_
              refine AW.region ?_
              replace h := bsome h; obtain ⟨v151, hv151, h⟩ := h
              have hv151 := chkI_some hv151
              refine Chain.runK [] 2 fun K hK => ?_; simp [hv151]; refine hK _ _ ?_; clear hK K
              refine Chain.sub (S' := mk 37 [] [(5, .ptr 5 0 0), (6, .ref 33 0 l126.length), (7, .d (.lit (.int .i64 v41))), (17, .d (.lit (.int .i64 v41))), (22, .agg (l119.map vB)), (23, .d (.lit (.int .i64 v151)))] [(5, some (.box (r3.map vB))), (33, some (.arr 43 2 (l126.map cS43)))]) (Sub.table (by simp) (by simp)) ?_
              refine Chain.nil ?_
              cases h
              refine PostI.next ?_
              exact (Sub.table (by simp) (by simp))
          · have c145_ : decide (v127 < 20) = false := decide_eq_false c145
            refine AW.condF (b := decide (v127 < 20)) rfl c145_ ?_
            refine AW.sub (Sub.bool 24 (b := decide (v127 < 20)) rfl c145_) ?_
            refine AW.sub (S' := mk 37 [] [(5, .ptr 5 0 0), (6, .ref 33 0 l126.length), (7, .d (.lit (.int .i64 v41))), (17, .d (.lit (.int .i64 v41))), (22, .agg (l119.map vB)), (23, .d (.lit (.int .i64 v127))), (24, .d (.lit (.bool false)))] [(5, some (.box (r3.map vB))), (33, some (.arr 43 2 (l126.map cS43)))]) (by simp; exact Sub.table (by simp) (by simp)) ?_
            refine AW.exit ?_
            cases h
            refine thenQ_pass (by simp) ?_
            refine PostI.out (by simp) ?_
            rintro rfl
            refine blockQ.hit ?_
            refine PostN.next ?_
            exact (Sub.table (by simp) (by simp))
        · rintro l144 h
          refine blockQ.normal ?_
          refine thenQ_normal ?_
          refine AW.region ?_
          replace h := bsome h; obtain ⟨v152, hv152, h⟩ := h
          have hv152 := chkI_some hv152
          refine Chain.runK [] 2 fun K hK => ?_; simp [hv152]; refine hK _ _ ?_; clear hK K
          refine Chain.sub (S' := mk 37 [] [(5, .ptr 5 0 0), (6, .ref 33 0 l144.length), (17, .d (.lit (.int .i64 v152)))] [(5, some (.box (r3.map vB))), (33, some (.arr 43 2 (l144.map cS43)))]) (Sub.table (by simp) (by simp)) ?_
          refine Chain.nil ?_
          cases h
          refine PostI.next ?_
          exact (Sub.table (by simp) (by simp))
      · have c117_ : decide (v41 < 20) = false := decide_eq_false c117
        refine AW.condF (b := decide (v41 < 20)) rfl c117_ ?_
        refine AW.sub (Sub.bool 18 (b := decide (v41 < 20)) rfl c117_) ?_
        refine AW.sub (S' := mk 37 [] [(5, .ptr 5 0 0), (6, .ref 33 0 l40.length), (17, .d (.lit (.int .i64 v41))), (18, .d (.lit (.bool false)))] [(5, some (.box (r3.map vB))), (33, some (.arr 43 2 (l40.map cS43)))]) (by simp; exact Sub.table (by simp) (by simp)) ?_
        refine AW.exit ?_
        cases h
        refine thenQ_pass (by simp) ?_
        refine PostI.out (by simp) ?_
        rintro rfl
        refine blockQ.hit ?_
        refine PostN.next ?_
        exact (Sub.table (by simp) (by simp))
    · rintro l116 h
      refine thenQ_normal ?_
      refine AW.seqR ?_
      refine Chain.runK [] 3 fun K hK => ?_; simp; refine hK _ _ ?_; clear hK K
      refine Chain.sub (S' := mk 37 [] [(2, .ref 33 0 l116.length), (3, .d (.lit (.int .i64 0)))] [(33, some (.arr 43 2 (l116.map cS43)))]) (Sub.table (by simp) (by simp)) ?_
      refine Chain.nil ?_
      refine AW.sub (Sub.freeze 33 rfl) ?_
      refine AW.sub (S' := mk 37 [] [(2, .d (.sl (l116.map cS43))), (3, .d (.lit (.int .i64 0)))] []) (by simp; exact Sub.table (by simp) (by simp)) ?_
      refine AW.ret ?_
      cases h
      exact FinC.ret (by simp) (by simp)

/-- stemma/stemref5.Between -/
def d39 (N : Nat) (a0 : Int) (a1 : Int) (a2 : Int) : Option Bool :=
  Option.bind (α := Bool) (
    if a0 ≥ a1 then (
      some (decide (a0 ≤ a2))
    ) else
    some false
  ) fun (v2 : Bool) =>
  some v2
set_option maxRecDepth 100000 in
set_option maxHeartbeats 4000000 in
theorem p39 (N : Nat) (a0 : Int) (a1 : Int) (a2 : Int) (r : Bool) (h : d39 N a0 a1 a2 = some r) : FunC Try.prog 39 [.d (.lit (.int .i64 a0)), .d (.lit (.int .i64 a1)), .d (.lit (.int .i64 a2))] (.d (.lit (.bool r))) := by
  unfold d39 at h
  refine FunC.enter 15 [(0, .d (.lit (.int .i64 a0))), (1, .d (.lit (.int .i64 a1))), (2, .d (.lit (.int .i64 a2)))] (by simp) Try.func39 rfl (of_decide_eq_true rfl) rfl rfl ?_
  refine AW.seqR ?_
  refine Chain.runK [] 1 fun K hK => ?_; simp; refine hK _ _ ?_; clear hK K
  refine Chain.sub (S' := mk 15 [] [(0, .d (.lit (.int .i64 a0))), (1, .d (.lit (.int .i64 a1))), (2, .d (.lit (.int .i64 a2)))] []) (Sub.table (by simp) (by simp)) ?_
  refine Chain.nil ?_
  replace h := bsome h; obtain ⟨v2, hj, h⟩ := h
  refine AW.cutR (mk 15 [] [(6, .d (.lit (.bool v2)))] []) ?_ ?_
  · clear h; have h := hj; clear hj
    refine Chain.runK [] 4 fun K hK => ?_; simp; refine hK _ _ ?_; clear hK K
    refine Chain.sub (S' := mk 15 [] [(0, .d (.lit (.int .i64 a0))), (2, .d (.lit (.int .i64 a2))), (10, .d (.lit (.bool (decide (a0 ≥ a1)))))] []) (Sub.table (by simp) (by simp)) ?_
    replace h := isome h; rcases h with ⟨c3, h⟩ | ⟨c3, h⟩
    · have c3_ : decide (a0 ≥ a1) = true := decide_eq_true c3
      refine Chain.sub (Sub.bool 10 (b := decide (a0 ≥ a1)) rfl c3_) ?_
      refine Chain.sub (S' := mk 15 [] [(0, .d (.lit (.int .i64 a0))), (2, .d (.lit (.int .i64 a2))), (10, .d (.lit (.bool true)))] []) (by simp; exact Sub.table (by simp) (by simp)) ?_
      refine Chain.runK [] 5 fun K hK => ?_; simp; refine hK _ _ ?_; clear hK K
      refine Chain.sub (S' := mk 15 [] [(6, .d (.lit (.bool (decide (a0 ≤ a2)))))] []) (Sub.table (by simp) (by simp)) ?_
      cases h
      exact Chain.nil (Sub.table (by simp) (by simp))
    · have c3_ : decide (a0 ≥ a1) = false := decide_eq_false c3
      refine Chain.sub (Sub.bool 10 (b := decide (a0 ≥ a1)) rfl c3_) ?_
      refine Chain.sub (S' := mk 15 [] [(0, .d (.lit (.int .i64 a0))), (2, .d (.lit (.int .i64 a2))), (10, .d (.lit (.bool false)))] []) (by simp; exact Sub.table (by simp) (by simp)) ?_
      refine Chain.runK [] 5 fun K hK => ?_; simp; refine hK _ _ ?_; clear hK K
      refine Chain.sub (S' := mk 15 [] [(6, .d (.lit (.bool false)))] []) (Sub.table (by simp) (by simp)) ?_
      cases h
      exact Chain.nil (Sub.table (by simp) (by simp))
  · clear hj
    refine AW.ret ?_
    cases h
    exact FinC.ret (by simp) (by simp)

/-- stemma/stemref5.CheckHistory -/
def d12 (N : Nat) (a0 : (List S27)) : Option Int :=
  if (a0.length : Int) > 200 then (
    some 2
  ) else
  bindO (β := Unit) (ρ := Int) (
    iterN (σ := Int) (ρ := (Out Unit Int)) (fun (v11 : Int) =>
      if v11 < (a0.length : Int) then (
        (idx a0 v11).bind fun x32 =>
        (d39 N x32.Kind 1 2).bind fun r34 =>
        if (!r34) = true then (
          some (.inr (.ret 3))
        ) else
        (d39 N x32.Tx 0 19).bind fun r36 =>
        if (!r36) = true then (
          some (.inr (.ret 1))
        ) else
        if (x32.Key.size : Int) > 24 then (
          some (.inr (.ret 2))
        ) else
        (chkI (v11 + 1)).bind fun v39 =>
        some (.inl v39)
      ) else
      some (.inr (.go ()))
    ) N 0
  ) fun (_ : Unit) =>
  some 0
set_option maxRecDepth 100000 in
set_option maxHeartbeats 4000000 in
theorem p12 (N : Nat) (a0 : (List S27)) (r : Int) (h : d12 N a0 = some r) : FunC Try.prog 12 [.d (.sl (a0.map cS27))] (.d (.lit (.int .i64 r))) := by
  unfold d12 at h
  refine FunC.enter 30 [(0, .d (.sl (a0.map cS27)))] (by simp) Try.func12 rfl (of_decide_eq_true rfl) rfl rfl ?_
  refine AW.seqR ?_
  refine Chain.runK [] 1 fun K hK => ?_; simp; refine hK _ _ ?_; clear hK K
  refine Chain.sub (S' := mk 30 [] [(0, .d (.sl (a0.map cS27)))] []) (Sub.table (by simp) (by simp)) ?_
  refine Chain.nil ?_
  refine AW.seq ?_
  refine AW.seqR ?_
  refine Chain.runK [] 3 fun K hK => ?_; simp; refine hK _ _ ?_; clear hK K
  refine Chain.sub (S' := mk 30 [] [(0, .d (.sl (a0.map cS27))), (7, .d (.lit (.bool (decide ((a0.length : Int) > 200)))))] []) (Sub.table (by simp) (by simp)) ?_
  refine Chain.nil ?_
  replace h := isome h; rcases h with ⟨c1, h⟩ | ⟨c1, h⟩
  · have c1_ : decide ((a0.length : Int) > 200) = true := decide_eq_true c1
    refine AW.condT (b := decide ((a0.length : Int) > 200)) rfl c1_ ?_
    refine AW.sub (Sub.bool 7 (b := decide ((a0.length : Int) > 200)) rfl c1_) ?_
    refine AW.sub (S' := mk 30 [] [(0, .d (.sl (a0.map cS27))), (7, .d (.lit (.bool true)))] []) (by simp; exact Sub.table (by simp) (by simp)) ?_
    refine AW.seqR ?_
    refine Chain.runK [] 1 fun K hK => ?_; simp; refine hK _ _ ?_; clear hK K
    refine Chain.sub (S' := mk 30 [] [(2, .d (.lit (.int .i64 2)))] []) (Sub.table (by simp) (by simp)) ?_
    refine Chain.nil ?_
    refine AW.ret ?_
    cases h
    refine thenQ_pass (by simp) ?_
    exact FinC.ret (by simp) (by simp)
  · have c1_ : decide ((a0.length : Int) > 200) = false := decide_eq_false c1
    refine AW.condF (b := decide ((a0.length : Int) > 200)) rfl c1_ ?_
    refine AW.sub (Sub.bool 7 (b := decide ((a0.length : Int) > 200)) rfl c1_) ?_
    refine AW.sub (S' := mk 30 [] [(0, .d (.sl (a0.map cS27))), (7, .d (.lit (.bool false)))] []) (by simp; exact Sub.table (by simp) (by simp)) ?_
    refine AW.skip ?_
    refine thenQ_normal ?_
    refine AW.seq ?_
    refine AW.seqR ?_
    refine Chain.runK [] 3 fun K hK => ?_; simp; refine hK _ _ ?_; clear hK K
    refine Chain.sub (S' := mk 30 [] [(8, .d (.sl (a0.map cS27))), (9, .d (.lit (.int .i64 (a0.length : Int)))), (10, .d (.lit (.int .i64 0)))] []) (Sub.table (by simp) (by simp)) ?_
    refine Chain.nil ?_
    refine AW.lastJ (fun (_ : Unit) => mk 30 [] [] []) h ?_ ?_ <;> clear h
    · intro o h
      refine AW.block ?_
      refine AW.iter (fun (v11 : Int) => mk 30 [] [(8, .d (.sl (a0.map cS27))), (9, .d (.lit (.int .i64 (a0.length : Int)))), (10, .d (.lit (.int .i64 v11)))] []) h (Sub.table (by simp) (by simp)) ?_
      clear h
      rintro v11 x h
      refine AW.seqR ?_
      refine Chain.runK [] 1 fun K hK => ?_; simp; refine hK _ _ ?_; clear hK K
      refine Chain.sub (S' := mk 30 [] [(8, .d (.sl (a0.map cS27))), (9, .d (.lit (.int .i64 (a0.length : Int)))), (10, .d (.lit (.int .i64 v11))), (11, .d (.lit (.bool (decide (v11 < (a0.length : Int))))))] []) (Sub.table (by simp) (by simp)) ?_
      refine Chain.nil ?_
      refine AW.seq ?_
      replace h := isome h; rcases h with ⟨c31, h⟩ | ⟨c31, h⟩
      · have c31_ : decide (v11 < (a0.length : Int)) = true := decide_eq_true c31
        refine AW.condT (b := decide (v11 < (a0.length : Int))) rfl c31_ ?_
        refine AW.sub (Sub.bool 11 (b := decide (v11 < (a0.length : Int))) rfl c31_) ?_
        refine AW.sub (S' := mk 30 [] [(8, .d (.sl (a0.map cS27))), (9, .d (.lit (.int .i64 (a0.length : Int)))), (10, .d (.lit (.int .i64 v11))), (11, .d (.lit (.bool true)))] []) (by simp; exact Sub.table (by simp) (by simp)) ?_
        refine AW.skip ?_
        refine thenQ_normal ?_
        refine AW.seq ?_
        refine AW.block ?_
        refine AW.seqR ?_
        replace h := bsome h; obtain ⟨x32, hx32, h⟩ := h
        obtain ⟨k33, hx32k, hx32, hx32a, hx32b⟩ := idx_some hx32
        refine Chain.runK [] 4 fun K hK => ?_; simp [hx32, hx32k, hx32a]; refine hK _ _ ?_; clear hK K
        refine Chain.sub (S' := mk 30 [] [(4, .ptr 4 0 0), (8, .d (.sl (a0.map cS27))), (9, .d (.lit (.int .i64 (a0.length : Int)))), (10, .d (.lit (.int .i64 v11)))] [(4, some (.box [.d (.lit (.int .i64 x32.Tx)), .d (.lit (.int .i64 x32.Kind)), .d (.lit (.string x32.Key))]))]) (Sub.table (by simp) (by simp)) ?_
        refine Chain.nil ?_
        refine AW.block ?_
        refine AW.seqR ?_
        refine Chain.runK [] 2 fun K hK => ?_; simp; refine hK _ _ ?_; clear hK K
        refine Chain.sub (S' := mk 30 [] [(4, .ptr 4 0 0), (8, .d (.sl (a0.map cS27))), (9, .d (.lit (.int .i64 (a0.length : Int)))), (10, .d (.lit (.int .i64 v11))), (16, .d (.lit (.int .i64 x32.Kind)))] [(4, some (.box [.d (.lit (.int .i64 x32.Tx)), .d (.lit (.int .i64 x32.Kind)), .d (.lit (.string x32.Key))]))]) (Sub.table (by simp) (by simp)) ?_
        replace h := bsome h; obtain ⟨r34, hr34, h⟩ := h
        refine Chain.callL (d := 17) (p39 N x32.Kind 1 2 r34 hr34) (by simp) rfl rfl (by simp <;> rfl) (by simp <;> rfl) ent39 (by simp <;> rfl) ?_
        refine Chain.sub (S' := mk 30 [] [(4, .ptr 4 0 0), (8, .d (.sl (a0.map cS27))), (9, .d (.lit (.int .i64 (a0.length : Int)))), (10, .d (.lit (.int .i64 v11))), (16, .d (.lit (.int .i64 x32.Kind))), (17, .d (.lit (.bool r34)))] [(4, some (.box [.d (.lit (.int .i64 x32.Tx)), .d (.lit (.int .i64 x32.Kind)), .d (.lit (.string x32.Key))]))]) (by simp; exact Sub.table (by simp) (by simp)) ?_
        refine Chain.runK [] 2 fun K hK => ?_; simp; refine hK _ _ ?_; clear hK K
        refine Chain.sub (S' := mk 30 [] [(4, .ptr 4 0 0), (8, .d (.sl (a0.map cS27))), (9, .d (.lit (.int .i64 (a0.length : Int)))), (10, .d (.lit (.int .i64 v11))), (14, .d (.lit (.bool (!r34))))] [(4, some (.box [.d (.lit (.int .i64 x32.Tx)), .d (.lit (.int .i64 x32.Kind)), .d (.lit (.string x32.Key))]))]) (Sub.table (by simp) (by simp)) ?_
        refine Chain.nil ?_
        replace h := isome h; rcases h with ⟨c35, h⟩ | ⟨c35, h⟩
        · have c35_ : (!r34) = true := c35
          refine AW.condT (b := (!r34)) rfl c35_ ?_
          refine AW.sub (Sub.bool 14 (b := (!r34)) rfl c35_) ?_
          refine AW.sub (S' := mk 30 [] [(4, .ptr 4 0 0), (8, .d (.sl (a0.map cS27))), (9, .d (.lit (.int .i64 (a0.length : Int)))), (10, .d (.lit (.int .i64 v11))), (14, .d (.lit (.bool true)))] [(4, some (.box [.d (.lit (.int .i64 x32.Tx)), .d (.lit (.int .i64 x32.Kind)), .d (.lit (.string x32.Key))]))]) (by simp; exact Sub.table (by simp) (by simp)) ?_
          refine AW.seqR ?_
          refine Chain.runK [] 1 fun K hK => ?_; simp; refine hK _ _ ?_; clear hK K
          refine Chain.sub (S' := mk 30 [] [(2, .d (.lit (.int .i64 3)))] []) (Sub.table (by simp) (by simp)) ?_
          refine Chain.nil ?_
          refine AW.ret ?_
          cases h
          refine blockQ.ret ?_
          refine blockQ.ret ?_
          refine thenQ_pass (by simp) ?_
          refine PostI.out (by simp) ?_
          rintro rfl
          refine blockQ.ret ?_
          refine PostJ.out (by simp) ?_
          rintro rfl
          refine thenQ_pass (by simp) ?_
          exact FinC.ret (by simp) (by simp)
        · have c35_ : (!r34) = false := Bool.eq_false_iff.2 c35
          refine AW.condF (b := (!r34)) rfl c35_ ?_
          refine AW.sub (Sub.bool 14 (b := (!r34)) rfl c35_) ?_
          refine AW.sub (S' := mk 30 [] [(4, .ptr 4 0 0), (8, .d (.sl (a0.map cS27))), (9, .d (.lit (.int .i64 (a0.length : Int)))), (10, .d (.lit (.int .i64 v11))), (14, .d (.lit (.bool false)))] [(4, some (.box [.d (.lit (.int .i64 x32.Tx)), .d (.lit (.int .i64 x32.Kind)), .d (.lit (.string x32.Key))]))]) (by simp; exact Sub.table (by simp) (by simp)) ?_
          refine AW.seqR ?_
          refine Chain.runK [] 2 fun K hK => ?_; simp; refine hK _ _ ?_; clear hK K
          refine Chain.sub (S' := mk 30 [] [(4, .ptr 4 0 0), (8, .d (.sl (a0.map cS27))), (9, .d (.lit (.int .i64 (a0.length : Int)))), (10, .d (.lit (.int .i64 v11))), (21, .d (.lit (.int .i64 x32.Tx)))] [(4, some (.box [.d (.lit (.int .i64 x32.Tx)), .d (.lit (.int .i64 x32.Kind)), .d (.lit (.string x32.Key))]))]) (Sub.table (by simp) (by simp)) ?_
          replace h := bsome h; obtain ⟨r36, hr36, h⟩ := h
          refine Chain.callL (d := 22) (p39 N x32.Tx 0 19 r36 hr36) (by simp) rfl rfl (by simp <;> rfl) (by simp <;> rfl) ent39 (by simp <;> rfl) ?_
          refine Chain.sub (S' := mk 30 [] [(4, .ptr 4 0 0), (8, .d (.sl (a0.map cS27))), (9, .d (.lit (.int .i64 (a0.length : Int)))), (10, .d (.lit (.int .i64 v11))), (21, .d (.lit (.int .i64 x32.Tx))), (22, .d (.lit (.bool r36)))] [(4, some (.box [.d (.lit (.int .i64 x32.Tx)), .d (.lit (.int .i64 x32.Kind)), .d (.lit (.string x32.Key))]))]) (by simp; exact Sub.table (by simp) (by simp)) ?_
          refine Chain.runK [] 2 fun K hK => ?_; simp; refine hK _ _ ?_; clear hK K
          refine Chain.sub (S' := mk 30 [] [(4, .ptr 4 0 0), (8, .d (.sl (a0.map cS27))), (9, .d (.lit (.int .i64 (a0.length : Int)))), (10, .d (.lit (.int .i64 v11))), (19, .d (.lit (.bool (!r36))))] [(4, some (.box [.d (.lit (.int .i64 x32.Tx)), .d (.lit (.int .i64 x32.Kind)), .d (.lit (.string x32.Key))]))]) (Sub.table (by simp) (by simp)) ?_
          refine Chain.nil ?_
          replace h := isome h; rcases h with ⟨c37, h⟩ | ⟨c37, h⟩
          · have c37_ : (!r36) = true := c37
            refine AW.condT (b := (!r36)) rfl c37_ ?_
            refine AW.sub (Sub.bool 19 (b := (!r36)) rfl c37_) ?_
            refine AW.sub (S' := mk 30 [] [(4, .ptr 4 0 0), (8, .d (.sl (a0.map cS27))), (9, .d (.lit (.int .i64 (a0.length : Int)))), (10, .d (.lit (.int .i64 v11))), (19, .d (.lit (.bool true)))] [(4, some (.box [.d (.lit (.int .i64 x32.Tx)), .d (.lit (.int .i64 x32.Kind)), .d (.lit (.string x32.Key))]))]) (by simp; exact Sub.table (by simp) (by simp)) ?_
            refine AW.seqR ?_
            refine Chain.runK [] 1 fun K hK => ?_; simp; refine hK _ _ ?_; clear hK K
            refine Chain.sub (S' := mk 30 [] [(2, .d (.lit (.int .i64 1)))] []) (Sub.table (by simp) (by simp)) ?_
            refine Chain.nil ?_
            refine AW.ret ?_
            cases h
            refine blockQ.ret ?_
            refine blockQ.ret ?_
            refine thenQ_pass (by simp) ?_
            refine PostI.out (by simp) ?_
            rintro rfl
            refine blockQ.ret ?_
            refine PostJ.out (by simp) ?_
            rintro rfl
            refine thenQ_pass (by simp) ?_
            exact FinC.ret (by simp) (by simp)
          · have c37_ : (!r36) = false := Bool.eq_false_iff.2 c37
            refine AW.condF (b := (!r36)) rfl c37_ ?_
            refine AW.sub (Sub.bool 19 (b := (!r36)) rfl c37_) ?_
            refine AW.sub (S' := mk 30 [] [(4, .ptr 4 0 0), (8, .d (.sl (a0.map cS27))), (9, .d (.lit (.int .i64 (a0.length : Int)))), (10, .d (.lit (.int .i64 v11))), (19, .d (.lit (.bool false)))] [(4, some (.box [.d (.lit (.int .i64 x32.Tx)), .d (.lit (.int .i64 x32.Kind)), .d (.lit (.string x32.Key))]))]) (by simp; exact Sub.table (by simp) (by simp)) ?_
            refine AW.seqR ?_
            refine Chain.runK [] 5 fun K hK => ?_; simp; refine hK _ _ ?_; clear hK K
            refine Chain.sub (S' := mk 30 [] [(8, .d (.sl (a0.map cS27))), (9, .d (.lit (.int .i64 (a0.length : Int)))), (10, .d (.lit (.int .i64 v11))), (24, .d (.lit (.bool (decide ((x32.Key.size : Int) > 24)))))] []) (Sub.table (by simp) (by simp)) ?_
            refine Chain.nil ?_
            replace h := isome h; rcases h with ⟨c38, h⟩ | ⟨c38, h⟩
            · have c38_ : decide ((x32.Key.size : Int) > 24) = true := decide_eq_true c38
              refine AW.condT (b := decide ((x32.Key.size : Int) > 24)) rfl c38_ ?_
              refine AW.sub (Sub.bool 24 (b := decide ((x32.Key.size : Int) > 24)) rfl c38_) ?_
              refine AW.sub (S' := mk 30 [] [(8, .d (.sl (a0.map cS27))), (9, .d (.lit (.int .i64 (a0.length : Int)))), (10, .d (.lit (.int .i64 v11))), (24, .d (.lit (.bool true)))] []) (by simp; exact Sub.table (by simp) (by simp)) ?_
              refine AW.seqR ?_
              refine Chain.runK [] 1 fun K hK => ?_; simp; refine hK _ _ ?_; clear hK K
              refine Chain.sub (S' := mk 30 [] [(2, .d (.lit (.int .i64 2)))] []) (Sub.table (by simp) (by simp)) ?_
              refine Chain.nil ?_
              refine AW.ret ?_
              cases h
              refine blockQ.ret ?_
              refine blockQ.ret ?_
              refine thenQ_pass (by simp) ?_
              refine PostI.out (by simp) ?_
              rintro rfl
              refine blockQ.ret ?_
              refine PostJ.out (by simp) ?_
              rintro rfl
              refine thenQ_pass (by simp) ?_
              exact FinC.ret (by simp) (by simp)
            · have c38_ : decide ((x32.Key.size : Int) > 24) = false := decide_eq_false c38
              refine AW.condF (b := decide ((x32.Key.size : Int) > 24)) rfl c38_ ?_
              refine AW.sub (Sub.bool 24 (b := decide ((x32.Key.size : Int) > 24)) rfl c38_) ?_
              refine AW.sub (S' := mk 30 [] [(8, .d (.sl (a0.map cS27))), (9, .d (.lit (.int .i64 (a0.length : Int)))), (10, .d (.lit (.int .i64 v11))), (24, .d (.lit (.bool false)))] []) (by simp; exact Sub.table (by simp) (by simp)) ?_
              refine AW.skip ?_
              refine blockQ.normal ?_
              refine blockQ.normal ?_
              refine thenQ_normal ?_
              refine AW.region ?_
              replace h := bsome h; obtain ⟨v39, hv39, h⟩ := h
              have hv39 := chkI_some hv39
              refine Chain.runK [] 2 fun K hK => ?_; simp [hv39]; refine hK _ _ ?_; clear hK K
              refine Chain.sub (S' := mk 30 [] [(8, .d (.sl (a0.map cS27))), (9, .d (.lit (.int .i64 (a0.length : Int)))), (10, .d (.lit (.int .i64 v39)))] []) (Sub.table (by simp) (by simp)) ?_
              refine Chain.nil ?_
              cases h
              refine PostI.next ?_
              exact (Sub.table (by simp) (by simp))
      · have c31_ : decide (v11 < (a0.length : Int)) = false := decide_eq_false c31
        refine AW.condF (b := decide (v11 < (a0.length : Int))) rfl c31_ ?_
        refine AW.sub (Sub.bool 11 (b := decide (v11 < (a0.length : Int))) rfl c31_) ?_
        refine AW.sub (S' := mk 30 [] [(8, .d (.sl (a0.map cS27))), (9, .d (.lit (.int .i64 (a0.length : Int)))), (10, .d (.lit (.int .i64 v11))), (11, .d (.lit (.bool false)))] []) (by simp; exact Sub.table (by simp) (by simp)) ?_
        refine AW.exit ?_
        cases h
        refine thenQ_pass (by simp) ?_
        refine PostI.out (by simp) ?_
        rintro rfl
        refine blockQ.hit ?_
        refine PostJ.next ?_
        exact (Sub.table (by simp) (by simp))
    · rintro ⟨⟩ h
      refine thenQ_normal ?_
      refine AW.seqR ?_
      refine Chain.runK [] 1 fun K hK => ?_; simp; refine hK _ _ ?_; clear hK K
      refine Chain.sub (S' := mk 30 [] [(2, .d (.lit (.int .i64 0)))] []) (Sub.table (by simp) (by simp)) ?_
      refine Chain.nil ?_
      refine AW.ret ?_
      cases h
      exact FinC.ret (by simp) (by simp)

/-- (stemma/stemref5.Op).Conflicts -/
def d21 (N : Nat) (a0 : S27) (a1 : S27) : Option Bool :=
  Option.bind (α := Bool) (
    if decide (a0.Key = a1.Key) = true then (
      if (a0.Tx != a1.Tx) then (
        (chkI (a0.Kind + a1.Kind)).bind fun v7 =>
        some (decide (v7 > 2))
      ) else
      some false
    ) else
    some false
  ) fun (v4 : Bool) =>
  some v4
set_option maxRecDepth 100000 in
set_option maxHeartbeats 4000000 in
theorem p21 (N : Nat) (a0 : S27) (a1 : S27) (r : Bool) (h : d21 N a0 a1 = some r) : FunC Try.prog 21 [.agg [.d (.lit (.int .i64 a0.Tx)), .d (.lit (.int .i64 a0.Kind)), .d (.lit (.string a0.Key))], .agg [.d (.lit (.int .i64 a1.Tx)), .d (.lit (.int .i64 a1.Kind)), .d (.lit (.string a1.Key))]] (.d (.lit (.bool r))) := by
  unfold d21 at h
  refine FunC.enter 25 [(0, .agg [.d (.lit (.int .i64 a0.Tx)), .d (.lit (.int .i64 a0.Kind)), .d (.lit (.string a0.Key))]), (1, .agg [.d (.lit (.int .i64 a1.Tx)), .d (.lit (.int .i64 a1.Kind)), .d (.lit (.string a1.Key))])] (by simp) Try.func21 rfl (of_decide_eq_true rfl) rfl rfl ?_
  refine AW.seqR ?_
  refine Chain.runK [] 3 fun K hK => ?_; simp; refine hK _ _ ?_; clear hK K
  refine Chain.sub (S' := mk 25 [] [(2, .ptr 2 0 0), (3, .ptr 3 0 0)] [(2, some (.box [.d (.lit (.int .i64 a0.Tx)), .d (.lit (.int .i64 a0.Kind)), .d (.lit (.string a0.Key))])), (3, some (.box [.d (.lit (.int .i64 a1.Tx)), .d (.lit (.int .i64 a1.Kind)), .d (.lit (.string a1.Key))]))]) (Sub.table (by simp) (by simp)) ?_
  refine Chain.nil ?_
  replace h := bsome h; obtain ⟨v4, hj, h⟩ := h
  refine AW.cutR (mk 25 [] [(4, .d (.lit (.bool v4)))] []) ?_ ?_
  · clear h; have h := hj; clear hj
    refine Chain.runK [] 6 fun K hK => ?_; simp; refine hK _ _ ?_; clear hK K
    refine Chain.sub (S' := mk 25 [] [(2, .ptr 2 0 0), (3, .ptr 3 0 0), (10, .d (.lit (.bool (decide (a0.Key = a1.Key)))))] [(2, some (.box [.d (.lit (.int .i64 a0.Tx)), .d (.lit (.int .i64 a0.Kind)), .d (.lit (.string a0.Key))])), (3, some (.box [.d (.lit (.int .i64 a1.Tx)), .d (.lit (.int .i64 a1.Kind)), .d (.lit (.string a1.Key))]))]) (Sub.table (by simp) (by simp)) ?_
    replace h := isome h; rcases h with ⟨c5, h⟩ | ⟨c5, h⟩
    · have c5_ : decide (a0.Key = a1.Key) = true := c5
      refine Chain.sub (Sub.bool 10 (b := decide (a0.Key = a1.Key)) rfl c5_) ?_
      refine Chain.sub (S' := mk 25 [] [(2, .ptr 2 0 0), (3, .ptr 3 0 0), (10, .d (.lit (.bool true)))] [(2, some (.box [.d (.lit (.int .i64 a0.Tx)), .d (.lit (.int .i64 a0.Kind)), .d (.lit (.string a0.Key))])), (3, some (.box [.d (.lit (.int .i64 a1.Tx)), .d (.lit (.int .i64 a1.Kind)), .d (.lit (.string a1.Key))]))]) (by simp; exact Sub.table (by simp) (by simp)) ?_
      refine Chain.runK [] 7 fun K hK => ?_; simp; refine hK _ _ ?_; clear hK K
      refine Chain.sub (S' := mk 25 [] [(2, .ptr 2 0 0), (3, .ptr 3 0 0), (17, .d (.lit (.bool (a0.Tx != a1.Tx))))] [(2, some (.box [.d (.lit (.int .i64 a0.Tx)), .d (.lit (.int .i64 a0.Kind)), .d (.lit (.string a0.Key))])), (3, some (.box [.d (.lit (.int .i64 a1.Tx)), .d (.lit (.int .i64 a1.Kind)), .d (.lit (.string a1.Key))]))]) (Sub.table (by simp) (by simp)) ?_
      replace h := isome h; rcases h with ⟨c6, h⟩ | ⟨c6, h⟩
      · have c6_ : (a0.Tx != a1.Tx) = true := c6
        refine Chain.sub (Sub.bool 17 (b := (a0.Tx != a1.Tx)) rfl c6_) ?_
        refine Chain.sub (S' := mk 25 [] [(2, .ptr 2 0 0), (3, .ptr 3 0 0), (17, .d (.lit (.bool true)))] [(2, some (.box [.d (.lit (.int .i64 a0.Tx)), .d (.lit (.int .i64 a0.Kind)), .d (.lit (.string a0.Key))])), (3, some (.box [.d (.lit (.int .i64 a1.Tx)), .d (.lit (.int .i64 a1.Kind)), .d (.lit (.string a1.Key))]))]) (by simp; exact Sub.table (by simp) (by simp)) ?_
        replace h := bsome h; obtain ⟨v7, hv7, h⟩ := h
        have hv7 := chkI_some hv7
        refine Chain.runK [] 8 fun K hK => ?_; simp [hv7]; refine hK _ _ ?_; clear hK K
        refine Chain.sub (S' := mk 25 [] [(4, .d (.lit (.bool (decide (v7 > 2)))))] []) (Sub.table (by simp) (by simp)) ?_
        cases h
        exact Chain.nil (Sub.table (by simp) (by simp))
      · have c6_ : (a0.Tx != a1.Tx) = false := Bool.eq_false_iff.2 c6
        refine Chain.sub (Sub.bool 17 (b := (a0.Tx != a1.Tx)) rfl c6_) ?_
        refine Chain.sub (S' := mk 25 [] [(2, .ptr 2 0 0), (3, .ptr 3 0 0), (17, .d (.lit (.bool false)))] [(2, some (.box [.d (.lit (.int .i64 a0.Tx)), .d (.lit (.int .i64 a0.Kind)), .d (.lit (.string a0.Key))])), (3, some (.box [.d (.lit (.int .i64 a1.Tx)), .d (.lit (.int .i64 a1.Kind)), .d (.lit (.string a1.Key))]))]) (by simp; exact Sub.table (by simp) (by simp)) ?_
        refine Chain.runK [] 8 fun K hK => ?_; simp; refine hK _ _ ?_; clear hK K
        refine Chain.sub (S' := mk 25 [] [(4, .d (.lit (.bool false)))] []) (Sub.table (by simp) (by simp)) ?_
        cases h
        exact Chain.nil (Sub.table (by simp) (by simp))
    · have c5_ : decide (a0.Key = a1.Key) = false := Bool.eq_false_iff.2 c5
      refine Chain.sub (Sub.bool 10 (b := decide (a0.Key = a1.Key)) rfl c5_) ?_
      refine Chain.sub (S' := mk 25 [] [(2, .ptr 2 0 0), (3, .ptr 3 0 0), (10, .d (.lit (.bool false)))] [(2, some (.box [.d (.lit (.int .i64 a0.Tx)), .d (.lit (.int .i64 a0.Kind)), .d (.lit (.string a0.Key))])), (3, some (.box [.d (.lit (.int .i64 a1.Tx)), .d (.lit (.int .i64 a1.Kind)), .d (.lit (.string a1.Key))]))]) (by simp; exact Sub.table (by simp) (by simp)) ?_
      refine Chain.runK [] 15 fun K hK => ?_; simp; refine hK _ _ ?_; clear hK K
      refine Chain.sub (S' := mk 25 [] [(4, .d (.lit (.bool false)))] []) (Sub.table (by simp) (by simp)) ?_
      cases h
      exact Chain.nil (Sub.table (by simp) (by simp))
  · clear hj
    refine AW.ret ?_
    cases h
    exact FinC.ret (by simp) (by simp)

/-- stemma/stemref5.Precedes -/
def d19 (N : Nat) (a0 : (List S27)) (a1 : Int) (a2 : Int) : Option Bool :=
  bindO (β := Unit) (ρ := Bool) (
    iterN (σ := Int) (ρ := (Out Unit Bool)) (fun (v94 : Int) =>
      if v94 < (a0.length : Int) then (
        (chkI (v94 + 1)).bind fun v283 =>
        bindO (β := Unit) (ρ := (Int ⊕ (Out Unit Bool))) (
          iterN (σ := Int) (ρ := (Out Unit (Int ⊕ (Out Unit Bool)))) (fun (v306 : Int) =>
            if v306 < (a0.length : Int) then (
              Option.bind (α := Bool) (
                (idx a0 v94).bind fun x363 =>
                if (x363.Tx == a1) then (
                  (idx a0 v306).bind fun x366 =>
                  if (x366.Tx == a2) then (
                    (idx a0 v94).bind fun x369 =>
                    (idx a0 v306).bind fun x370 =>
                    (d21 N x369 x370).bind fun r371 =>
                    some r371
                  ) else
                  some false
                ) else
                some false
              ) fun (v362 : Bool) =>
              if v362 = true then (
                some (.inr (.ret (.inr (.ret true))))
              ) else
              (chkI (v306 + 1)).bind fun v373 =>
              some (.inl v373)
            ) else
            some (.inr (.go ()))
          ) N v283
        ) fun (_ : Unit) =>
        (chkI (v94 + 1)).bind fun v374 =>
        some (.inl v374)
      ) else
      some (.inr (.go ()))
    ) N 0
  ) fun (_ : Unit) =>
  some false
set_option maxRecDepth 100000 in
set_option maxHeartbeats 4000000 in
theorem p19 (N : Nat) (a0 : (List S27)) (a1 : Int) (a2 : Int) (r : Bool) (h : d19 N a0 a1 a2 = some r) : FunC Try.prog 19 [.d (.sl (a0.map cS27)), .d (.lit (.int .i64 a1)), .d (.lit (.int .i64 a2))] (.d (.lit (.bool r))) := by
  unfold d19 at h
  refine FunC.enter 50 [(0, .d (.sl (a0.map cS27))), (1, .d (.lit (.int .i64 a1))), (2, .d (.lit (.int .i64 a2)))] (by simp) Try.func19 rfl (of_decide_eq_true rfl) rfl rfl ?_
  refine AW.seqR ?_
  refine Chain.runK [] 1 fun K hK => ?_; simp; refine hK _ _ ?_; clear hK K
  refine Chain.sub (S' := mk 50 [] [(0, .d (.sl (a0.map cS27))), (1, .d (.lit (.int .i64 a1))), (2, .d (.lit (.int .i64 a2)))] []) (Sub.table (by simp) (by simp)) ?_
  refine Chain.nil ?_
  refine AW.seq ?_
  refine AW.seqR ?_
  refine Chain.runK [] 3 fun K hK => ?_; simp; refine hK _ _ ?_; clear hK K
  refine Chain.sub (S' := mk 50 [] [(0, .d (.sl (a0.map cS27))), (1, .d (.lit (.int .i64 a1))), (2, .d (.lit (.int .i64 a2))), (10, .d (.lit (.int .i64 (a0.length : Int)))), (11, .d (.lit (.int .i64 0)))] []) (Sub.table (by simp) (by simp)) ?_
  refine Chain.nil ?_
  refine AW.lastJ (fun (_ : Unit) => mk 50 [] [] []) h ?_ ?_ <;> clear h
  · intro o h
    refine AW.block ?_
    refine AW.iter (fun (v94 : Int) => mk 50 [] [(0, .d (.sl (a0.map cS27))), (1, .d (.lit (.int .i64 a1))), (2, .d (.lit (.int .i64 a2))), (10, .d (.lit (.int .i64 (a0.length : Int)))), (11, .d (.lit (.int .i64 v94)))] []) h (Sub.table (by simp) (by simp)) ?_
    clear h
    rintro v94 x h
    refine AW.seqR ?_
    refine Chain.runK [] 1 fun K hK => ?_; simp; refine hK _ _ ?_; clear hK K
    refine Chain.sub (S' := mk 50 [] [(0, .d (.sl (a0.map cS27))), (1, .d (.lit (.int .i64 a1))), (2, .d (.lit (.int .i64 a2))), (10, .d (.lit (.int .i64 (a0.length : Int)))), (11, .d (.lit (.int .i64 v94))), (12, .d (.lit (.bool (decide (v94 < (a0.length : Int))))))] []) (Sub.table (by simp) (by simp)) ?_
    refine Chain.nil ?_
    refine AW.seq ?_
    replace h := isome h; rcases h with ⟨c282, h⟩ | ⟨c282, h⟩
    · have c282_ : decide (v94 < (a0.length : Int)) = true := decide_eq_true c282
      refine AW.condT (b := decide (v94 < (a0.length : Int))) rfl c282_ ?_
      refine AW.sub (Sub.bool 12 (b := decide (v94 < (a0.length : Int))) rfl c282_) ?_
      refine AW.sub (S' := mk 50 [] [(0, .d (.sl (a0.map cS27))), (1, .d (.lit (.int .i64 a1))), (2, .d (.lit (.int .i64 a2))), (10, .d (.lit (.int .i64 (a0.length : Int)))), (11, .d (.lit (.int .i64 v94))), (12, .d (.lit (.bool true)))] []) (by simp; exact Sub.table (by simp) (by simp)) ?_
      refine AW.skip ?_
      refine thenQ_normal ?_
      refine AW.seq ?_
      refine AW.block ?_
      refine AW.seqR ?_
      refine Chain.runK [] 2 fun K hK => ?_; simp; refine hK _ _ ?_; clear hK K
      refine Chain.sub (S' := mk 50 [] [(0, .d (.sl (a0.map cS27))), (1, .d (.lit (.int .i64 a1))), (2, .d (.lit (.int .i64 a2))), (7, .d (.lit (.int .i64 v94))), (10, .d (.lit (.int .i64 (a0.length : Int)))), (11, .d (.lit (.int .i64 v94)))] []) (Sub.table (by simp) (by simp)) ?_
      refine Chain.nil ?_
      refine AW.seqR ?_
      replace h := bsome h; obtain ⟨v283, hv283, h⟩ := h
      have hv283 := chkI_some hv283
      refine Chain.runK [] 3 fun K hK => ?_; simp [hv283]; refine hK _ _ ?_; clear hK K
      refine Chain.sub (S' := mk 50 [] [(0, .d (.sl (a0.map cS27))), (1, .d (.lit (.int .i64 a1))), (2, .d (.lit (.int .i64 a2))), (7, .d (.lit (.int .i64 v94))), (8, .d (.lit (.int .i64 v283))), (10, .d (.lit (.int .i64 (a0.length : Int)))), (11, .d (.lit (.int .i64 v94)))] []) (Sub.table (by simp) (by simp)) ?_
      refine Chain.nil ?_
      refine AW.lastJ (fun (_ : Unit) => mk 50 [] [(0, .d (.sl (a0.map cS27))), (1, .d (.lit (.int .i64 a1))), (2, .d (.lit (.int .i64 a2))), (10, .d (.lit (.int .i64 (a0.length : Int)))), (11, .d (.lit (.int .i64 v94)))] []) h ?_ ?_ <;> clear h
      · intro o h
        refine AW.block ?_
        refine AW.iter (fun (v306 : Int) => mk 50 [] [(0, .d (.sl (a0.map cS27))), (1, .d (.lit (.int .i64 a1))), (2, .d (.lit (.int .i64 a2))), (7, .d (.lit (.int .i64 v94))), (8, .d (.lit (.int .i64 v306))), (10, .d (.lit (.int .i64 (a0.length : Int)))), (11, .d (.lit (.int .i64 v94)))] []) h (Sub.table (by simp) (by simp)) ?_
        clear h
        rintro v306 x h
        refine AW.seq ?_
        refine AW.seqR ?_
        refine Chain.runK [] 4 fun K hK => ?_; simp; refine hK _ _ ?_; clear hK K
        refine Chain.sub (S' := mk 50 [] [(0, .d (.sl (a0.map cS27))), (1, .d (.lit (.int .i64 a1))), (2, .d (.lit (.int .i64 a2))), (7, .d (.lit (.int .i64 v94))), (8, .d (.lit (.int .i64 v306))), (10, .d (.lit (.int .i64 (a0.length : Int)))), (11, .d (.lit (.int .i64 v94))), (19, .d (.lit (.bool (decide (v306 < (a0.length : Int))))))] []) (Sub.table (by simp) (by simp)) ?_
        refine Chain.nil ?_
        replace h := isome h; rcases h with ⟨c352, h⟩ | ⟨c352, h⟩
        · have c352_ : decide (v306 < (a0.length : Int)) = true := decide_eq_true c352
          refine AW.condT (b := decide (v306 < (a0.length : Int))) rfl c352_ ?_
          refine AW.sub (Sub.bool 19 (b := decide (v306 < (a0.length : Int))) rfl c352_) ?_
          refine AW.sub (S' := mk 50 [] [(0, .d (.sl (a0.map cS27))), (1, .d (.lit (.int .i64 a1))), (2, .d (.lit (.int .i64 a2))), (7, .d (.lit (.int .i64 v94))), (8, .d (.lit (.int .i64 v306))), (10, .d (.lit (.int .i64 (a0.length : Int)))), (11, .d (.lit (.int .i64 v94))), (19, .d (.lit (.bool true)))] []) (by simp; exact Sub.table (by simp) (by simp)) ?_
          refine AW.skip ?_
          refine thenQ_normal ?_
          refine AW.seq ?_
          refine AW.block ?_
          replace h := bsome h; obtain ⟨v362, hj, h⟩ := h
          refine AW.cutQ (by kernel_rfl) (by kernel_rfl) (mk 50 [] [(0, .d (.sl (a0.map cS27))), (1, .d (.lit (.int .i64 a1))), (2, .d (.lit (.int .i64 a2))), (7, .d (.lit (.int .i64 v94))), (8, .d (.lit (.int .i64 v306))), (10, .d (.lit (.int .i64 (a0.length : Int)))), (11, .d (.lit (.int .i64 v94))), (48, .d (.lit (.bool v362)))] []) ?_ ?_
          · clear h; have h := hj; clear hj
            replace h := bsome h; obtain ⟨x363, hx363, h⟩ := h
            obtain ⟨k364, hx363k, hx363, hx363a, hx363b⟩ := idx_some hx363
            refine Chain.runQ 8 fun K hK => ?_; simp [hx363, hx363k, hx363a]; refine hK _ _ ?_; clear hK K
            refine Chain.sub (S' := mk 50 [] [(0, .d (.sl (a0.map cS27))), (1, .d (.lit (.int .i64 a1))), (2, .d (.lit (.int .i64 a2))), (7, .d (.lit (.int .i64 v94))), (8, .d (.lit (.int .i64 v306))), (10, .d (.lit (.int .i64 (a0.length : Int)))), (11, .d (.lit (.int .i64 v94))), (29, .d (.lit (.bool (x363.Tx == a1))))] []) (Sub.table (by simp) (by simp)) ?_
            replace h := isome h; rcases h with ⟨c365, h⟩ | ⟨c365, h⟩
            · have c365_ : (x363.Tx == a1) = true := c365
              refine Chain.sub (Sub.bool 29 (b := (x363.Tx == a1)) rfl c365_) ?_
              refine Chain.sub (S' := mk 50 [] [(0, .d (.sl (a0.map cS27))), (1, .d (.lit (.int .i64 a1))), (2, .d (.lit (.int .i64 a2))), (7, .d (.lit (.int .i64 v94))), (8, .d (.lit (.int .i64 v306))), (10, .d (.lit (.int .i64 (a0.length : Int)))), (11, .d (.lit (.int .i64 v94))), (29, .d (.lit (.bool true)))] []) (by simp; exact Sub.table (by simp) (by simp)) ?_
              replace h := bsome h; obtain ⟨x366, hx366, h⟩ := h
              obtain ⟨k367, hx366k, hx366, hx366a, hx366b⟩ := idx_some hx366
              refine Chain.runQ 9 fun K hK => ?_; simp [hx366, hx366k, hx366a]; refine hK _ _ ?_; clear hK K
              refine Chain.sub (S' := mk 50 [] [(0, .d (.sl (a0.map cS27))), (1, .d (.lit (.int .i64 a1))), (2, .d (.lit (.int .i64 a2))), (7, .d (.lit (.int .i64 v94))), (8, .d (.lit (.int .i64 v306))), (10, .d (.lit (.int .i64 (a0.length : Int)))), (11, .d (.lit (.int .i64 v94))), (30, .d (.sl (a0.map cS27))), (31, .d (.lit (.int .i64 v306))), (32, .d (.pim [.lit (.int .i64 x366.Tx), .lit (.int .i64 x366.Kind), .lit (.string x366.Key)])), (33, .d (.pim [.lit (.int .i64 x366.Tx), .lit (.int .i64 x366.Kind), .lit (.string x366.Key)])), (34, .d (.lit (.int .i64 x366.Tx))), (35, .d (.lit (.int .i64 a2))), (36, .d (.lit (.bool (x366.Tx == a2)))), (38, .d (.lit (.bool (x366.Tx == a2))))] []) (Sub.table (by simp) (by simp)) ?_
              replace h := isome h; rcases h with ⟨c368, h⟩ | ⟨c368, h⟩
              · have c368_ : (x366.Tx == a2) = true := c368
                refine Chain.sub (Sub.bool 36 (b := (x366.Tx == a2)) rfl c368_) ?_
                refine Chain.sub (Sub.bool 38 (b := (x366.Tx == a2)) rfl c368_) ?_
                refine Chain.sub (S' := mk 50 [] [(0, .d (.sl (a0.map cS27))), (1, .d (.lit (.int .i64 a1))), (2, .d (.lit (.int .i64 a2))), (7, .d (.lit (.int .i64 v94))), (8, .d (.lit (.int .i64 v306))), (10, .d (.lit (.int .i64 (a0.length : Int)))), (11, .d (.lit (.int .i64 v94))), (30, .d (.sl (a0.map cS27))), (31, .d (.lit (.int .i64 v306))), (32, .d (.pim [.lit (.int .i64 x366.Tx), .lit (.int .i64 x366.Kind), .lit (.string x366.Key)])), (33, .d (.pim [.lit (.int .i64 x366.Tx), .lit (.int .i64 x366.Kind), .lit (.string x366.Key)])), (34, .d (.lit (.int .i64 x366.Tx))), (35, .d (.lit (.int .i64 a2))), (36, .d (.lit (.bool true))), (38, .d (.lit (.bool true)))] []) (by simp; exact Sub.table (by simp) (by simp)) ?_
                replace h := bsome h; obtain ⟨x369, hx369, h⟩ := h
                obtain ⟨hx369, hx369a, hx369b⟩ := idx_some2 hx369 hx363k
                replace h := bsome h; obtain ⟨x370, hx370, h⟩ := h
                obtain ⟨hx370, hx370a, hx370b⟩ := idx_some2 hx370 hx366k
                refine Chain.runQ 8 fun K hK => ?_; simp [hx369, hx363k, hx369a, hx370, hx366k, hx370a]; refine hK _ _ ?_; clear hK K
                refine Chain.sub (S' := mk 50 [] [(0, .d (.sl (a0.map cS27))), (1, .d (.lit (.int .i64 a1))), (2, .d (.lit (.int .i64 a2))), (7, .d (.lit (.int .i64 v94))), (8, .d (.lit (.int .i64 v306))), (10, .d (.lit (.int .i64 (a0.length : Int)))), (11, .d (.lit (.int .i64 v94))), (30, .d (.sl (a0.map cS27))), (31, .d (.lit (.int .i64 v306))), (32, .d (.pim [.lit (.int .i64 x366.Tx), .lit (.int .i64 x366.Kind), .lit (.string x366.Key)])), (33, .d (.pim [.lit (.int .i64 x366.Tx), .lit (.int .i64 x366.Kind), .lit (.string x366.Key)])), (34, .d (.lit (.int .i64 x366.Tx))), (35, .d (.lit (.int .i64 a2))), (36, .d (.lit (.bool true))), (38, .d (.lit (.bool true))), (39, .d (.sl (a0.map cS27))), (40, .d (.lit (.int .i64 v94))), (41, .d (.pim [.lit (.int .i64 x369.Tx), .lit (.int .i64 x369.Kind), .lit (.string x369.Key)])), (42, .agg [.d (.lit (.int .i64 x369.Tx)), .d (.lit (.int .i64 x369.Kind)), .d (.lit (.string x369.Key))]), (43, .d (.sl (a0.map cS27))), (44, .d (.lit (.int .i64 v306))), (45, .d (.pim [.lit (.int .i64 x370.Tx), .lit (.int .i64 x370.Kind), .lit (.string x370.Key)])), (46, .agg [.d (.lit (.int .i64 x370.Tx)), .d (.lit (.int .i64 x370.Kind)), .d (.lit (.string x370.Key))])] []) (Sub.table (by simp) (by simp)) ?_
                replace h := bsome h; obtain ⟨r371, hr371, h⟩ := h
                refine Chain.callL (d := 47) (p21 N x369 x370 r371 hr371) (by simp) rfl rfl (by simp <;> rfl) (by simp <;> rfl) ent21 (by simp <;> rfl) ?_
                refine Chain.sub (S' := mk 50 [] [(0, .d (.sl (a0.map cS27))), (1, .d (.lit (.int .i64 a1))), (2, .d (.lit (.int .i64 a2))), (7, .d (.lit (.int .i64 v94))), (8, .d (.lit (.int .i64 v306))), (10, .d (.lit (.int .i64 (a0.length : Int)))), (11, .d (.lit (.int .i64 v94))), (30, .d (.sl (a0.map cS27))), (31, .d (.lit (.int .i64 v306))), (32, .d (.pim [.lit (.int .i64 x366.Tx), .lit (.int .i64 x366.Kind), .lit (.string x366.Key)])), (33, .d (.pim [.lit (.int .i64 x366.Tx), .lit (.int .i64 x366.Kind), .lit (.string x366.Key)])), (34, .d (.lit (.int .i64 x366.Tx))), (35, .d (.lit (.int .i64 a2))), (36, .d (.lit (.bool true))), (38, .d (.lit (.bool true))), (39, .d (.sl (a0.map cS27))), (40, .d (.lit (.int .i64 v94))), (41, .d (.pim [.lit (.int .i64 x369.Tx), .lit (.int .i64 x369.Kind), .lit (.string x369.Key)])), (42, .agg [.d (.lit (.int .i64 x369.Tx)), .d (.lit (.int .i64 x369.Kind)), .d (.lit (.string x369.Key))]), (43, .d (.sl (a0.map cS27))), (44, .d (.lit (.int .i64 v306))), (45, .d (.pim [.lit (.int .i64 x370.Tx), .lit (.int .i64 x370.Kind), .lit (.string x370.Key)])), (46, .agg [.d (.lit (.int .i64 x370.Tx)), .d (.lit (.int .i64 x370.Kind)), .d (.lit (.string x370.Key))]), (47, .d (.lit (.bool r371)))] []) (by simp; exact Sub.table (by simp) (by simp)) ?_
                refine Chain.runQ 1 fun K hK => ?_; simp; refine hK _ _ ?_; clear hK K
                refine Chain.sub (S' := mk 50 [] [(0, .d (.sl (a0.map cS27))), (1, .d (.lit (.int .i64 a1))), (2, .d (.lit (.int .i64 a2))), (7, .d (.lit (.int .i64 v94))), (8, .d (.lit (.int .i64 v306))), (10, .d (.lit (.int .i64 (a0.length : Int)))), (11, .d (.lit (.int .i64 v94))), (30, .d (.sl (a0.map cS27))), (31, .d (.lit (.int .i64 v306))), (32, .d (.pim [.lit (.int .i64 x366.Tx), .lit (.int .i64 x366.Kind), .lit (.string x366.Key)])), (33, .d (.pim [.lit (.int .i64 x366.Tx), .lit (.int .i64 x366.Kind), .lit (.string x366.Key)])), (34, .d (.lit (.int .i64 x366.Tx))), (35, .d (.lit (.int .i64 a2))), (36, .d (.lit (.bool true))), (39, .d (.sl (a0.map cS27))), (40, .d (.lit (.int .i64 v94))), (41, .d (.pim [.lit (.int .i64 x369.Tx), .lit (.int .i64 x369.Kind), .lit (.string x369.Key)])), (42, .agg [.d (.lit (.int .i64 x369.Tx)), .d (.lit (.int .i64 x369.Kind)), .d (.lit (.string x369.Key))]), (43, .d (.sl (a0.map cS27))), (44, .d (.lit (.int .i64 v306))), (45, .d (.pim [.lit (.int .i64 x370.Tx), .lit (.int .i64 x370.Kind), .lit (.string x370.Key)])), (46, .agg [.d (.lit (.int .i64 x370.Tx)), .d (.lit (.int .i64 x370.Kind)), .d (.lit (.string x370.Key))]), (47, .d (.lit (.bool r371))), (48, .d (.lit (.bool r371)))] []) (Sub.table (by simp) (by simp)) ?_
                cases h
                exact Chain.nil (Sub.table (by simp) (by simp))
              · have c368_ : (x366.Tx == a2) = false := Bool.eq_false_iff.2 c368
                refine Chain.sub (Sub.bool 36 (b := (x366.Tx == a2)) rfl c368_) ?_
                refine Chain.sub (Sub.bool 38 (b := (x366.Tx == a2)) rfl c368_) ?_
                refine Chain.sub (S' := mk 50 [] [(0, .d (.sl (a0.map cS27))), (1, .d (.lit (.int .i64 a1))), (2, .d (.lit (.int .i64 a2))), (7, .d (.lit (.int .i64 v94))), (8, .d (.lit (.int .i64 v306))), (10, .d (.lit (.int .i64 (a0.length : Int)))), (11, .d (.lit (.int .i64 v94))), (30, .d (.sl (a0.map cS27))), (31, .d (.lit (.int .i64 v306))), (32, .d (.pim [.lit (.int .i64 x366.Tx), .lit (.int .i64 x366.Kind), .lit (.string x366.Key)])), (33, .d (.pim [.lit (.int .i64 x366.Tx), .lit (.int .i64 x366.Kind), .lit (.string x366.Key)])), (34, .d (.lit (.int .i64 x366.Tx))), (35, .d (.lit (.int .i64 a2))), (36, .d (.lit (.bool false))), (38, .d (.lit (.bool false)))] []) (by simp; exact Sub.table (by simp) (by simp)) ?_
                refine Chain.runQ 10 fun K hK => ?_; simp; refine hK _ _ ?_; clear hK K
                refine Chain.sub (S' := mk 50 [] [(0, .d (.sl (a0.map cS27))), (1, .d (.lit (.int .i64 a1))), (2, .d (.lit (.int .i64 a2))), (7, .d (.lit (.int .i64 v94))), (8, .d (.lit (.int .i64 v306))), (10, .d (.lit (.int .i64 (a0.length : Int)))), (11, .d (.lit (.int .i64 v94))), (30, .d (.sl (a0.map cS27))), (31, .d (.lit (.int .i64 v306))), (32, .d (.pim [.lit (.int .i64 x366.Tx), .lit (.int .i64 x366.Kind), .lit (.string x366.Key)])), (33, .d (.pim [.lit (.int .i64 x366.Tx), .lit (.int .i64 x366.Kind), .lit (.string x366.Key)])), (34, .d (.lit (.int .i64 x366.Tx))), (35, .d (.lit (.int .i64 a2))), (36, .d (.lit (.bool false))), (39, .tup []), (40, .tup []), (41, .tup []), (42, .tup []), (43, .tup []), (44, .tup []), (45, .tup []), (46, .tup []), (47, .tup []), (48, .d (.lit (.bool false)))] []) (Sub.table (by simp) (by simp)) ?_
                cases h
                exact Chain.nil (Sub.table (by simp) (by simp))
            · have c365_ : (x363.Tx == a1) = false := Bool.eq_false_iff.2 c365
              refine Chain.sub (Sub.bool 29 (b := (x363.Tx == a1)) rfl c365_) ?_
              refine Chain.sub (S' := mk 50 [] [(0, .d (.sl (a0.map cS27))), (1, .d (.lit (.int .i64 a1))), (2, .d (.lit (.int .i64 a2))), (7, .d (.lit (.int .i64 v94))), (8, .d (.lit (.int .i64 v306))), (10, .d (.lit (.int .i64 (a0.length : Int)))), (11, .d (.lit (.int .i64 v94))), (29, .d (.lit (.bool false)))] []) (by simp; exact Sub.table (by simp) (by simp)) ?_
              refine Chain.runQ 19 fun K hK => ?_; simp; refine hK _ _ ?_; clear hK K
              refine Chain.sub (S' := mk 50 [] [(0, .d (.sl (a0.map cS27))), (1, .d (.lit (.int .i64 a1))), (2, .d (.lit (.int .i64 a2))), (7, .d (.lit (.int .i64 v94))), (8, .d (.lit (.int .i64 v306))), (10, .d (.lit (.int .i64 (a0.length : Int)))), (11, .d (.lit (.int .i64 v94))), (30, .tup []), (31, .tup []), (32, .tup []), (33, .tup []), (34, .tup []), (35, .tup []), (36, .tup []), (39, .tup []), (40, .tup []), (41, .tup []), (42, .tup []), (43, .tup []), (44, .tup []), (45, .tup []), (46, .tup []), (47, .tup []), (48, .d (.lit (.bool false)))] []) (Sub.table (by simp) (by simp)) ?_
              cases h
              exact Chain.nil (Sub.table (by simp) (by simp))
          · clear hj
            replace h := isome h; rcases h with ⟨c372, h⟩ | ⟨c372, h⟩
            · have c372_ : v362 = true := c372
              refine AW.condT (b := v362) rfl c372_ ?_
              refine AW.sub (Sub.bool 48 (b := v362) rfl c372_) ?_
              refine AW.sub (S' := mk 50 [] [(0, .d (.sl (a0.map cS27))), (1, .d (.lit (.int .i64 a1))), (2, .d (.lit (.int .i64 a2))), (7, .d (.lit (.int .i64 v94))), (8, .d (.lit (.int .i64 v306))), (10, .d (.lit (.int .i64 (a0.length : Int)))), (11, .d (.lit (.int .i64 v94))), (48, .d (.lit (.bool true)))] []) (by simp; exact Sub.table (by simp) (by simp)) ?_
              refine AW.seqR ?_
              refine Chain.runK [] 1 fun K hK => ?_; simp; refine hK _ _ ?_; clear hK K
              refine Chain.sub (S' := mk 50 [] [(6, .d (.lit (.bool true)))] []) (Sub.table (by simp) (by simp)) ?_
              refine Chain.nil ?_
              refine AW.ret ?_
              cases h
              refine blockQ.ret ?_
              refine thenQ_pass (by simp) ?_
              refine PostI.out (by simp) ?_
              rintro rfl
              refine blockQ.ret ?_
              refine PostJ.out (by simp) ?_
              rintro rfl
              refine blockQ.ret ?_
              refine thenQ_pass (by simp) ?_
              refine PostI.out (by simp) ?_
              rintro rfl
              refine blockQ.ret ?_
              refine PostJ.out (by simp) ?_
              rintro rfl
              refine thenQ_pass (by simp) ?_
              exact FinC.ret (by simp) (by simp)
            · have c372_ : v362 = false := Bool.eq_false_iff.2 c372
              refine AW.condF (b := v362) rfl c372_ ?_
              refine AW.sub (Sub.bool 48 (b := v362) rfl c372_) ?_
              refine AW.sub (S' := mk 50 [] [(0, .d (.sl (a0.map cS27))), (1, .d (.lit (.int .i64 a1))), (2, .d (.lit (.int .i64 a2))), (7, .d (.lit (.int .i64 v94))), (8, .d (.lit (.int .i64 v306))), (10, .d (.lit (.int .i64 (a0.length : Int)))), (11, .d (.lit (.int .i64 v94))), (48, .d (.lit (.bool false)))] []) (by simp; exact Sub.table (by simp) (by simp)) ?_
              refine AW.skip ?_
              refine blockQ.normal ?_
              refine thenQ_normal ?_
              refine AW.region ?_
              replace h := bsome h; obtain ⟨v373, hv373, h⟩ := h
              have hv373 := chkI_some hv373
              refine Chain.runK [] 3 fun K hK => ?_; simp [hv373]; refine hK _ _ ?_; clear hK K
              refine Chain.sub (S' := mk 50 [] [(0, .d (.sl (a0.map cS27))), (1, .d (.lit (.int .i64 a1))), (2, .d (.lit (.int .i64 a2))), (7, .d (.lit (.int .i64 v94))), (8, .d (.lit (.int .i64 v373))), (10, .d (.lit (.int .i64 (a0.length : Int)))), (11, .d (.lit (.int .i64 v94)))] []) (Sub.table (by simp) (by simp)) ?_
              refine Chain.nil ?_
              cases h
              refine PostI.next ?_
              exact (Sub.table (by simp) (by simp))
        · have c352_ : decide (v306 < (a0.length : Int)) = false := decide_eq_false c352
          refine AW.condF (b := decide (v306 < (a0.length : Int))) rfl c352_ ?_
          refine AW.sub (Sub.bool 19 (b := decide (v306 < (a0.length : Int))) rfl c352_) ?_
          refine AW.sub (S' := mk 50 [] [(0, .d (.sl (a0.map cS27))), (1, .d (.lit (.int .i64 a1))), (2, .d (.lit (.int .i64 a2))), (7, .d (.lit (.int .i64 v94))), (8, .d (.lit (.int .i64 v306))), (10, .d (.lit (.int .i64 (a0.length : Int)))), (11, .d (.lit (.int .i64 v94))), (19, .d (.lit (.bool false)))] []) (by simp; exact Sub.table (by simp) (by simp)) ?_
          refine AW.exit ?_
          cases h
          refine thenQ_pass (by simp) ?_
          refine PostI.out (by simp) ?_
          rintro rfl
          refine blockQ.hit ?_
          refine PostJ.next ?_
          exact (Sub.table (by simp) (by simp))
      · rintro ⟨⟩ h
        refine blockQ.normal ?_
        refine thenQ_normal ?_
        refine AW.region ?_
        replace h := bsome h; obtain ⟨v374, hv374, h⟩ := h
        have hv374 := chkI_some hv374
        refine Chain.runK [] 2 fun K hK => ?_; simp [hv374]; refine hK _ _ ?_; clear hK K
        refine Chain.sub (S' := mk 50 [] [(0, .d (.sl (a0.map cS27))), (1, .d (.lit (.int .i64 a1))), (2, .d (.lit (.int .i64 a2))), (10, .d (.lit (.int .i64 (a0.length : Int)))), (11, .d (.lit (.int .i64 v374)))] []) (Sub.table (by simp) (by simp)) ?_
        refine Chain.nil ?_
        cases h
        refine PostI.next ?_
        exact (Sub.table (by simp) (by simp))
    · have c282_ : decide (v94 < (a0.length : Int)) = false := decide_eq_false c282
      refine AW.condF (b := decide (v94 < (a0.length : Int))) rfl c282_ ?_
      refine AW.sub (Sub.bool 12 (b := decide (v94 < (a0.length : Int))) rfl c282_) ?_
      refine AW.sub (S' := mk 50 [] [(0, .d (.sl (a0.map cS27))), (1, .d (.lit (.int .i64 a1))), (2, .d (.lit (.int .i64 a2))), (10, .d (.lit (.int .i64 (a0.length : Int)))), (11, .d (.lit (.int .i64 v94))), (12, .d (.lit (.bool false)))] []) (by simp; exact Sub.table (by simp) (by simp)) ?_
      refine AW.exit ?_
      cases h
      refine thenQ_pass (by simp) ?_
      refine PostI.out (by simp) ?_
      rintro rfl
      refine blockQ.hit ?_
      refine PostJ.next ?_
      exact (Sub.table (by simp) (by simp))
  · rintro ⟨⟩ h
    refine thenQ_normal ?_
    refine AW.seqR ?_
    refine Chain.runK [] 1 fun K hK => ?_; simp; refine hK _ _ ?_; clear hK K
    refine Chain.sub (S' := mk 50 [] [(6, .d (.lit (.bool false)))] []) (Sub.table (by simp) (by simp)) ?_
    refine Chain.nil ?_
    refine AW.ret ?_
    cases h
    exact FinC.ret (by simp) (by simp)

end Go.Proofs.Ytabjbkdlacibjaa
