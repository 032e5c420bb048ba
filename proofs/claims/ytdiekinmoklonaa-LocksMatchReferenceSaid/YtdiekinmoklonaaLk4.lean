/- Functions of the program as functional programs; the code computes them. -/
import Derived.Test.YtdiekinmoklonaaLk3
namespace Go.Proofs.Ytdiekinmoklonaa
open Go.Ab Go.Rp
attribute [-simp] List.all_eq_true Array.all_toList Array.all_eq_true

/-- (*stemma/locks.Manager).reaches -/
def d22 (N : Nat) (a0 : S48) (a1 : (List Int)) (a2 : Int) : Option Bool :=
 (d45 N a1).bind fun r1 =>
 bindO (β := Unit) (ρ := Bool) (
  iterN (σ := ((List (Int × Bool)) × (List Int))) (ρ := (Out Unit Bool)) (fun ((m43, l44) : ((List (Int × Bool)) × (List Int))) =>
   if (l44.length : Int) > 0 then (
    (idx l44 0).bind fun x130 =>
    if (x130 == a2) then (
     some (.inr (.ret true))
    ) else
    letv ((mget m43 x130).getD false) fun v132 =>
    if v132 = true then (
     some (.inl (m43, l44.drop 1))
    ) else
    Option.bind (α := List Int) (
     iterN (σ := ((List Int) × Int)) (ρ := List Int) (fun ((l141, v142) : ((List Int) × Int)) =>
      if v142 < (a0.queue.length : Int) then (
       (idx a0.queue v142).bind fun x163 =>
       if (x163.Tx == x130) then (
        (d20 N a0 x163 v142).bind fun r166 =>
        (appL 8 l141 r166).bind fun _l167 =>
        (chkI (v142 + 1)).bind fun v168 =>
        some (.inl ((l141 ++ r166), v168))
       ) else
       (chkI (v142 + 1)).bind fun v169 =>
       some (.inl (l141, v169))
      ) else
      some (.inr l141)
     ) N (l44.drop 1, 0)
    ) fun (l161 : List Int) =>
    some (.inl ((mput m43 x130 true), l161))
   ) else
   some (.inr (.go ()))
  ) N (([] : List (Int × Bool)), r1)
 ) fun (_ : Unit) =>
 some false
set_option maxRecDepth 100000 in
set_option maxHeartbeats 4000000 in
theorem p22 (N : Nat) (a0 : S48) (a1 : (List Int)) (a2 : Int) (r : Bool) (h : d22 N a0 a1 a2 = some r) : FunC Try.prog 22 [.d (.pim [.sl (a0.granted.map cS29), .sl (a0.queue.map cS29)]), .d (.sl (a1.map (cI .i64))), .i a2] (.b r) := by
 unfold d22 at h
 refine FunC.enter 52 [(0, .d (.pim [.sl (a0.granted.map cS29), .sl (a0.queue.map cS29)])), (1, .d (.sl (a1.map (cI .i64)))), (2, .i a2)] (by simp) Try.func22 rfl (of_decide_eq_true rfl) rfl rfl ?_
 refine AW.seqR ?_
 refine Chain.runK [] 1 fun K hK => ?_; simp; refine hK _ _ ?_; clear hK K
 refine Chain.sub (S' := mk 52 [] [(0, .d (.pim [.sl (a0.granted.map cS29), .sl (a0.queue.map cS29)])), (1, .d (.sl (a1.map (cI .i64)))), (2, .i a2)] []) Sub.tt ?_
 refine Chain.nil ?_
 refine AW.seqR ?_
 refine Chain.mmake (.int .i64) (by simp) rfl rfl (by simp) ?_
 refine Chain.sub (S' := mk 52 [] [(0, .d (.pim [.sl (a0.granted.map cS29), .sl (a0.queue.map cS29)])), (1, .d (.sl (a1.map (cI .i64)))), (2, .i a2), (12, .mref 12)] [(12, some (.mp (.int .i64) (encM MKey.ik vB ([] : List (Int × Bool)))))]) (by simp; exact Sub.table (by simp) (by simp [encM_nil])) ?_
 refine Chain.runK [] 1 fun K hK => ?_; simp; refine hK _ _ ?_; clear hK K
 refine Chain.sub (S' := mk 52 [] [(0, .d (.pim [.sl (a0.granted.map cS29), .sl (a0.queue.map cS29)])), (1, .d (.sl (a1.map (cI .i64)))), (2, .i a2), (7, .mref 12)] [(12, some (.mp (.int .i64) (encM MKey.ik vB ([] : List (Int × Bool)))))]) Sub.tt ?_
 refine Chain.nil ?_
 refine AW.seqR ?_
 refine Chain.runK [] 1 fun K hK => ?_; simp; refine hK _ _ ?_; clear hK K
 refine Chain.sub (S' := mk 52 [] [(0, .d (.pim [.sl (a0.granted.map cS29), .sl (a0.queue.map cS29)])), (2, .i a2), (7, .mref 12), (13, .d (.sl (a1.map (cI .i64))))] [(12, some (.mp (.int .i64) (encM MKey.ik vB ([] : List (Int × Bool)))))]) Sub.tt ?_
 replace h := bsome h; obtain ⟨r1, hr1, h⟩ := h
 refine Chain.callO (d := 14) (p45 N a1 r1 hr1) (by simp) rfl rfl (by simp <;> rfl) (by simp <;> rfl) ent45 (by simp) ⟨by simp, by simp⟩ ?_
 refine Chain.sub (S' := mk 52 [] [(0, .d (.pim [.sl (a0.granted.map cS29), .sl (a0.queue.map cS29)])), (2, .i a2), (7, .mref 12), (13, .d (.sl (a1.map (cI .i64)))), (14, .ref 14 0 r1.length)] [(12, some (.mp (.int .i64) (encM MKey.ik vB ([] : List (Int × Bool))))), (14, R3 r1)]) (by simp; exact Sub.table (by simp) (by simp)) ?_
 refine Chain.runK [] 1 fun K hK => ?_; simp; refine hK _ _ ?_; clear hK K
 refine Chain.sub (S' := mk 52 [] [(0, .d (.pim [.sl (a0.granted.map cS29), .sl (a0.queue.map cS29)])), (2, .i a2), (7, .mref 12), (8, .ref 14 0 r1.length)] [(12, some (.mp (.int .i64) (encM MKey.ik vB ([] : List (Int × Bool))))), (14, R3 r1)]) Sub.tt ?_
 refine Chain.nil ?_
 refine AW.seqJ (fun (_ : Unit) => mk 52 [] [] []) h ?_ ?_ <;> clear h
 ·intro o h
  refine AW.block ?_
  refine AW.iterG (fun (pre : List Int) ((m43, l44) : ((List (Int × Bool)) × (List Int))) => mk 52 [] [(0, .d (.pim [.sl (a0.granted.map cS29), .sl (a0.queue.map cS29)])), (2, .i a2), (7, .mref 12), (8, .ref 14 pre.length l44.length)] [(12, some (.mp (.int .i64) (encM MKey.ik vB m43))), (14, R3 (pre ++ l44))]) h [] Sub.tt ?_
  clear h
  rintro pre ⟨m43, l44⟩ x h
  dsimp only at h ⊢
  refine AW.seq ?_
  refine AW.seqR ?_
  refine Chain.runK [] 3 fun K hK => ?_; simp; refine hK _ _ ?_; clear hK K
  refine Chain.sub (S' := mk 52 [] [(0, .d (.pim [.sl (a0.granted.map cS29), .sl (a0.queue.map cS29)])), (2, .i a2), (7, .mref 12), (8, .ref 14 pre.length l44.length), (17, .b (decide ((l44.length : Int) > 0)))] [(12, some (.mp (.int .i64) (encM MKey.ik vB m43))), (14, R3 (pre ++ l44))]) Sub.tt ?_
  refine Chain.nil ?_
  replace h := isome h; rcases h with ⟨c129, h⟩ | ⟨c129, h⟩
  ·have c129_ : decide ((l44.length : Int) > 0) = true := decide_eq_true c129
   refine AW.condT (b := decide ((l44.length : Int) > 0)) rfl c129_ ?_
   refine AW.sub (Sub.bool 17 (b := decide ((l44.length : Int) > 0)) rfl c129_) ?_
   refine AW.sub (S' := mk 52 [] [(0, .d (.pim [.sl (a0.granted.map cS29), .sl (a0.queue.map cS29)])), (2, .i a2), (7, .mref 12), (8, .ref 14 pre.length l44.length), (17, .b true)] [(12, some (.mp (.int .i64) (encM MKey.ik vB m43))), (14, R3 (pre ++ l44))]) (by simp; exact Sub.table (by simp) (by simp)) ?_
   refine AW.skip ?_
   refine thenQ_normal ?_
   refine AW.block ?_
   refine AW.seqR ?_
   replace h := bsome h; obtain ⟨x130, hx130, h⟩ := h
   obtain ⟨t44, rfl⟩ : ∃ t, l44 = x130 :: t := by
    cases l44 with
    | nil => cases hx130
    | cons y t => simp [idx] at hx130; exact ⟨t, by rw [hx130]⟩
   clear hx130
   refine Chain.runK [] 4 fun K hK => ?_; simp; refine hK _ _ ?_; clear hK K
   refine Chain.sub (S' := mk 52 [] [(0, .d (.pim [.sl (a0.granted.map cS29), .sl (a0.queue.map cS29)])), (2, .i a2), (7, .mref 12), (8, .ref 14 pre.length (x130 :: t44).length), (9, .i x130)] [(12, some (.mp (.int .i64) (encM MKey.ik vB m43))), (14, R3 (pre ++ x130 :: t44))]) Sub.tt ?_
   refine Chain.nil ?_
   refine AW.seqR ?_
   refine Chain.runK [] 3 fun K hK => ?_; simp [show (1 : Int) ≤ (t44.length : Int) + 1 by omega]; refine hK _ _ ?_; clear hK K
   refine Chain.sub (S' := mk 52 [] [(0, .d (.pim [.sl (a0.granted.map cS29), .sl (a0.queue.map cS29)])), (2, .i a2), (7, .mref 12), (8, .ref 14 (pre ++ [x130]).length t44.length), (9, .i x130)] [(12, some (.mp (.int .i64) (encM MKey.ik vB m43))), (14, R3 ((pre ++ [x130]) ++ t44))]) Sub.tt ?_
   refine Chain.nil ?_
   refine AW.seq ?_
   refine AW.seqR ?_
   refine Chain.runK [] 3 fun K hK => ?_; simp; refine hK _ _ ?_; clear hK K
   refine Chain.sub (S' := mk 52 [] [(0, .d (.pim [.sl (a0.granted.map cS29), .sl (a0.queue.map cS29)])), (2, .i a2), (7, .mref 12), (8, .ref 14 (pre ++ [x130]).length t44.length), (9, .i x130), (25, .b (x130 == a2))] [(12, some (.mp (.int .i64) (encM MKey.ik vB m43))), (14, R3 ((pre ++ [x130]) ++ t44))]) Sub.tt ?_
   refine Chain.nil ?_
   replace h := isome h; rcases h with ⟨c131, h⟩ | ⟨c131, h⟩
   ·have c131_ : (x130 == a2) = true := c131
    refine AW.condT (b := (x130 == a2)) rfl c131_ ?_
    refine AW.sub (Sub.bool 25 (b := (x130 == a2)) rfl c131_) ?_
    refine AW.sub (S' := mk 52 [] [(0, .d (.pim [.sl (a0.granted.map cS29), .sl (a0.queue.map cS29)])), (2, .i a2), (7, .mref 12), (8, .ref 14 (pre ++ [x130]).length t44.length), (9, .i x130), (25, .b true)] [(12, some (.mp (.int .i64) (encM MKey.ik vB m43))), (14, R3 ((pre ++ [x130]) ++ t44))]) (by simp; exact Sub.table (by simp) (by simp)) ?_
    refine AW.seqR ?_
    refine Chain.runK [] 1 fun K hK => ?_; simp; refine hK _ _ ?_; clear hK K
    refine Chain.sub (S' := mk 52 [] [(6, .b true)] []) Sub.tt ?_
    refine Chain.nil ?_
    refine AW.ret ?_
    cases h
    refine thenQ_pass (by simp) ?_
    refine blockQ.ret ?_
    refine PostIG.out (by simp) ?_
    rintro rfl
    refine blockQ.ret ?_
    refine PostJ.out (by simp) ?_
    rintro rfl
    exact FinC.ret (by simp) (by simp)
   ·have c131_ : (x130 == a2) = false := Bool.eq_false_iff.2 c131
    refine AW.condF (b := (x130 == a2)) rfl c131_ ?_
    refine AW.sub (Sub.bool 25 (b := (x130 == a2)) rfl c131_) ?_
    refine AW.sub (S' := mk 52 [] [(0, .d (.pim [.sl (a0.granted.map cS29), .sl (a0.queue.map cS29)])), (2, .i a2), (7, .mref 12), (8, .ref 14 (pre ++ [x130]).length t44.length), (9, .i x130), (25, .b false)] [(12, some (.mp (.int .i64) (encM MKey.ik vB m43))), (14, R3 ((pre ++ [x130]) ++ t44))]) (by simp; exact Sub.table (by simp) (by simp)) ?_
    refine AW.skip ?_
    refine thenQ_normal ?_
    refine AW.seq ?_
    refine AW.seqR ?_
    refine Chain.runK [] 2 fun K hK => ?_; simp; refine hK _ _ ?_; clear hK K
    refine Chain.sub (S' := mk 52 [] [(0, .d (.pim [.sl (a0.granted.map cS29), .sl (a0.queue.map cS29)])), (2, .i a2), (7, .mref 12), (8, .ref 14 (pre ++ [x130]).length t44.length), (9, .i x130), (26, .mref 12), (27, .i x130)] [(12, some (.mp (.int .i64) (encM MKey.ik vB m43))), (14, R3 ((pre ++ [x130]) ++ t44))]) Sub.tt ?_
    replace h := lsome h; obtain ⟨v132, hv132, h⟩ := h
    refine Chain.lookE (vf := vB) ik_inj m43 x130 false (by simp) rfl ty71 rfl ty3 ty4 rfl rfl rfl rfl rfl rfl rfl ?_
    refine Chain.sub (S' := mk 52 [] [(0, .d (.pim [.sl (a0.granted.map cS29), .sl (a0.queue.map cS29)])), (2, .i a2), (7, .mref 12), (8, .ref 14 (pre ++ [x130]).length t44.length), (9, .i x130), (26, .mref 12), (27, .i x130), (28, .b v132)] [(12, some (.mp (.int .i64) (encM MKey.ik vB m43))), (14, R3 ((pre ++ [x130]) ++ t44))]) (by simp [vB, hv132]; exact Sub.table (by simp) (by simp)) ?_
    refine Chain.nil ?_
    replace h := isome h; rcases h with ⟨c133, h⟩ | ⟨c133, h⟩
    ·have c133_ : v132 = true := c133
     refine AW.condT (b := v132) rfl c133_ ?_
     refine AW.sub (Sub.bool 28 (b := v132) rfl c133_) ?_
     refine AW.sub (S' := mk 52 [] [(0, .d (.pim [.sl (a0.granted.map cS29), .sl (a0.queue.map cS29)])), (2, .i a2), (7, .mref 12), (8, .ref 14 (pre ++ [x130]).length t44.length), (9, .i x130), (26, .mref 12), (27, .i x130), (28, .b true)] [(12, some (.mp (.int .i64) (encM MKey.ik vB m43))), (14, R3 ((pre ++ [x130]) ++ t44))]) (by simp; exact Sub.table (by simp) (by simp)) ?_
     refine AW.exit ?_
     cases h
     refine thenQ_pass (by simp) ?_
     refine blockQ.hit ?_
     refine PostIG.next (pre ++ [x130]) ?_
     exact Sub.tt
    ·have c133_ : v132 = false := Bool.eq_false_iff.2 c133
     refine AW.condF (b := v132) rfl c133_ ?_
     refine AW.sub (Sub.bool 28 (b := v132) rfl c133_) ?_
     refine AW.sub (S' := mk 52 [] [(0, .d (.pim [.sl (a0.granted.map cS29), .sl (a0.queue.map cS29)])), (2, .i a2), (7, .mref 12), (8, .ref 14 (pre ++ [x130]).length t44.length), (9, .i x130), (26, .mref 12), (27, .i x130), (28, .b false)] [(12, some (.mp (.int .i64) (encM MKey.ik vB m43))), (14, R3 ((pre ++ [x130]) ++ t44))]) (by simp; exact Sub.table (by simp) (by simp)) ?_
     refine AW.skip ?_
     refine thenQ_normal ?_
     refine AW.seqR ?_
     refine Chain.runK [] 2 fun K hK => ?_; simp; refine hK _ _ ?_; clear hK K
     refine Chain.sub (S' := mk 52 [] [(0, .d (.pim [.sl (a0.granted.map cS29), .sl (a0.queue.map cS29)])), (2, .i a2), (7, .mref 12), (8, .ref 14 (pre ++ [x130]).length t44.length), (9, .i x130), (29, .mref 12), (30, .i x130)] [(12, some (.mp (.int .i64) (encM MKey.ik vB m43))), (14, R3 ((pre ++ [x130]) ++ t44))]) Sub.tt ?_
     refine Chain.msetE (vf := vB) ik_inj m43 x130 true (by simp) (.inl rfl) ty71 rfl ty3 rfl rfl rfl rfl rfl rfl rfl ?_
     refine Chain.sub (S' := mk 52 [] [(0, .d (.pim [.sl (a0.granted.map cS29), .sl (a0.queue.map cS29)])), (2, .i a2), (7, .mref 12), (8, .ref 14 (pre ++ [x130]).length t44.length), (9, .i x130), (29, .mref 12), (30, .i x130)] [(12, some (.mp (.int .i64) (encM MKey.ik vB (mput m43 x130 true)))), (14, R3 ((pre ++ [x130]) ++ t44))]) (by simp; exact Sub.table (by simp) (by simp)) ?_
     refine Chain.nil ?_
     refine AW.seqR ?_
     refine Chain.runK [] 6 fun K hK => ?_; simp; refine hK _ _ ?_; clear hK K
     refine Chain.sub (S' := mk 52 [] [(0, .d (.pim [.sl (a0.granted.map cS29), .sl (a0.queue.map cS29)])), (2, .i a2), (7, .mref 12), (8, .ref 14 (pre ++ [x130]).length t44.length), (9, .i x130), (34, .d (.sl (a0.queue.map cS29))), (35, .i (a0.queue.length : Int)), (36, .i 0)] [(12, some (.mp (.int .i64) (encM MKey.ik vB (mput m43 x130 true)))), (14, R3 ((pre ++ [x130]) ++ t44))]) Sub.tt ?_
     refine Chain.nil ?_
     refine AW.lastNG (fun (pre : List Int) (l161 : List Int) => mk 52 [] [(0, .d (.pim [.sl (a0.granted.map cS29), .sl (a0.queue.map cS29)])), (2, .i a2), (7, .mref 12), (8, .ref 14 pre.length l161.length)] [(12, some (.mp (.int .i64) (encM MKey.ik vB (mput m43 x130 true)))), (14, R3 (pre ++ l161))]) h ?_ ?_ <;> clear h
     ·intro o h
      refine AW.block ?_
      refine AW.iterG (fun (pre3 : List Int) ((l141, v142) : ((List Int) × Int)) => mk 52 [] [(0, .d (.pim [.sl (a0.granted.map cS29), .sl (a0.queue.map cS29)])), (2, .i a2), (7, .mref 12), (8, .ref 14 pre3.length l141.length), (9, .i x130), (34, .d (.sl (a0.queue.map cS29))), (35, .i (a0.queue.length : Int)), (36, .i v142)] [(12, some (.mp (.int .i64) (encM MKey.ik vB (mput m43 x130 true)))), (14, R3 (pre3 ++ l141))]) h (pre ++ [x130]) Sub.tt ?_
      clear h
      rintro pre3 ⟨l141, v142⟩ x h
      dsimp only at h ⊢
      refine AW.seqR ?_
      refine Chain.runK [] 1 fun K hK => ?_; simp; refine hK _ _ ?_; clear hK K
      refine Chain.sub (S' := mk 52 [] [(0, .d (.pim [.sl (a0.granted.map cS29), .sl (a0.queue.map cS29)])), (2, .i a2), (7, .mref 12), (8, .ref 14 pre3.length l141.length), (9, .i x130), (34, .d (.sl (a0.queue.map cS29))), (35, .i (a0.queue.length : Int)), (36, .i v142), (37, .b (decide (v142 < (a0.queue.length : Int))))] [(12, some (.mp (.int .i64) (encM MKey.ik vB (mput m43 x130 true)))), (14, R3 (pre3 ++ l141))]) Sub.tt ?_
      refine Chain.nil ?_
      refine AW.seq ?_
      replace h := isome h; rcases h with ⟨c162, h⟩ | ⟨c162, h⟩
      ·have c162_ : decide (v142 < (a0.queue.length : Int)) = true := decide_eq_true c162
       refine AW.condT (b := decide (v142 < (a0.queue.length : Int))) rfl c162_ ?_
       refine AW.sub (Sub.bool 37 (b := decide (v142 < (a0.queue.length : Int))) rfl c162_) ?_
       refine AW.sub (S' := mk 52 [] [(0, .d (.pim [.sl (a0.granted.map cS29), .sl (a0.queue.map cS29)])), (2, .i a2), (7, .mref 12), (8, .ref 14 pre3.length l141.length), (9, .i x130), (34, .d (.sl (a0.queue.map cS29))), (35, .i (a0.queue.length : Int)), (36, .i v142), (37, .b true)] [(12, some (.mp (.int .i64) (encM MKey.ik vB (mput m43 x130 true)))), (14, R3 (pre3 ++ l141))]) (by simp; exact Sub.table (by simp) (by simp)) ?_
       refine AW.skip ?_
       refine thenQ_normal ?_
       refine AW.seq ?_
       refine AW.block ?_
       refine AW.seqR ?_
       replace h := bsome h; obtain ⟨x163, hx163, h⟩ := h
       obtain ⟨k164, hx163k, hx163, hx163a, hx163b⟩ := idx_some hx163
       refine Chain.runK [] 6 fun K hK => ?_; simp [hx163, hx163k, hx163a]; refine hK _ _ ?_; clear hK K
       refine Chain.sub (S' := mk 52 [] [(0, .d (.pim [.sl (a0.granted.map cS29), .sl (a0.queue.map cS29)])), (2, .i a2), (7, .mref 12), (8, .ref 14 pre3.length l141.length), (9, .i x130), (10, .i v142), (11, .ptr 11 0 0), (34, .d (.sl (a0.queue.map cS29))), (35, .i (a0.queue.length : Int)), (36, .i v142)] [(11, some (.box [.i x163.Tx, .d (.lit (.string x163.Table)), .d (.lit (.string x163.Key)), .i x163.Mode])), (12, some (.mp (.int .i64) (encM MKey.ik vB (mput m43 x130 true)))), (14, R3 (pre3 ++ l141))]) Sub.tt ?_
       refine Chain.nil ?_
       refine AW.seqR ?_
       refine Chain.runK [] 4 fun K hK => ?_; simp; refine hK _ _ ?_; clear hK K
       refine Chain.sub (S' := mk 52 [] [(0, .d (.pim [.sl (a0.granted.map cS29), .sl (a0.queue.map cS29)])), (2, .i a2), (7, .mref 12), (8, .ref 14 pre3.length l141.length), (9, .i x130), (10, .i v142), (11, .ptr 11 0 0), (34, .d (.sl (a0.queue.map cS29))), (35, .i (a0.queue.length : Int)), (36, .i v142), (44, .b (x163.Tx == x130))] [(11, some (.box [.i x163.Tx, .d (.lit (.string x163.Table)), .d (.lit (.string x163.Key)), .i x163.Mode])), (12, some (.mp (.int .i64) (encM MKey.ik vB (mput m43 x130 true)))), (14, R3 (pre3 ++ l141))]) Sub.tt ?_
       refine Chain.nil ?_
       replace h := isome h; rcases h with ⟨c165, h⟩ | ⟨c165, h⟩
       ·have c165_ : (x163.Tx == x130) = true := c165
        refine AW.condT (b := (x163.Tx == x130)) rfl c165_ ?_
        refine AW.sub (Sub.bool 44 (b := (x163.Tx == x130)) rfl c165_) ?_
        refine AW.sub (S' := mk 52 [] [(0, .d (.pim [.sl (a0.granted.map cS29), .sl (a0.queue.map cS29)])), (2, .i a2), (7, .mref 12), (8, .ref 14 pre3.length l141.length), (9, .i x130), (10, .i v142), (11, .ptr 11 0 0), (34, .d (.sl (a0.queue.map cS29))), (35, .i (a0.queue.length : Int)), (36, .i v142), (44, .b true)] [(11, some (.box [.i x163.Tx, .d (.lit (.string x163.Table)), .d (.lit (.string x163.Key)), .i x163.Mode])), (12, some (.mp (.int .i64) (encM MKey.ik vB (mput m43 x130 true)))), (14, R3 (pre3 ++ l141))]) (by simp; exact Sub.table (by simp) (by simp)) ?_
        refine AW.region ?_
        refine Chain.runK [] 4 fun K hK => ?_; simp; refine hK _ _ ?_; clear hK K
        refine Chain.sub (S' := mk 52 [] [(0, .d (.pim [.sl (a0.granted.map cS29), .sl (a0.queue.map cS29)])), (2, .i a2), (7, .mref 12), (9, .i x130), (34, .d (.sl (a0.queue.map cS29))), (35, .i (a0.queue.length : Int)), (36, .i v142), (45, .ref 14 pre3.length l141.length), (46, .d (.pim [.sl (a0.granted.map cS29), .sl (a0.queue.map cS29)])), (47, .agg [.i x163.Tx, .d (.lit (.string x163.Table)), .d (.lit (.string x163.Key)), .i x163.Mode]), (48, .i v142)] [(12, some (.mp (.int .i64) (encM MKey.ik vB (mput m43 x130 true)))), (14, R3 (pre3 ++ l141))]) Sub.tt ?_
        replace h := bsome h; obtain ⟨r166, hr166, h⟩ := h
        refine Chain.callO (d := 49) (p20 N a0 x163 v142 r166 hr166) (by simp) rfl rfl (by simp <;> rfl) (by simp <;> rfl) ent20 (by simp) ⟨by simp, by simp⟩ ?_
        refine Chain.sub (S' := mk 52 [] [(0, .d (.pim [.sl (a0.granted.map cS29), .sl (a0.queue.map cS29)])), (2, .i a2), (7, .mref 12), (9, .i x130), (34, .d (.sl (a0.queue.map cS29))), (35, .i (a0.queue.length : Int)), (36, .i v142), (45, .ref 14 pre3.length l141.length), (46, .d (.pim [.sl (a0.granted.map cS29), .sl (a0.queue.map cS29)])), (47, .agg [.i x163.Tx, .d (.lit (.string x163.Table)), .d (.lit (.string x163.Key)), .i x163.Mode]), (48, .i v142), (49, .ref 49 0 r166.length)] [(12, some (.mp (.int .i64) (encM MKey.ik vB (mput m43 x130 true)))), (14, R3 (pre3 ++ l141)), (49, R3 r166)]) (by simp; exact Sub.table (by simp) (by simp)) ?_
        replace h := bsome h; obtain ⟨l167, hl167, h⟩ := h
        obtain ⟨hl167a, hl167⟩ := appL_some hl167
        subst hl167
        try simp only [List.length_append, List.length_cons, List.length_nil, Nat.zero_add] at hl167a
        refine Chain.appOff (id := 14) (off := pre3.length) (len := l141.length) (es := (pre3 ++ l141).map (cI .i64)) (ys := r166.map (cI .i64)) (by simp) rfl rfl rfl rfl ty34 rfl ty3 (by simp) (by simp) (by simp) (by simp [srcV]) (by simp [cI]) (by simp) (by decide) (by decide) rfl (by simp; omega) ?_ ?_
        ·refine Chain.sub (S' := mk 52 [] [(0, .d (.pim [.sl (a0.granted.map cS29), .sl (a0.queue.map cS29)])), (2, .i a2), (7, .mref 12), (50, .ref 14 pre3.length (l141 ++ r166).length), (9, .i x130), (34, .d (.sl (a0.queue.map cS29))), (35, .i (a0.queue.length : Int)), (36, .i v142)] [(12, some (.mp (.int .i64) (encM MKey.ik vB (mput m43 x130 true)))), (14, R3 (pre3 ++ (l141 ++ r166)))]) (by simp; exact Sub.table (by simp) (by simp)) ?_
         refine Chain.runK [] 1 fun K hK => ?_; simp; refine hK _ _ ?_; clear hK K
         refine Chain.sub (S' := mk 52 [] [(0, .d (.pim [.sl (a0.granted.map cS29), .sl (a0.queue.map cS29)])), (2, .i a2), (7, .mref 12), (8, .ref 14 pre3.length (l141 ++ r166).length), (9, .i x130), (34, .d (.sl (a0.queue.map cS29))), (35, .i (a0.queue.length : Int)), (36, .i v142)] [(12, some (.mp (.int .i64) (encM MKey.ik vB (mput m43 x130 true)))), (14, R3 (pre3 ++ (l141 ++ r166)))]) Sub.tt ?_
         refine Chain.nil ?_
         refine blockQ.normal ?_
         refine thenQ_normal ?_
         refine AW.region ?_
         replace h := bsome h; obtain ⟨v168, hv168, h⟩ := h
         have hv168 := chkI_some hv168
         refine Chain.runK [] 2 fun K hK => ?_; simp [hv168]; refine hK _ _ ?_; clear hK K
         refine Chain.sub (S' := mk 52 [] [(0, .d (.pim [.sl (a0.granted.map cS29), .sl (a0.queue.map cS29)])), (2, .i a2), (7, .mref 12), (8, .ref 14 pre3.length (l141 ++ r166).length), (9, .i x130), (34, .d (.sl (a0.queue.map cS29))), (35, .i (a0.queue.length : Int)), (36, .i v168)] [(12, some (.mp (.int .i64) (encM MKey.ik vB (mput m43 x130 true)))), (14, R3 (pre3 ++ (l141 ++ r166)))]) Sub.tt ?_
         refine Chain.nil ?_
         cases h
         refine PostIG.next pre3 ?_
         exact Sub.tt
        ·refine Chain.sub (S' := mk 52 [] [(0, .d (.pim [.sl (a0.granted.map cS29), .sl (a0.queue.map cS29)])), (2, .i a2), (7, .mref 12), (50, .ref 14 0 ((l141 ++ r166).length)), (9, .i x130), (34, .d (.sl (a0.queue.map cS29))), (35, .i (a0.queue.length : Int)), (36, .i v142)] [(12, some (.mp (.int .i64) (encM MKey.ik vB (mput m43 x130 true)))), (14, R3 (l141 ++ r166))]) (by simp; exact Sub.table (by simp) (by simp)) ?_
         refine Chain.runK [] 1 fun K hK => ?_; simp; refine hK _ _ ?_; clear hK K
         refine Chain.sub (S' := mk 52 [] [(0, .d (.pim [.sl (a0.granted.map cS29), .sl (a0.queue.map cS29)])), (2, .i a2), (7, .mref 12), (8, .ref 14 0 ((l141 ++ r166).length)), (9, .i x130), (34, .d (.sl (a0.queue.map cS29))), (35, .i (a0.queue.length : Int)), (36, .i v142)] [(12, some (.mp (.int .i64) (encM MKey.ik vB (mput m43 x130 true)))), (14, R3 (l141 ++ r166))]) Sub.tt ?_
         refine Chain.nil ?_
         refine blockQ.normal ?_
         refine thenQ_normal ?_
         refine AW.region ?_
         replace h := bsome h; obtain ⟨v168, hv168, h⟩ := h
         have hv168 := chkI_some hv168
         refine Chain.runK [] 2 fun K hK => ?_; simp [hv168]; refine hK _ _ ?_; clear hK K
         refine Chain.sub (S' := mk 52 [] [(0, .d (.pim [.sl (a0.granted.map cS29), .sl (a0.queue.map cS29)])), (2, .i a2), (7, .mref 12), (8, .ref 14 0 ((l141 ++ r166).length)), (9, .i x130), (34, .d (.sl (a0.queue.map cS29))), (35, .i (a0.queue.length : Int)), (36, .i v168)] [(12, some (.mp (.int .i64) (encM MKey.ik vB (mput m43 x130 true)))), (14, R3 (l141 ++ r166))]) Sub.tt ?_
         refine Chain.nil ?_
         cases h
         refine PostIG.next [] ?_
         exact Sub.tt
       ·have c165_ : (x163.Tx == x130) = false := Bool.eq_false_iff.2 c165
        refine AW.condF (b := (x163.Tx == x130)) rfl c165_ ?_
        refine AW.sub (Sub.bool 44 (b := (x163.Tx == x130)) rfl c165_) ?_
        refine AW.sub (S' := mk 52 [] [(0, .d (.pim [.sl (a0.granted.map cS29), .sl (a0.queue.map cS29)])), (2, .i a2), (7, .mref 12), (8, .ref 14 pre3.length l141.length), (9, .i x130), (10, .i v142), (11, .ptr 11 0 0), (34, .d (.sl (a0.queue.map cS29))), (35, .i (a0.queue.length : Int)), (36, .i v142), (44, .b false)] [(11, some (.box [.i x163.Tx, .d (.lit (.string x163.Table)), .d (.lit (.string x163.Key)), .i x163.Mode])), (12, some (.mp (.int .i64) (encM MKey.ik vB (mput m43 x130 true)))), (14, R3 (pre3 ++ l141))]) (by simp; exact Sub.table (by simp) (by simp)) ?_
        refine AW.skip ?_
        refine blockQ.normal ?_
        refine thenQ_normal ?_
        refine AW.region ?_
        replace h := bsome h; obtain ⟨v169, hv169, h⟩ := h
        have hv169 := chkI_some hv169
        refine Chain.runK [] 2 fun K hK => ?_; simp [hv169]; refine hK _ _ ?_; clear hK K
        refine Chain.sub (S' := mk 52 [] [(0, .d (.pim [.sl (a0.granted.map cS29), .sl (a0.queue.map cS29)])), (2, .i a2), (7, .mref 12), (8, .ref 14 pre3.length l141.length), (9, .i x130), (34, .d (.sl (a0.queue.map cS29))), (35, .i (a0.queue.length : Int)), (36, .i v169)] [(12, some (.mp (.int .i64) (encM MKey.ik vB (mput m43 x130 true)))), (14, R3 (pre3 ++ l141))]) Sub.tt ?_
        refine Chain.nil ?_
        cases h
        refine PostIG.next pre3 ?_
        exact Sub.tt
      ·have c162_ : decide (v142 < (a0.queue.length : Int)) = false := decide_eq_false c162
       refine AW.condF (b := decide (v142 < (a0.queue.length : Int))) rfl c162_ ?_
       refine AW.sub (Sub.bool 37 (b := decide (v142 < (a0.queue.length : Int))) rfl c162_) ?_
       refine AW.sub (S' := mk 52 [] [(0, .d (.pim [.sl (a0.granted.map cS29), .sl (a0.queue.map cS29)])), (2, .i a2), (7, .mref 12), (8, .ref 14 pre3.length l141.length), (9, .i x130), (34, .d (.sl (a0.queue.map cS29))), (35, .i (a0.queue.length : Int)), (36, .i v142), (37, .b false)] [(12, some (.mp (.int .i64) (encM MKey.ik vB (mput m43 x130 true)))), (14, R3 (pre3 ++ l141))]) (by simp; exact Sub.table (by simp) (by simp)) ?_
       refine AW.exit ?_
       cases h
       refine thenQ_pass (by simp) ?_
       refine PostIG.out (by simp) ?_
       rintro rfl
       refine blockQ.hit ?_
       refine PostNG.next pre3 ?_
       exact Sub.tt
     ·rintro pre4 l161 h
      cases h
      refine blockQ.normal ?_
      refine PostIG.next pre4 ?_
      exact Sub.tt
  ·have c129_ : decide ((l44.length : Int) > 0) = false := decide_eq_false c129
   refine AW.condF (b := decide ((l44.length : Int) > 0)) rfl c129_ ?_
   refine AW.sub (Sub.bool 17 (b := decide ((l44.length : Int) > 0)) rfl c129_) ?_
   refine AW.sub (S' := mk 52 [] [(0, .d (.pim [.sl (a0.granted.map cS29), .sl (a0.queue.map cS29)])), (2, .i a2), (7, .mref 12), (8, .ref 14 pre.length l44.length), (17, .b false)] [(12, some (.mp (.int .i64) (encM MKey.ik vB m43))), (14, R3 (pre ++ l44))]) (by simp; exact Sub.table (by simp) (by simp)) ?_
   refine AW.exit ?_
   cases h
   refine thenQ_pass (by simp) ?_
   refine PostIG.out (by simp) ?_
   rintro rfl
   refine blockQ.hit ?_
   refine PostJ.next ?_
   exact Sub.tt
 ·rintro ⟨⟩ h
  refine AW.seqR ?_
  refine Chain.runK [] 1 fun K hK => ?_; simp; refine hK _ _ ?_; clear hK K
  refine Chain.sub (S' := mk 52 [] [(6, .b false)] []) Sub.tt ?_
  refine Chain.nil ?_
  refine AW.ret ?_
  cases h
  exact FinC.ret (by simp) (by simp)

end Go.Proofs.Ytdiekinmoklonaa
