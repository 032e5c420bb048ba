/- Functions of the program as functional programs; the code computes them. -/
import Derived.Test.YtifcmomjjkbboaaSc11
namespace Go.Proofs.Ytifcmomjjkbboaa
open Go.Ab Go.Rp
attribute [-simp] List.all_eq_true Array.all_toList Array.all_eq_true

/-- stemma/stemlaw5.SchedulesMatchReference -/
def d3 (N : Nat) (a0 : (List (List S27))) : Option Bool :=
 letv ([([(S27.mk 0 2 (ByteArray.mk #[120]))] : List S27), ([(S27.mk 1 2 (ByteArray.mk #[120]))] : List S27)] : List (List S27)) fun l1 =>
 (d4 N l1).bind fun r2 =>
 Option.bind (α := Bool) (
  if (r2.2.2 != 0) then (
   some true
  ) else
  if (r2.1 != 2) then (
   some true
  ) else
  some (r2.2.1 != 2)
 ) fun (v5 : Bool) =>
 if v5 = true then (
  some false
 ) else
 (mkL 24 (a0.length : Int) ([] : (List S27))).bind fun l9 =>
 Option.bind (α := ((List (List S27)) × Int)) (
  iterN (σ := ((List (List S27)) × Int × Int)) (ρ := ((List (List S27)) × Int)) (fun ((l17, v18, v19) : ((List (List S27)) × Int × Int)) =>
   if v19 < (a0.length : Int) then (
    (idx a0 v19).bind fun x42 =>
    (d5 N x42).bind fun r44 =>
    (idx l17 v19).bind fun _x45 =>
    letv (setI l17 v19 r44) fun l46 =>
    (chkI (v18 + (x42.length : Int))).bind fun v47 =>
    (chkI (v19 + 1)).bind fun v48 =>
    some (.inl (l46, v47, v48))
   ) else
   some (.inr (l17, v18))
  ) N (l9, 0, 0)
 ) fun ((l39, v40) : ((List (List S27)) × Int)) =>
 Option.bind (α := Bool) (
  if (a0.length : Int) > 4 then (
   some true
  ) else
  some (decide (v40 > 12))
 ) fun (v50 : Bool) =>
 Option.bind (α := Int) (
  if v50 = true then (
   some 2
  ) else
  some 0
 ) fun (v53 : Int) =>
 Option.bind (α := Int) (
  iterN (σ := (Int × Int)) (ρ := Int) (fun ((v69, v70) : (Int × Int)) =>
   Option.bind (α := Bool) (
    if v70 < (a0.length : Int) then (
     some (v69 == 0)
    ) else
    some false
   ) fun (v105 : Bool) =>
   if v105 = true then (
    (idx a0 v70).bind fun x108 =>
    (d6 N x108).bind fun r110 =>
    Option.bind (α := Bool) (
     if (r110 == 0) then (
      (d7 N x108 (fun b0 => d8 N b0 v70)).bind fun r115 =>
      some r115
     ) else
     some false
    ) fun (v113 : Bool) =>
    if v113 = true then (
     (chkI (v70 + 1)).bind fun v117 =>
     some (.inl (3, v117))
    ) else
    (chkI (v70 + 1)).bind fun v118 =>
    some (.inl (r110, v118))
   ) else
   some (.inr v69)
  ) N (v53, 0)
 ) fun (v103 : Int) =>
 (d9 N l39).bind fun r119 =>
 (d4 N l39).bind fun r120 =>
 Option.bind (α := Bool) (
  (d10 N l39).bind fun r125 =>
  if (r125 != v103) then (
   some true
  ) else
  if (r119.2 != v103) then (
   some true
  ) else
  some (r120.2.2 != v103)
 ) fun (v124 : Bool) =>
 if v124 = true then (
  some false
 ) else
 if (v103 != 0) then (
  Option.bind (α := Bool) (
   if ((r119.1.length : Int) == 0) then (
    if (r120.1 == 0) then (
     some (r120.2.1 == 0)
    ) else
    some false
   ) else
   some false
  ) fun (v132 : Bool) =>
  some v132
 ) else
 Option.bind (α := Bool) (
  if ((r119.1.length : Int) == r120.1) then (
   (mkL 8 (a0.length : Int) (0 : Int)).bind fun l142 =>
   (d11 N a0 l142 []).bind fun r143 =>
   if (r120.1 == r143) then (
    (d12 N a0 r119.1 r120.2.1).bind fun r145 =>
    some r145
   ) else
   some false
  ) else
  some false
 ) fun (v140 : Bool) =>
 some v140
set_option maxRecDepth 100000 in
set_option maxHeartbeats 4000000 in
theorem p3 (N : Nat) (a0 : (List (List S27))) (r : Bool) (h : d3 N a0 = some r) : FunC Try.prog 3 [.d (.sl (a0.map (cL cS27)))] (.b r) := by
 unfold d3 at h
 refine FunC.enter 147 [(0, .d (.sl (a0.map (cL cS27))))] (by simp) Try.func3 rfl (of_decide_eq_true rfl) rfl rfl ?_
 refine AW.seqR ?_
 refine Chain.runK [] 1 fun K hK => ?_; simp; refine hK _ _ ?_; clear hK K
 refine Chain.sub (S' := mk 147 [] [(0, .d (.sl (a0.map (cL cS27))))] []) Sub.tt ?_
 refine Chain.nil ?_
 refine AW.seq ?_
 refine AW.seqR ?_
 refine Chain.runK [] 4 fun K hK => ?_; simp; refine hK _ _ ?_; clear hK K
 refine Chain.sub (S' := mk 147 [] [(0, .d (.sl (a0.map (cL cS27)))), (19, .ref 19 0 (([(S27.mk 0 2 (ByteArray.mk #[120]))] : List S27).length)), (21, .ref 21 0 (([(S27.mk 1 2 (ByteArray.mk #[120]))] : List S27).length))] [(19, R27 ([(S27.mk 0 2 (ByteArray.mk #[120]))] : List S27)), (21, R27 ([(S27.mk 1 2 (ByteArray.mk #[120]))] : List S27))]) Sub.tt ?_
 refine Chain.sub (Sub.freeze 19 rfl) ?_
 refine Chain.sub (S' := mk 147 [] [(0, .d (.sl (a0.map (cL cS27)))), (19, .d (.sl (([(S27.mk 0 2 (ByteArray.mk #[120]))] : List S27).map cS27))), (21, .ref 21 0 (([(S27.mk 1 2 (ByteArray.mk #[120]))] : List S27).length))] [(21, R27 ([(S27.mk 1 2 (ByteArray.mk #[120]))] : List S27))]) (by simp; exact Sub.table (by simp) (by simp)) ?_
 refine Chain.sub (Sub.freeze 21 rfl) ?_
 refine Chain.sub (S' := mk 147 [] [(0, .d (.sl (a0.map (cL cS27)))), (19, .d (.sl (([(S27.mk 0 2 (ByteArray.mk #[120]))] : List S27).map cS27))), (21, .d (.sl (([(S27.mk 1 2 (ByteArray.mk #[120]))] : List S27).map cS27)))] []) (by simp; exact Sub.table (by simp) (by simp)) ?_
 refine Chain.runK [] 1 fun K hK => ?_; simp; refine hK _ _ ?_; clear hK K
 refine Chain.sub (Sub.wkRow 22 rfl) ?_
 replace h := lsome h; obtain ⟨l1, hl1, h⟩ := h
 refine Chain.sub (S' := mk 147 [] [(0, .d (.sl (a0.map (cL cS27)))), (19, .d (.sl (([(S27.mk 0 2 (ByteArray.mk #[120]))] : List S27).map cS27))), (21, .d (.sl (([(S27.mk 1 2 (ByteArray.mk #[120]))] : List S27).map cS27))), (22, .ref 22 0 l1.length)] [(22, R28 l1)]) (by simp; subst hl1; exact Sub.table (by simp) (by simp)) ?_
 replace h := bsome h; obtain ⟨r2, hr2, h⟩ := h
 refine Chain.callL (d := 23) (p4 N l1 r2 hr2) (by simp) rfl rfl (by simp <;> rfl) (by simp <;> rfl) ent4 (by simp <;> rfl) ?_
 refine Chain.sub (S' := mk 147 [] [(0, .d (.sl (a0.map (cL cS27)))), (19, .d (.sl (([(S27.mk 0 2 (ByteArray.mk #[120]))] : List S27).map cS27))), (21, .d (.sl (([(S27.mk 1 2 (ByteArray.mk #[120]))] : List S27).map cS27))), (22, .ref 22 0 l1.length), (23, .tup [.i r2.1, .i r2.2.1, .i r2.2.2])] [(22, R28 l1)]) (by simp; exact Sub.table (by simp) (by simp)) ?_
 refine Chain.runK [] 7 fun K hK => ?_; simp; refine hK _ _ ?_; clear hK K
 refine Chain.sub (S' := mk 147 [] [(0, .d (.sl (a0.map (cL cS27)))), (3, .i r2.1), (4, .i r2.2.1), (5, .i r2.2.2)] []) Sub.tt ?_
 refine Chain.nil ?_
 replace h := bsome h; obtain ⟨v5, hj, h⟩ := h
 refine AW.cutR (mk 147 [] [(0, .d (.sl (a0.map (cL cS27)))), (36, .b v5)] []) ?_ ?_
 ·clear h; have h := hj; clear hj
  refine Chain.runK [] 3 fun K hK => ?_; simp; refine hK _ _ ?_; clear hK K
  refine Chain.sub (S' := mk 147 [] [(0, .d (.sl (a0.map (cL cS27)))), (3, .i r2.1), (4, .i r2.2.1), (29, .b (r2.2.2 != 0))] []) Sub.tt ?_
  replace h := isome h; rcases h with ⟨c6, h⟩ | ⟨c6, h⟩
  ·have c6_ : (r2.2.2 != 0) = true := c6
   refine Chain.sub (Sub.bool 29 (b := (r2.2.2 != 0)) rfl c6_) ?_
   refine Chain.sub (S' := mk 147 [] [(0, .d (.sl (a0.map (cL cS27)))), (3, .i r2.1), (4, .i r2.2.1), (29, .b true)] []) (by simp; exact Sub.table (by simp) (by simp)) ?_
   refine Chain.runK [] 7 fun K hK => ?_; simp; refine hK _ _ ?_; clear hK K
   refine Chain.sub (S' := mk 147 [] [(0, .d (.sl (a0.map (cL cS27)))), (36, .b true)] []) Sub.tt ?_
   cases h
   exact Chain.nil Sub.tt
  ·have c6_ : (r2.2.2 != 0) = false := Bool.eq_false_iff.2 c6
   refine Chain.sub (Sub.bool 29 (b := (r2.2.2 != 0)) rfl c6_) ?_
   refine Chain.sub (S' := mk 147 [] [(0, .d (.sl (a0.map (cL cS27)))), (3, .i r2.1), (4, .i r2.2.1), (29, .b false)] []) (by simp; exact Sub.table (by simp) (by simp)) ?_
   refine Chain.runK [] 4 fun K hK => ?_; simp; refine hK _ _ ?_; clear hK K
   refine Chain.sub (S' := mk 147 [] [(0, .d (.sl (a0.map (cL cS27)))), (4, .i r2.2.1), (33, .b (r2.1 != 2))] []) Sub.tt ?_
   replace h := isome h; rcases h with ⟨c7, h⟩ | ⟨c7, h⟩
   ·have c7_ : (r2.1 != 2) = true := c7
    refine Chain.sub (Sub.bool 33 (b := (r2.1 != 2)) rfl c7_) ?_
    refine Chain.sub (S' := mk 147 [] [(0, .d (.sl (a0.map (cL cS27)))), (4, .i r2.2.1), (33, .b true)] []) (by simp; exact Sub.table (by simp) (by simp)) ?_
    refine Chain.runK [] 3 fun K hK => ?_; simp; refine hK _ _ ?_; clear hK K
    refine Chain.sub (S' := mk 147 [] [(0, .d (.sl (a0.map (cL cS27)))), (36, .b true)] []) Sub.tt ?_
    cases h
    exact Chain.nil Sub.tt
   ·have c7_ : (r2.1 != 2) = false := Bool.eq_false_iff.2 c7
    refine Chain.sub (Sub.bool 33 (b := (r2.1 != 2)) rfl c7_) ?_
    refine Chain.sub (S' := mk 147 [] [(0, .d (.sl (a0.map (cL cS27)))), (4, .i r2.2.1), (33, .b false)] []) (by simp; exact Sub.table (by simp) (by simp)) ?_
    refine Chain.runK [] 3 fun K hK => ?_; simp; refine hK _ _ ?_; clear hK K
    refine Chain.sub (S' := mk 147 [] [(0, .d (.sl (a0.map (cL cS27)))), (36, .b (r2.2.1 != 2))] []) Sub.tt ?_
    cases h
    exact Chain.nil Sub.tt
 ·clear hj
  replace h := isome h; rcases h with ⟨c8, h⟩ | ⟨c8, h⟩
  ·have c8_ : v5 = true := c8
   refine AW.condT (b := v5) rfl c8_ ?_
   refine AW.sub (Sub.bool 36 (b := v5) rfl c8_) ?_
   refine AW.sub (S' := mk 147 [] [(0, .d (.sl (a0.map (cL cS27)))), (36, .b true)] []) (by simp; exact Sub.table (by simp) (by simp)) ?_
   refine AW.seqR ?_
   refine Chain.runK [] 1 fun K hK => ?_; simp; refine hK _ _ ?_; clear hK K
   refine Chain.sub (S' := mk 147 [] [(2, .b false)] []) Sub.tt ?_
   refine Chain.nil ?_
   refine AW.ret ?_
   cases h
   refine thenQ_pass (by simp) ?_
   exact FinC.ret (by simp) (by simp)
  ·have c8_ : v5 = false := Bool.eq_false_iff.2 c8
   refine AW.condF (b := v5) rfl c8_ ?_
   refine AW.sub (Sub.bool 36 (b := v5) rfl c8_) ?_
   refine AW.sub (S' := mk 147 [] [(0, .d (.sl (a0.map (cL cS27)))), (36, .b false)] []) (by simp; exact Sub.table (by simp) (by simp)) ?_
   refine AW.skip ?_
   refine thenQ_normal ?_
   refine AW.seqR ?_
   replace h := bsome h; obtain ⟨l9, gl9, h⟩ := h
   obtain ⟨hl9a, hl9b, hl9c, hl9d⟩ := mkL_some (cL cS27) gl9
   clear gl9
   replace hl9c : List.replicate l9.length [.sl []] = l9.map (cL cS27) := hl9c
   refine Chain.runK [] 3 fun K hK => ?_; simp [hl9a, hl9b, hl9d]; refine hK _ _ ?_; clear hK K
   refine Chain.sub (Sub.wkRow 39 rfl) ?_
   refine Chain.sub (S' := mk 147 [] [(0, .d (.sl (a0.map (cL cS27)))), (39, .ref 39 0 l9.length)] [(39, R28 l9)]) (by simp [hl9c]; exact Sub.table (by simp) (by simp)) ?_
   refine Chain.runK [] 1 fun K hK => ?_; simp; refine hK _ _ ?_; clear hK K
   refine Chain.sub (S' := mk 147 [] [(0, .d (.sl (a0.map (cL cS27)))), (6, .ref 39 0 l9.length)] [(39, R28 l9)]) Sub.tt ?_
   refine Chain.nil ?_
   refine AW.seqR ?_
   refine Chain.runK [] 1 fun K hK => ?_; simp; refine hK _ _ ?_; clear hK K
   refine Chain.sub (S' := mk 147 [] [(0, .d (.sl (a0.map (cL cS27)))), (6, .ref 39 0 l9.length), (7, .i 0)] [(39, R28 l9)]) Sub.tt ?_
   refine Chain.nil ?_
   refine AW.seq ?_
   refine AW.seqR ?_
   refine Chain.runK [] 3 fun K hK => ?_; simp; refine hK _ _ ?_; clear hK K
   refine Chain.sub (S' := mk 147 [] [(0, .d (.sl (a0.map (cL cS27)))), (6, .ref 39 0 l9.length), (7, .i 0), (40, .d (.sl (a0.map (cL cS27)))), (41, .i (a0.length : Int)), (42, .i 0)] [(39, R28 l9)]) Sub.tt ?_
   refine Chain.nil ?_
   refine AW.lastN (fun ((l39, v40) : ((List (List S27)) × Int)) => mk 147 [] [(0, .d (.sl (a0.map (cL cS27)))), (6, .ref 39 0 l39.length), (7, .i v40)] [(39, R28 l39)]) h ?_ ?_ <;> clear h
   ·intro o h
    refine AW.block ?_
    refine AW.iter (fun ((l17, v18, v19) : ((List (List S27)) × Int × Int)) => mk 147 [] [(0, .d (.sl (a0.map (cL cS27)))), (6, .ref 39 0 l17.length), (7, .i v18), (40, .d (.sl (a0.map (cL cS27)))), (41, .i (a0.length : Int)), (42, .i v19)] [(39, R28 l17)]) h Sub.tt ?_
    clear h
    rintro ⟨l17, v18, v19⟩ x h
    dsimp only at h ⊢
    refine AW.seqR ?_
    refine Chain.runK [] 1 fun K hK => ?_; simp; refine hK _ _ ?_; clear hK K
    refine Chain.sub (S' := mk 147 [] [(0, .d (.sl (a0.map (cL cS27)))), (6, .ref 39 0 l17.length), (7, .i v18), (40, .d (.sl (a0.map (cL cS27)))), (41, .i (a0.length : Int)), (42, .i v19), (43, .b (decide (v19 < (a0.length : Int))))] [(39, R28 l17)]) Sub.tt ?_
    refine Chain.nil ?_
    refine AW.seq ?_
    replace h := isome h; rcases h with ⟨c41, h⟩ | ⟨c41, h⟩
    ·have c41_ : decide (v19 < (a0.length : Int)) = true := decide_eq_true c41
     refine AW.condT (b := decide (v19 < (a0.length : Int))) rfl c41_ ?_
     refine AW.sub (Sub.bool 43 (b := decide (v19 < (a0.length : Int))) rfl c41_) ?_
     refine AW.sub (S' := mk 147 [] [(0, .d (.sl (a0.map (cL cS27)))), (6, .ref 39 0 l17.length), (7, .i v18), (40, .d (.sl (a0.map (cL cS27)))), (41, .i (a0.length : Int)), (42, .i v19), (43, .b true)] [(39, R28 l17)]) (by simp; exact Sub.table (by simp) (by simp)) ?_
     refine AW.skip ?_
     refine thenQ_normal ?_
     refine AW.seq ?_
     refine AW.block ?_
     refine AW.seqR ?_
     replace h := bsome h; obtain ⟨x42, hx42, h⟩ := h
     obtain ⟨k43, hx42k, hx42, hx42a, hx42b⟩ := idx_some hx42
     refine Chain.runK [] 5 fun K hK => ?_; simp [hx42, hx42k, hx42a]; refine hK _ _ ?_; clear hK K
     refine Chain.sub (S' := mk 147 [] [(0, .d (.sl (a0.map (cL cS27)))), (6, .ref 39 0 l17.length), (7, .i v18), (8, .i v19), (9, .d (.sl (x42.map cS27))), (40, .d (.sl (a0.map (cL cS27)))), (41, .i (a0.length : Int)), (42, .i v19)] [(39, R28 l17)]) Sub.tt ?_
     refine Chain.nil ?_
     refine AW.seqR ?_
     refine Chain.runK [] 3 fun K hK => ?_; simp; refine hK _ _ ?_; clear hK K
     refine Chain.sub (S' := mk 147 [] [(0, .d (.sl (a0.map (cL cS27)))), (6, .ref 39 0 l17.length), (7, .i v18), (9, .d (.sl (x42.map cS27))), (40, .d (.sl (a0.map (cL cS27)))), (41, .i (a0.length : Int)), (42, .i v19), (47, .ref 39 0 l17.length), (48, .i v19), (49, .d (.sl (x42.map cS27)))] [(39, R28 l17)]) Sub.tt ?_
     replace h := bsome h; obtain ⟨r44, hr44, h⟩ := h
     refine Chain.callC (d := 50) (p5 N x42 r44 hr44) (by simp) rfl rfl (by simp <;> rfl) (by simp <;> rfl) ent5 (by simp) (.inl ⟨by simp, by simp⟩) ?_
     refine Chain.sub (S' := mk 147 [] [(0, .d (.sl (a0.map (cL cS27)))), (6, .ref 39 0 l17.length), (7, .i v18), (9, .d (.sl (x42.map cS27))), (40, .d (.sl (a0.map (cL cS27)))), (41, .i (a0.length : Int)), (42, .i v19), (47, .ref 39 0 l17.length), (48, .i v19), (49, .d (.sl (x42.map cS27))), (50, .d (.sl (r44.map cS27)))] [(39, R28 l17)]) (by simp; exact Sub.table (by simp) (by simp)) ?_
     replace h := bsome h; obtain ⟨x45, hx45, h⟩ := h
     obtain ⟨hx45, hx45a, hx45b⟩ := idx_some2 hx45 hx42k
     replace h := lsome h; obtain ⟨l46, gl46, h⟩ := h
     obtain ⟨hl46, hl46n⟩ := setI_some (cL cS27) gl46 hx42k
     replace hl46 : (l17.map (cL cS27)).set k43 [.sl (r44.map cS27)] = l46.map (cL cS27) := hl46
     clear gl46
     refine Chain.runK [] 2 fun K hK => ?_; simp [hx45, hx42k, hx45a, hx45b, hl46]; refine hK _ _ ?_; clear hK K
     refine Chain.sub (S' := mk 147 [] [(0, .d (.sl (a0.map (cL cS27)))), (6, .ref 39 0 l46.length), (7, .i v18), (9, .d (.sl (x42.map cS27))), (40, .d (.sl (a0.map (cL cS27)))), (41, .i (a0.length : Int)), (42, .i v19)] [(39, R28 l46)]) (Sub.table (by simp [hl46n]) (by simp)) ?_
     refine Chain.nil ?_
     refine AW.region ?_
     replace h := bsome h; obtain ⟨v47, hv47, h⟩ := h
     have hv47 := chkI_some hv47
     refine Chain.runK [] 5 fun K hK => ?_; simp [hv47]; refine hK _ _ ?_; clear hK K
     refine Chain.sub (S' := mk 147 [] [(0, .d (.sl (a0.map (cL cS27)))), (6, .ref 39 0 l46.length), (7, .i v47), (40, .d (.sl (a0.map (cL cS27)))), (41, .i (a0.length : Int)), (42, .i v19)] [(39, R28 l46)]) Sub.tt ?_
     refine Chain.nil ?_
     refine blockQ.normal ?_
     refine thenQ_normal ?_
     refine AW.region ?_
     replace h := bsome h; obtain ⟨v48, hv48, h⟩ := h
     have hv48 := chkI_some hv48
     refine Chain.runK [] 2 fun K hK => ?_; simp [hv48]; refine hK _ _ ?_; clear hK K
     refine Chain.sub (S' := mk 147 [] [(0, .d (.sl (a0.map (cL cS27)))), (6, .ref 39 0 l46.length), (7, .i v47), (40, .d (.sl (a0.map (cL cS27)))), (41, .i (a0.length : Int)), (42, .i v48)] [(39, R28 l46)]) Sub.tt ?_
     refine Chain.nil ?_
     cases h
     refine PostI.next ?_
     exact Sub.tt
    ·have c41_ : decide (v19 < (a0.length : Int)) = false := decide_eq_false c41
     refine AW.condF (b := decide (v19 < (a0.length : Int))) rfl c41_ ?_
     refine AW.sub (Sub.bool 43 (b := decide (v19 < (a0.length : Int))) rfl c41_) ?_
     refine AW.sub (S' := mk 147 [] [(0, .d (.sl (a0.map (cL cS27)))), (6, .ref 39 0 l17.length), (7, .i v18), (40, .d (.sl (a0.map (cL cS27)))), (41, .i (a0.length : Int)), (42, .i v19), (43, .b false)] [(39, R28 l17)]) (by simp; exact Sub.table (by simp) (by simp)) ?_
     refine AW.exit ?_
     cases h
     refine thenQ_pass (by simp) ?_
     refine PostI.out (by simp) ?_
     rintro rfl
     refine blockQ.hit ?_
     refine PostN.next ?_
     exact Sub.tt
   ·rintro ⟨l39, v40⟩ h
    dsimp only at h ⊢
    refine thenQ_normal ?_
    refine AW.seqR ?_
    refine Chain.runK [] 1 fun K hK => ?_; simp; refine hK _ _ ?_; clear hK K
    refine Chain.sub (S' := mk 147 [] [(0, .d (.sl (a0.map (cL cS27)))), (6, .ref 39 0 l39.length), (7, .i v40), (10, .i 0)] [(39, R28 l39)]) Sub.tt ?_
    refine Chain.nil ?_
    refine AW.seq ?_
    replace h := bsome h; obtain ⟨v50, hj, h⟩ := h
    refine AW.cutR (mk 147 [] [(0, .d (.sl (a0.map (cL cS27)))), (6, .ref 39 0 l39.length), (10, .i 0), (63, .b v50)] [(39, R28 l39)]) ?_ ?_
    ·clear h; have h := hj; clear hj
     refine Chain.runK [] 4 fun K hK => ?_; simp; refine hK _ _ ?_; clear hK K
     refine Chain.sub (S' := mk 147 [] [(0, .d (.sl (a0.map (cL cS27)))), (6, .ref 39 0 l39.length), (7, .i v40), (10, .i 0), (60, .b (decide ((a0.length : Int) > 4)))] [(39, R28 l39)]) Sub.tt ?_
     replace h := isome h; rcases h with ⟨c51, h⟩ | ⟨c51, h⟩
     ·have c51_ : decide ((a0.length : Int) > 4) = true := decide_eq_true c51
      refine Chain.sub (Sub.bool 60 (b := decide ((a0.length : Int) > 4)) rfl c51_) ?_
      refine Chain.sub (S' := mk 147 [] [(0, .d (.sl (a0.map (cL cS27)))), (6, .ref 39 0 l39.length), (7, .i v40), (10, .i 0), (60, .b true)] [(39, R28 l39)]) (by simp; exact Sub.table (by simp) (by simp)) ?_
      refine Chain.runK [] 3 fun K hK => ?_; simp; refine hK _ _ ?_; clear hK K
      refine Chain.sub (S' := mk 147 [] [(0, .d (.sl (a0.map (cL cS27)))), (6, .ref 39 0 l39.length), (10, .i 0), (63, .b true)] [(39, R28 l39)]) Sub.tt ?_
      cases h
      exact Chain.nil Sub.tt
     ·have c51_ : decide ((a0.length : Int) > 4) = false := decide_eq_false c51
      refine Chain.sub (Sub.bool 60 (b := decide ((a0.length : Int) > 4)) rfl c51_) ?_
      refine Chain.sub (S' := mk 147 [] [(0, .d (.sl (a0.map (cL cS27)))), (6, .ref 39 0 l39.length), (7, .i v40), (10, .i 0), (60, .b false)] [(39, R28 l39)]) (by simp; exact Sub.table (by simp) (by simp)) ?_
      refine Chain.runK [] 3 fun K hK => ?_; simp; refine hK _ _ ?_; clear hK K
      refine Chain.sub (S' := mk 147 [] [(0, .d (.sl (a0.map (cL cS27)))), (6, .ref 39 0 l39.length), (10, .i 0), (63, .b (decide (v40 > 12)))] [(39, R28 l39)]) Sub.tt ?_
      cases h
      exact Chain.nil Sub.tt
    ·clear hj
     refine AW.lastN (fun (v53 : Int) => mk 147 [] [(0, .d (.sl (a0.map (cL cS27)))), (6, .ref 39 0 l39.length), (10, .i v53)] [(39, R28 l39)]) h ?_ ?_ <;> clear h
     ·intro o h
      replace h := isome h; rcases h with ⟨c54, h⟩ | ⟨c54, h⟩
      ·have c54_ : v50 = true := c54
       refine AW.condT (b := v50) rfl c54_ ?_
       refine AW.sub (Sub.bool 63 (b := v50) rfl c54_) ?_
       refine AW.sub (S' := mk 147 [] [(0, .d (.sl (a0.map (cL cS27)))), (6, .ref 39 0 l39.length), (10, .i 0), (63, .b true)] [(39, R28 l39)]) (by simp; exact Sub.table (by simp) (by simp)) ?_
       refine AW.region ?_
       refine Chain.runK [] 1 fun K hK => ?_; simp; refine hK _ _ ?_; clear hK K
       refine Chain.sub (S' := mk 147 [] [(0, .d (.sl (a0.map (cL cS27)))), (6, .ref 39 0 l39.length), (10, .i 2)] [(39, R28 l39)]) Sub.tt ?_
       refine Chain.nil ?_
       cases h
       refine PostN.next ?_
       exact Sub.tt
      ·have c54_ : v50 = false := Bool.eq_false_iff.2 c54
       refine AW.condF (b := v50) rfl c54_ ?_
       refine AW.sub (Sub.bool 63 (b := v50) rfl c54_) ?_
       refine AW.sub (S' := mk 147 [] [(0, .d (.sl (a0.map (cL cS27)))), (6, .ref 39 0 l39.length), (10, .i 0), (63, .b false)] [(39, R28 l39)]) (by simp; exact Sub.table (by simp) (by simp)) ?_
       refine AW.skip ?_
       cases h
       refine PostN.next ?_
       exact Sub.tt
     ·rintro v53 h
      refine thenQ_normal ?_
      refine AW.seq ?_
      refine AW.seqR ?_
      refine Chain.runK [] 2 fun K hK => ?_; simp; refine hK _ _ ?_; clear hK K
      refine Chain.sub (S' := mk 147 [] [(0, .d (.sl (a0.map (cL cS27)))), (6, .ref 39 0 l39.length), (10, .i v53), (11, .ptr 11 0 0)] [(11, some (.box [.i 0])), (39, R28 l39)]) Sub.tt ?_
      refine Chain.nil ?_
      refine AW.lastN (fun (v103 : Int) => mk 147 [] [(0, .d (.sl (a0.map (cL cS27)))), (6, .ref 39 0 l39.length), (10, .i v103)] [(39, R28 l39)]) h ?_ ?_ <;> clear h
      ·intro o h
       refine AW.block ?_
       refine AW.iter (fun ((v69, v70) : (Int × Int)) => mk 147 [] [(0, .d (.sl (a0.map (cL cS27)))), (6, .ref 39 0 l39.length), (10, .i v69), (11, .ptr 11 0 0)] [(11, some (.box [.i v70])), (39, R28 l39)]) h Sub.tt ?_
       clear h
       rintro ⟨v69, v70⟩ x h
       dsimp only at h ⊢
       refine AW.seq ?_
       replace h := bsome h; obtain ⟨v105, hj, h⟩ := h
       refine AW.cutR (mk 147 [] [(0, .d (.sl (a0.map (cL cS27)))), (6, .ref 39 0 l39.length), (10, .i v69), (11, .ptr 11 0 0), (71, .b v105)] [(11, some (.box [.i v70])), (39, R28 l39)]) ?_ ?_
       ·clear h; have h := hj; clear hj
        refine Chain.runK [] 5 fun K hK => ?_; simp; refine hK _ _ ?_; clear hK K
        refine Chain.sub (S' := mk 147 [] [(0, .d (.sl (a0.map (cL cS27)))), (6, .ref 39 0 l39.length), (10, .i v69), (11, .ptr 11 0 0), (68, .b (decide (v70 < (a0.length : Int))))] [(11, some (.box [.i v70])), (39, R28 l39)]) Sub.tt ?_
        replace h := isome h; rcases h with ⟨c106, h⟩ | ⟨c106, h⟩
        ·have c106_ : decide (v70 < (a0.length : Int)) = true := decide_eq_true c106
         refine Chain.sub (Sub.bool 68 (b := decide (v70 < (a0.length : Int))) rfl c106_) ?_
         refine Chain.sub (S' := mk 147 [] [(0, .d (.sl (a0.map (cL cS27)))), (6, .ref 39 0 l39.length), (10, .i v69), (11, .ptr 11 0 0), (68, .b true)] [(11, some (.box [.i v70])), (39, R28 l39)]) (by simp; exact Sub.table (by simp) (by simp)) ?_
         refine Chain.runK [] 3 fun K hK => ?_; simp; refine hK _ _ ?_; clear hK K
         refine Chain.sub (S' := mk 147 [] [(0, .d (.sl (a0.map (cL cS27)))), (6, .ref 39 0 l39.length), (10, .i v69), (11, .ptr 11 0 0), (69, .i v69), (70, .b (v69 == 0)), (71, .b (v69 == 0))] [(11, some (.box [.i v70])), (39, R28 l39)]) Sub.tt ?_
         cases h
         exact Chain.nil Sub.tt
        ·have c106_ : decide (v70 < (a0.length : Int)) = false := decide_eq_false c106
         refine Chain.sub (Sub.bool 68 (b := decide (v70 < (a0.length : Int))) rfl c106_) ?_
         refine Chain.sub (S' := mk 147 [] [(0, .d (.sl (a0.map (cL cS27)))), (6, .ref 39 0 l39.length), (10, .i v69), (11, .ptr 11 0 0), (68, .b false)] [(11, some (.box [.i v70])), (39, R28 l39)]) (by simp; exact Sub.table (by simp) (by simp)) ?_
         refine Chain.runK [] 3 fun K hK => ?_; simp; refine hK _ _ ?_; clear hK K
         refine Chain.sub (S' := mk 147 [] [(0, .d (.sl (a0.map (cL cS27)))), (6, .ref 39 0 l39.length), (10, .i v69), (11, .ptr 11 0 0), (69, .tup []), (70, .tup []), (71, .b false)] [(11, some (.box [.i v70])), (39, R28 l39)]) Sub.tt ?_
         cases h
         exact Chain.nil Sub.tt
       ·clear hj
        replace h := isome h; rcases h with ⟨c107, h⟩ | ⟨c107, h⟩
        ·have c107_ : v105 = true := c107
         refine AW.condT (b := v105) rfl c107_ ?_
         refine AW.sub (Sub.bool 71 (b := v105) rfl c107_) ?_
         refine AW.sub (S' := mk 147 [] [(0, .d (.sl (a0.map (cL cS27)))), (6, .ref 39 0 l39.length), (10, .i v69), (11, .ptr 11 0 0), (71, .b true)] [(11, some (.box [.i v70])), (39, R28 l39)]) (by simp; exact Sub.table (by simp) (by simp)) ?_
         refine AW.skip ?_
         refine thenQ_normal ?_
         refine AW.seq ?_
         refine AW.block ?_
         refine AW.seqR ?_
         replace h := bsome h; obtain ⟨x108, hx108, h⟩ := h
         obtain ⟨k109, hx108k, hx108, hx108a, hx108b⟩ := idx_some hx108
         refine Chain.runK [] 4 fun K hK => ?_; simp [hx108, hx108k, hx108a]; refine hK _ _ ?_; clear hK K
         refine Chain.sub (S' := mk 147 [] [(0, .d (.sl (a0.map (cL cS27)))), (6, .ref 39 0 l39.length), (11, .ptr 11 0 0), (77, .d (.sl (x108.map cS27)))] [(11, some (.box [.i v70])), (39, R28 l39)]) Sub.tt ?_
         replace h := bsome h; obtain ⟨r110, hr110, h⟩ := h
         refine Chain.callL (d := 78) (p6 N x108 r110 hr110) (by simp) rfl rfl (by simp <;> rfl) (by simp <;> rfl) ent6 (by simp <;> rfl) ?_
         refine Chain.sub (S' := mk 147 [] [(0, .d (.sl (a0.map (cL cS27)))), (6, .ref 39 0 l39.length), (11, .ptr 11 0 0), (77, .d (.sl (x108.map cS27))), (78, .i r110)] [(11, some (.box [.i v70])), (39, R28 l39)]) (by simp; exact Sub.table (by simp) (by simp)) ?_
         refine Chain.runK [] 1 fun K hK => ?_; simp; refine hK _ _ ?_; clear hK K
         refine Chain.sub (S' := mk 147 [] [(0, .d (.sl (a0.map (cL cS27)))), (6, .ref 39 0 l39.length), (10, .i r110), (11, .ptr 11 0 0)] [(11, some (.box [.i v70])), (39, R28 l39)]) Sub.tt ?_
         refine Chain.nil ?_
         replace h := bsome h; obtain ⟨v113, hj, h⟩ := h
         refine AW.cutR (mk 147 [] [(0, .d (.sl (a0.map (cL cS27)))), (6, .ref 39 0 l39.length), (10, .i r110), (11, .ptr 11 0 0), (88, .b v113)] [(11, some (.box [.i v70])), (39, R28 l39)]) ?_ ?_
         ·clear h; have h := hj; clear hj
          refine Chain.runK [] 3 fun K hK => ?_; simp; refine hK _ _ ?_; clear hK K
          refine Chain.sub (S' := mk 147 [] [(0, .d (.sl (a0.map (cL cS27)))), (6, .ref 39 0 l39.length), (10, .i r110), (11, .ptr 11 0 0), (81, .b (r110 == 0))] [(11, some (.box [.i v70])), (39, R28 l39)]) Sub.tt ?_
          replace h := isome h; rcases h with ⟨c114, h⟩ | ⟨c114, h⟩
          ·have c114_ : (r110 == 0) = true := c114
           refine Chain.sub (Sub.bool 81 (b := (r110 == 0)) rfl c114_) ?_
           refine Chain.sub (S' := mk 147 [] [(0, .d (.sl (a0.map (cL cS27)))), (6, .ref 39 0 l39.length), (10, .i r110), (11, .ptr 11 0 0), (81, .b true)] [(11, some (.box [.i v70])), (39, R28 l39)]) (by simp; exact Sub.table (by simp) (by simp)) ?_
           refine Chain.runK [] 5 fun K hK => ?_; simp [hx108, hx108k, hx108a]; refine hK _ _ ?_; clear hK K
           refine Chain.sub (S' := mk 147 [] [(0, .d (.sl (a0.map (cL cS27)))), (6, .ref 39 0 l39.length), (10, .i r110), (11, .ptr 11 0 0), (81, .b true), (82, .d (.sl (a0.map (cL cS27)))), (83, .i v70), (84, .d (.pim [.sl (x108.map cS27)])), (85, .d (.sl (x108.map cS27))), (86, .fn (.func 8) [.ptr 11 0 0])] [(11, some (.box [.i v70])), (39, R28 l39)]) Sub.tt ?_
           replace h := bsome h; obtain ⟨r115, hr115, h⟩ := h
           refine Chain.callL (d := 87) (p7 N x108 8 [.pim [.lit (.int .i64 v70)]] (fun b0 => d8 N b0 v70) ent8 (fun b0 r h => p8 N b0 v70 r h) r115 hr115) (by simp) rfl rfl (by simp <;> rfl) (by simp <;> rfl) ent7 (by simp <;> rfl) ?_
           refine Chain.sub (S' := mk 147 [] [(0, .d (.sl (a0.map (cL cS27)))), (6, .ref 39 0 l39.length), (10, .i r110), (11, .ptr 11 0 0), (81, .b true), (82, .d (.sl (a0.map (cL cS27)))), (83, .i v70), (84, .d (.pim [.sl (x108.map cS27)])), (85, .d (.sl (x108.map cS27))), (86, .fn (.func 8) [.ptr 11 0 0]), (87, .b r115)] [(11, some (.box [.i v70])), (39, R28 l39)]) (by simp; exact Sub.table (by simp) (by simp)) ?_
           refine Chain.runK [] 1 fun K hK => ?_; simp; refine hK _ _ ?_; clear hK K
           refine Chain.sub (S' := mk 147 [] [(0, .d (.sl (a0.map (cL cS27)))), (6, .ref 39 0 l39.length), (10, .i r110), (11, .ptr 11 0 0), (82, .d (.sl (a0.map (cL cS27)))), (83, .i v70), (84, .d (.pim [.sl (x108.map cS27)])), (85, .d (.sl (x108.map cS27))), (86, .fn (.func 8) [.ptr 11 0 0]), (87, .b r115), (88, .b r115)] [(11, some (.box [.i v70])), (39, R28 l39)]) Sub.tt ?_
           cases h
           exact Chain.nil Sub.tt
          ·have c114_ : (r110 == 0) = false := Bool.eq_false_iff.2 c114
           refine Chain.sub (Sub.bool 81 (b := (r110 == 0)) rfl c114_) ?_
           refine Chain.sub (S' := mk 147 [] [(0, .d (.sl (a0.map (cL cS27)))), (6, .ref 39 0 l39.length), (10, .i r110), (11, .ptr 11 0 0), (81, .b false)] [(11, some (.box [.i v70])), (39, R28 l39)]) (by simp; exact Sub.table (by simp) (by simp)) ?_
           refine Chain.runK [] 7 fun K hK => ?_; simp; refine hK _ _ ?_; clear hK K
           refine Chain.sub (S' := mk 147 [] [(0, .d (.sl (a0.map (cL cS27)))), (6, .ref 39 0 l39.length), (10, .i r110), (11, .ptr 11 0 0), (82, .tup []), (83, .tup []), (84, .tup []), (85, .tup []), (86, .tup []), (87, .tup []), (88, .b false)] [(11, some (.box [.i v70])), (39, R28 l39)]) Sub.tt ?_
           cases h
           exact Chain.nil Sub.tt
         ·clear hj
          replace h := isome h; rcases h with ⟨c116, h⟩ | ⟨c116, h⟩
          ·have c116_ : v113 = true := c116
           refine AW.condT (b := v113) rfl c116_ ?_
           refine AW.sub (Sub.bool 88 (b := v113) rfl c116_) ?_
           refine AW.sub (S' := mk 147 [] [(0, .d (.sl (a0.map (cL cS27)))), (6, .ref 39 0 l39.length), (10, .i r110), (11, .ptr 11 0 0), (88, .b true)] [(11, some (.box [.i v70])), (39, R28 l39)]) (by simp; exact Sub.table (by simp) (by simp)) ?_
           refine AW.region ?_
           refine Chain.runK [] 1 fun K hK => ?_; simp; refine hK _ _ ?_; clear hK K
           refine Chain.sub (S' := mk 147 [] [(0, .d (.sl (a0.map (cL cS27)))), (6, .ref 39 0 l39.length), (10, .i 3), (11, .ptr 11 0 0)] [(11, some (.box [.i v70])), (39, R28 l39)]) Sub.tt ?_
           refine Chain.nil ?_
           refine blockQ.normal ?_
           refine thenQ_normal ?_
           refine AW.seq ?_
           refine AW.seqR ?_
           refine Chain.runK [] 1 fun K hK => ?_; simp; refine hK _ _ ?_; clear hK K
           refine Chain.sub (S' := mk 147 [] [(0, .d (.sl (a0.map (cL cS27)))), (6, .ref 39 0 l39.length), (10, .i 3), (89, .i v70)] [(39, R28 l39)]) Sub.tt ?_
           refine Chain.nil ?_
           refine AW.region ?_
           refine Chain.runK [] 2 fun K hK => ?_; simp; refine hK _ _ ?_; clear hK K
           refine Chain.sub (S' := mk 147 [] [(0, .d (.sl (a0.map (cL cS27)))), (6, .ref 39 0 l39.length), (10, .i 3), (11, .ptr 11 0 0)] [(11, some (.box [.i v70])), (39, R28 l39)]) Sub.tt ?_
           refine Chain.nil ?_
           refine thenQ_normal ?_
           refine AW.region ?_
           replace h := bsome h; obtain ⟨v117, hv117, h⟩ := h
           have hv117 := chkI_some hv117
           refine Chain.runK [] 3 fun K hK => ?_; simp [hv117]; refine hK _ _ ?_; clear hK K
           refine Chain.sub (S' := mk 147 [] [(0, .d (.sl (a0.map (cL cS27)))), (6, .ref 39 0 l39.length), (10, .i 3), (11, .ptr 11 0 0)] [(11, some (.box [.i v117])), (39, R28 l39)]) Sub.tt ?_
           refine Chain.nil ?_
           cases h
           refine PostI.next ?_
           exact Sub.tt
          ·have c116_ : v113 = false := Bool.eq_false_iff.2 c116
           refine AW.condF (b := v113) rfl c116_ ?_
           refine AW.sub (Sub.bool 88 (b := v113) rfl c116_) ?_
           refine AW.sub (S' := mk 147 [] [(0, .d (.sl (a0.map (cL cS27)))), (6, .ref 39 0 l39.length), (10, .i r110), (11, .ptr 11 0 0), (88, .b false)] [(11, some (.box [.i v70])), (39, R28 l39)]) (by simp; exact Sub.table (by simp) (by simp)) ?_
           refine AW.skip ?_
           refine blockQ.normal ?_
           refine thenQ_normal ?_
           refine AW.seq ?_
           refine AW.seqR ?_
           refine Chain.runK [] 1 fun K hK => ?_; simp; refine hK _ _ ?_; clear hK K
           refine Chain.sub (S' := mk 147 [] [(0, .d (.sl (a0.map (cL cS27)))), (6, .ref 39 0 l39.length), (10, .i r110), (89, .i v70)] [(39, R28 l39)]) Sub.tt ?_
           refine Chain.nil ?_
           refine AW.region ?_
           refine Chain.runK [] 2 fun K hK => ?_; simp; refine hK _ _ ?_; clear hK K
           refine Chain.sub (S' := mk 147 [] [(0, .d (.sl (a0.map (cL cS27)))), (6, .ref 39 0 l39.length), (10, .i r110), (11, .ptr 11 0 0)] [(11, some (.box [.i v70])), (39, R28 l39)]) Sub.tt ?_
           refine Chain.nil ?_
           refine thenQ_normal ?_
           refine AW.region ?_
           replace h := bsome h; obtain ⟨v118, hv118, h⟩ := h
           have hv118 := chkI_some hv118
           refine Chain.runK [] 3 fun K hK => ?_; simp [hv118]; refine hK _ _ ?_; clear hK K
           refine Chain.sub (S' := mk 147 [] [(0, .d (.sl (a0.map (cL cS27)))), (6, .ref 39 0 l39.length), (10, .i r110), (11, .ptr 11 0 0)] [(11, some (.box [.i v118])), (39, R28 l39)]) Sub.tt ?_
           refine Chain.nil ?_
           cases h
           refine PostI.next ?_
           exact Sub.tt
        ·have c107_ : v105 = false := Bool.eq_false_iff.2 c107
         refine AW.condF (b := v105) rfl c107_ ?_
         refine AW.sub (Sub.bool 71 (b := v105) rfl c107_) ?_
         refine AW.sub (S' := mk 147 [] [(0, .d (.sl (a0.map (cL cS27)))), (6, .ref 39 0 l39.length), (10, .i v69), (11, .ptr 11 0 0), (71, .b false)] [(11, some (.box [.i v70])), (39, R28 l39)]) (by simp; exact Sub.table (by simp) (by simp)) ?_
         refine AW.exit ?_
         cases h
         refine thenQ_pass (by simp) ?_
         refine PostI.out (by simp) ?_
         rintro rfl
         refine blockQ.hit ?_
         refine PostN.next ?_
         exact Sub.tt
      ·rintro v103 h
       refine thenQ_normal ?_
       refine AW.seqR ?_
       refine Chain.runK [] 1 fun K hK => ?_; simp; refine hK _ _ ?_; clear hK K
       refine Chain.sub (S' := mk 147 [] [(0, .d (.sl (a0.map (cL cS27)))), (6, .ref 39 0 l39.length), (10, .i v103), (91, .ref 39 0 l39.length)] [(39, R28 l39)]) Sub.tt ?_
       refine Chain.sub (Sub.freeze 39 rfl) ?_
       refine Chain.sub (S' := mk 147 [] [(0, .d (.sl (a0.map (cL cS27)))), (6, .d (.sl (l39.map (cL cS27)))), (10, .i v103), (91, .d (.sl (l39.map (cL cS27))))] []) (by simp; exact Sub.table (by simp) (by simp)) ?_
       replace h := bsome h; obtain ⟨r119, hr119, h⟩ := h
       refine Chain.callC (d := 92) (p9 N l39 r119 hr119) (by simp) rfl rfl (by simp <;> rfl) (by simp <;> rfl) ent9 (by simp) (.inl ⟨by simp, by simp⟩) ?_
       refine Chain.sub (S' := mk 147 [] [(0, .d (.sl (a0.map (cL cS27)))), (6, .d (.sl (l39.map (cL cS27)))), (10, .i v103), (91, .d (.sl (l39.map (cL cS27)))), (92, .tup [.d (.sl (r119.1.map (cL cS27))), .i r119.2])] []) (by simp; exact Sub.table (by simp) (by simp)) ?_
       refine Chain.runK [] 5 fun K hK => ?_; simp; refine hK _ _ ?_; clear hK K
       refine Chain.sub (S' := mk 147 [] [(0, .d (.sl (a0.map (cL cS27)))), (6, .d (.sl (l39.map (cL cS27)))), (10, .i v103), (12, .d (.sl (r119.1.map (cL cS27)))), (13, .i r119.2)] []) Sub.tt ?_
       refine Chain.nil ?_
       refine AW.seqR ?_
       refine Chain.runK [] 1 fun K hK => ?_; simp; refine hK _ _ ?_; clear hK K
       refine Chain.sub (S' := mk 147 [] [(0, .d (.sl (a0.map (cL cS27)))), (6, .d (.sl (l39.map (cL cS27)))), (10, .i v103), (12, .d (.sl (r119.1.map (cL cS27)))), (13, .i r119.2), (96, .d (.sl (l39.map (cL cS27))))] []) Sub.tt ?_
       replace h := bsome h; obtain ⟨r120, hr120, h⟩ := h
       refine Chain.callL (d := 97) (p4 N l39 r120 hr120) (by simp) rfl rfl (by simp <;> rfl) (by simp <;> rfl) ent4 (by simp <;> rfl) ?_
       refine Chain.sub (S' := mk 147 [] [(0, .d (.sl (a0.map (cL cS27)))), (6, .d (.sl (l39.map (cL cS27)))), (10, .i v103), (12, .d (.sl (r119.1.map (cL cS27)))), (13, .i r119.2), (96, .d (.sl (l39.map (cL cS27)))), (97, .tup [.i r120.1, .i r120.2.1, .i r120.2.2])] []) (by simp; exact Sub.table (by simp) (by simp)) ?_
       refine Chain.runK [] 7 fun K hK => ?_; simp; refine hK _ _ ?_; clear hK K
       refine Chain.sub (S' := mk 147 [] [(0, .d (.sl (a0.map (cL cS27)))), (6, .d (.sl (l39.map (cL cS27)))), (10, .i v103), (12, .d (.sl (r119.1.map (cL cS27)))), (13, .i r119.2), (14, .i r120.1), (15, .i r120.2.1), (16, .i r120.2.2)] []) Sub.tt ?_
       refine Chain.nil ?_
       refine AW.seq ?_
       replace h := bsome h; obtain ⟨v124, hj, h⟩ := h
       refine AW.cutR (mk 147 [] [(0, .d (.sl (a0.map (cL cS27)))), (10, .i v103), (12, .d (.sl (r119.1.map (cL cS27)))), (14, .i r120.1), (15, .i r120.2.1), (114, .b v124)] []) ?_ ?_
       ·clear h; have h := hj; clear hj
        refine Chain.runK [] 1 fun K hK => ?_; simp; refine hK _ _ ?_; clear hK K
        refine Chain.sub (S' := mk 147 [] [(0, .d (.sl (a0.map (cL cS27)))), (10, .i v103), (12, .d (.sl (r119.1.map (cL cS27)))), (13, .i r119.2), (14, .i r120.1), (15, .i r120.2.1), (16, .i r120.2.2), (101, .d (.sl (l39.map (cL cS27))))] []) Sub.tt ?_
        replace h := bsome h; obtain ⟨r125, hr125, h⟩ := h
        refine Chain.callL (d := 102) (p10 N l39 r125 hr125) (by simp) rfl rfl (by simp <;> rfl) (by simp <;> rfl) ent10 (by simp <;> rfl) ?_
        refine Chain.sub (S' := mk 147 [] [(0, .d (.sl (a0.map (cL cS27)))), (10, .i v103), (12, .d (.sl (r119.1.map (cL cS27)))), (13, .i r119.2), (14, .i r120.1), (15, .i r120.2.1), (16, .i r120.2.2), (101, .d (.sl (l39.map (cL cS27)))), (102, .i r125)] []) (by simp; exact Sub.table (by simp) (by simp)) ?_
        refine Chain.runK [] 3 fun K hK => ?_; simp; refine hK _ _ ?_; clear hK K
        refine Chain.sub (S' := mk 147 [] [(0, .d (.sl (a0.map (cL cS27)))), (10, .i v103), (12, .d (.sl (r119.1.map (cL cS27)))), (13, .i r119.2), (14, .i r120.1), (15, .i r120.2.1), (16, .i r120.2.2), (105, .b (r125 != v103))] []) Sub.tt ?_
        replace h := isome h; rcases h with ⟨c126, h⟩ | ⟨c126, h⟩
        ·have c126_ : (r125 != v103) = true := c126
         refine Chain.sub (Sub.bool 105 (b := (r125 != v103)) rfl c126_) ?_
         refine Chain.sub (S' := mk 147 [] [(0, .d (.sl (a0.map (cL cS27)))), (10, .i v103), (12, .d (.sl (r119.1.map (cL cS27)))), (13, .i r119.2), (14, .i r120.1), (15, .i r120.2.1), (16, .i r120.2.2), (105, .b true)] []) (by simp; exact Sub.table (by simp) (by simp)) ?_
         refine Chain.runK [] 9 fun K hK => ?_; simp; refine hK _ _ ?_; clear hK K
         refine Chain.sub (S' := mk 147 [] [(0, .d (.sl (a0.map (cL cS27)))), (10, .i v103), (12, .d (.sl (r119.1.map (cL cS27)))), (14, .i r120.1), (15, .i r120.2.1), (114, .b true)] []) Sub.tt ?_
         cases h
         exact Chain.nil Sub.tt
        ·have c126_ : (r125 != v103) = false := Bool.eq_false_iff.2 c126
         refine Chain.sub (Sub.bool 105 (b := (r125 != v103)) rfl c126_) ?_
         refine Chain.sub (S' := mk 147 [] [(0, .d (.sl (a0.map (cL cS27)))), (10, .i v103), (12, .d (.sl (r119.1.map (cL cS27)))), (13, .i r119.2), (14, .i r120.1), (15, .i r120.2.1), (16, .i r120.2.2), (105, .b false)] []) (by simp; exact Sub.table (by simp) (by simp)) ?_
         refine Chain.runK [] 5 fun K hK => ?_; simp; refine hK _ _ ?_; clear hK K
         refine Chain.sub (S' := mk 147 [] [(0, .d (.sl (a0.map (cL cS27)))), (10, .i v103), (12, .d (.sl (r119.1.map (cL cS27)))), (14, .i r120.1), (15, .i r120.2.1), (16, .i r120.2.2), (110, .b (r119.2 != v103))] []) Sub.tt ?_
         replace h := isome h; rcases h with ⟨c127, h⟩ | ⟨c127, h⟩
         ·have c127_ : (r119.2 != v103) = true := c127
          refine Chain.sub (Sub.bool 110 (b := (r119.2 != v103)) rfl c127_) ?_
          refine Chain.sub (S' := mk 147 [] [(0, .d (.sl (a0.map (cL cS27)))), (10, .i v103), (12, .d (.sl (r119.1.map (cL cS27)))), (14, .i r120.1), (15, .i r120.2.1), (16, .i r120.2.2), (110, .b true)] []) (by simp; exact Sub.table (by simp) (by simp)) ?_
          refine Chain.runK [] 4 fun K hK => ?_; simp; refine hK _ _ ?_; clear hK K
          refine Chain.sub (S' := mk 147 [] [(0, .d (.sl (a0.map (cL cS27)))), (10, .i v103), (12, .d (.sl (r119.1.map (cL cS27)))), (14, .i r120.1), (15, .i r120.2.1), (114, .b true)] []) Sub.tt ?_
          cases h
          exact Chain.nil Sub.tt
         ·have c127_ : (r119.2 != v103) = false := Bool.eq_false_iff.2 c127
          refine Chain.sub (Sub.bool 110 (b := (r119.2 != v103)) rfl c127_) ?_
          refine Chain.sub (S' := mk 147 [] [(0, .d (.sl (a0.map (cL cS27)))), (10, .i v103), (12, .d (.sl (r119.1.map (cL cS27)))), (14, .i r120.1), (15, .i r120.2.1), (16, .i r120.2.2), (110, .b false)] []) (by simp; exact Sub.table (by simp) (by simp)) ?_
          refine Chain.runK [] 4 fun K hK => ?_; simp; refine hK _ _ ?_; clear hK K
          refine Chain.sub (S' := mk 147 [] [(0, .d (.sl (a0.map (cL cS27)))), (10, .i v103), (12, .d (.sl (r119.1.map (cL cS27)))), (14, .i r120.1), (15, .i r120.2.1), (114, .b (r120.2.2 != v103))] []) Sub.tt ?_
          cases h
          exact Chain.nil Sub.tt
       ·clear hj
        replace h := isome h; rcases h with ⟨c128, h⟩ | ⟨c128, h⟩
        ·have c128_ : v124 = true := c128
         refine AW.condT (b := v124) rfl c128_ ?_
         refine AW.sub (Sub.bool 114 (b := v124) rfl c128_) ?_
         refine AW.sub (S' := mk 147 [] [(0, .d (.sl (a0.map (cL cS27)))), (10, .i v103), (12, .d (.sl (r119.1.map (cL cS27)))), (14, .i r120.1), (15, .i r120.2.1), (114, .b true)] []) (by simp; exact Sub.table (by simp) (by simp)) ?_
         refine AW.seqR ?_
         refine Chain.runK [] 1 fun K hK => ?_; simp; refine hK _ _ ?_; clear hK K
         refine Chain.sub (S' := mk 147 [] [(2, .b false)] []) Sub.tt ?_
         refine Chain.nil ?_
         refine AW.ret ?_
         cases h
         refine thenQ_pass (by simp) ?_
         exact FinC.ret (by simp) (by simp)
        ·have c128_ : v124 = false := Bool.eq_false_iff.2 c128
         refine AW.condF (b := v124) rfl c128_ ?_
         refine AW.sub (Sub.bool 114 (b := v124) rfl c128_) ?_
         refine AW.sub (S' := mk 147 [] [(0, .d (.sl (a0.map (cL cS27)))), (10, .i v103), (12, .d (.sl (r119.1.map (cL cS27)))), (14, .i r120.1), (15, .i r120.2.1), (114, .b false)] []) (by simp; exact Sub.table (by simp) (by simp)) ?_
         refine AW.skip ?_
         refine thenQ_normal ?_
         refine AW.seq ?_
         refine AW.seqR ?_
         refine Chain.runK [] 2 fun K hK => ?_; simp; refine hK _ _ ?_; clear hK K
         refine Chain.sub (S' := mk 147 [] [(0, .d (.sl (a0.map (cL cS27)))), (12, .d (.sl (r119.1.map (cL cS27)))), (14, .i r120.1), (15, .i r120.2.1), (116, .b (v103 != 0))] []) Sub.tt ?_
         refine Chain.nil ?_
         replace h := isome h; rcases h with ⟨c129, h⟩ | ⟨c129, h⟩
         ·have c129_ : (v103 != 0) = true := c129
          refine AW.condT (b := (v103 != 0)) rfl c129_ ?_
          refine AW.sub (Sub.bool 116 (b := (v103 != 0)) rfl c129_) ?_
          refine AW.sub (S' := mk 147 [] [(0, .d (.sl (a0.map (cL cS27)))), (12, .d (.sl (r119.1.map (cL cS27)))), (14, .i r120.1), (15, .i r120.2.1), (116, .b true)] []) (by simp; exact Sub.table (by simp) (by simp)) ?_
          replace h := bsome h; obtain ⟨v132, hj, h⟩ := h
          refine AW.cutR (mk 147 [] [(2, .b v132)] []) ?_ ?_
          ·clear h; have h := hj; clear hj
           refine Chain.runK [] 4 fun K hK => ?_; simp; refine hK _ _ ?_; clear hK K
           refine Chain.sub (S' := mk 147 [] [(14, .i r120.1), (15, .i r120.2.1), (120, .b ((r119.1.length : Int) == 0))] []) Sub.tt ?_
           replace h := isome h; rcases h with ⟨c133, h⟩ | ⟨c133, h⟩
           ·have c133_ : ((r119.1.length : Int) == 0) = true := c133
            refine Chain.sub (Sub.bool 120 (b := ((r119.1.length : Int) == 0)) rfl c133_) ?_
            refine Chain.sub (S' := mk 147 [] [(14, .i r120.1), (15, .i r120.2.1), (120, .b true)] []) (by simp; exact Sub.table (by simp) (by simp)) ?_
            refine Chain.runK [] 4 fun K hK => ?_; simp; refine hK _ _ ?_; clear hK K
            refine Chain.sub (S' := mk 147 [] [(15, .i r120.2.1), (124, .b (r120.1 == 0))] []) Sub.tt ?_
            replace h := isome h; rcases h with ⟨c134, h⟩ | ⟨c134, h⟩
            ·have c134_ : (r120.1 == 0) = true := c134
             refine Chain.sub (Sub.bool 124 (b := (r120.1 == 0)) rfl c134_) ?_
             refine Chain.sub (S' := mk 147 [] [(15, .i r120.2.1), (124, .b true)] []) (by simp; exact Sub.table (by simp) (by simp)) ?_
             refine Chain.runK [] 4 fun K hK => ?_; simp; refine hK _ _ ?_; clear hK K
             refine Chain.sub (S' := mk 147 [] [(2, .b (r120.2.1 == 0))] []) Sub.tt ?_
             cases h
             exact Chain.nil Sub.tt
            ·have c134_ : (r120.1 == 0) = false := Bool.eq_false_iff.2 c134
             refine Chain.sub (Sub.bool 124 (b := (r120.1 == 0)) rfl c134_) ?_
             refine Chain.sub (S' := mk 147 [] [(15, .i r120.2.1), (124, .b false)] []) (by simp; exact Sub.table (by simp) (by simp)) ?_
             refine Chain.runK [] 4 fun K hK => ?_; simp; refine hK _ _ ?_; clear hK K
             refine Chain.sub (S' := mk 147 [] [(2, .b false)] []) Sub.tt ?_
             cases h
             exact Chain.nil Sub.tt
           ·have c133_ : ((r119.1.length : Int) == 0) = false := Bool.eq_false_iff.2 c133
            refine Chain.sub (Sub.bool 120 (b := ((r119.1.length : Int) == 0)) rfl c133_) ?_
            refine Chain.sub (S' := mk 147 [] [(14, .i r120.1), (15, .i r120.2.1), (120, .b false)] []) (by simp; exact Sub.table (by simp) (by simp)) ?_
            refine Chain.runK [] 8 fun K hK => ?_; simp; refine hK _ _ ?_; clear hK K
            refine Chain.sub (S' := mk 147 [] [(2, .b false)] []) Sub.tt ?_
            cases h
            exact Chain.nil Sub.tt
          ·clear hj
           refine AW.ret ?_
           cases h
           refine thenQ_pass (by simp) ?_
           exact FinC.ret (by simp) (by simp)
         ·have c129_ : (v103 != 0) = false := Bool.eq_false_iff.2 c129
          refine AW.condF (b := (v103 != 0)) rfl c129_ ?_
          refine AW.sub (Sub.bool 116 (b := (v103 != 0)) rfl c129_) ?_
          refine AW.sub (S' := mk 147 [] [(0, .d (.sl (a0.map (cL cS27)))), (12, .d (.sl (r119.1.map (cL cS27)))), (14, .i r120.1), (15, .i r120.2.1), (116, .b false)] []) (by simp; exact Sub.table (by simp) (by simp)) ?_
          refine AW.skip ?_
          refine thenQ_normal ?_
          replace h := bsome h; obtain ⟨v140, hj, h⟩ := h
          refine AW.cutR (mk 147 [] [(2, .b v140)] []) ?_ ?_
          ·clear h; have h := hj; clear hj
           refine Chain.runK [] 5 fun K hK => ?_; simp; refine hK _ _ ?_; clear hK K
           refine Chain.sub (S' := mk 147 [] [(0, .d (.sl (a0.map (cL cS27)))), (12, .d (.sl (r119.1.map (cL cS27)))), (14, .i r120.1), (15, .i r120.2.1), (132, .b ((r119.1.length : Int) == r120.1))] []) Sub.tt ?_
           replace h := isome h; rcases h with ⟨c141, h⟩ | ⟨c141, h⟩
           ·have c141_ : ((r119.1.length : Int) == r120.1) = true := c141
            refine Chain.sub (Sub.bool 132 (b := ((r119.1.length : Int) == r120.1)) rfl c141_) ?_
            refine Chain.sub (S' := mk 147 [] [(0, .d (.sl (a0.map (cL cS27)))), (12, .d (.sl (r119.1.map (cL cS27)))), (14, .i r120.1), (15, .i r120.2.1), (132, .b true)] []) (by simp; exact Sub.table (by simp) (by simp)) ?_
            replace h := bsome h; obtain ⟨l142, gl142, h⟩ := h
            obtain ⟨hl142a, hl142b, hl142c, hl142d⟩ := mkL_some (cI .i64) gl142
            clear gl142
            replace hl142c : List.replicate l142.length [.lit (.int .i64 0)] = l142.map (cI .i64) := hl142c
            refine Chain.runK [] 5 fun K hK => ?_; simp [hl142a, hl142b, hl142c, hl142d]; refine hK _ _ ?_; clear hK K
            refine Chain.sub (S' := mk 147 [] [(0, .d (.sl (a0.map (cL cS27)))), (12, .d (.sl (r119.1.map (cL cS27)))), (15, .i r120.2.1), (132, .b true), (133, .i r120.1), (134, .d (.sl (a0.map (cL cS27)))), (137, .ref 137 0 l142.length)] [(137, R3 l142)]) Sub.tt ?_
            replace h := bsome h; obtain ⟨r143, hr143, h⟩ := h
            refine Chain.callL (d := 138) (FunC.args (args := [.d (.sl (a0.map (cL cS27))), .d (.sl (l142.map (cI .i64))), .d (.lit (.slice none 0 0))]) (p11 N a0 l142 [] r143 hr143) (by simp) rfl) (by simp) rfl rfl (by simp <;> rfl) (by simp <;> rfl) ent11 (by simp <;> rfl) ?_
            refine Chain.sub (S' := mk 147 [] [(0, .d (.sl (a0.map (cL cS27)))), (12, .d (.sl (r119.1.map (cL cS27)))), (15, .i r120.2.1), (132, .b true), (133, .i r120.1), (134, .d (.sl (a0.map (cL cS27)))), (137, .ref 137 0 l142.length), (138, .i r143)] [(137, R3 l142)]) (by simp; exact Sub.table (by simp) (by simp)) ?_
            refine Chain.runK [] 3 fun K hK => ?_; simp; refine hK _ _ ?_; clear hK K
            refine Chain.sub (S' := mk 147 [] [(0, .d (.sl (a0.map (cL cS27)))), (12, .d (.sl (r119.1.map (cL cS27)))), (15, .i r120.2.1), (141, .b (r120.1 == r143))] []) Sub.tt ?_
            replace h := isome h; rcases h with ⟨c144, h⟩ | ⟨c144, h⟩
            ·have c144_ : (r120.1 == r143) = true := c144
             refine Chain.sub (Sub.bool 141 (b := (r120.1 == r143)) rfl c144_) ?_
             refine Chain.sub (S' := mk 147 [] [(0, .d (.sl (a0.map (cL cS27)))), (12, .d (.sl (r119.1.map (cL cS27)))), (15, .i r120.2.1), (141, .b true)] []) (by simp; exact Sub.table (by simp) (by simp)) ?_
             refine Chain.runK [] 3 fun K hK => ?_; simp; refine hK _ _ ?_; clear hK K
             refine Chain.sub (S' := mk 147 [] [(141, .b true), (142, .d (.sl (a0.map (cL cS27)))), (143, .d (.sl (r119.1.map (cL cS27)))), (144, .i r120.2.1)] []) Sub.tt ?_
             replace h := bsome h; obtain ⟨r145, hr145, h⟩ := h
             refine Chain.callL (d := 145) (p12 N a0 r119.1 r120.2.1 r145 hr145) (by simp) rfl rfl (by simp <;> rfl) (by simp <;> rfl) ent12 (by simp <;> rfl) ?_
             refine Chain.sub (S' := mk 147 [] [(141, .b true), (142, .d (.sl (a0.map (cL cS27)))), (143, .d (.sl (r119.1.map (cL cS27)))), (144, .i r120.2.1), (145, .b r145)] []) (by simp; exact Sub.table (by simp) (by simp)) ?_
             refine Chain.runK [] 2 fun K hK => ?_; simp; refine hK _ _ ?_; clear hK K
             refine Chain.sub (S' := mk 147 [] [(2, .b r145)] []) Sub.tt ?_
             cases h
             exact Chain.nil Sub.tt
            ·have c144_ : (r120.1 == r143) = false := Bool.eq_false_iff.2 c144
             refine Chain.sub (Sub.bool 141 (b := (r120.1 == r143)) rfl c144_) ?_
             refine Chain.sub (S' := mk 147 [] [(0, .d (.sl (a0.map (cL cS27)))), (12, .d (.sl (r119.1.map (cL cS27)))), (15, .i r120.2.1), (141, .b false)] []) (by simp; exact Sub.table (by simp) (by simp)) ?_
             refine Chain.runK [] 6 fun K hK => ?_; simp; refine hK _ _ ?_; clear hK K
             refine Chain.sub (S' := mk 147 [] [(2, .b false)] []) Sub.tt ?_
             cases h
             exact Chain.nil Sub.tt
           ·have c141_ : ((r119.1.length : Int) == r120.1) = false := Bool.eq_false_iff.2 c141
            refine Chain.sub (Sub.bool 132 (b := ((r119.1.length : Int) == r120.1)) rfl c141_) ?_
            refine Chain.sub (S' := mk 147 [] [(0, .d (.sl (a0.map (cL cS27)))), (12, .d (.sl (r119.1.map (cL cS27)))), (14, .i r120.1), (15, .i r120.2.1), (132, .b false)] []) (by simp; exact Sub.table (by simp) (by simp)) ?_
            refine Chain.runK [] 15 fun K hK => ?_; simp; refine hK _ _ ?_; clear hK K
            refine Chain.sub (S' := mk 147 [] [(2, .b false)] []) Sub.tt ?_
            cases h
            exact Chain.nil Sub.tt
          ·clear hj
           refine AW.ret ?_
           cases h
           exact FinC.ret (by simp) (by simp)

end Go.Proofs.Ytifcmomjjkbboaa
