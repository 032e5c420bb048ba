/- Functions of the program as functional programs; the code computes them. -/
import Derived.Test.YtmgddgcniacnbaaGreatDoorCa0
import Derived.Test.YtmgddgcniacnbaaGreatDoorShelf
namespace Go.Proofs.YtmgddgcniacnbaaGreatDoor
set_option maxRecDepth 100000
set_option maxHeartbeats 4000000
open Go.Ab Go.Rp
attribute [-simp] List.all_eq_true Array.all_toList Array.all_eq_true
def d18 : (N : Nat) → (a0 : S76) → (a1 : Int) → Option Int
 | 0,_,_ => none
 | N + 1,a0,a1 =>
  bindO (β := Int) (ρ := Int) (
   iterN (σ := (Int × Int)) (ρ := (Out Int Int)) (fun ((v8,v9) : (Int × Int)) =>
    if v9 < (a0.Args.length : Int) then (
     (idx a0.Args v9).bind fun x30 =>
     (chkI (v8 - 1)).bind fun v32 =>
     if v32 < 0 then (
      some (.inr (.ret (-1)))
     ) else
     (d18 N x30 v32).bind fun r34 =>
     if r34 < 0 then (
      some (.inr (.ret (-1)))
     ) else
     (chkI (v9 + 1)).bind fun v36 =>
     some (.inl (r34,v36))
    ) else
    some (.inr (.go v8))
   ) N (a1,0)
  ) fun (v28 : Int) =>
  some v28
theorem p18 (N : Nat) : ∀ (a0 : S76) (a1 : Int) (r : Int) (_ : d18 N a0 a1 = some r),FunC Tryz.prog 18 [.agg (k76 a0),.i a1] (.i r) := by
 induction N with
 | zero => intro a0 a1 r h;cases h
 | succ N ih =>
 intro a0 a1 r h
 unfold d18 at h
 refine FunC.enter 25 [(0,.agg (k76 a0)),(1,.i a1)] (by simp) Tryz.func18 rfl (of_decide_eq_true rfl) rfl rfl ?_
 refine .seqR ?_
 refine .rr 2 ?_
 refine .nil (.seq (.seqR ?_))
 refine .rr 4 ?_
 refine .tt [(1,.i a1),(8,.s76 a0.Args),(9,.i (a0.Args.length : Int)),(10,.i 0)] [] (.nil ?_)
 refine .lastJ (fun (v28 : Int) => mk 25 [] [(1,.i v28)] []) h ?_ ?_ <;> clear h
 ·intro o h
  refine .block ?_
  refine .iter (fun ((v8,v9) : (Int × Int)) => mk 25 [] (L1 v8 a0.Args a0.Args.length v9) []) h Sub.tt ?_
  clear h
  rintro ⟨v8,v9⟩ x h
  dsimp only at h ⊢
  refine .seqR ?_
  refine .rr 1 ?_
  refine .nil (.seq ?_)
  replace h := isome h;rcases h with ⟨c29,h⟩ | ⟨c29,h⟩
  ·refine .condT rfl (decide_eq_true c29) ?_
   refine .skip (thenQ_normal (.seq (.block (.seqR ?_))))
   replace h := xsome h;obtain ⟨x30,k31,hx30k,hx30,hx30a,hx30b,h⟩ := h
   refine .rk 4 fun K k => ?_;simp [hx30,hx30k,hx30a];refine k ?_
   refine .tt (L2 v8 a0.Args a0.Args.length v9) (H49 x30) (.nil (.seq (.seqR ?_)))
   replace h := csome h;obtain ⟨v32,hv32,h⟩ := h
   refine .rk 3 fun K k => ?_;simp [hv32];refine k ?_
   refine .nil (.seqR ?_)
   refine .rr 2 ?_
   refine .nil ?_
   replace h := isome h;rcases h with ⟨c33,h⟩ | ⟨c33,h⟩
   ·refine .condT rfl (decide_eq_true c33) ?_
    refine .seqR ?_
    refine .rr 1 ?_
    refine .nil (.ret ?_)
    cases h
    refine thenQ_ps ?_
    refine blockQ.ret ?_
    refine thenQ_ps ?_
    refine PostI.os ?_
    rintro rfl
    refine blockQ.ret ?_
    refine PostJ.out (by simp) ?_
    rintro rfl
    refine thenQ_ps ?_
    exact FinC.rs
   ·refine .condF rfl (decide_eq_false c33) ?_
    refine .skip (thenQ_normal (.seqR ?_))
    refine .rr 2 ?_
    refine .tt [(8,.s76 a0.Args),(9,.i (a0.Args.length : Int)),(10,.i v9),(18,.agg (k76 x30)),(19,.i v32)] [] ?_
    replace h := bsome h;obtain ⟨r34,hr34,h⟩ := h
    refine .callL (d := 20) (ih x30 v32 r34 hr34) (by simp) rfl rfl (by simp <;> rfl) (by simp <;> rfl) ent18 (by simp <;> rfl) ?_
    refine .rr 1 ?_
    refine .nil (.seqR ?_)
    refine .rr 2 ?_
    refine .nil ?_
    replace h := isome h;rcases h with ⟨c35,h⟩ | ⟨c35,h⟩
    ·refine .condT rfl (decide_eq_true c35) ?_
     refine .seqR ?_
     refine .rr 1 ?_
     refine .nil (.ret ?_)
     cases h
     refine blockQ.ret ?_
     refine thenQ_ps ?_
     refine PostI.os ?_
     rintro rfl
     refine blockQ.ret ?_
     refine PostJ.out (by simp) ?_
     rintro rfl
     refine thenQ_ps ?_
     exact FinC.rs
    ·refine .condF rfl (decide_eq_false c35) ?_
     refine .skip (blockQ.normal (thenQ_normal (.region ?_)))
     replace h := csome h;obtain ⟨v36,hv36,h⟩ := h
     refine .rk 2 fun K k => ?_;simp [hv36];refine k ?_
     refine .nil ?_
     cases h
     refine PostI.next ?_
     exact Sub.tt
  ·refine .condF rfl (decide_eq_false c29) ?_
   refine .exit ?_
   cases h
   refine thenQ_ps ?_
   refine PostI.os ?_
   rintro rfl
   refine blockQ.hit (PostJ.next ?_)
   exact Sub.tt
 ·rintro v28 h
  refine thenQ_normal (.seqR ?_)
  refine .rr 2 ?_
  refine .nil (.ret ?_)
  cases h
  exact FinC.rs
def d5 : (N : Nat) → (a0 : S34) → (a1 : Int) → Option Int
 | 0,_,_ => none
 | N + 1,a0,a1 =>
  Option.bind (α := Int) (
   iterN (σ := (Int × Int)) (ρ := Int) (fun ((v6,v7) : (Int × Int)) =>
    if v7 < (a0.Exprs.length : Int) then (
     (idx a0.Exprs v7).bind fun x24 =>
     (chkI (v6 - 1)).bind fun v26 =>
     (d18 N x24 v26).bind fun r27 =>
     (chkI (v7 + 1)).bind fun v28 =>
     some (.inl (r27,v28))
    ) else
    some (.inr v6)
   ) N (a1,0)
  ) fun (v22 : Int) =>
  Option.bind (α := Int) (
   iterN (σ := (Int × Int)) (ρ := Int) (fun ((v60,v61) : (Int × Int)) =>
    if v61 < (a0.Aggregates.length : Int) then (
     (idx a0.Aggregates v61).bind fun x130 =>
     Option.bind (α := Int) (
      iterN (σ := (Int × Int)) (ρ := Int) (fun ((v137,v138) : (Int × Int)) =>
       if v138 < (x130.Args.length : Int) then (
        (idx x130.Args v138).bind fun x155 =>
        (chkI (v137 - 1)).bind fun v157 =>
        (d18 N x155 v157).bind fun r158 =>
        (chkI (v138 + 1)).bind fun v159 =>
        some (.inl (r158,v159))
       ) else
       some (.inr v137)
      ) N (v60,0)
     ) fun (v153 : Int) =>
     (chkI (v61 + 1)).bind fun v160 =>
     some (.inl (v153,v160))
    ) else
    some (.inr v60)
   ) N (v22,0)
  ) fun (v128 : Int) =>
  bindO (β := Int) (ρ := Int) (
   iterN (σ := (Int × Int)) (ρ := (Out Int Int)) (fun ((v167,v168) : (Int × Int)) =>
    if v168 < (a0.Inputs.length : Int) then (
     (idx a0.Inputs v168).bind fun x187 =>
     if v167 < 0 then (
      some (.inr (.ret (-1)))
     ) else
     (chkI (v167 - 1)).bind fun v190 =>
     (d5 N x187 v190).bind fun r191 =>
     (chkI (v168 + 1)).bind fun v192 =>
     some (.inl (r191,v192))
    ) else
    some (.inr (.go v167))
   ) N (v128,0)
  ) fun (v185 : Int) =>
  (chkI ((a0.Names.length : Int) + (a0.Descending.length : Int))).bind fun v193 =>
  if v193 > 100 then (
   some (-1)
  ) else
  some v185
theorem p5 (N : Nat) : ∀ (a0 : S34) (a1 : Int) (r : Int) (_ : d5 N a0 a1 = some r),FunC Tryz.prog 5 [.agg (k34 a0),.i a1] (.i r) := by
 induction N with
 | zero => intro a0 a1 r h;cases h
 | succ N ih =>
 intro a0 a1 r h
 unfold d5 at h
 refine FunC.enter 68 [(0,.agg (k34 a0)),(1,.i a1)] (by simp) Tryz.func5 rfl (of_decide_eq_true rfl) rfl rfl ?_
 refine .seqR ?_
 refine .rr 2 ?_
 refine .nil (.seq (.seqR ?_))
 refine .rr 4 ?_
 refine .tt [(1,.i a1),(2,.ptr 2 0 0),(14,.s76 a0.Exprs),(15,.i (a0.Exprs.length : Int)),(16,.i 0)] (H7 a0) (.nil ?_)
 refine .lastN (fun (v22 : Int) => mk 68 [] [(1,.i v22),(2,.ptr 2 0 0)] (H7 a0)) h ?_ ?_ <;> clear h
 ·intro o h
  refine .block ?_
  refine .iter (fun ((v6,v7) : (Int × Int)) => mk 68 [] (L3 v6 a0.Exprs a0.Exprs.length v7) (H7 a0)) h Sub.tt ?_
  clear h
  rintro ⟨v6,v7⟩ x h
  dsimp only at h ⊢
  refine .seqR ?_
  refine .rr 1 ?_
  refine .nil (.seq ?_)
  replace h := isome h;rcases h with ⟨c23,h⟩ | ⟨c23,h⟩
  ·refine .condT rfl (decide_eq_true c23) ?_
   refine .skip (thenQ_normal (.seq (.block (.seqR ?_))))
   replace h := xsome h;obtain ⟨x24,k25,hx24k,hx24,hx24a,hx24b,h⟩ := h
   refine .rk 4 fun K k => ?_;simp [hx24,hx24k,hx24a];refine k ?_
   refine .tt [(1,.i v6),(2,.ptr 2 0 0),(6,.ptr 6 0 0),(14,.s76 a0.Exprs),(15,.i (a0.Exprs.length : Int)),(16,.i v7)] [(2,some (.box (k34 a0))),(6,some (.box (k76 x24)))] (.nil (.region ?_))
   replace h := csome h;obtain ⟨v26,hv26,h⟩ := h
   refine .rk 3 fun K k => ?_;simp [hv26];refine k ?_
   refine .tt [(2,.ptr 2 0 0),(14,.s76 a0.Exprs),(15,.i (a0.Exprs.length : Int)),(16,.i v7),(20,.agg (k76 x24)),(22,.i v26)] (H7 a0) ?_
   replace h := bsome h;obtain ⟨r27,hr27,h⟩ := h
   refine .callL (d := 23) (p18 N x24 v26 r27 hr27) (by simp) rfl rfl (by simp <;> rfl) (by simp <;> rfl) ent18 (by simp <;> rfl) ?_
   refine .rr 1 ?_
   refine .tt (L3 r27 a0.Exprs a0.Exprs.length v7) (H7 a0) (.nil (blockQ.normal (thenQ_normal (.region ?_))))
   replace h := csome h;obtain ⟨v28,hv28,h⟩ := h
   refine .rk 2 fun K k => ?_;simp [hv28];refine k ?_
   refine .nil ?_
   cases h
   refine PostI.next ?_
   exact Sub.tt
  ·refine .condF rfl (decide_eq_false c23) ?_
   refine .exit ?_
   cases h
   refine thenQ_ps ?_
   refine PostI.os ?_
   rintro rfl
   refine blockQ.hit (PostN.next ?_)
   exact Sub.tt
 ·rintro v22 h
  refine thenQ_normal (.seq (.seqR ?_))
  refine .rr 4 ?_
  refine .tt [(1,.i v22),(2,.ptr 2 0 0),(26,.s79 a0.Aggregates),(27,.i (a0.Aggregates.length : Int)),(28,.i 0)] (H7 a0) (.nil ?_)
  refine .lastN (fun (v128 : Int) => mk 68 [] [(1,.i v128),(2,.ptr 2 0 0)] (H7 a0)) h ?_ ?_ <;> clear h
  ·intro o h
   refine .block ?_
   refine .iter (fun ((v60,v61) : (Int × Int)) => mk 68 [] (L4 v60 a0.Aggregates a0.Aggregates.length v61) (H7 a0)) h Sub.tt ?_
   clear h
   rintro ⟨v60,v61⟩ x h
   dsimp only at h ⊢
   refine .seqR ?_
   refine .rr 1 ?_
   refine .nil (.seq ?_)
   replace h := isome h;rcases h with ⟨c129,h⟩ | ⟨c129,h⟩
   ·refine .condT rfl (decide_eq_true c129) ?_
    refine .skip (thenQ_normal (.seq (.block (.seqR ?_))))
    replace h := xsome h;obtain ⟨x130,k131,hx130k,hx130,hx130a,hx130b,h⟩ := h
    refine .rk 4 fun K k => ?_;simp [hx130,hx130k,hx130a];refine k ?_
    refine .nil (.seqR ?_)
    refine .rr 4 ?_
    refine .tt (L4 v60 a0.Aggregates a0.Aggregates.length v61 ++ [(33,.s76 x130.Args),(34,.i (x130.Args.length : Int)),(35,.i 0)]) (H7 a0) (.nil ?_)
    refine .lastN (fun (v153 : Int) => mk 68 [] (L4 v153 a0.Aggregates a0.Aggregates.length v61) (H7 a0)) h ?_ ?_ <;> clear h
    ·intro o h
     refine .block ?_
     refine .iter (fun ((v137,v138) : (Int × Int)) => mk 68 [] (L5 v137 a0.Aggregates a0.Aggregates.length v61 x130.Args x130.Args.length v138) (H7 a0)) h Sub.tt ?_
     clear h
     rintro ⟨v137,v138⟩ x h
     dsimp only at h ⊢
     refine .seqR ?_
     refine .rr 1 ?_
     refine .nil (.seq ?_)
     replace h := isome h;rcases h with ⟨c154,h⟩ | ⟨c154,h⟩
     ·refine .condT rfl (decide_eq_true c154) ?_
      refine .skip (thenQ_normal (.seq (.block (.seqR ?_))))
      replace h := xsome h;obtain ⟨x155,k156,hx155k,hx155,hx155a,hx155b,h⟩ := h
      refine .rk 4 fun K k => ?_;simp [hx155,hx155k,hx155a];refine k ?_
      refine .tt [(1,.i v137),(2,.ptr 2 0 0),(10,.ptr 10 0 0),(26,.s79 a0.Aggregates),(27,.i (a0.Aggregates.length : Int)),(28,.i v61),(33,.s76 x130.Args),(34,.i (x130.Args.length : Int)),(35,.i v138)] [(2,some (.box (k34 a0))),(10,some (.box (k76 x155)))] (.nil (.region ?_))
      replace h := csome h;obtain ⟨v157,hv157,h⟩ := h
      refine .rk 3 fun K k => ?_;simp [hv157];refine k ?_
      refine .tt [(2,.ptr 2 0 0),(26,.s79 a0.Aggregates),(27,.i (a0.Aggregates.length : Int)),(28,.i v61),(33,.s76 x130.Args),(34,.i (x130.Args.length : Int)),(35,.i v138),(39,.agg (k76 x155)),(41,.i v157)] (H7 a0) ?_
      replace h := bsome h;obtain ⟨r158,hr158,h⟩ := h
      refine .callL (d := 42) (p18 N x155 v157 r158 hr158) (by simp) rfl rfl (by simp <;> rfl) (by simp <;> rfl) ent18 (by simp <;> rfl) ?_
      refine .rr 1 ?_
      refine .tt (L5 r158 a0.Aggregates a0.Aggregates.length v61 x130.Args x130.Args.length v138) (H7 a0) (.nil (blockQ.normal (thenQ_normal (.region ?_))))
      replace h := csome h;obtain ⟨v159,hv159,h⟩ := h
      refine .rk 2 fun K k => ?_;simp [hv159];refine k ?_
      refine .nil ?_
      cases h
      refine PostI.next ?_
      exact Sub.tt
     ·refine .condF rfl (decide_eq_false c154) ?_
      refine .exit ?_
      cases h
      refine thenQ_ps ?_
      refine PostI.os ?_
      rintro rfl
      refine blockQ.hit (PostN.next ?_)
      exact Sub.tt
    ·rintro v153 h
     refine blockQ.normal (thenQ_normal (.region ?_))
     replace h := csome h;obtain ⟨v160,hv160,h⟩ := h
     refine .rk 2 fun K k => ?_;simp [hv160];refine k ?_
     refine .nil ?_
     cases h
     refine PostI.next ?_
     exact Sub.tt
   ·refine .condF rfl (decide_eq_false c129) ?_
    refine .exit ?_
    cases h
    refine thenQ_ps ?_
    refine PostI.os ?_
    rintro rfl
    refine blockQ.hit (PostN.next ?_)
    exact Sub.tt
  ·rintro v128 h
   refine thenQ_normal (.seq (.seqR ?_))
   refine .rr 4 ?_
   refine .tt [(1,.i v128),(2,.ptr 2 0 0),(46,.s34 a0.Inputs),(47,.i (a0.Inputs.length : Int)),(48,.i 0)] (H7 a0) (.nil ?_)
   refine .lastJ (fun (v185 : Int) => mk 68 [] [(1,.i v185),(2,.ptr 2 0 0)] (H7 a0)) h ?_ ?_ <;> clear h
   ·intro o h
    refine .block ?_
    refine .iter (fun ((v167,v168) : (Int × Int)) => mk 68 [] (L6 v167 a0.Inputs a0.Inputs.length v168) (H7 a0)) h Sub.tt ?_
    clear h
    rintro ⟨v167,v168⟩ x h
    dsimp only at h ⊢
    refine .seqR ?_
    refine .rr 1 ?_
    refine .nil (.seq ?_)
    replace h := isome h;rcases h with ⟨c186,h⟩ | ⟨c186,h⟩
    ·refine .condT rfl (decide_eq_true c186) ?_
     refine .skip (thenQ_normal (.seq (.block (.seqR ?_))))
     replace h := xsome h;obtain ⟨x187,k188,hx187k,hx187,hx187a,hx187b,h⟩ := h
     refine .rk 4 fun K k => ?_;simp [hx187,hx187k,hx187a];refine k ?_
     refine .nil (.seq (.seqR ?_))
     refine .rr 2 ?_
     refine .nil ?_
     replace h := isome h;rcases h with ⟨c189,h⟩ | ⟨c189,h⟩
     ·refine .condT rfl (decide_eq_true c189) ?_
      refine .seqR ?_
      refine .rr 1 ?_
      refine .nil (.ret ?_)
      cases h
      refine thenQ_ps ?_
      refine blockQ.ret ?_
      refine thenQ_ps ?_
      refine PostI.os ?_
      rintro rfl
      refine blockQ.ret ?_
      refine PostJ.out (by simp) ?_
      rintro rfl
      refine thenQ_ps ?_
      exact FinC.rs
     ·refine .condF rfl (decide_eq_false c189) ?_
      refine .skip (thenQ_normal (.region ?_))
      replace h := csome h;obtain ⟨v190,hv190,h⟩ := h
      refine .rk 3 fun K k => ?_;simp [hv190];refine k ?_
      refine .tt [(2,.ptr 2 0 0),(46,.s34 a0.Inputs),(47,.i (a0.Inputs.length : Int)),(48,.i v168),(54,.agg (k34 x187)),(56,.i v190)] (H7 a0) ?_
      replace h := bsome h;obtain ⟨r191,hr191,h⟩ := h
      refine .callL (d := 57) (ih x187 v190 r191 hr191) (by simp) rfl rfl (by simp <;> rfl) (by simp <;> rfl) ent5 (by simp <;> rfl) ?_
      refine .rr 1 ?_
      refine .tt (L6 r191 a0.Inputs a0.Inputs.length v168) (H7 a0) (.nil (blockQ.normal (thenQ_normal (.region ?_))))
      replace h := csome h;obtain ⟨v192,hv192,h⟩ := h
      refine .rk 2 fun K k => ?_;simp [hv192];refine k ?_
      refine .nil ?_
      cases h
      refine PostI.next ?_
      exact Sub.tt
    ·refine .condF rfl (decide_eq_false c186) ?_
     refine .exit ?_
     cases h
     refine thenQ_ps ?_
     refine PostI.os ?_
     rintro rfl
     refine blockQ.hit (PostJ.next ?_)
     exact Sub.tt
   ·rintro v185 h
    refine thenQ_normal (.seq (.seqR ?_))
    replace h := csome h;obtain ⟨v193,hv193,h⟩ := h
    refine .rk 8 fun K k => ?_;simp [hv193];refine k ?_
    refine .nil ?_
    replace h := isome h;rcases h with ⟨c194,h⟩ | ⟨c194,h⟩
    ·refine .condT rfl (decide_eq_true c194) ?_
     refine .seqR ?_
     refine .rr 1 ?_
     refine .nil (.ret ?_)
     cases h
     refine thenQ_ps ?_
     exact FinC.rs
    ·refine .condF rfl (decide_eq_false c194) ?_
     refine .skip (thenQ_normal (.seqR ?_))
     refine .rr 2 ?_
     refine .nil (.ret ?_)
     cases h
     exact FinC.rs
def d39 (N : Nat) (a0 : ByteArray) : Option Bool :=
 Option.bind (α := Bool) (
  if (a0.size : Int) < 1 then (
   some true
  ) else
  if (a0.size : Int) > 12 then (
   some true
  ) else
  (idxB a0 0).bind fun v9 =>
  if v9 ≥ 48 then (
   (idxB a0 0).bind fun v11 =>
   some (decide (v11 ≤ 57))
  ) else
  some false
 ) fun (v6 : Bool) =>
 if v6 = true then (
  some false
 ) else
 (convB a0).bind fun x13 =>
 bindO (β := Unit) (ρ := Bool) (
  iterN (σ := Int) (ρ := (Out Unit Bool)) (fun (v27 : Int) =>
   if v27 < (x13.length : Int) then (
    (idx x13 v27).bind fun x58 =>
    Option.bind (α := Bool) (
     if x58 < 97 then (
      if x58 < 48 then (
       some true
      ) else
      some (decide (x58 > 57))
     ) else
     if x58 > 122 then (
      if x58 < 48 then (
       some true
      ) else
      some (decide (x58 > 57))
     ) else
     some false
    ) fun (v64 : Bool) =>
    if v64 = true then (
     some (.inr (.ret false))
    ) else
    (chkI (v27 + 1)).bind fun v70 =>
    some (.inl v70)
   ) else
   some (.inr (.go ()))
  ) N 0
 ) fun (_ : Unit) =>
 some true
theorem p39 (N : Nat) (a0 : ByteArray) (r : Bool) (h : d39 N a0 = some r) : FunC Tryz.prog 39 [.s a0] (.b r) := by
 unfold d39 at h
 refine FunC.enter 45 [(0,.s a0)] (by simp) Tryz.func39 rfl (of_decide_eq_true rfl) rfl rfl ?_
 refine .seqR ?_
 refine .rr 1 ?_
 refine .tt [(0,.s a0)] [] (.nil (.seq ?_))
 replace h := bsome h;obtain ⟨v6,hj,h⟩ := h
 refine .cutR (mk 45 [] [(0,.s a0),(22,.b v6)] []) ?_ ?_
 ·clear h;have h := hj;clear hj
  refine .rr 4 ?_
  replace h := isome h;rcases h with ⟨c7,h⟩ | ⟨c7,h⟩
  ·refine .sub (.bool 8 rfl (decide_eq_true c7)) ?_
   refine .rr 14 ?_
   cases h
   exact .nil .tt
  refine .sub (.bool 8 rfl (decide_eq_false c7)) ?_
  refine .rr 5 ?_
  replace h := isome h;rcases h with ⟨c8,h⟩ | ⟨c8,h⟩
  ·refine .sub (.bool 13 rfl (decide_eq_true c8)) ?_
   refine .rr 9 ?_
   cases h
   exact .nil .tt
  refine .sub (.bool 13 rfl (decide_eq_false c8)) ?_
  refine .st (mk 45 [] [(0,.s a0),(13,.b false)] []) ?_
  replace h := bsome h;obtain ⟨v9,gv9,h⟩ := h
  obtain ⟨bv9,hv9a,hv9b⟩ := idxB_someN (n := 0) gv9
  refine .rk 4 fun K k => ?_;simp [hv9a,hv9b];refine k ?_
  replace h := isome h;rcases h with ⟨c10,h⟩ | ⟨c10,h⟩
  ·refine .sub (.bool 17 rfl (decide_eq_true c10)) ?_
   refine .st (mk 45 [] [(0,.s a0),(13,.b false),(17,.b true)] []) ?_
   replace h := bsome h;obtain ⟨v11,gv11,h⟩ := h
   obtain ⟨bv11,hv11a,hv11b⟩ := idxB_someN (n := 0) gv11
   refine .rk 5 fun K k => ?_;simp [hv11a,hv11b];refine k ?_
   cases h
   exact .nil .tt
  refine .sub (.bool 17 rfl (decide_eq_false c10)) ?_
  refine .rr 5 ?_
  cases h
  exact .nil .tt
 clear hj
 replace h := isome h;rcases h with ⟨c12,h⟩ | ⟨c12,h⟩
 ·refine .condT rfl c12 ?_
  refine .seqR ?_
  refine .rr 1 ?_
  refine .nil (.ret ?_)
  cases h
  refine thenQ_ps ?_
  exact FinC.rs
 refine .condF rfl (Bool.eq_false_iff.2 c12) ?_
 refine .skip (thenQ_normal (.seq (.seqR ?_)))
 refine .rr 1 ?_
 refine .tt [(23,.s a0)] [] ?_
 replace h := bsome h;obtain ⟨x13,hx13,h⟩ := h
 refine .convB (by simp) rfl ty9 rfl ty144 rfl ty5 rfl rfl hx13 ?_
 refine .rr 2 ?_
 refine .tt [(24,.d (.sl (x13.map (cI .u8)))),(25,.i (x13.length : Int)),(26,.i 0)] [] (.nil ?_)
 refine .lastJ (fun (_ : Unit) => mk 45 [] [] []) h ?_ ?_ <;> clear h
 ·intro o h
  refine .block ?_
  refine .iter (fun (v27 : Int) => mk 45 [] [(24,.d (.sl (x13.map (cI .u8)))),(25,.i (x13.length : Int)),(26,.i v27)] []) h Sub.tt ?_
  clear h
  rintro v27 x h
  refine .seqR ?_
  refine .rr 1 ?_
  refine .nil (.seq ?_)
  replace h := isome h;rcases h with ⟨c57,h⟩ | ⟨c57,h⟩
  ·refine .condT rfl (decide_eq_true c57) ?_
   refine .skip (thenQ_normal (.seq (.block (.seqR ?_))))
   replace h := xsome h;obtain ⟨x58,k59,hx58k,hx58,hx58a,hx58b,h⟩ := h
   refine .rk 3 fun K k => ?_;simp [hx58,hx58k,hx58a];refine k ?_
   refine .tt [(4,.d (.lit (.int .u8 x58))),(24,.d (.sl (x13.map (cI .u8)))),(25,.i (x13.length : Int)),(26,.i v27)] [] (.nil ?_)
   replace h := bsome h;obtain ⟨v64,hj,h⟩ := h
   refine .cutR (mk 45 [] [(24,.d (.sl (x13.map (cI .u8)))),(25,.i (x13.length : Int)),(26,.i v27),(43,.b v64)] []) ?_ ?_
   ·clear h;have h := hj;clear hj
    refine .rr 3 ?_
    replace h := isome h;rcases h with ⟨c65,h⟩ | ⟨c65,h⟩
    ·refine .sub (.bool 32 rfl (decide_eq_true c65)) ?_
     refine .rr 7 ?_
     replace h := isome h;rcases h with ⟨c66,h⟩ | ⟨c66,h⟩
     ·have c66_ := decide_eq_true c66
      refine .sub (.bool 38 rfl c66_) ?_
      refine .sub (.bool 39 rfl c66_) ?_
      refine .rr 4 ?_
      cases h
      exact .nil .tt
     have c66_ := decide_eq_false c66
     refine .sub (.bool 38 rfl c66_) ?_
     refine .sub (.bool 39 rfl c66_) ?_
     refine .rr 4 ?_
     cases h
     exact .nil .tt
    refine .sub (.bool 32 rfl (decide_eq_false c65)) ?_
    refine .rr 4 ?_
    replace h := isome h;rcases h with ⟨c67,h⟩ | ⟨c67,h⟩
    ·have c67_ := decide_eq_true c67
     refine .sub (.bool 34 rfl c67_) ?_
     refine .sub (.bool 36 rfl c67_) ?_
     refine .rr 3 ?_
     replace h := isome h;rcases h with ⟨c68,h⟩ | ⟨c68,h⟩
     ·have c68_ := decide_eq_true c68
      refine .sub (.bool 38 rfl c68_) ?_
      refine .sub (.bool 39 rfl c68_) ?_
      refine .rr 4 ?_
      cases h
      exact .nil .tt
     have c68_ := decide_eq_false c68
     refine .sub (.bool 38 rfl c68_) ?_
     refine .sub (.bool 39 rfl c68_) ?_
     refine .rr 4 ?_
     cases h
     exact .nil .tt
    have c67_ := decide_eq_false c67
    refine .sub (.bool 34 rfl c67_) ?_
    refine .sub (.bool 36 rfl c67_) ?_
    refine .rr 7 ?_
    cases h
    exact .nil .tt
   clear hj
   replace h := isome h;rcases h with ⟨c69,h⟩ | ⟨c69,h⟩
   ·refine .condT rfl c69 ?_
    refine .seqR ?_
    refine .rr 1 ?_
    refine .nil (.ret ?_)
    cases h
    refine blockQ.ret ?_
    refine thenQ_ps ?_
    refine PostI.os ?_
    rintro rfl
    refine blockQ.ret ?_
    refine PostJ.out (by simp) ?_
    rintro rfl
    refine thenQ_ps ?_
    exact FinC.rs
   refine .condF rfl (Bool.eq_false_iff.2 c69) ?_
   refine .skip (blockQ.normal (thenQ_normal (.region ?_)))
   replace h := csome h;obtain ⟨v70,hv70,h⟩ := h
   refine .rk 2 fun K k => ?_;simp [hv70];refine k ?_
   refine .nil ?_
   cases h
   refine PostI.next ?_
   exact Sub.tt
  refine .condF rfl (decide_eq_false c57) ?_
  refine .exit ?_
  cases h
  refine thenQ_ps ?_
  refine PostI.os ?_
  rintro rfl
  refine blockQ.hit (PostJ.next ?_)
  exact Sub.tt
 rintro ⟨⟩ h
 refine thenQ_normal (.seqR ?_)
 refine .rr 1 ?_
 refine .nil (.ret ?_)
 cases h
 exact FinC.rs
def d68 (_N : Nat) (a0 : S53) (a1 : ByteArray) : Option Bool :=
 some (decide (a0.Name = a1))
theorem p68 (N : Nat) (a0 : S53) (a1 : ByteArray) (r : Bool) (h : d68 N a0 a1 = some r) : FunC Tryz.prog 68 [.agg (k53 a0),.d (.pim [.lit (.string a1)])] (.b r) := by
 unfold d68 at h
 refine FunC.enter 8 [(0,.agg (k53 a0)),(1,.d (.pim [.lit (.string a1)]))] (by simp) Tryz.func68 rfl (of_decide_eq_true rfl) rfl rfl ?_
 refine .seqR ?_
 refine .rr 2 ?_
 refine .nil (.seqR ?_)
 refine .rr 5 ?_
 refine .nil (.ret ?_)
 cases h
 exact FinC.rs
def d67 (N : Nat) (a0 : (List S53)) (p1 : S53 → Option Bool) : Option Int :=
 bindO (β := Unit) (ρ := Int) (
  iterN (σ := Int) (ρ := (Out Unit Int)) (fun (v6 : Int) =>
   if v6 < (a0.length : Int) then (
    (idx a0 v6).bind fun x21 =>
    (p1 x21).bind fun r23 =>
    if r23 = true then (
     some (.inr (.ret v6))
    ) else
    (chkI (v6 + 1)).bind fun v25 =>
    some (.inl v25)
   ) else
   some (.inr (.go ()))
  ) N 0
 ) fun (_ : Unit) =>
 some (-1)
theorem p67 (N : Nat) (a0 : (List S53)) (g1 : Nat) (cs1 : List D) (p1 : S53 → Option Bool) (ent_1 : Rp.Enters Tryz.prog g1) (hp1 : ∀ a0 r,p1 a0 = some r → FunC Tryz.prog g1 ([.agg (k53 a0)] ++ cs1.map .d) (.b r)) (r : Int) (h : d67 N a0 p1 = some r) : FunC Tryz.prog 67 [.s53 a0,.fg g1 cs1] (.i r) := by
 unfold d67 at h
 refine FunC.enter 19 [(0,.s53 a0),(1,.fg g1 cs1)] (by simp) Tryz.func67 rfl (of_decide_eq_true rfl) rfl rfl ?_
 refine .seqR ?_
 refine .rr 1 ?_
 refine .nil (.seq (.seqR ?_))
 refine .rr 3 ?_
 refine .tt [(0,.s53 a0),(1,.fg g1 cs1),(7,.i (a0.length : Int)),(8,.i 0)] [] (.nil ?_)
 refine .lastJ (fun (_ : Unit) => mk 19 [] [] []) h ?_ ?_ <;> clear h
 ·intro o h
  refine .block ?_
  refine .iter (fun (v6 : Int) => mk 19 [] [(0,.s53 a0),(1,.fg g1 cs1),(7,.i (a0.length : Int)),(8,.i v6)] []) h Sub.tt ?_
  clear h
  rintro v6 x h
  refine .seqR ?_
  refine .rr 1 ?_
  refine .nil (.seq ?_)
  replace h := isome h;rcases h with ⟨c20,h⟩ | ⟨c20,h⟩
  ·refine .condT rfl (decide_eq_true c20) ?_
   refine .skip (thenQ_normal (.seq (.block (.seqR ?_))))
   refine .rr 2 ?_
   refine .tt [(0,.s53 a0),(1,.fg g1 cs1),(5,.i v6),(7,.i (a0.length : Int)),(8,.i v6)] [] (.nil (.seqR ?_))
   replace h := xsome h;obtain ⟨x21,k22,hx21k,hx21,hx21a,hx21b,h⟩ := h
   refine .rk 5 fun K k => ?_;simp [hx21,hx21k,hx21a];refine k ?_
   refine .tt [(0,.s53 a0),(1,.fg g1 cs1),(5,.i v6),(7,.i (a0.length : Int)),(8,.i v6),(11,.fg g1 cs1),(15,.agg (k53 x21))] [] ?_
   replace h := bsome h;obtain ⟨r23,hr23,h⟩ := h
   refine .callL (d := 16) (hp1 x21 r23 hr23) (by simp) rfl rfl (by simp <;> rfl) (by simp <;> rfl) ent_1 (by simp <;> rfl) ?_
   refine .st (mk 19 [] [(0,.s53 a0),(1,.fg g1 cs1),(5,.i v6),(7,.i (a0.length : Int)),(8,.i v6),(11,.fg g1 cs1),(15,.agg (k53 x21)),(16,.b r23)] []) (.nil ?_)
   replace h := isome h;rcases h with ⟨c24,h⟩ | ⟨c24,h⟩
   ·refine .condT rfl c24 ?_
    refine .seqR ?_
    refine .rr 2 ?_
    refine .nil (.ret ?_)
    cases h
    refine blockQ.ret ?_
    refine thenQ_ps ?_
    refine PostI.os ?_
    rintro rfl
    refine blockQ.ret ?_
    refine PostJ.out (by simp) ?_
    rintro rfl
    refine thenQ_ps ?_
    exact FinC.rs
   refine .condF rfl (Bool.eq_false_iff.2 c24) ?_
   refine .skip (blockQ.normal (thenQ_normal (.region ?_)))
   replace h := csome h;obtain ⟨v25,hv25,h⟩ := h
   refine .rk 2 fun K k => ?_;simp [hv25];refine k ?_
   refine .nil ?_
   cases h
   refine PostI.next ?_
   exact Sub.tt
  refine .condF rfl (decide_eq_false c20) ?_
  refine .exit ?_
  cases h
  refine thenQ_ps ?_
  refine PostI.os ?_
  rintro rfl
  refine blockQ.hit (PostJ.next ?_)
  exact Sub.tt
 rintro ⟨⟩ h
 refine thenQ_normal (.seqR ?_)
 refine .rr 1 ?_
 refine .nil (.ret ?_)
 cases h
 exact FinC.rs
def d40 (N : Nat) (a0 : S56) (a1 : ByteArray) : Option (Int × Bool) :=
 (d67 N a0.Columns (fun b0 => d68 N b0 a1)).bind fun r1 =>
 letv (maxI r1 0) fun v2 =>
 some (v2,decide (r1 ≥ 0))
theorem p40 (N : Nat) (a0 : S56) (a1 : ByteArray) (r : (Int × Bool)) (h : d40 N a0 a1 = some r) : FunC Tryz.prog 40 [.agg (k56 a0),.s a1] (.tup [.i r.1,.b r.2]) := by
 unfold d40 at h
 refine FunC.enter 15 [(0,.agg (k56 a0)),(1,.s a1)] (by simp) Tryz.func40 rfl (of_decide_eq_true rfl) rfl rfl ?_
 refine .seqR ?_
 refine .rr 4 ?_
 refine .nil (.seqR ?_)
 refine .rr 3 ?_
 refine .tt [(8,.s53 a0.Columns),(9,.fn (.func 68) [.ptr 3 0 0])] [(3,some (.box [.s a1]))] ?_
 replace h := bsome h;obtain ⟨r1,hr1,h⟩ := h
 refine .callL (d := 10) (p67 N a0.Columns 68 [.pim [.lit (.string a1)]] (fun b0 => d68 N b0 a1) ent68 (fun b0 r h => p68 N b0 a1 r h) r1 hr1) (by simp) rfl rfl (by simp <;> rfl) (by simp <;> rfl) ent67 (by simp <;> rfl) ?_
 refine .rr 1 ?_
 refine .tt [(6,.i r1)] [] (.nil (.seqR ?_))
 replace h := lsome h;obtain ⟨v2,hv2,h⟩ := h
 unfold maxI at hv2
 try simp only [Int.ofNat_lt] at hv2
 refine .rk 6 fun K k => ?_;simp [hv2];refine k ?_
 refine .nil (.ret ?_)
 cases h
 exact FinC.rs
end Go.Proofs.YtmgddgcniacnbaaGreatDoor
