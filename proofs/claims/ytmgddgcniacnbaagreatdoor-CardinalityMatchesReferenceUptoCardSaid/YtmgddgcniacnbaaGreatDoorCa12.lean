/- Functions of the program as functional programs; the code computes them. -/
import Derived.Test.YtmgddgcniacnbaaGreatDoorCa11
namespace Go.Proofs.YtmgddgcniacnbaaGreatDoor
set_option maxRecDepth 100000
set_option maxHeartbeats 4000000
open Go.Ab Go.Rp
attribute [-simp] List.all_eq_true Array.all_toList Array.all_eq_true
def d29 (N : Nat) (a0 : S26) (a1 : S34) (a2 : S76) : Option Bool :=
 if (a2.Kind == 1) then (
  some false
 ) else
 Option.bind (α := (Int × ByteArray × (List ByteArray) × (List S76) × (List S79) × (List Bool) × Int × Int × (List S34))) (
  iterN (σ := (Int × ByteArray × (List ByteArray) × (List S76) × (List S79) × (List Bool) × Int × Int × (List S34))) (ρ := (Int × ByteArray × (List ByteArray) × (List S76) × (List S79) × (List Bool) × Int × Int × (List S34))) (fun ((v4,v5,l6,l7,l8,l9,v10,v11,l12) : (Int × ByteArray × (List ByteArray) × (List S76) × (List S79) × (List Bool) × Int × Int × (List S34))) =>
   if (v4 == 2) then (
    (idx l12 0).bind fun x36 =>
    some (.inl (x36.Kind,x36.Table,x36.Names,x36.Exprs,x36.Aggregates,x36.Descending,x36.Count,x36.Offset,x36.Inputs))
   ) else
   some (.inr (v4,v5,l6,l7,l8,l9,v10,v11,l12))
  ) N (a1.Kind,a1.Table,a1.Names,a1.Exprs,a1.Aggregates,a1.Descending,a1.Count,a1.Offset,a1.Inputs)
 ) fun ((v26,v27,_l28,_l29,_l30,_l31,_v32,_v33,_l34) : (Int × ByteArray × (List ByteArray) × (List S76) × (List S79) × (List Bool) × Int × Int × (List S34))) =>
 bindO (β := Unit) (ρ := Bool) (
  iterN (σ := Int) (ρ := (Out Unit Bool)) (fun (v77 : Int) =>
   if v77 < (a0.Tables.length : Int) then (
    (idx a0.Tables v77).bind fun x162 =>
    Option.bind (α := Bool) (
     if (v26 != 1) then (
      some true
     ) else
     some (!decide (x162.Name = v27))
    ) fun (v165 : Bool) =>
    if v165 = true then (
     (chkI (v77 + 1)).bind fun v168 =>
     some (.inl v168)
    ) else
    bindO (β := Unit) (ρ := (Int ⊕ (Out Unit Bool))) (
     iterN (σ := Int) (ρ := (Out Unit (Int ⊕ (Out Unit Bool)))) (fun (v176 : Int) =>
      if v176 < (x162.PrimaryKey.length : Int) then (
       (idx x162.PrimaryKey v176).bind fun x195 =>
       (idx x162.Columns x195).bind fun x197 =>
       (d53 N x162 x197.Name a2).bind fun r199 =>
       if (!r199) = true then (
        some (.inr (.ret (.inr (.ret false))))
       ) else
       (chkI (v176 + 1)).bind fun v201 =>
       some (.inl v201)
      ) else
      some (.inr (.go ()))
     ) N 0
    ) fun (_ : Unit) =>
    some (.inr (.ret true))
   ) else
   some (.inr (.go ()))
  ) N 0
 ) fun (_ : Unit) =>
 some false
theorem p29 (N : Nat) (a0 : S26) (a1 : S34) (a2 : S76) (r : Bool) (h : d29 N a0 a1 a2 = some r) : FunC Tryz.prog 29 [.agg (k26 a0),.agg (k34 a1),.agg (k76 a2)] (.b r) := by
 unfold d29 at h
 refine FunC.enter 57 [(0,.agg (k26 a0)),(1,.agg (k34 a1)),(2,.agg (k76 a2))] (by simp) Tryz.func29 rfl (of_decide_eq_true rfl) rfl rfl ?_
 refine .seqR ?_
 refine .rr 4 ?_
 refine .nil (.seq (.seqR ?_))
 refine .rr 3 ?_
 refine .nil ?_
 replace h := isome h;rcases h with ⟨c1,h⟩ | ⟨c1,h⟩
 ·refine .condT rfl c1 ?_
  refine .seqR ?_
  refine .rr 1 ?_
  refine .nil (.ret ?_)
  cases h
  refine thenQ_ps ?_
  exact FinC.rs
 refine .condF rfl (Bool.eq_false_iff.2 c1) ?_
 refine .skip (thenQ_normal ?_)
 refine .seqN (fun ((v26,v27,l28,l29,l30,l31,v32,v33,l34) : (Int × ByteArray × (List ByteArray) × (List S76) × (List S79) × (List Bool) × Int × Int × (List S34))) => mk 57 [] [(3,.ptr 3 0 0),(4,.ptr 4 0 0),(5,.ptr 5 0 0)] (H21 a0 v26 v27 l28 l29 l30 l31 v32 v33 l34 a2)) h ?_ ?_ <;> clear h
 ·intro o h
  refine .block ?_
  refine .iter (fun ((v4,v5,l6,l7,l8,l9,v10,v11,l12) : (Int × ByteArray × (List ByteArray) × (List S76) × (List S79) × (List Bool) × Int × Int × (List S34))) => mk 57 [] [(3,.ptr 3 0 0),(4,.ptr 4 0 0),(5,.ptr 5 0 0)] (H21 a0 v4 v5 l6 l7 l8 l9 v10 v11 l12 a2)) h Sub.tt ?_
  clear h
  rintro ⟨v4,v5,l6,l7,l8,l9,v10,v11,l12⟩ x h
  dsimp only at h ⊢
  refine .seq (.seqR ?_)
  refine .rr 3 ?_
  refine .nil ?_
  replace h := isome h;rcases h with ⟨c35,h⟩ | ⟨c35,h⟩
  ·refine .condT rfl c35 ?_
   refine .skip (thenQ_normal (.block (.region ?_)))
   replace h := bsome h;obtain ⟨x36,hx36,h⟩ := h
   obtain ⟨hx36,hx36b,hx36c⟩ := idx_someN (n := 0) hx36
   refine .rk 5 fun K k => ?_;simp [hx36];refine k ?_
   refine .nil ?_
   cases h
   refine blockQ.normal (PostI.next ?_)
   exact Sub.tt
  refine .condF rfl (Bool.eq_false_iff.2 c35) ?_
  refine .exit ?_
  cases h
  refine thenQ_ps ?_
  refine PostI.os ?_
  rintro rfl
  refine blockQ.hit (PostN.next ?_)
  exact Sub.tt
 rintro ⟨v26,v27,l28,l29,l30,l31,v32,v33,l34⟩ h
 dsimp only at h ⊢
 refine .seq (.seqR ?_)
 refine .rr 4 ?_
 refine .tt [(4,.ptr 4 0 0),(5,.ptr 5 0 0),(22,.s56 a0.Tables),(23,.i (a0.Tables.length : Int)),(24,.i 0)] (H35 v26 v27 l28 l29 l30 l31 v32 v33 l34 a2) (.nil ?_)
 refine .lastJ (fun (_ : Unit) => mk 57 [] [] []) h ?_ ?_ <;> clear h
 ·intro o h
  refine .block ?_
  refine .iter (fun (v77 : Int) => mk 57 [] (L103 a0.Tables a0.Tables.length v77) (H35 v26 v27 l28 l29 l30 l31 v32 v33 l34 a2)) h Sub.tt ?_
  clear h
  rintro v77 x h
  refine .seqR ?_
  refine .rr 1 ?_
  refine .nil (.seq ?_)
  replace h := isome h;rcases h with ⟨c161,h⟩ | ⟨c161,h⟩
  ·refine .condT rfl (decide_eq_true c161) ?_
   refine .skip (thenQ_normal (.seq (.block (.seqR ?_))))
   replace h := xsome h;obtain ⟨x162,k163,hx162k,hx162,hx162a,hx162b,h⟩ := h
   refine .rk 4 fun K k => ?_;simp [hx162,hx162k,hx162a];refine k ?_
   refine .tt (L104 a0.Tables a0.Tables.length v77) (H33 v26 v27 l28 l29 l30 l31 v32 v33 l34 a2 x162) (.nil (.seq ?_))
   replace h := bsome h;obtain ⟨v165,hj,h⟩ := h
   refine .cutR (mk 57 [] (L104 a0.Tables a0.Tables.length v77 ++ [(37,.b v165)]) (H33 v26 v27 l28 l29 l30 l31 v32 v33 l34 a2 x162)) ?_ ?_
   ·clear h;have h := hj;clear hj
    refine .rr 4 ?_
    replace h := isome h;rcases h with ⟨c166,h⟩ | ⟨c166,h⟩
    ·refine .sub (.bool 31 rfl c166) ?_
     refine .rr 6 ?_
     cases h
     exact .nil .tt
    refine .sub (.bool 31 rfl (Bool.eq_false_iff.2 c166)) ?_
    refine .rr 6 ?_
    cases h
    exact .nil .tt
   clear hj
   replace h := isome h;rcases h with ⟨c167,h⟩ | ⟨c167,h⟩
   ·refine .condT rfl c167 ?_
    refine .exit ?_
    refine thenQ_ps ?_
    refine blockQ.hit (thenQ_normal (.region ?_))
    replace h := csome h;obtain ⟨v168,hv168,h⟩ := h
    refine .rk 2 fun K k => ?_;simp [hv168];refine k ?_
    refine .nil ?_
    cases h
    refine PostI.next ?_
    exact Sub.tt
   refine .condF rfl (Bool.eq_false_iff.2 c167) ?_
   refine .skip (thenQ_normal (.seq (.seqR ?_)))
   refine .rr 4 ?_
   refine .tt [(5,.ptr 5 0 0),(8,.ptr 8 0 0),(39,.si x162.PrimaryKey),(40,.i (x162.PrimaryKey.length : Int)),(41,.i 0)] (H10 a2 x162) (.nil ?_)
   refine .lastJ (fun (_ : Unit) => mk 57 [] [] []) h ?_ ?_ <;> clear h
   ·intro o h
    refine .block ?_
    refine .iter (fun (v176 : Int) => mk 57 [] (L105 x162.PrimaryKey x162.PrimaryKey.length v176) (H10 a2 x162)) h Sub.tt ?_
    clear h
    rintro v176 x h
    refine .seqR ?_
    refine .rr 1 ?_
    refine .nil (.seq ?_)
    replace h := isome h;rcases h with ⟨c194,h⟩ | ⟨c194,h⟩
    ·refine .condT rfl (decide_eq_true c194) ?_
     refine .skip (thenQ_normal (.seq (.block (.seqR ?_))))
     replace h := xsome h;obtain ⟨x195,k196,hx195k,hx195,hx195a,hx195b,h⟩ := h
     refine .rk 3 fun K k => ?_;simp [hx195,hx195k,hx195a];refine k ?_
     refine .tt [(5,.ptr 5 0 0),(8,.ptr 8 0 0),(10,.i x195),(39,.si x162.PrimaryKey),(40,.i (x162.PrimaryKey.length : Int)),(41,.i v176)] (H10 a2 x162) (.nil ?_)
     refine .seqQ (by kernel_rfl) (by kernel_rfl) ?_
     replace h := xsome h;obtain ⟨x197,k198,hx197k,hx197,hx197a,hx197b,h⟩ := h
     refine .rq 8 fun K k => ?_;simp [hx197,hx197k,hx197a];refine k ?_
     refine .tt (L105 x162.PrimaryKey x162.PrimaryKey.length v176 ++ [(45,.agg (k56 x162)),(51,.s x197.Name),(52,.agg (k76 a2))]) (H10 a2 x162) ?_
     replace h := bsome h;obtain ⟨r199,hr199,h⟩ := h
     refine .callL (d := 53) (p53 N x162 x197.Name a2 r199 hr199) (by simp) rfl rfl (by simp <;> rfl) (by simp <;> rfl) ent53 (by simp <;> rfl) ?_
     refine .rq 1 fun K k => ?_;simp;refine k ?_
     refine .nil ?_
     replace h := isome h;rcases h with ⟨c200,h⟩ | ⟨c200,h⟩
     ·refine .condT rfl c200 ?_
      refine .seqR ?_
      refine .rr 1 ?_
      refine .nil (.ret ?_)
      cases h
      refine blockQ.ret ?_
      refine thenQ_ps ?_
      refine PostI.os ?_
      rintro rfl
      refine blockQ.ret ?_
      refine PostJ.out (by simp) ?_
      rintro rfl
      refine thenQ_ps ?_
      refine blockQ.ret ?_
      refine thenQ_ps ?_
      refine PostI.os ?_
      rintro rfl
      refine blockQ.ret ?_
      refine PostJ.out (by simp) ?_
      rintro rfl
      refine thenQ_ps ?_
      exact FinC.rs
     refine .condF rfl (Bool.eq_false_iff.2 c200) ?_
     refine .skip (blockQ.normal (thenQ_normal (.region ?_)))
     replace h := csome h;obtain ⟨v201,hv201,h⟩ := h
     refine .rk 2 fun K k => ?_;simp [hv201];refine k ?_
     refine .nil ?_
     cases h
     refine PostI.next ?_
     exact Sub.tt
    refine .condF rfl (decide_eq_false c194) ?_
    refine .exit ?_
    cases h
    refine thenQ_ps ?_
    refine PostI.os ?_
    rintro rfl
    refine blockQ.hit (PostJ.next ?_)
    exact Sub.tt
   rintro ⟨⟩ h
   refine thenQ_normal (.seqR ?_)
   refine .rr 1 ?_
   refine .nil (.ret ?_)
   cases h
   refine blockQ.ret ?_
   refine thenQ_ps ?_
   refine PostI.os ?_
   rintro rfl
   refine blockQ.ret ?_
   refine PostJ.out (by simp) ?_
   rintro rfl
   refine thenQ_ps ?_
   exact FinC.rs
  refine .condF rfl (decide_eq_false c161) ?_
  refine .exit ?_
  cases h
  refine thenQ_ps ?_
  refine PostI.os ?_
  rintro rfl
  refine blockQ.hit (PostJ.next ?_)
  exact Sub.tt
 rintro ⟨⟩ h
 refine thenQ_normal (.seqR ?_)
 refine .rr 1 ?_
 refine .nil (.ret ?_)
 cases h
 exact FinC.rs
def d10 : (N : Nat) → (a0 : S26) → (a1 : (List S41)) → (a2 : S34) → Option (Int × Int)
 | 0,_,_,_ => none
 | N + 1,a0,a1,a2 =>
  Option.bind (α := ((List Int) × (List Int))) (
   iterN (σ := ((List Int) × (List Int) × Int)) (ρ := ((List Int) × (List Int))) (fun ((l7,l8,v9) : ((List Int) × (List Int) × Int)) =>
    if v9 < (a2.Inputs.length : Int) then (
     (idx a2.Inputs v9).bind fun x32 =>
     (d10 N a0 a1 x32).bind fun r34 =>
     (arrI v9 2).bind fun k35 =>
     (setN l7 (k35) r34.1).bind fun l36 =>
     (setN l8 (k35) r34.2).bind fun l37 =>
     (chkI (v9 + 1)).bind fun v38 =>
     some (.inl (l36,l37,v38))
    ) else
    some (.inr (l7,l8))
   ) N ((List.replicate 2 0),(List.replicate 2 0),0)
  ) fun ((l29,l30) : ((List Int) × (List Int))) =>
  if (a2.Kind == 1) then (
   bindO (β := Unit) (ρ := (Int × Int)) (
    iterN (σ := Int) (ρ := (Out Unit (Int × Int))) (fun (v44 : Int) =>
     if v44 < (a1.length : Int) then (
      (idx a1 v44).bind fun x57 =>
      if decide (x57.Table = a2.Table) = true then (
       some (.inr (.ret (x57.Rows,x57.Rows)))
      ) else
      (chkI (v44 + 1)).bind fun v60 =>
      some (.inl v60)
     ) else
     some (.inr (.go ()))
    ) N 0
   ) fun (_ : Unit) =>
   some (0,0)
  ) else
  if (a2.Kind == 2) then (
   (idx a2.Exprs 0).bind fun x62 =>
   (l29[0]?).bind fun x63 =>
   (l30[0]?).bind fun x64 =>
   (d28 N x62 x63 x64 x64).bind fun r65 =>
   some (r65.1,r65.2)
  ) else
  Option.bind (α := Bool) (
   if (a2.Kind == 4) then (
    some true
   ) else
   some (a2.Kind == 5)
  ) fun (v67 : Bool) =>
  if v67 = true then (
   (l30[0]?).bind fun x70 =>
   (l30[1]?).bind fun x71 =>
   (chkI (x70 * x71)).bind fun v72 =>
   (idx a2.Inputs 1).bind fun x73 =>
   (idx a2.Exprs 0).bind fun x74 =>
   (d29 N a0 x73 x74).bind fun r75 =>
   (idx a2.Inputs 0).bind fun x76 =>
   (d29 N a0 x76 x74).bind fun r77 =>
   Option.bind (α := (Bool × Int)) (
    if r75 = true then (
     letv (minI v72 x70) fun v83 =>
     some (true,v83)
    ) else
    some (false,v72)
   ) fun ((v80,v81) : (Bool × Int)) =>
   Option.bind (α := Int) (
    if r77 = true then (
     (l30[1]?).bind fun x89 =>
     letv (minI v81 x89) fun v90 =>
     some v90
    ) else
    some v81
   ) fun (v87 : Int) =>
   (idx a2.Exprs 0).bind fun x91 =>
   (l29[0]?).bind fun x92 =>
   (l29[1]?).bind fun x93 =>
   (chkI (x92 * x93)).bind fun v94 =>
   (d28 N x91 v94 v72 v87).bind fun r95 =>
   if (a2.Kind == 4) then (
    some (r95.1,r95.2)
   ) else
   if v80 = true then (
    letv (maxI x92 r95.1) fun v98 =>
    (l30[0]?).bind fun x99 =>
    some (v98,x99)
   ) else
   letv (maxI x92 r95.1) fun v100 =>
   (l30[0]?).bind fun x101 =>
   (l30[1]?).bind fun x102 =>
   letv (maxI 1 x102) fun v103 =>
   (chkI (x101 * v103)).bind fun v104 =>
   some (v100,v104)
  ) else
  if (a2.Kind == 6) then (
   (l29[0]?).bind fun x106 =>
   (l29[1]?).bind fun x107 =>
   (chkI (x106 + x107)).bind fun v108 =>
   (l30[0]?).bind fun x109 =>
   (l30[1]?).bind fun x110 =>
   (chkI (x109 + x110)).bind fun v111 =>
   some (v108,v111)
  ) else
  if (a2.Kind == 7) then (
   (l29[0]?).bind fun x113 =>
   (l30[1]?).bind fun x114 =>
   (chkI (x113 - x114)).bind fun v115 =>
   letv (maxI 0 v115) fun v116 =>
   (l30[0]?).bind fun x117 =>
   some (v116,x117)
  ) else
  if (a2.Kind == 8) then (
   if ((a2.Names.length : Int) == 0) then (
    some (1,1)
   ) else
   (l29[0]?).bind fun x120 =>
   letv (minI 1 x120) fun v121 =>
   (l30[0]?).bind fun x122 =>
   some (v121,x122)
  ) else
  if (a2.Kind == 10) then (
   (l29[0]?).bind fun x124 =>
   (chkI (x124 - a2.Offset)).bind fun v125 =>
   letv (maxI 0 v125) fun v126 =>
   letv (minI a2.Count v126) fun v127 =>
   (l30[0]?).bind fun x128 =>
   (chkI (x128 - a2.Offset)).bind fun v129 =>
   letv (maxI 0 v129) fun v130 =>
   letv (minI a2.Count v130) fun v131 =>
   some (v127,v131)
  ) else
  (l29[0]?).bind fun x132 =>
  (l30[0]?).bind fun x133 =>
  some (x132,x133)
theorem p10 (N : Nat) : ∀ (a0 : S26) (a1 : (List S41)) (a2 : S34) (r : (Int × Int)) (_ : d10 N a0 a1 a2 = some r),FunC Tryz.prog 10 [.agg (k26 a0),.s41 a1,.agg (k34 a2)] (.tup [.i r.1,.i r.2]) := by
 induction N with
 | zero => intro a0 a1 a2 r h;cases h
 | succ N ih =>
 intro a0 a1 a2 r h
 unfold d10 at h
 refine FunC.enter 208 [(0,.agg (k26 a0)),(1,.s41 a1),(2,.agg (k34 a2))] (by simp) Tryz.func10 rfl (of_decide_eq_true rfl) rfl rfl ?_
 refine .seqR ?_
 refine .rr 4 ?_
 refine .nil (.seqR ?_)
 refine .rr 2 ?_
 refine .nil (.seq (.seqR ?_))
 refine .rr 4 ?_
 refine .tt (L107 a1 ++ [(21,.s34 a2.Inputs),(22,.i (a2.Inputs.length : Int)),(23,.i 0)]) (H78 a0 a2) (.nil ?_)
 refine .lastN (fun ((l29,l30) : ((List Int) × (List Int))) => mk 208 [] (L107 a1) [(3,some (.box (k26 a0))),(5,some (.box (k34 a2))),(8,some (.box (l29.map (vI .i64)))),(9,some (.box (l30.map (vI .i64))))]) h ?_ ?_ <;> clear h
 ·intro o h
  refine .block ?_
  refine .iter (fun ((l7,l8,v9) : ((List Int) × (List Int) × Int)) => mk 208 [] (L108 a1 a2.Inputs a2.Inputs.length v9) [(3,some (.box (k26 a0))),(5,some (.box (k34 a2))),(8,some (.box (l7.map (vI .i64)))),(9,some (.box (l8.map (vI .i64))))]) h Sub.tt ?_
  clear h
  rintro ⟨l7,l8,v9⟩ x h
  dsimp only at h ⊢
  refine .seqR ?_
  refine .rr 1 ?_
  refine .nil (.seq ?_)
  replace h := isome h;rcases h with ⟨c31,h⟩ | ⟨c31,h⟩
  ·refine .condT rfl (decide_eq_true c31) ?_
   refine .skip (thenQ_normal (.seq (.block (.seqR ?_))))
   replace h := xsome h;obtain ⟨x32,k33,hx32k,hx32,hx32a,hx32b,h⟩ := h
   refine .rk 6 fun K k => ?_;simp [hx32,hx32k,hx32a];refine k ?_
   refine .nil (.region ?_)
   refine .rr 5 ?_
   refine .tt (L108 a1 a2.Inputs a2.Inputs.length v9 ++ [(29,.i v9),(30,.i v9),(31,.agg (k26 a0)),(32,.s41 a1),(33,.agg (k34 x32))]) [(3,some (.box (k26 a0))),(5,some (.box (k34 a2))),(8,some (.box (l7.map (vI .i64)))),(9,some (.box (l8.map (vI .i64))))] ?_
   replace h := bsome h;obtain ⟨r34,hr34,h⟩ := h
   refine .callL (d := 34) (ih a0 a1 x32 r34 hr34) (by simp) rfl rfl (by simp <;> rfl) (by simp <;> rfl) ent10 (by simp <;> rfl) ?_
   refine .st (mk 208 [] (L108 a1 a2.Inputs a2.Inputs.length v9 ++ [(29,.i v9),(30,.i v9),(31,.agg (k26 a0)),(32,.s41 a1),(33,.agg (k34 x32)),(34,.tup [.i r34.1,.i r34.2])]) [(3,some (.box (k26 a0))),(5,some (.box (k34 a2))),(8,some (.box (l7.map (vI .i64)))),(9,some (.box (l8.map (vI .i64))))]) ?_
   replace h := bsome h;obtain ⟨k35,gk35,h⟩ := h
   obtain ⟨hk35,hk35a,hk35b,hk35c⟩ := arrI_some gk35
   have hk35b : v9 < 2 := hk35b
   have hk35e : k33 = k35 := hx32k.symm.trans hk35
   subst hk35e
   refine .rk 4 fun K k => ?_;simp [hk35,hk35a,hk35b];refine k ?_
   refine .tt (L108 a1 a2.Inputs a2.Inputs.length v9 ++ [(30,.i v9),(35,.i r34.1),(36,.i r34.2),(37,.ptr 8 0 k33)]) [(3,some (.box (k26 a0))),(5,some (.box (k34 a2))),(8,some (.box (l7.map (vI .i64)))),(9,some (.box (l8.map (vI .i64))))] ?_
   replace h := bsome h;obtain ⟨l36,gl36,h⟩ := h
   obtain ⟨hl36a,hl36b,hl36c⟩ := setN_some (vI .i64) gl36
   replace hl36b : (l7.map (vI .i64)).take (k33) ++ .d (.lit (.int .i64 r34.1)) :: (l7.map (vI .i64)).drop (k33 + 1) = l36.map (vI .i64) := hl36b
   refine .rk 2 fun K k => ?_;simp [hl36a,hl36b,hk35,hk35a,hk35b];refine k ?_
   refine .tt (L108 a1 a2.Inputs a2.Inputs.length v9 ++ [(36,.i r34.2),(38,.ptr 9 0 k33)]) [(3,some (.box (k26 a0))),(5,some (.box (k34 a2))),(8,some (.box (l36.map (vI .i64)))),(9,some (.box (l8.map (vI .i64))))] ?_
   replace h := bsome h;obtain ⟨l37,gl37,h⟩ := h
   obtain ⟨hl37a,hl37b,hl37c⟩ := setN_some (vI .i64) gl37
   replace hl37b : (l8.map (vI .i64)).take (k33) ++ .d (.lit (.int .i64 r34.2)) :: (l8.map (vI .i64)).drop (k33 + 1) = l37.map (vI .i64) := hl37b
   refine .rk 1 fun K k => ?_;simp [hl37a,hl37b];refine k ?_
   refine .tt (L108 a1 a2.Inputs a2.Inputs.length v9) [(3,some (.box (k26 a0))),(5,some (.box (k34 a2))),(8,some (.box (l36.map (vI .i64)))),(9,some (.box (l37.map (vI .i64))))] (.nil (blockQ.normal (thenQ_normal (.region ?_))))
   replace h := csome h;obtain ⟨v38,hv38,h⟩ := h
   refine .rk 2 fun K k => ?_;simp [hv38];refine k ?_
   refine .nil ?_
   cases h
   refine PostI.next ?_
   exact Sub.tt
  ·refine .condF rfl (decide_eq_false c31) ?_
   refine .exit ?_
   cases h
   refine thenQ_ps ?_
   refine PostI.os ?_
   rintro rfl
   refine blockQ.hit (PostN.next ?_)
   exact Sub.tt
 ·rintro ⟨l29,l30⟩ h
  dsimp only at h ⊢
  refine thenQ_normal (.seq (.seqR ?_))
  refine .rr 2 ?_
  refine .nil (.block (.seqR ?_))
  refine .rr 2 ?_
  refine .nil ?_
  replace h := isome h;rcases h with ⟨c39,h⟩ | ⟨c39,h⟩
  ·refine .condT rfl c39 ?_
   refine .seq (.seqR ?_)
   refine .rr 3 ?_
   refine .tt [(5,.ptr 5 0 0),(44,.s41 a1),(45,.i (a1.length : Int)),(46,.i 0)] (H45 a2) (.nil ?_)
   refine .lastJ (fun (_ : Unit) => mk 208 [] [] []) h ?_ ?_ <;> clear h
   ·intro o h
    refine .block ?_
    refine .iter (fun (v44 : Int) => mk 208 [] (L109 a1 a1.length v44) (H45 a2)) h Sub.tt ?_
    clear h
    rintro v44 x h
    refine .seqR ?_
    refine .rr 1 ?_
    refine .nil (.seq ?_)
    replace h := isome h;rcases h with ⟨c56,h⟩ | ⟨c56,h⟩
    ·refine .condT rfl (decide_eq_true c56) ?_
     refine .skip (thenQ_normal (.seq (.block (.seqR ?_))))
     replace h := xsome h;obtain ⟨x57,k58,hx57k,hx57,hx57a,hx57b,h⟩ := h
     refine .rk 4 fun K k => ?_;simp [hx57,hx57k,hx57a];refine k ?_
     refine .nil (.seqR ?_)
     refine .rr 5 ?_
     refine .nil ?_
     replace h := isome h;rcases h with ⟨c59,h⟩ | ⟨c59,h⟩
     ·refine .condT rfl c59 ?_
      refine .seqQ (by kernel_rfl) (by kernel_rfl) ?_
      refine .rq 6 fun K k => ?_;simp;refine k ?_
      refine .nil (.ret ?_)
      cases h
      refine blockQ.ret ?_
      refine thenQ_ps ?_
      refine PostI.os ?_
      rintro rfl
      refine blockQ.ret ?_
      refine PostJ.out (by simp) ?_
      rintro rfl
      refine thenQ_ps ?_
      refine blockQ.ret ?_
      refine thenQ_ps ?_
      exact FinC.rs
     ·refine .condF rfl (Bool.eq_false_iff.2 c59) ?_
      refine .skip (blockQ.normal (thenQ_normal (.region ?_)))
      replace h := csome h;obtain ⟨v60,hv60,h⟩ := h
      refine .rk 2 fun K k => ?_;simp [hv60];refine k ?_
      refine .nil ?_
      cases h
      refine PostI.next ?_
      exact Sub.tt
    ·refine .condF rfl (decide_eq_false c56) ?_
     refine .exit ?_
     cases h
     refine thenQ_ps ?_
     refine PostI.os ?_
     rintro rfl
     refine blockQ.hit (PostJ.next ?_)
     exact Sub.tt
   ·rintro ⟨⟩ h
    refine thenQ_normal (.seqR ?_)
    refine .rr 2 ?_
    refine .nil (.ret ?_)
    cases h
    refine blockQ.ret ?_
    refine thenQ_ps ?_
    exact FinC.rs
  ·refine .condF rfl (Bool.eq_false_iff.2 c39) ?_
   refine .seqR ?_
   refine .rr 2 ?_
   refine .nil ?_
   replace h := isome h;rcases h with ⟨c61,h⟩ | ⟨c61,h⟩
   ·refine .condT rfl c61 ?_
    refine .seqQ (by kernel_rfl) (by kernel_rfl) ?_
    replace h := bsome h;obtain ⟨x62,hx62,h⟩ := h
    obtain ⟨hx62,hx62b,hx62c⟩ := idx_someN (n := 0) hx62
    replace h := bsome h;obtain ⟨x63,hx63,h⟩ := h
    replace h := bsome h;obtain ⟨x64,hx64,h⟩ := h
    refine .rq 10 fun K k => ?_;simp [hx62,hx63,hx64];refine k ?_
    refine .tt [(65,.agg (k76 x62)),(67,.i x63),(69,.i x64),(71,.i x64)] [] ?_
    replace h := bsome h;obtain ⟨r65,hr65,h⟩ := h
    refine .callL (d := 72) (p28 N x62 x63 x64 x64 r65 hr65) (by simp) rfl rfl (by simp <;> rfl) (by simp <;> rfl) ent28 (by simp <;> rfl) ?_
    refine .rq 4 fun K k => ?_;simp;refine k ?_
    refine .nil (.ret ?_)
    cases h
    refine blockQ.ret ?_
    refine thenQ_ps ?_
    exact FinC.rs
   ·refine .condF rfl (Bool.eq_false_iff.2 c61) ?_
    refine .seq (.seqR ?_)
    refine .rr 2 ?_
    refine .tt (L110 a2.Kind ++ [(75,.b (a2.Kind == 4))]) [(3,some (.box (k26 a0))),(5,some (.box (k34 a2))),(8,some (.box (l29.map (vI .i64)))),(9,some (.box (l30.map (vI .i64))))] (.nil ?_)
    refine .lastN (fun (v67 : Bool) => mk 208 [] (L110 a2.Kind ++ [(75,.b v67)]) [(3,some (.box (k26 a0))),(5,some (.box (k34 a2))),(8,some (.box (l29.map (vI .i64)))),(9,some (.box (l30.map (vI .i64))))]) h ?_ ?_ <;> clear h
    ·intro o h
     replace h := isome h;rcases h with ⟨c68,h⟩ | ⟨c68,h⟩
     ·have c68_ := c68
      refine .condT rfl c68_ ?_
      refine .sub (.bool 75 rfl c68_) ?_
      refine .st (mk 208 [] (L110 a2.Kind ++ [(75,.b true)]) [(3,some (.box (k26 a0))),(5,some (.box (k34 a2))),(8,some (.box (l29.map (vI .i64)))),(9,some (.box (l30.map (vI .i64))))]) (.skip ?_)
      cases h
      refine PostN.next ?_
      exact Sub.tt
     ·have c68_ := Bool.eq_false_iff.2 c68
      refine .condF rfl c68_ ?_
      refine .sub (.bool 75 rfl c68_) ?_
      refine .region ?_
      refine .rr 2 ?_
      refine .nil ?_
      cases h
      refine PostN.next ?_
      exact Sub.tt
    ·rintro v67 h
     refine thenQ_normal ?_
     replace h := isome h;rcases h with ⟨c69,h⟩ | ⟨c69,h⟩
     ·refine .condT rfl c69 ?_
      refine .seqR ?_
      replace h := bsome h;obtain ⟨x70,hx70,h⟩ := h
      replace h := bsome h;obtain ⟨x71,hx71,h⟩ := h
      replace h := csome h;obtain ⟨v72,hv72,h⟩ := h
      refine .rk 6 fun K k => ?_;simp [hx70,hx71,hv72];refine k ?_
      refine .tt (L111 v72) [(3,some (.box (k26 a0))),(5,some (.box (k34 a2))),(8,some (.box (l29.map (vI .i64)))),(9,some (.box (l30.map (vI .i64))))] (.nil ?_)
      refine .seqQ (by kernel_rfl) (by kernel_rfl) ?_
      replace h := bsome h;obtain ⟨x73,hx73,h⟩ := h
      obtain ⟨hx73,hx73b,hx73c⟩ := idx_someN (n := 1) hx73
      replace h := bsome h;obtain ⟨x74,hx74,h⟩ := h
      obtain ⟨hx74,hx74b,hx74c⟩ := idx_someN (n := 0) hx74
      refine .rq 9 fun K k => ?_;simp [hx73,hx74];refine k ?_
      refine .tt (L111 v72 ++ [(83,.agg (k26 a0)),(87,.agg (k34 x73)),(91,.agg (k76 x74))]) [(3,some (.box (k26 a0))),(5,some (.box (k34 a2))),(8,some (.box (l29.map (vI .i64)))),(9,some (.box (l30.map (vI .i64))))] ?_
      replace h := bsome h;obtain ⟨r75,hr75,h⟩ := h
      refine .callL (d := 92) (p29 N a0 x73 x74 r75 hr75) (by simp) rfl rfl (by simp <;> rfl) (by simp <;> rfl) ent29 (by simp <;> rfl) ?_
      refine .st (mk 208 [] (L111 v72 ++ [(83,.agg (k26 a0)),(87,.agg (k34 x73)),(91,.agg (k76 x74)),(92,.b r75)]) [(3,some (.box (k26 a0))),(5,some (.box (k34 a2))),(8,some (.box (l29.map (vI .i64)))),(9,some (.box (l30.map (vI .i64))))]) ?_
      replace h := bsome h;obtain ⟨x76,hx76,h⟩ := h
      obtain ⟨hx76,hx76b,hx76c⟩ := idx_someN (n := 0) hx76
      refine .rq 9 fun K k => ?_;simp [hx76,hx74];refine k ?_
      refine .tt (L112 v72 ++ [(92,.b r75),(93,.agg (k26 a0)),(97,.agg (k34 x76)),(101,.agg (k76 x74))]) [(5,some (.box (k34 a2))),(8,some (.box (l29.map (vI .i64)))),(9,some (.box (l30.map (vI .i64))))] ?_
      replace h := bsome h;obtain ⟨r77,hr77,h⟩ := h
      refine .callL (d := 102) (p29 N a0 x76 x74 r77 hr77) (by simp) rfl rfl (by simp <;> rfl) (by simp <;> rfl) ent29 (by simp <;> rfl) ?_
      refine .rq 2 fun K k => ?_;simp;refine k ?_
      refine .nil (.seqR ?_)
      refine .rr 2 ?_
      refine .nil (.seq (.seqR ?_))
      refine .rr 1 ?_
      refine .tt (L113 v72 r75 r77 ++ [(17,.i v72),(104,.b r75)]) [(5,some (.box (k34 a2))),(8,some (.box (l29.map (vI .i64)))),(9,some (.box (l30.map (vI .i64))))] (.nil ?_)
      refine .lastN (fun ((v80,v81) : (Bool × Int)) => mk 208 [] (L113 v72 v80 r77 ++ [(17,.i v81)]) [(5,some (.box (k34 a2))),(8,some (.box (l29.map (vI .i64)))),(9,some (.box (l30.map (vI .i64))))]) h ?_ ?_ <;> clear h
      ·intro o h
       replace h := isome h;rcases h with ⟨c82,h⟩ | ⟨c82,h⟩
       ·have c82_ := c82
        refine .condT rfl c82_ ?_
        refine .sub (.bool 15 rfl c82_) ?_
        refine .sub (.bool 104 rfl c82_) ?_
        refine .st (mk 208 [] (L112 v72 ++ [(15,.b true),(16,.b r77),(17,.i v72),(104,.b true)]) [(5,some (.box (k34 a2))),(8,some (.box (l29.map (vI .i64)))),(9,some (.box (l30.map (vI .i64))))]) (.region ?_)
        replace h := lsome h;obtain ⟨v83,hv83,h⟩ := h
        unfold minI at hv83
        try simp only [Int.ofNat_lt] at hv83
        refine .rk 5 fun K k => ?_;simp [hx70,hv83];refine k ?_
        refine .nil ?_
        cases h
        refine PostN.next ?_
        exact Sub.tt
       ·have c82_ := Bool.eq_false_iff.2 c82
        refine .condF rfl c82_ ?_
        refine .sub (.bool 15 rfl c82_) ?_
        refine .sub (.bool 104 rfl c82_) ?_
        refine .st (mk 208 [] (L112 v72 ++ [(15,.b false),(16,.b r77),(17,.i v72),(104,.b false)]) [(5,some (.box (k34 a2))),(8,some (.box (l29.map (vI .i64)))),(9,some (.box (l30.map (vI .i64))))]) (.skip ?_)
        cases h
        refine PostN.next ?_
        exact Sub.tt
      ·rintro ⟨v80,v81⟩ h
       dsimp only at h ⊢
       refine thenQ_normal (.seq (.seqR ?_))
       refine .rr 1 ?_
       refine .tt (L114 v72 v80 v81 ++ [(109,.b r77)]) [(5,some (.box (k34 a2))),(8,some (.box (l29.map (vI .i64)))),(9,some (.box (l30.map (vI .i64))))] (.nil ?_)
       refine .lastN (fun (v87 : Int) => mk 208 [] (L114 v72 v80 v87) [(5,some (.box (k34 a2))),(8,some (.box (l29.map (vI .i64)))),(9,some (.box (l30.map (vI .i64))))]) h ?_ ?_ <;> clear h
       ·intro o h
        replace h := isome h;rcases h with ⟨c88,h⟩ | ⟨c88,h⟩
        ·refine .condT rfl c88 ?_
         refine .region ?_
         replace h := bsome h;obtain ⟨x89,hx89,h⟩ := h
         replace h := lsome h;obtain ⟨v90,hv90,h⟩ := h
         unfold minI at hv90
         try simp only [Int.ofNat_lt] at hv90
         refine .rk 5 fun K k => ?_;simp [hx89,hv90];refine k ?_
         refine .nil ?_
         cases h
         refine PostN.next ?_
         exact Sub.tt
        ·refine .condF rfl (Bool.eq_false_iff.2 c88) ?_
         refine .skip ?_
         cases h
         refine PostN.next ?_
         exact Sub.tt
       ·rintro v87 h
        refine thenQ_normal ?_
        refine .seqQ (by kernel_rfl) (by kernel_rfl) ?_
        replace h := bsome h;obtain ⟨x91,hx91,h⟩ := h
        obtain ⟨hx91,hx91b,hx91c⟩ := idx_someN (n := 0) hx91
        replace h := bsome h;obtain ⟨x92,hx92,h⟩ := h
        replace h := bsome h;obtain ⟨x93,hx93,h⟩ := h
        replace h := csome h;obtain ⟨v94,hv94,h⟩ := h
        refine .rq 11 fun K k => ?_;simp [hx91,hx92,hx93,hv94];refine k ?_
        refine .tt [(5,.ptr 5 0 0),(8,.ptr 8 0 0),(9,.ptr 9 0 0),(15,.b v80),(118,.agg (k76 x91)),(123,.i v94),(124,.i v72),(125,.i v87)] [(5,some (.box (k34 a2))),(8,some (.box (l29.map (vI .i64)))),(9,some (.box (l30.map (vI .i64))))] ?_
        replace h := bsome h;obtain ⟨r95,hr95,h⟩ := h
        refine .callL (d := 126) (p28 N x91 v94 v72 v87 r95 hr95) (by simp) rfl rfl (by simp <;> rfl) (by simp <;> rfl) ent28 (by simp <;> rfl) ?_
        refine .rq 5 fun K k => ?_;simp;refine k ?_
        refine .nil (.seq (.seqR ?_))
        refine .rr 3 ?_
        refine .nil ?_
        replace h := isome h;rcases h with ⟨c96,h⟩ | ⟨c96,h⟩
        ·refine .condT rfl c96 ?_
         refine .seqR ?_
         refine .rr 4 ?_
         refine .nil (.ret ?_)
         cases h
         refine thenQ_ps ?_
         refine blockQ.ret ?_
         refine thenQ_ps ?_
         exact FinC.rs
        ·refine .condF rfl (Bool.eq_false_iff.2 c96) ?_
         refine .skip (thenQ_normal (.seq (.seqR ?_)))
         refine .rr 1 ?_
         refine .nil ?_
         replace h := isome h;rcases h with ⟨c97,h⟩ | ⟨c97,h⟩
         ·refine .condT rfl c97 ?_
          refine .seqQ (by kernel_rfl) (by kernel_rfl) ?_
          replace h := lsome h;obtain ⟨v98,hv98,h⟩ := h
          unfold maxI at hv98
          try simp only [Int.ofNat_lt] at hv98
          replace h := bsome h;obtain ⟨x99,hx99,h⟩ := h
          refine .rq 8 fun K k => ?_;simp [hx92,hv98,hx99];refine k ?_
          refine .nil (.ret ?_)
          cases h
          refine thenQ_ps ?_
          refine blockQ.ret ?_
          refine thenQ_ps ?_
          exact FinC.rs
         ·refine .condF rfl (Bool.eq_false_iff.2 c97) ?_
          refine .skip (thenQ_normal ?_)
          refine .seqQ (by kernel_rfl) (by kernel_rfl) ?_
          replace h := lsome h;obtain ⟨v100,hv100,h⟩ := h
          unfold maxI at hv100
          try simp only [Int.ofNat_lt] at hv100
          replace h := bsome h;obtain ⟨x101,hx101,h⟩ := h
          replace h := bsome h;obtain ⟨x102,hx102,h⟩ := h
          replace h := lsome h;obtain ⟨v103,hv103,h⟩ := h
          unfold maxI at hv103
          try simp only [Int.ofNat_lt] at hv103
          replace h := csome h;obtain ⟨v104,hv104,h⟩ := h
          refine .rq 12 fun K k => ?_;simp [hx92,hv100,hx101,hx102,hv103,hv104];refine k ?_
          refine .nil (.ret ?_)
          cases h
          refine blockQ.ret ?_
          refine thenQ_ps ?_
          exact FinC.rs
     ·refine .condF rfl (Bool.eq_false_iff.2 c69) ?_
      refine .seqR ?_
      refine .rr 2 ?_
      refine .nil ?_
      replace h := isome h;rcases h with ⟨c105,h⟩ | ⟨c105,h⟩
      ·refine .condT rfl c105 ?_
       refine .seqQ (by kernel_rfl) (by kernel_rfl) ?_
       replace h := bsome h;obtain ⟨x106,hx106,h⟩ := h
       replace h := bsome h;obtain ⟨x107,hx107,h⟩ := h
       replace h := csome h;obtain ⟨v108,hv108,h⟩ := h
       replace h := bsome h;obtain ⟨x109,hx109,h⟩ := h
       replace h := bsome h;obtain ⟨x110,hx110,h⟩ := h
       replace h := csome h;obtain ⟨v111,hv111,h⟩ := h
       refine .rq 12 fun K k => ?_;simp [hx106,hx107,hv108,hx109,hx110,hv111];refine k ?_
       refine .nil (.ret ?_)
       cases h
       refine blockQ.ret ?_
       refine thenQ_ps ?_
       exact FinC.rs
      ·refine .condF rfl (Bool.eq_false_iff.2 c105) ?_
       refine .seqR ?_
       refine .rr 2 ?_
       refine .nil ?_
       replace h := isome h;rcases h with ⟨c112,h⟩ | ⟨c112,h⟩
       ·refine .condT rfl c112 ?_
        refine .seqQ (by kernel_rfl) (by kernel_rfl) ?_
        replace h := bsome h;obtain ⟨x113,hx113,h⟩ := h
        replace h := bsome h;obtain ⟨x114,hx114,h⟩ := h
        replace h := csome h;obtain ⟨v115,hv115,h⟩ := h
        replace h := lsome h;obtain ⟨v116,hv116,h⟩ := h
        unfold maxI at hv116
        try simp only [Int.ofNat_lt] at hv116
        replace h := bsome h;obtain ⟨x117,hx117,h⟩ := h
        refine .rq 10 fun K k => ?_;simp [hx113,hx114,hv115,hv116,hx117];refine k ?_
        refine .nil (.ret ?_)
        cases h
        refine blockQ.ret ?_
        refine thenQ_ps ?_
        exact FinC.rs
       ·refine .condF rfl (Bool.eq_false_iff.2 c112) ?_
        refine .seqR ?_
        refine .rr 2 ?_
        refine .nil ?_
        replace h := isome h;rcases h with ⟨c118,h⟩ | ⟨c118,h⟩
        ·refine .condT rfl c118 ?_
         refine .seq (.seqR ?_)
         refine .rr 4 ?_
         refine .nil ?_
         replace h := isome h;rcases h with ⟨c119,h⟩ | ⟨c119,h⟩
         ·refine .condT rfl c119 ?_
          refine .seqR ?_
          refine .rr 2 ?_
          refine .nil (.ret ?_)
          cases h
          refine thenQ_ps ?_
          refine blockQ.ret ?_
          refine thenQ_ps ?_
          exact FinC.rs
         ·refine .condF rfl (Bool.eq_false_iff.2 c119) ?_
          refine .skip (thenQ_normal ?_)
          refine .seqQ (by kernel_rfl) (by kernel_rfl) ?_
          replace h := bsome h;obtain ⟨x120,hx120,h⟩ := h
          replace h := lsome h;obtain ⟨v121,hv121,h⟩ := h
          unfold minI at hv121
          try simp only [Int.ofNat_lt] at hv121
          replace h := bsome h;obtain ⟨x122,hx122,h⟩ := h
          refine .rq 7 fun K k => ?_;simp [hx120,hv121,hx122];refine k ?_
          refine .nil (.ret ?_)
          cases h
          refine blockQ.ret ?_
          refine thenQ_ps ?_
          exact FinC.rs
        ·refine .condF rfl (Bool.eq_false_iff.2 c118) ?_
         refine .seqR ?_
         refine .rr 2 ?_
         refine .nil ?_
         replace h := isome h;rcases h with ⟨c123,h⟩ | ⟨c123,h⟩
         ·refine .condT rfl c123 ?_
          refine .seqQ (by kernel_rfl) (by kernel_rfl) ?_
          replace h := bsome h;obtain ⟨x124,hx124,h⟩ := h
          replace h := csome h;obtain ⟨v125,hv125,h⟩ := h
          replace h := lsome h;obtain ⟨v126,hv126,h⟩ := h
          unfold maxI at hv126
          try simp only [Int.ofNat_lt] at hv126
          replace h := lsome h;obtain ⟨v127,hv127,h⟩ := h
          unfold minI at hv127
          try simp only [Int.ofNat_lt] at hv127
          replace h := bsome h;obtain ⟨x128,hx128,h⟩ := h
          replace h := csome h;obtain ⟨v129,hv129,h⟩ := h
          replace h := lsome h;obtain ⟨v130,hv130,h⟩ := h
          unfold maxI at hv130
          try simp only [Int.ofNat_lt] at hv130
          replace h := lsome h;obtain ⟨v131,hv131,h⟩ := h
          unfold minI at hv131
          try simp only [Int.ofNat_lt] at hv131
          refine .rq 20 fun K k => ?_;simp [hx124,hv125,hv126,hv127,hx128,hv129,hv130,hv131];refine k ?_
          refine .nil (.ret ?_)
          cases h
          refine blockQ.ret ?_
          refine thenQ_ps ?_
          exact FinC.rs
         ·refine .condF rfl (Bool.eq_false_iff.2 c123) ?_
          refine .skip (blockQ.normal (thenQ_normal ?_))
          refine .seqQ (by kernel_rfl) (by kernel_rfl) ?_
          replace h := bsome h;obtain ⟨x132,hx132,h⟩ := h
          replace h := bsome h;obtain ⟨x133,hx133,h⟩ := h
          refine .rq 6 fun K k => ?_;simp [hx132,hx133];refine k ?_
          refine .nil (.ret ?_)
          cases h
          exact FinC.rs
def d54 (_N : Nat) (a0 : S58) : Option Bool :=
 Option.bind (α := Bool) (
  if (a0.Kind == 2) then (
   some (a0.Int == 1)
  ) else
  some false
 ) fun (v2 : Bool) =>
 some v2
theorem p54 (N : Nat) (a0 : S58) (r : Bool) (h : d54 N a0 = some r) : FunC Tryz.prog 54 [.agg (k58 a0)] (.b r) := by
 unfold d54 at h
 refine FunC.enter 11 [(0,.agg (k58 a0))] (by simp) Tryz.func54 rfl (of_decide_eq_true rfl) rfl rfl ?_
 refine .seqR ?_
 refine .rr 2 ?_
 refine .tt [(1,.ptr 1 0 0)] (H3 a0) (.nil ?_)
 replace h := bsome h;obtain ⟨v2,hj,h⟩ := h
 refine .cutR (mk 11 [] [(2,.b v2)] []) ?_ ?_
 ·clear h;have h := hj;clear hj
  refine .rr 4 ?_
  replace h := isome h;rcases h with ⟨c3,h⟩ | ⟨c3,h⟩
  ·refine .sub (.bool 6 rfl c3) ?_
   refine .rr 5 ?_
   cases h
   exact .nil .tt
  refine .sub (.bool 6 rfl (Bool.eq_false_iff.2 c3)) ?_
  refine .rr 5 ?_
  cases h
  exact .nil .tt
 clear hj
 refine .ret ?_
 cases h
 exact FinC.rs
def d30 (N : Nat) (a0 : S49) (a1 : S76) : Option S49 :=
 if (a1.Kind == 1) then (
  (d54 N a1.Value).bind fun r2 =>
  if r2 = true then (
   some a0
  ) else
  some (S49.mk 0 0)
 ) else
 some (S49.mk 0 a0.High)
theorem p30 (N : Nat) (a0 : S49) (a1 : S76) (r : S49) (h : d30 N a0 a1 = some r) : FunC Tryz.prog 30 [.agg [.i a0.Low,.i a0.High],.agg (k76 a1)] (.agg [.i r.Low,.i r.High]) := by
 unfold d30 at h
 refine FunC.enter 16 [(0,.agg [.i a0.Low,.i a0.High]),(1,.agg (k76 a1))] (by simp) Tryz.func30 rfl (of_decide_eq_true rfl) rfl rfl ?_
 refine .seqR ?_
 refine .rr 3 ?_
 refine .nil (.seq (.seqR ?_))
 refine .rr 3 ?_
 refine .nil ?_
 replace h := isome h;rcases h with ⟨c1,h⟩ | ⟨c1,h⟩
 ·refine .condT rfl c1 ?_
  refine .seq (.seqR ?_)
  refine .rr 2 ?_
  refine .tt [(2,.ptr 2 0 0),(4,.ptr 4 0 0),(9,.agg (k58 a1.Value))] [(2,some (.box [.i a0.Low,.i a0.High])),(4,some (.box [.i 0,.i 0]))] ?_
  replace h := bsome h;obtain ⟨r2,hr2,h⟩ := h
  refine .callL (d := 10) (p54 N a1.Value r2 hr2) (by simp) rfl rfl (by simp <;> rfl) (by simp <;> rfl) ent54 (by simp <;> rfl) ?_
  refine .st (mk 16 [] [(2,.ptr 2 0 0),(4,.ptr 4 0 0),(9,.agg (k58 a1.Value)),(10,.b r2)] [(2,some (.box [.i a0.Low,.i a0.High])),(4,some (.box [.i 0,.i 0]))]) (.nil ?_)
  replace h := isome h;rcases h with ⟨c3,h⟩ | ⟨c3,h⟩
  ·refine .condT rfl c3 ?_
   refine .seqR ?_
   refine .rr 2 ?_
   refine .nil (.ret ?_)
   cases h
   refine thenQ_ps ?_
   refine thenQ_ps ?_
   exact FinC.rs
  refine .condF rfl (Bool.eq_false_iff.2 c3) ?_
  refine .skip (thenQ_normal (.seqR ?_))
  refine .rr 2 ?_
  refine .nil (.ret ?_)
  cases h
  refine thenQ_ps ?_
  exact FinC.rs
 refine .condF rfl (Bool.eq_false_iff.2 c1) ?_
 refine .skip (thenQ_normal (.seqR ?_))
 refine .rr 4 ?_
 refine .nil (.ret ?_)
 cases h
 exact FinC.rs
def d115 (N : Nat) (a0 : ByteArray) (a1 : S56) : Option Bool :=
 bindO (β := Unit) (ρ := Bool) (
  iterN (σ := Int) (ρ := (Out Unit Bool)) (fun (v5 : Int) =>
   if v5 < (a1.Columns.length : Int) then (
    (idx a1.Columns v5).bind fun x18 =>
    if decide (x18.Name = a0) = true then (
     some (.inr (.ret true))
    ) else
    (chkI (v5 + 1)).bind fun v21 =>
    some (.inl v21)
   ) else
   some (.inr (.go ()))
  ) N 0
 ) fun (_ : Unit) =>
 some false
theorem p115 (N : Nat) (a0 : ByteArray) (a1 : S56) (r : Bool) (h : d115 N a0 a1 = some r) : FunC Tryz.prog 115 [.s a0,.d (.pim [.lit (.string a1.Name),.sl (a1.Columns.map cS53),.sl (a1.PrimaryKey.map (cI .i64))])] (.b r) := by
 unfold d115 at h
 refine FunC.enter 18 [(0,.s a0),(1,.d (.pim [.lit (.string a1.Name),.sl (a1.Columns.map cS53),.sl (a1.PrimaryKey.map (cI .i64))]))] (by simp) Tryz.func115 rfl (of_decide_eq_true rfl) rfl rfl ?_
 refine .seqR ?_
 refine .rr 1 ?_
 refine .nil (.seq (.seqR ?_))
 refine .rr 4 ?_
 refine .tt [(0,.s a0),(7,.s53 a1.Columns),(8,.i (a1.Columns.length : Int)),(9,.i 0)] [] (.nil ?_)
 refine .lastJ (fun (_ : Unit) => mk 18 [] [] []) h ?_ ?_ <;> clear h
 ·intro o h
  refine .block ?_
  refine .iter (fun (v5 : Int) => mk 18 [] (L115 a0 a1.Columns a1.Columns.length v5) []) h Sub.tt ?_
  clear h
  rintro v5 x h
  refine .seqR ?_
  refine .rr 1 ?_
  refine .nil (.seq ?_)
  replace h := isome h;rcases h with ⟨c17,h⟩ | ⟨c17,h⟩
  ·refine .condT rfl (decide_eq_true c17) ?_
   refine .skip (thenQ_normal (.seq (.block (.seqR ?_))))
   replace h := xsome h;obtain ⟨x18,k19,hx18k,hx18,hx18a,hx18b,h⟩ := h
   refine .rk 4 fun K k => ?_;simp [hx18,hx18k,hx18a];refine k ?_
   refine .nil (.seqR ?_)
   refine .rr 4 ?_
   refine .nil ?_
   replace h := isome h;rcases h with ⟨c20,h⟩ | ⟨c20,h⟩
   ·refine .condT rfl c20 ?_
    refine .seqR ?_
    refine .rr 1 ?_
    refine .nil (.ret ?_)
    cases h
    refine blockQ.ret ?_
    refine thenQ_ps ?_
    refine PostI.os ?_
    rintro rfl
    refine blockQ.ret ?_
    refine PostJ.out (by simp) ?_
    rintro rfl
    refine thenQ_ps ?_
    exact FinC.rs
   refine .condF rfl (Bool.eq_false_iff.2 c20) ?_
   refine .skip (blockQ.normal (thenQ_normal (.region ?_)))
   replace h := csome h;obtain ⟨v21,hv21,h⟩ := h
   refine .rk 2 fun K k => ?_;simp [hv21];refine k ?_
   refine .nil ?_
   cases h
   refine PostI.next ?_
   exact Sub.tt
  refine .condF rfl (decide_eq_false c17) ?_
  refine .exit ?_
  cases h
  refine thenQ_ps ?_
  refine PostI.os ?_
  rintro rfl
  refine blockQ.hit (PostJ.next ?_)
  exact Sub.tt
 rintro ⟨⟩ h
 refine thenQ_normal (.seqR ?_)
 refine .rr 1 ?_
 refine .nil (.ret ?_)
 cases h
 exact FinC.rs
end Go.Proofs.YtmgddgcniacnbaaGreatDoor
