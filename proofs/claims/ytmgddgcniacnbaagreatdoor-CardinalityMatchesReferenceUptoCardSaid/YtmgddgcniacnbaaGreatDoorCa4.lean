/- Functions of the program as functional programs; the code computes them. -/
import Derived.Test.YtmgddgcniacnbaaGreatDoorCa3
namespace Go.Proofs.YtmgddgcniacnbaaGreatDoor
set_option maxRecDepth 100000
set_option maxHeartbeats 4000000
open Go.Ab Go.Rp
attribute [-simp] List.all_eq_true Array.all_toList Array.all_eq_true
def d6 (N : Nat) (a0 : S26) : Option Int :=
 Option.bind (α := Bool) (
  if (a0.Tables.length : Int) > 6 then (
   some true
  ) else
  if (a0.ForeignKeys.length : Int) > 8 then (
   some true
  ) else
  some (decide ((a0.Constraints.length : Int) > 8))
 ) fun (v3 : Bool) =>
 if v3 = true then (
  some 2
 ) else
 bindO (β := Unit) (ρ := Int) (
  iterN (σ := Int) (ρ := (Out Unit Int)) (fun (v22 : Int) =>
   if v22 < (a0.Tables.length : Int) then (
    (idx a0.Tables v22).bind fun x57 =>
    (d19 N x57).bind fun r59 =>
    if (r59 != 0) then (
     some (.inr (.ret r59))
    ) else
    Option.bind (α := Bool) (
     if v22 > 0 then (
      (chkI (v22 - 1)).bind fun v67 =>
      (idx a0.Tables v67).bind fun x68 =>
      some (Op.bytesLess x57.Name.toList x68.Name.toList || decide (x57.Name = x68.Name))
     ) else
     some false
    ) fun (v65 : Bool) =>
    if v65 = true then (
     some (.inr (.ret 6))
    ) else
    (chkI (v22 + 1)).bind fun v71 =>
    some (.inl v71)
   ) else
   some (.inr (.go ()))
  ) N 0
 ) fun (_ : Unit) =>
 bindO (β := Unit) (ρ := Int) (
  iterN (σ := Int) (ρ := (Out Unit Int)) (fun (v81 : Int) =>
   if v81 < (a0.ForeignKeys.length : Int) then (
    (idx a0.ForeignKeys v81).bind fun x104 =>
    (d20 N a0 x104).bind fun r106 =>
    if (r106 != 0) then (
     some (.inr (.ret r106))
    ) else
    (natI v81 a0.ForeignKeys.length).bind fun n108 =>
    letv (a0.ForeignKeys.take n108) fun l109 =>
    (d21 N l109 (fun b0 => d22 N b0 x104)).bind fun r110 =>
    if r110 = true then (
     some (.inr (.ret 5))
    ) else
    (chkI ((n108 : Int) + 1)).bind fun v112 =>
    some (.inl v112)
   ) else
   some (.inr (.go ()))
  ) N 0
 ) fun (_ : Unit) =>
 bindO (β := Unit) (ρ := Int) (
  iterN (σ := Int) (ρ := (Out Unit Int)) (fun (v122 : Int) =>
   if v122 < (a0.Constraints.length : Int) then (
    (idx a0.Constraints v122).bind fun x145 =>
    (d24 N a0 x145).bind fun r147 =>
    if (r147 != 0) then (
     some (.inr (.ret r147))
    ) else
    (natI v122 a0.Constraints.length).bind fun n149 =>
    letv (a0.Constraints.take n149) fun l150 =>
    (d25 N l150 x145).bind fun r151 =>
    if r151 = true then (
     some (.inr (.ret 5))
    ) else
    (chkI ((n149 : Int) + 1)).bind fun v153 =>
    some (.inl v153)
   ) else
   some (.inr (.go ()))
  ) N 0
 ) fun (_ : Unit) =>
 some 0
theorem p6 (N : Nat) (a0 : S26) (r : Int) (h : d6 N a0 = some r) : FunC Tryz.prog 6 [.agg (k26 a0)] (.i r) := by
 unfold d6 at h
 refine FunC.enter 98 [(0,.agg (k26 a0))] (by simp) Tryz.func6 rfl (of_decide_eq_true rfl) rfl rfl ?_
 refine .seqR ?_
 refine .rr 2 ?_
 refine .tt [(1,.ptr 1 0 0)] (H8 a0) (.nil (.seq ?_))
 replace h := bsome h;obtain ⟨v3,hj,h⟩ := h
 refine .cutR (mk 98 [] [(1,.ptr 1 0 0),(27,.b v3)] (H8 a0)) ?_ ?_
 ·clear h;have h := hj;clear hj
  refine .rr 5 ?_
  replace h := isome h;rcases h with ⟨c4,h⟩ | ⟨c4,h⟩
  ·refine .sub (.bool 16 rfl (decide_eq_true c4)) ?_
   refine .rr 11 ?_
   cases h
   exact .nil .tt
  refine .sub (.bool 16 rfl (decide_eq_false c4)) ?_
  refine .rr 6 ?_
  replace h := isome h;rcases h with ⟨c5,h⟩ | ⟨c5,h⟩
  ·refine .sub (.bool 22 rfl (decide_eq_true c5)) ?_
   refine .rr 5 ?_
   cases h
   exact .nil .tt
  refine .sub (.bool 22 rfl (decide_eq_false c5)) ?_
  refine .rr 5 ?_
  cases h
  exact .nil .tt
 clear hj
 replace h := isome h;rcases h with ⟨c6,h⟩ | ⟨c6,h⟩
 ·refine .condT rfl c6 ?_
  refine .seqR ?_
  refine .rr 1 ?_
  refine .nil (.ret ?_)
  cases h
  refine thenQ_ps ?_
  exact FinC.rs
 refine .condF rfl (Bool.eq_false_iff.2 c6) ?_
 refine .skip (thenQ_normal (.seq (.seqR ?_)))
 refine .rr 4 ?_
 refine .tt [(1,.ptr 1 0 0),(29,.s56 a0.Tables),(30,.i (a0.Tables.length : Int)),(31,.i 0)] (H8 a0) (.nil ?_)
 refine .lastJ (fun (_ : Unit) => mk 98 [] [(1,.ptr 1 0 0)] (H8 a0)) h ?_ ?_ <;> clear h
 ·intro o h
  refine .block ?_
  refine .iter (fun (v22 : Int) => mk 98 [] (L27 a0.Tables a0.Tables.length v22) (H8 a0)) h Sub.tt ?_
  clear h
  rintro v22 x h
  refine .seqR ?_
  refine .rr 1 ?_
  refine .nil (.seq ?_)
  replace h := isome h;rcases h with ⟨c56,h⟩ | ⟨c56,h⟩
  ·refine .condT rfl (decide_eq_true c56) ?_
   refine .skip (thenQ_normal (.seq (.block (.seqR ?_))))
   replace h := xsome h;obtain ⟨x57,k58,hx57k,hx57,hx57a,hx57b,h⟩ := h
   refine .rk 6 fun K k => ?_;simp [hx57,hx57k,hx57a];refine k ?_
   refine .nil (.seq (.seqR ?_))
   refine .rr 1 ?_
   refine .tt (L28 v22 a0.Tables a0.Tables.length ++ [(36,.agg (k56 x57))]) (H30 a0 x57) ?_
   replace h := bsome h;obtain ⟨r59,hr59,h⟩ := h
   refine .callL (d := 37) (p19 N x57 r59 hr59) (by simp) rfl rfl (by simp <;> rfl) (by simp <;> rfl) ent19 (by simp <;> rfl) ?_
   refine .rr 1 ?_
   refine .nil (.seqR ?_)
   refine .rr 2 ?_
   refine .nil ?_
   replace h := isome h;rcases h with ⟨c60,h⟩ | ⟨c60,h⟩
   ·refine .condT rfl c60 ?_
    refine .seqR ?_
    refine .rr 2 ?_
    refine .nil (.ret ?_)
    cases h
    refine thenQ_ps ?_
    refine blockQ.ret ?_
    refine thenQ_ps ?_
    refine PostI.os ?_
    rintro rfl
    refine blockQ.ret ?_
    refine PostJ.out (by simp) ?_
    rintro rfl
    refine thenQ_ps ?_
    exact FinC.rs
   refine .condF rfl (Bool.eq_false_iff.2 c60) ?_
   refine .skip (thenQ_normal ?_)
   replace h := bsome h;obtain ⟨v65,hj,h⟩ := h
   refine .cutQ (by kernel_rfl) (by kernel_rfl) (mk 98 [] (L27 a0.Tables a0.Tables.length v22 ++ [(54,.b v65)]) (H8 a0)) ?_ ?_
   ·clear h;have h := hj;clear hj
    refine .rq 3 fun K k => ?_;simp;refine k ?_
    replace h := isome h;rcases h with ⟨c66,h⟩ | ⟨c66,h⟩
    ·refine .sub (.bool 43 rfl (decide_eq_true c66)) ?_
     refine .st (mk 98 [] (L28 v22 a0.Tables a0.Tables.length ++ [(43,.b true)]) (H30 a0 x57)) ?_
     replace h := csome h;obtain ⟨v67,hv67,h⟩ := h
     replace h := xsome h;obtain ⟨x68,k69,hx68k,hx68,hx68a,hx68b,h⟩ := h
     refine .rq 11 fun K k => ?_;simp [hv67,hx68,hx68k,hx68a];refine k ?_
     cases h
     exact .nil .tt
    refine .sub (.bool 43 rfl (decide_eq_false c66)) ?_
    refine .rq 11 fun K k => ?_;simp;refine k ?_
    cases h
    exact .nil .tt
   clear hj
   replace h := isome h;rcases h with ⟨c70,h⟩ | ⟨c70,h⟩
   ·refine .condT rfl c70 ?_
    refine .seqR ?_
    refine .rr 1 ?_
    refine .nil (.ret ?_)
    cases h
    refine blockQ.ret ?_
    refine thenQ_ps ?_
    refine PostI.os ?_
    rintro rfl
    refine blockQ.ret ?_
    refine PostJ.out (by simp) ?_
    rintro rfl
    refine thenQ_ps ?_
    exact FinC.rs
   refine .condF rfl (Bool.eq_false_iff.2 c70) ?_
   refine .skip (blockQ.normal (thenQ_normal (.region ?_)))
   replace h := csome h;obtain ⟨v71,hv71,h⟩ := h
   refine .rk 2 fun K k => ?_;simp [hv71];refine k ?_
   refine .nil ?_
   cases h
   refine PostI.next ?_
   exact Sub.tt
  refine .condF rfl (decide_eq_false c56) ?_
  refine .exit ?_
  cases h
  refine thenQ_ps ?_
  refine PostI.os ?_
  rintro rfl
  refine blockQ.hit (PostJ.next ?_)
  exact Sub.tt
 rintro ⟨⟩ h
 refine thenQ_normal (.seq (.seqR ?_))
 refine .rr 4 ?_
 refine .tt [(1,.ptr 1 0 0),(57,.s82 a0.ForeignKeys),(58,.i (a0.ForeignKeys.length : Int)),(59,.i 0)] (H8 a0) (.nil ?_)
 refine .lastJ (fun (_ : Unit) => mk 98 [] [(1,.ptr 1 0 0)] (H8 a0)) h ?_ ?_ <;> clear h
 ·intro o h
  refine .block ?_
  refine .iter (fun (v81 : Int) => mk 98 [] (L29 a0.ForeignKeys a0.ForeignKeys.length v81) (H8 a0)) h Sub.tt ?_
  clear h
  rintro v81 x h
  refine .seqR ?_
  refine .rr 1 ?_
  refine .nil (.seq ?_)
  replace h := isome h;rcases h with ⟨c103,h⟩ | ⟨c103,h⟩
  ·refine .condT rfl (decide_eq_true c103) ?_
   refine .skip (thenQ_normal (.seq (.block (.seqR ?_))))
   replace h := xsome h;obtain ⟨x104,k105,hx104k,hx104,hx104a,hx104b,h⟩ := h
   refine .rk 6 fun K k => ?_;simp [hx104,hx104k,hx104a];refine k ?_
   refine .nil (.seq (.seqR ?_))
   refine .rr 2 ?_
   refine .tt (L30 v81 a0.ForeignKeys a0.ForeignKeys.length ++ [(64,.agg (k26 a0)),(65,.agg (k82 x104))]) (H36 a0 x104) ?_
   replace h := bsome h;obtain ⟨r106,hr106,h⟩ := h
   refine .callL (d := 66) (p20 N a0 x104 r106 hr106) (by simp) rfl rfl (by simp <;> rfl) (by simp <;> rfl) ent20 (by simp <;> rfl) ?_
   refine .rr 1 ?_
   refine .nil (.seqR ?_)
   refine .rr 2 ?_
   refine .nil ?_
   replace h := isome h;rcases h with ⟨c107,h⟩ | ⟨c107,h⟩
   ·refine .condT rfl c107 ?_
    refine .seqR ?_
    refine .rr 2 ?_
    refine .nil (.ret ?_)
    cases h
    refine thenQ_ps ?_
    refine blockQ.ret ?_
    refine thenQ_ps ?_
    refine PostI.os ?_
    rintro rfl
    refine blockQ.ret ?_
    refine PostJ.out (by simp) ?_
    rintro rfl
    refine thenQ_ps ?_
    exact FinC.rs
   refine .condF rfl (Bool.eq_false_iff.2 c107) ?_
   refine .skip (thenQ_normal (.seqR ?_))
   replace h := bsome h;obtain ⟨n108,gn108,h⟩ := h
   obtain ⟨hn108a,hn108⟩ := natI_some gn108
   clear gn108
   subst hn108a
   replace h := lsome h;obtain ⟨l109,gl109,h⟩ := h
   have hl109 : ((a0.ForeignKeys.map cS82).take n108) = l109.map cS82 := by rw [← gl109];simp
   clear gl109
   refine .rk 5 fun K k => ?_;simp [hn108,hl109];refine k ?_
   refine .tt [(1,.ptr 1 0 0),(57,.s82 a0.ForeignKeys),(58,.i (a0.ForeignKeys.length : Int)),(59,.i (n108 : Int)),(73,.s82 l109),(74,.fn (.func 22) [.ptr 7 0 0])] (H36 a0 x104) ?_
   replace h := bsome h;obtain ⟨r110,hr110,h⟩ := h
   refine .callL (d := 75) (p21 N l109 22 [.pim [.lit (.string x104.Table),.sl (x104.Columns.map (cI .i64)),.lit (.string x104.RefTable)]] (fun b0 => d22 N b0 x104) ent22 (fun b0 r h => p22 N b0 x104 r h) r110 hr110) (by simp) rfl rfl (by simp <;> rfl) (by simp <;> rfl) ent21 (by simp <;> rfl) ?_
   refine .st (mk 98 [] [(1,.ptr 1 0 0),(57,.s82 a0.ForeignKeys),(58,.i (a0.ForeignKeys.length : Int)),(59,.i (n108 : Int)),(73,.s82 l109),(74,.fn (.func 22) [.ptr 7 0 0]),(75,.b r110)] (H36 a0 x104)) (.nil ?_)
   replace h := isome h;rcases h with ⟨c111,h⟩ | ⟨c111,h⟩
   ·refine .condT rfl c111 ?_
    refine .seqR ?_
    refine .rr 1 ?_
    refine .nil (.ret ?_)
    cases h
    refine blockQ.ret ?_
    refine thenQ_ps ?_
    refine PostI.os ?_
    rintro rfl
    refine blockQ.ret ?_
    refine PostJ.out (by simp) ?_
    rintro rfl
    refine thenQ_ps ?_
    exact FinC.rs
   refine .condF rfl (Bool.eq_false_iff.2 c111) ?_
   refine .skip (blockQ.normal (thenQ_normal (.region ?_)))
   replace h := csome h;obtain ⟨v112,hv112,h⟩ := h
   refine .rk 2 fun K k => ?_;simp [hv112];refine k ?_
   refine .nil ?_
   cases h
   refine PostI.next ?_
   exact Sub.tt
  refine .condF rfl (decide_eq_false c103) ?_
  refine .exit ?_
  cases h
  refine thenQ_ps ?_
  refine PostI.os ?_
  rintro rfl
  refine blockQ.hit (PostJ.next ?_)
  exact Sub.tt
 rintro ⟨⟩ h
 refine thenQ_normal (.seq (.seqR ?_))
 refine .rr 4 ?_
 refine .tt [(1,.ptr 1 0 0),(78,.s88 a0.Constraints),(79,.i (a0.Constraints.length : Int)),(80,.i 0)] (H8 a0) (.nil ?_)
 refine .lastJ (fun (_ : Unit) => mk 98 [] [] []) h ?_ ?_ <;> clear h
 ·intro o h
  refine .block ?_
  refine .iter (fun (v122 : Int) => mk 98 [] (L31 a0.Constraints a0.Constraints.length v122) (H8 a0)) h Sub.tt ?_
  clear h
  rintro v122 x h
  refine .seqR ?_
  refine .rr 1 ?_
  refine .nil (.seq ?_)
  replace h := isome h;rcases h with ⟨c144,h⟩ | ⟨c144,h⟩
  ·refine .condT rfl (decide_eq_true c144) ?_
   refine .skip (thenQ_normal (.seq (.block (.seqR ?_))))
   replace h := xsome h;obtain ⟨x145,k146,hx145k,hx145,hx145a,hx145b,h⟩ := h
   refine .rk 6 fun K k => ?_;simp [hx145,hx145k,hx145a];refine k ?_
   refine .nil (.seq (.seqR ?_))
   refine .rr 2 ?_
   refine .tt (L32 v122 a0.Constraints a0.Constraints.length ++ [(85,.agg (k26 a0)),(86,.agg (k88 x145))]) (H44 a0 x145) ?_
   replace h := bsome h;obtain ⟨r147,hr147,h⟩ := h
   refine .callL (d := 87) (p24 N a0 x145 r147 hr147) (by simp) rfl rfl (by simp <;> rfl) (by simp <;> rfl) ent24 (by simp <;> rfl) ?_
   refine .rr 1 ?_
   refine .nil (.seqR ?_)
   refine .rr 2 ?_
   refine .nil ?_
   replace h := isome h;rcases h with ⟨c148,h⟩ | ⟨c148,h⟩
   ·refine .condT rfl c148 ?_
    refine .seqR ?_
    refine .rr 2 ?_
    refine .nil (.ret ?_)
    cases h
    refine thenQ_ps ?_
    refine blockQ.ret ?_
    refine thenQ_ps ?_
    refine PostI.os ?_
    rintro rfl
    refine blockQ.ret ?_
    refine PostJ.out (by simp) ?_
    rintro rfl
    refine thenQ_ps ?_
    exact FinC.rs
   refine .condF rfl (Bool.eq_false_iff.2 c148) ?_
   refine .skip (thenQ_normal ?_)
   refine .seqQ (by kernel_rfl) (by kernel_rfl) ?_
   replace h := bsome h;obtain ⟨n149,gn149,h⟩ := h
   obtain ⟨hn149a,hn149⟩ := natI_some gn149
   clear gn149
   subst hn149a
   replace h := lsome h;obtain ⟨l150,gl150,h⟩ := h
   have hl150 : ((a0.Constraints.map cS88).take n149) = l150.map cS88 := by rw [← gl150];simp
   clear gl150
   refine .rq 5 fun K k => ?_;simp [hn149,hl150];refine k ?_
   refine .tt [(1,.ptr 1 0 0),(78,.s88 a0.Constraints),(79,.i (a0.Constraints.length : Int)),(80,.i (n149 : Int)),(94,.s88 l150),(95,.agg (k88 x145))] (H8 a0) ?_
   replace h := bsome h;obtain ⟨r151,hr151,h⟩ := h
   refine .callL (d := 96) (p25 N l150 x145 r151 hr151) (by simp) rfl rfl (by simp <;> rfl) (by simp <;> rfl) ent25 (by simp <;> rfl) ?_
   refine .st (mk 98 [] [(1,.ptr 1 0 0),(78,.s88 a0.Constraints),(79,.i (a0.Constraints.length : Int)),(80,.i (n149 : Int)),(94,.s88 l150),(95,.agg (k88 x145)),(96,.b r151)] (H8 a0)) (.nil ?_)
   replace h := isome h;rcases h with ⟨c152,h⟩ | ⟨c152,h⟩
   ·refine .condT rfl c152 ?_
    refine .seqR ?_
    refine .rr 1 ?_
    refine .nil (.ret ?_)
    cases h
    refine blockQ.ret ?_
    refine thenQ_ps ?_
    refine PostI.os ?_
    rintro rfl
    refine blockQ.ret ?_
    refine PostJ.out (by simp) ?_
    rintro rfl
    refine thenQ_ps ?_
    exact FinC.rs
   refine .condF rfl (Bool.eq_false_iff.2 c152) ?_
   refine .skip (blockQ.normal (thenQ_normal (.region ?_)))
   replace h := csome h;obtain ⟨v153,hv153,h⟩ := h
   refine .rk 2 fun K k => ?_;simp [hv153];refine k ?_
   refine .nil ?_
   cases h
   refine PostI.next ?_
   exact Sub.tt
  refine .condF rfl (decide_eq_false c144) ?_
  refine .exit ?_
  cases h
  refine thenQ_ps ?_
  refine PostI.os ?_
  rintro rfl
  refine blockQ.hit (PostJ.next ?_)
  exact Sub.tt
 rintro ⟨⟩ h
 refine thenQ_normal (.seqR ?_)
 refine .rr 1 ?_
 refine .nil (.ret ?_)
 cases h
 exact FinC.rs
def d26 (N : Nat) (a0 : (List S41)) (p1 : S41 → Option Bool) : Option Int :=
 bindO (β := Unit) (ρ := Int) (
  iterN (σ := Int) (ρ := (Out Unit Int)) (fun (v6 : Int) =>
   if v6 < (a0.length : Int) then (
    (idx a0 v6).bind fun x21 =>
    (p1 x21).bind fun r23 =>
    if r23 = true then (
     some (.inr (.ret v6))
    ) else
    (chkI (v6 + 1)).bind fun v25 =>
    some (.inl v25)
   ) else
   some (.inr (.go ()))
  ) N 0
 ) fun (_ : Unit) =>
 some (-1)
theorem p26 (N : Nat) (a0 : (List S41)) (g1 : Nat) (cs1 : List D) (p1 : S41 → Option Bool) (ent_1 : Rp.Enters Tryz.prog g1) (hp1 : ∀ a0 r,p1 a0 = some r → FunC Tryz.prog g1 ([.agg [.s a0.Table,.i a0.Rows]] ++ cs1.map .d) (.b r)) (r : Int) (h : d26 N a0 p1 = some r) : FunC Tryz.prog 26 [.s41 a0,.fg g1 cs1] (.i r) := by
 unfold d26 at h
 refine FunC.enter 19 [(0,.s41 a0),(1,.fg g1 cs1)] (by simp) Tryz.func26 rfl (of_decide_eq_true rfl) rfl rfl ?_
 refine .seqR ?_
 refine .rr 1 ?_
 refine .nil (.seq (.seqR ?_))
 refine .rr 3 ?_
 refine .tt [(0,.s41 a0),(1,.fg g1 cs1),(7,.i (a0.length : Int)),(8,.i 0)] [] (.nil ?_)
 refine .lastJ (fun (_ : Unit) => mk 19 [] [] []) h ?_ ?_ <;> clear h
 ·intro o h
  refine .block ?_
  refine .iter (fun (v6 : Int) => mk 19 [] [(0,.s41 a0),(1,.fg g1 cs1),(7,.i (a0.length : Int)),(8,.i v6)] []) h Sub.tt ?_
  clear h
  rintro v6 x h
  refine .seqR ?_
  refine .rr 1 ?_
  refine .nil (.seq ?_)
  replace h := isome h;rcases h with ⟨c20,h⟩ | ⟨c20,h⟩
  ·refine .condT rfl (decide_eq_true c20) ?_
   refine .skip (thenQ_normal (.seq (.block (.seqR ?_))))
   refine .rr 2 ?_
   refine .tt [(0,.s41 a0),(1,.fg g1 cs1),(5,.i v6),(7,.i (a0.length : Int)),(8,.i v6)] [] (.nil (.seqR ?_))
   replace h := xsome h;obtain ⟨x21,k22,hx21k,hx21,hx21a,hx21b,h⟩ := h
   refine .rk 5 fun K k => ?_;simp [hx21,hx21k,hx21a];refine k ?_
   refine .tt [(0,.s41 a0),(1,.fg g1 cs1),(5,.i v6),(7,.i (a0.length : Int)),(8,.i v6),(11,.fg g1 cs1),(15,.agg [.s x21.Table,.i x21.Rows])] [] ?_
   replace h := bsome h;obtain ⟨r23,hr23,h⟩ := h
   refine .callL (d := 16) (hp1 x21 r23 hr23) (by simp) rfl rfl (by simp <;> rfl) (by simp <;> rfl) ent_1 (by simp <;> rfl) ?_
   refine .st (mk 19 [] [(0,.s41 a0),(1,.fg g1 cs1),(5,.i v6),(7,.i (a0.length : Int)),(8,.i v6),(11,.fg g1 cs1),(15,.agg [.s x21.Table,.i x21.Rows]),(16,.b r23)] []) (.nil ?_)
   replace h := isome h;rcases h with ⟨c24,h⟩ | ⟨c24,h⟩
   ·refine .condT rfl c24 ?_
    refine .seqR ?_
    refine .rr 2 ?_
    refine .nil (.ret ?_)
    cases h
    refine blockQ.ret ?_
    refine thenQ_ps ?_
    refine PostI.os ?_
    rintro rfl
    refine blockQ.ret ?_
    refine PostJ.out (by simp) ?_
    rintro rfl
    refine thenQ_ps ?_
    exact FinC.rs
   refine .condF rfl (Bool.eq_false_iff.2 c24) ?_
   refine .skip (blockQ.normal (thenQ_normal (.region ?_)))
   replace h := csome h;obtain ⟨v25,hv25,h⟩ := h
   refine .rk 2 fun K k => ?_;simp [hv25];refine k ?_
   refine .nil ?_
   cases h
   refine PostI.next ?_
   exact Sub.tt
  refine .condF rfl (decide_eq_false c20) ?_
  refine .exit ?_
  cases h
  refine thenQ_ps ?_
  refine PostI.os ?_
  rintro rfl
  refine blockQ.hit (PostJ.next ?_)
  exact Sub.tt
 rintro ⟨⟩ h
 refine thenQ_normal (.seqR ?_)
 refine .rr 1 ?_
 refine .nil (.ret ?_)
 cases h
 exact FinC.rs
def d7 (N : Nat) (a0 : (List S41)) (p1 : S41 → Option Bool) : Option Bool :=
 (d26 N a0 p1).bind fun r1 =>
 some (decide (r1 ≥ 0))
theorem p7 (N : Nat) (a0 : (List S41)) (g1 : Nat) (cs1 : List D) (p1 : S41 → Option Bool) (ent_1 : Rp.Enters Tryz.prog g1) (hp1 : ∀ a0 r,p1 a0 = some r → FunC Tryz.prog g1 ([.agg [.s a0.Table,.i a0.Rows]] ++ cs1.map .d) (.b r)) (r : Bool) (h : d7 N a0 p1 = some r) : FunC Tryz.prog 7 [.s41 a0,.fg g1 cs1] (.b r) := by
 unfold d7 at h
 refine FunC.enter 9 [(0,.s41 a0),(1,.fg g1 cs1)] (by simp) Tryz.func7 rfl (of_decide_eq_true rfl) rfl rfl ?_
 refine .seqR ?_
 refine .rr 1 ?_
 refine .nil (.seqR ?_)
 refine .rr 2 ?_
 refine .tt [(5,.s41 a0),(6,.fg g1 cs1)] [] ?_
 replace h := bsome h;obtain ⟨r1,hr1,h⟩ := h
 refine .callL (d := 7) (p26 N a0 g1 cs1 p1 ent_1 hp1 r1 hr1) (by simp) rfl rfl (by simp <;> rfl) (by simp <;> rfl) ent26 (by simp <;> rfl) ?_
 refine .rr 2 ?_
 refine .nil (.ret ?_)
 cases h
 exact FinC.rs
def d8 (_N : Nat) (a0 : S41) : Option Bool :=
 Option.bind (α := Bool) (
  if a0.Rows < 0 then (
   some true
  ) else
  some (decide (a0.Rows > 1000))
 ) fun (v2 : Bool) =>
 some v2
theorem p8 (N : Nat) (a0 : S41) (r : Bool) (h : d8 N a0 = some r) : FunC Tryz.prog 8 [.agg [.s a0.Table,.i a0.Rows]] (.b r) := by
 unfold d8 at h
 refine FunC.enter 11 [(0,.agg [.s a0.Table,.i a0.Rows])] (by simp) Tryz.func8 rfl (of_decide_eq_true rfl) rfl rfl ?_
 refine .seqR ?_
 refine .rr 2 ?_
 refine .tt [(1,.ptr 1 0 0)] (H50 a0) (.nil ?_)
 replace h := bsome h;obtain ⟨v2,hj,h⟩ := h
 refine .cutR (mk 11 [] [(2,.b v2)] []) ?_ ?_
 ·clear h;have h := hj;clear hj
  refine .rr 4 ?_
  replace h := isome h;rcases h with ⟨c3,h⟩ | ⟨c3,h⟩
  ·refine .sub (.bool 6 rfl (decide_eq_true c3)) ?_
   refine .rr 5 ?_
   cases h
   exact .nil .tt
  refine .sub (.bool 6 rfl (decide_eq_false c3)) ?_
  refine .rr 5 ?_
  cases h
  exact .nil .tt
 clear hj
 refine .ret ?_
 cases h
 exact FinC.rs
def d47 : (N : Nat) → (a0 : S34) → Option (List S34)
 | 0,_ => none
 | N + 1,a0 =>
  Option.bind (α := List S34) (
   iterN (σ := ((List S34) × Int)) (ρ := List S34) (fun ((l6,v7) : ((List S34) × Int)) =>
    if v7 < (a0.Inputs.length : Int) then (
     (idx a0.Inputs v7).bind fun x24 =>
     (d47 N x24).bind fun r26 =>
     (appL 160 l6 r26).bind fun _l27 =>
     (chkI (v7 + 1)).bind fun v28 =>
     some (.inl ((l6 ++ r26),v28))
    ) else
    some (.inr l6)
   ) N (([a0] : List S34),0)
  ) fun (l22 : List S34) =>
  some l22
theorem p47 (N : Nat) : ∀ (a0 : S34) (r : (List S34)) (_ : d47 N a0 = some r),FunC Tryz.prog 47 [.agg (k34 a0)] (.s34 r) := by
 induction N with
 | zero => intro a0 r h;cases h
 | succ N ih =>
 intro a0 r h
 unfold d47 at h
 refine FunC.enter 21 [(0,.agg (k34 a0))] (by simp) Tryz.func47 rfl (of_decide_eq_true rfl) rfl rfl ?_
 refine .seqR ?_
 refine .rr 2 ?_
 refine .nil (.seqR ?_)
 refine .rr 3 ?_
 refine .nil (.seq (.seqR ?_))
 refine .rr 4 ?_
 refine .tt [(3,.ref 7 0 (([a0] : List S34).length)),(9,.s34 a0.Inputs),(10,.i (a0.Inputs.length : Int)),(11,.i 0)] [(7,R34 ([a0] : List S34))] (.nil ?_)
 refine .lastN (fun (l22 : List S34) => mk 21 [] [(3,.ref 7 0 l22.length)] [(7,R34 l22)]) h ?_ ?_ <;> clear h
 ·intro o h
  refine .block ?_
  refine .iter (fun ((l6,v7) : ((List S34) × Int)) => mk 21 [] [(3,.ref 7 0 l6.length),(9,.s34 a0.Inputs),(10,.i (a0.Inputs.length : Int)),(11,.i v7)] [(7,R34 l6)]) h Sub.tt ?_
  clear h
  rintro ⟨l6,v7⟩ x h
  dsimp only at h ⊢
  refine .seqR ?_
  refine .rr 1 ?_
  refine .nil (.seq ?_)
  replace h := isome h;rcases h with ⟨c23,h⟩ | ⟨c23,h⟩
  ·refine .condT rfl (decide_eq_true c23) ?_
   refine .skip (thenQ_normal (.seq (.block (.seqR ?_))))
   replace h := xsome h;obtain ⟨x24,k25,hx24k,hx24,hx24a,hx24b,h⟩ := h
   refine .rk 4 fun K k => ?_;simp [hx24,hx24k,hx24a];refine k ?_
   refine .nil (.region ?_)
   refine .rr 2 ?_
   refine .tt [(9,.s34 a0.Inputs),(10,.i (a0.Inputs.length : Int)),(11,.i v7),(15,.ref 7 0 l6.length),(16,.agg (k34 x24))] [(7,R34 l6)] ?_
   replace h := bsome h;obtain ⟨r26,hr26,h⟩ := h
   refine .callC (d := 17) (ih x24 r26 hr26) (by simp) rfl rfl (by simp <;> rfl) (by simp <;> rfl) ent47 (by simp) (.inl ⟨by simp,by simp⟩) ?_
   refine .st (mk 21 [] [(9,.s34 a0.Inputs),(10,.i (a0.Inputs.length : Int)),(11,.i v7),(15,.ref 7 0 l6.length),(16,.agg (k34 x24)),(17,.s34 r26)] [(7,R34 l6)]) ?_
   replace h := bsome h;obtain ⟨l27,hl27,h⟩ := h
   obtain ⟨hl27a,hl27⟩ := appL_some hl27
   subst hl27
   try simp only [List.length_append,List.length_cons,List.length_nil,Nat.zero_add,Nat.mul_one] at hl27a
   refine .rk 2 fun K k => ?_;simp [hl27a];refine k ?_
   refine .tt [(3,.ref 7 0 ((l6 ++ r26).length)),(9,.s34 a0.Inputs),(10,.i (a0.Inputs.length : Int)),(11,.i v7)] [(7,R34 (l6 ++ r26))] (.nil (blockQ.normal (thenQ_normal (.region ?_))))
   replace h := csome h;obtain ⟨v28,hv28,h⟩ := h
   refine .rk 2 fun K k => ?_;simp [hv28];refine k ?_
   refine .nil ?_
   cases h
   refine PostI.next ?_
   exact Sub.tt
  ·refine .condF rfl (decide_eq_false c23) ?_
   refine .exit ?_
   cases h
   refine thenQ_ps ?_
   refine PostI.os ?_
   rintro rfl
   refine blockQ.hit (PostN.next ?_)
   exact Sub.tt
 ·rintro l22 h
  refine thenQ_normal (.seqR ?_)
  refine .rr 2 ?_
  refine .tt [(2,.ref 7 0 l22.length)] [(7,R34 l22)] (.nil ?_)
  refine .sub (.freeze 7 rfl) ?_
  refine .st (mk 21 [] [(2,.s34 l22)] []) (.ret ?_)
  cases h
  exact FinC.rs
def d48 : (N : Nat) → (a0 : S34) → Option Int
 | 0,_ => none
 | N + 1,a0 =>
  Option.bind (α := Int) (
   iterN (σ := (Int × Int)) (ρ := Int) (fun ((v6,v7) : (Int × Int)) =>
    if v7 < (a0.Inputs.length : Int) then (
     (idx a0.Inputs v7).bind fun x24 =>
     (d48 N x24).bind fun r26 =>
     letv (maxI v6 r26) fun v27 =>
     (chkI (v7 + 1)).bind fun v28 =>
     some (.inl (v27,v28))
    ) else
    some (.inr v6)
   ) N (0,0)
  ) fun (v22 : Int) =>
  (chkI (v22 + 1)).bind fun v29 =>
  some v29
theorem p48 (N : Nat) : ∀ (a0 : S34) (r : Int) (_ : d48 N a0 = some r),FunC Tryz.prog 48 [.agg (k34 a0)] (.i r) := by
 induction N with
 | zero => intro a0 r h;cases h
 | succ N ih =>
 intro a0 r h
 unfold d48 at h
 refine FunC.enter 20 [(0,.agg (k34 a0))] (by simp) Tryz.func48 rfl (of_decide_eq_true rfl) rfl rfl ?_
 refine .seqR ?_
 refine .rr 2 ?_
 refine .nil (.seqR ?_)
 refine .rr 1 ?_
 refine .nil (.seq (.seqR ?_))
 refine .rr 4 ?_
 refine .tt [(3,.i 0),(7,.s34 a0.Inputs),(8,.i (a0.Inputs.length : Int)),(9,.i 0)] [] (.nil ?_)
 refine .lastN (fun (v22 : Int) => mk 20 [] [(3,.i v22)] []) h ?_ ?_ <;> clear h
 ·intro o h
  refine .block ?_
  refine .iter (fun ((v6,v7) : (Int × Int)) => mk 20 [] (L33 v6 a0.Inputs a0.Inputs.length v7) []) h Sub.tt ?_
  clear h
  rintro ⟨v6,v7⟩ x h
  dsimp only at h ⊢
  refine .seqR ?_
  refine .rr 1 ?_
  refine .nil (.seq ?_)
  replace h := isome h;rcases h with ⟨c23,h⟩ | ⟨c23,h⟩
  ·refine .condT rfl (decide_eq_true c23) ?_
   refine .skip (thenQ_normal (.seq (.block (.seqR ?_))))
   replace h := xsome h;obtain ⟨x24,k25,hx24k,hx24,hx24a,hx24b,h⟩ := h
   refine .rk 4 fun K k => ?_;simp [hx24,hx24k,hx24a];refine k ?_
   refine .nil (.region ?_)
   refine .rr 2 ?_
   refine .tt [(7,.s34 a0.Inputs),(8,.i (a0.Inputs.length : Int)),(9,.i v7),(13,.i v6),(14,.agg (k34 x24))] [] ?_
   replace h := bsome h;obtain ⟨r26,hr26,h⟩ := h
   refine .callL (d := 15) (ih x24 r26 hr26) (by simp) rfl rfl (by simp <;> rfl) (by simp <;> rfl) ent48 (by simp <;> rfl) ?_
   refine .st (mk 20 [] [(7,.s34 a0.Inputs),(8,.i (a0.Inputs.length : Int)),(9,.i v7),(13,.i v6),(14,.agg (k34 x24)),(15,.i r26)] []) ?_
   replace h := lsome h;obtain ⟨v27,hv27,h⟩ := h
   unfold maxI at hv27
   try simp only [Int.ofNat_lt] at hv27
   refine .rk 2 fun K k => ?_;simp [hv27];refine k ?_
   refine .tt (L33 v27 a0.Inputs a0.Inputs.length v7) [] (.nil (blockQ.normal (thenQ_normal (.region ?_))))
   replace h := csome h;obtain ⟨v28,hv28,h⟩ := h
   refine .rk 2 fun K k => ?_;simp [hv28];refine k ?_
   refine .nil ?_
   cases h
   refine PostI.next ?_
   exact Sub.tt
  ·refine .condF rfl (decide_eq_false c23) ?_
   refine .exit ?_
   cases h
   refine thenQ_ps ?_
   refine PostI.os ?_
   rintro rfl
   refine blockQ.hit (PostN.next ?_)
   exact Sub.tt
 ·rintro v22 h
  refine thenQ_normal (.seqR ?_)
  replace h := csome h;obtain ⟨v29,hv29,h⟩ := h
  refine .rk 3 fun K k => ?_;simp [hv29];refine k ?_
  refine .nil (.ret ?_)
  cases h
  exact FinC.rs
def d72 : (N : Nat) → (a0 : S34) → Option (Int × Int)
 | 0,_ => none
 | N + 1,a0 =>
  Option.bind (α := (Int × Int)) (
   iterN (σ := (Int × Int × Int)) (ρ := (Int × Int)) (fun ((v22,v23,v24) : (Int × Int × Int)) =>
    if v24 < (a0.Inputs.length : Int) then (
     (idx a0.Inputs v24).bind fun x75 =>
     (d72 N x75).bind fun r77 =>
     letv (maxI v23 r77.2) fun v78 =>
     if (v24 == 0) then (
      letv (minI r77.1 20001) fun v80 =>
      (chkI (v24 + 1)).bind fun v81 =>
      some (.inl (v80,v78,v81))
     ) else
     if (a0.Kind == 6) then (
      (chkI (v22 + r77.1)).bind fun v83 =>
      letv (minI v83 20001) fun v84 =>
      (chkI (v24 + 1)).bind fun v85 =>
      some (.inl (v84,v78,v85))
     ) else
     Option.bind (α := Bool) (
      if (a0.Kind == 4) then (
       some true
      ) else
      some (a0.Kind == 5)
     ) fun (v87 : Bool) =>
     if v87 = true then (
      letv (maxI 1 r77.1) fun v90 =>
      (chkI (v22 * v90)).bind fun v91 =>
      letv (minI v91 20001) fun v92 =>
      (chkI (v24 + 1)).bind fun v93 =>
      some (.inl (v92,v78,v93))
     ) else
     letv (minI v22 20001) fun v94 =>
     (chkI (v24 + 1)).bind fun v95 =>
     some (.inl (v94,v78,v95))
    ) else
    some (.inr (v22,v23))
   ) N (0,0,0)
  ) fun ((v72,v73) : (Int × Int)) =>
  if (a0.Kind == 1) then (
   letv (maxI v73 24) fun v97 =>
   some (24,v97)
  ) else
  letv (maxI v73 v72) fun v98 =>
  some (v72,v98)
theorem p72 (N : Nat) : ∀ (a0 : S34) (r : (Int × Int)) (_ : d72 N a0 = some r),FunC Tryz.prog 72 [.agg (k34 a0)] (.tup [.i r.1,.i r.2]) := by
 induction N with
 | zero => intro a0 r h;cases h
 | succ N ih =>
 intro a0 r h
 unfold d72 at h
 refine FunC.enter 60 [(0,.agg (k34 a0))] (by simp) Tryz.func72 rfl (of_decide_eq_true rfl) rfl rfl ?_
 refine .seqR ?_
 refine .rr 3 ?_
 refine .nil (.seqR ?_)
 refine .rr 2 ?_
 refine .nil (.seq (.seqR ?_))
 refine .rr 4 ?_
 refine .tt [(1,.ptr 1 0 0),(4,.i 0),(5,.i 0),(11,.s34 a0.Inputs),(12,.i (a0.Inputs.length : Int)),(13,.i 0)] (H2 a0) (.nil ?_)
 refine .lastN (fun ((v72,v73) : (Int × Int)) => mk 60 [] [(1,.ptr 1 0 0),(4,.i v72),(5,.i v73)] (H2 a0)) h ?_ ?_ <;> clear h
 ·intro o h
  refine .block ?_
  refine .iter (fun ((v22,v23,v24) : (Int × Int × Int)) => mk 60 [] (L34 v22 v23 a0.Inputs a0.Inputs.length v24) (H2 a0)) h Sub.tt ?_
  clear h
  rintro ⟨v22,v23,v24⟩ x h
  dsimp only at h ⊢
  refine .seqR ?_
  refine .rr 1 ?_
  refine .nil (.seq ?_)
  replace h := isome h;rcases h with ⟨c74,h⟩ | ⟨c74,h⟩
  ·refine .condT rfl (decide_eq_true c74) ?_
   refine .skip (thenQ_normal (.seq (.block (.seqR ?_))))
   replace h := xsome h;obtain ⟨x75,k76,hx75k,hx75,hx75a,hx75b,h⟩ := h
   refine .rk 6 fun K k => ?_;simp [hx75,hx75k,hx75a];refine k ?_
   refine .nil (.seqR ?_)
   refine .rr 1 ?_
   refine .tt (L35 v22 v23 v24 ++ [(11,.s34 a0.Inputs),(12,.i (a0.Inputs.length : Int)),(13,.i v24),(19,.agg (k34 x75))]) (H2 a0) ?_
   replace h := bsome h;obtain ⟨r77,hr77,h⟩ := h
   refine .callL (d := 20) (ih x75 r77 hr77) (by simp) rfl rfl (by simp <;> rfl) (by simp <;> rfl) ent72 (by simp <;> rfl) ?_
   refine .rr 5 ?_
   refine .tt (L35 v22 v23 v24 ++ [(8,.i r77.1),(9,.i r77.2),(11,.s34 a0.Inputs),(12,.i (a0.Inputs.length : Int)),(13,.i v24)]) (H2 a0) (.nil (.seqR ?_))
   replace h := lsome h;obtain ⟨v78,hv78,h⟩ := h
   unfold maxI at hv78
   try simp only [Int.ofNat_lt] at hv78
   refine .rk 4 fun K k => ?_;simp [hv78];refine k ?_
   refine .nil (.seq (.block (.seqR ?_)))
   refine .rr 3 ?_
   refine .nil ?_
   replace h := isome h;rcases h with ⟨c79,h⟩ | ⟨c79,h⟩
   ·refine .condT rfl c79 ?_
    refine .region ?_
    refine .rr 2 ?_
    refine .tt (L34 r77.1 v78 a0.Inputs a0.Inputs.length v24) (H2 a0) (.nil (blockQ.normal (thenQ_normal (.region ?_))))
    replace h := lsome h;obtain ⟨v80,hv80,h⟩ := h
    unfold minI at hv80
    try simp only [Int.ofNat_lt] at hv80
    refine .rk 3 fun K k => ?_;simp [hv80];refine k ?_
    refine .tt (L34 v80 v78 a0.Inputs a0.Inputs.length v24) (H2 a0) (.nil (blockQ.normal (thenQ_normal (.region ?_))))
    replace h := csome h;obtain ⟨v81,hv81,h⟩ := h
    refine .rk 2 fun K k => ?_;simp [hv81];refine k ?_
    refine .nil ?_
    cases h
    refine PostI.next ?_
    exact Sub.tt
   ·refine .condF rfl (Bool.eq_false_iff.2 c79) ?_
    refine .seqR ?_
    refine .rr 4 ?_
    refine .nil ?_
    replace h := isome h;rcases h with ⟨c82,h⟩ | ⟨c82,h⟩
    ·refine .condT rfl c82 ?_
     refine .region ?_
     replace h := csome h;obtain ⟨v83,hv83,h⟩ := h
     refine .rk 4 fun K k => ?_;simp [hv83];refine k ?_
     refine .tt (L34 v83 v78 a0.Inputs a0.Inputs.length v24) (H2 a0) (.nil (blockQ.normal (thenQ_normal (.region ?_))))
     replace h := lsome h;obtain ⟨v84,hv84,h⟩ := h
     unfold minI at hv84
     try simp only [Int.ofNat_lt] at hv84
     refine .rk 3 fun K k => ?_;simp [hv84];refine k ?_
     refine .tt (L34 v84 v78 a0.Inputs a0.Inputs.length v24) (H2 a0) (.nil (blockQ.normal (thenQ_normal (.region ?_))))
     replace h := csome h;obtain ⟨v85,hv85,h⟩ := h
     refine .rk 2 fun K k => ?_;simp [hv85];refine k ?_
     refine .nil ?_
     cases h
     refine PostI.next ?_
     exact Sub.tt
    ·refine .condF rfl (Bool.eq_false_iff.2 c82) ?_
     replace h := bsome h;obtain ⟨v87,hj,h⟩ := h
     refine .cutR (mk 60 [] (L36 v22 v78 r77.1 a0.Inputs a0.Inputs.length v24 ++ [(37,.b v87)]) (H2 a0)) ?_ ?_
     ·clear h;have h := hj;clear hj
      refine .rr 4 ?_
      replace h := isome h;rcases h with ⟨c88,h⟩ | ⟨c88,h⟩
      ·refine .sub (.bool 41 rfl c88) ?_
       refine .rr 5 ?_
       cases h
       exact .nil .tt
      ·refine .sub (.bool 41 rfl (Bool.eq_false_iff.2 c88)) ?_
       refine .rr 5 ?_
       cases h
       exact .nil .tt
     ·clear hj
      replace h := isome h;rcases h with ⟨c89,h⟩ | ⟨c89,h⟩
      ·refine .condT rfl c89 ?_
       refine .region ?_
       replace h := lsome h;obtain ⟨v90,hv90,h⟩ := h
       unfold maxI at hv90
       try simp only [Int.ofNat_lt] at hv90
       replace h := csome h;obtain ⟨v91,hv91,h⟩ := h
       refine .rk 5 fun K k => ?_;simp [hv90,hv91];refine k ?_
       refine .tt (L34 v91 v78 a0.Inputs a0.Inputs.length v24) (H2 a0) (.nil (blockQ.normal (thenQ_normal (.region ?_))))
       replace h := lsome h;obtain ⟨v92,hv92,h⟩ := h
       unfold minI at hv92
       try simp only [Int.ofNat_lt] at hv92
       refine .rk 3 fun K k => ?_;simp [hv92];refine k ?_
       refine .tt (L34 v92 v78 a0.Inputs a0.Inputs.length v24) (H2 a0) (.nil (blockQ.normal (thenQ_normal (.region ?_))))
       replace h := csome h;obtain ⟨v93,hv93,h⟩ := h
       refine .rk 2 fun K k => ?_;simp [hv93];refine k ?_
       refine .nil ?_
       cases h
       refine PostI.next ?_
       exact Sub.tt
      ·refine .condF rfl (Bool.eq_false_iff.2 c89) ?_
       refine .skip (blockQ.normal (thenQ_normal (.region ?_)))
       replace h := lsome h;obtain ⟨v94,hv94,h⟩ := h
       unfold minI at hv94
       try simp only [Int.ofNat_lt] at hv94
       refine .rk 3 fun K k => ?_;simp [hv94];refine k ?_
       refine .tt (L34 v94 v78 a0.Inputs a0.Inputs.length v24) (H2 a0) (.nil (blockQ.normal (thenQ_normal (.region ?_))))
       replace h := csome h;obtain ⟨v95,hv95,h⟩ := h
       refine .rk 2 fun K k => ?_;simp [hv95];refine k ?_
       refine .nil ?_
       cases h
       refine PostI.next ?_
       exact Sub.tt
  ·refine .condF rfl (decide_eq_false c74) ?_
   refine .exit ?_
   cases h
   refine thenQ_ps ?_
   refine PostI.os ?_
   rintro rfl
   refine blockQ.hit (PostN.next ?_)
   exact Sub.tt
 ·rintro ⟨v72,v73⟩ h
  dsimp only at h ⊢
  refine thenQ_normal (.seq (.seqR ?_))
  refine .rr 3 ?_
  refine .nil ?_
  replace h := isome h;rcases h with ⟨c96,h⟩ | ⟨c96,h⟩
  ·refine .condT rfl c96 ?_
   refine .region ?_
   refine .rr 1 ?_
   refine .tt [(4,.i 24),(5,.i v73)] [] (.nil (thenQ_normal (.seqR ?_)))
   replace h := lsome h;obtain ⟨v97,hv97,h⟩ := h
   unfold maxI at hv97
   try simp only [Int.ofNat_lt] at hv97
   refine .rk 6 fun K k => ?_;simp [hv97];refine k ?_
   refine .nil (.ret ?_)
   cases h
   exact FinC.rs
  ·refine .condF rfl (Bool.eq_false_iff.2 c96) ?_
   refine .skip (thenQ_normal (.seqR ?_))
   replace h := lsome h;obtain ⟨v98,hv98,h⟩ := h
   unfold maxI at hv98
   try simp only [Int.ofNat_lt] at hv98
   refine .rk 6 fun K k => ?_;simp [hv98];refine k ?_
   refine .nil (.ret ?_)
   cases h
   exact FinC.rs
def d49 (N : Nat) (a0 : S34) : Option Int :=
 (d72 N a0).bind fun r1 =>
 some r1.2
theorem p49 (N : Nat) (a0 : S34) (r : Int) (h : d49 N a0 = some r) : FunC Tryz.prog 49 [.agg (k34 a0)] (.i r) := by
 unfold d49 at h
 refine FunC.enter 11 [(0,.agg (k34 a0))] (by simp) Tryz.func49 rfl (of_decide_eq_true rfl) rfl rfl ?_
 refine .seqR ?_
 refine .rr 2 ?_
 refine .nil (.seqR ?_)
 refine .rr 1 ?_
 refine .tt [(6,.agg (k34 a0))] [] ?_
 replace h := bsome h;obtain ⟨r1,hr1,h⟩ := h
 refine .callL (d := 7) (p72 N a0 r1 hr1) (by simp) rfl rfl (by simp <;> rfl) (by simp <;> rfl) ent72 (by simp <;> rfl) ?_
 refine .rr 5 ?_
 refine .nil (.seqR ?_)
 refine .rr 2 ?_
 refine .nil (.ret ?_)
 cases h
 exact FinC.rs
end Go.Proofs.YtmgddgcniacnbaaGreatDoor
