/- Functions of the program as functional programs; the code computes them. -/
import Derived.Test.YtmgddgcniacnbaaGreatDoorCa1
namespace Go.Proofs.YtmgddgcniacnbaaGreatDoor
set_option maxRecDepth 100000
set_option maxHeartbeats 4000000
open Go.Ab Go.Rp
attribute [-simp] List.all_eq_true Array.all_toList Array.all_eq_true
def d19 (N : Nat) (a0 : S56) : Option Int :=
 (d39 N a0.Name).bind fun r1 =>
 if (!r1) = true then (
  some 23
 ) else
 if ((a0.Columns.length : Int) == 0) then (
  some 3
 ) else
 if (a0.Columns.length : Int) > 6 then (
  some 2
 ) else
 bindO (β := Unit) (ρ := Int) (
  iterN (σ := Int) (ρ := (Out Unit Int)) (fun (v16 : Int) =>
   if v16 < (a0.Columns.length : Int) then (
    (idx a0.Columns v16).bind fun x43 =>
    (d39 N x43.Name).bind fun r45 =>
    if (!r45) = true then (
     some (.inr (.ret 23))
    ) else
    (d40 N a0 x43.Name).bind fun r47 =>
    if r47.1 < v16 then (
     some (.inr (.ret 5))
    ) else
    Option.bind (α := Bool) (
     if x43.Kind < 1 then (
      some true
     ) else
     some (decide (x43.Kind > 3))
    ) fun (v50 : Bool) =>
    if v50 = true then (
     some (.inr (.ret 7))
    ) else
    (chkI (v16 + 1)).bind fun v53 =>
    some (.inl v53)
   ) else
   some (.inr (.go ()))
  ) N 0
 ) fun (_ : Unit) =>
 bindO (β := Unit) (ρ := Int) (
  iterN (σ := Int) (ρ := (Out Unit Int)) (fun (v77 : Int) =>
   if v77 < (a0.PrimaryKey.length : Int) then (
    (idx a0.PrimaryKey v77).bind fun x128 =>
    Option.bind (α := Bool) (
     if x128 < 0 then (
      some true
     ) else
     if x128 ≥ (a0.Columns.length : Int) then (
      some true
     ) else
     (idx a0.Columns x128).bind fun x142 =>
     if x142.Nullable = true then (
      some true
     ) else
     if v77 > 0 then (
      (chkI (v77 - 1)).bind fun v146 =>
      (idx a0.PrimaryKey v146).bind fun x147 =>
      some (decide (x128 ≤ x147))
     ) else
     some false
    ) fun (v139 : Bool) =>
    if v139 = true then (
     some (.inr (.ret 9))
    ) else
    (chkI (v77 + 1)).bind fun v150 =>
    some (.inl v150)
   ) else
   some (.inr (.go ()))
  ) N 0
 ) fun (_ : Unit) =>
 if ((a0.PrimaryKey.length : Int) == 0) then (
  some 9
 ) else
 some 0
theorem p19 (N : Nat) (a0 : S56) (r : Int) (h : d19 N a0 = some r) : FunC Tryz.prog 19 [.agg (k56 a0)] (.i r) := by
 unfold d19 at h
 refine FunC.enter 96 [(0,.agg (k56 a0))] (by simp) Tryz.func19 rfl (of_decide_eq_true rfl) rfl rfl ?_
 refine .seqR ?_
 refine .rr 2 ?_
 refine .nil (.seq (.seqR ?_))
 refine .rr 2 ?_
 refine .tt [(1,.ptr 1 0 0),(10,.s a0.Name)] (H6 a0) ?_
 replace h := bsome h;obtain ⟨r1,hr1,h⟩ := h
 refine .callL (d := 11) (p39 N a0.Name r1 hr1) (by simp) rfl rfl (by simp <;> rfl) (by simp <;> rfl) ent39 (by simp <;> rfl) ?_
 refine .rr 1 ?_
 refine .nil ?_
 replace h := isome h;rcases h with ⟨c2,h⟩ | ⟨c2,h⟩
 ·refine .condT rfl c2 ?_
  refine .seqR ?_
  refine .rr 1 ?_
  refine .nil (.ret ?_)
  cases h
  refine thenQ_ps ?_
  exact FinC.rs
 refine .condF rfl (Bool.eq_false_iff.2 c2) ?_
 refine .skip (thenQ_normal (.seq (.seqR ?_)))
 refine .rr 4 ?_
 refine .nil ?_
 replace h := isome h;rcases h with ⟨c3,h⟩ | ⟨c3,h⟩
 ·refine .condT rfl c3 ?_
  refine .seqR ?_
  refine .rr 1 ?_
  refine .nil (.ret ?_)
  cases h
  refine thenQ_ps ?_
  exact FinC.rs
 refine .condF rfl (Bool.eq_false_iff.2 c3) ?_
 refine .skip (thenQ_normal (.seq (.seqR ?_)))
 refine .rr 4 ?_
 refine .nil ?_
 replace h := isome h;rcases h with ⟨c4,h⟩ | ⟨c4,h⟩
 ·refine .condT rfl (decide_eq_true c4) ?_
  refine .seqR ?_
  refine .rr 1 ?_
  refine .nil (.ret ?_)
  cases h
  refine thenQ_ps ?_
  exact FinC.rs
 refine .condF rfl (decide_eq_false c4) ?_
 refine .skip (thenQ_normal (.seq (.seqR ?_)))
 refine .rr 4 ?_
 refine .tt [(1,.ptr 1 0 0),(22,.s53 a0.Columns),(23,.i (a0.Columns.length : Int)),(24,.i 0)] (H6 a0) (.nil ?_)
 refine .lastJ (fun (_ : Unit) => mk 96 [] [(1,.ptr 1 0 0)] (H6 a0)) h ?_ ?_ <;> clear h
 ·intro o h
  refine .block ?_
  refine .iter (fun (v16 : Int) => mk 96 [] (L7 a0.Columns a0.Columns.length v16) (H6 a0)) h Sub.tt ?_
  clear h
  rintro v16 x h
  refine .seqR ?_
  refine .rr 1 ?_
  refine .nil (.seq ?_)
  replace h := isome h;rcases h with ⟨c42,h⟩ | ⟨c42,h⟩
  ·refine .condT rfl (decide_eq_true c42) ?_
   refine .skip (thenQ_normal (.seq (.block (.seqR ?_))))
   replace h := xsome h;obtain ⟨x43,k44,hx43k,hx43,hx43a,hx43b,h⟩ := h
   refine .rk 6 fun K k => ?_;simp [hx43,hx43k,hx43a];refine k ?_
   refine .nil (.seq (.seqR ?_))
   refine .rr 2 ?_
   refine .tt (L8 v16 a0.Columns a0.Columns.length ++ [(30,.s x43.Name)]) (H19 a0 x43) ?_
   replace h := bsome h;obtain ⟨r45,hr45,h⟩ := h
   refine .callL (d := 31) (p39 N x43.Name r45 hr45) (by simp) rfl rfl (by simp <;> rfl) (by simp <;> rfl) ent39 (by simp <;> rfl) ?_
   refine .rr 1 ?_
   refine .nil ?_
   replace h := isome h;rcases h with ⟨c46,h⟩ | ⟨c46,h⟩
   ·refine .condT rfl c46 ?_
    refine .seqR ?_
    refine .rr 1 ?_
    refine .nil (.ret ?_)
    cases h
    refine thenQ_ps ?_
    refine blockQ.ret ?_
    refine thenQ_ps ?_
    refine PostI.os ?_
    rintro rfl
    refine blockQ.ret ?_
    refine PostJ.out (by simp) ?_
    rintro rfl
    refine thenQ_ps ?_
    exact FinC.rs
   refine .condF rfl (Bool.eq_false_iff.2 c46) ?_
   refine .skip (thenQ_normal (.seq (.seqR ?_)))
   refine .rr 3 ?_
   refine .tt (L8 v16 a0.Columns a0.Columns.length ++ [(34,.agg (k56 a0)),(36,.s x43.Name)]) (H19 a0 x43) ?_
   replace h := bsome h;obtain ⟨r47,hr47,h⟩ := h
   refine .callL (d := 37) (p40 N a0 x43.Name r47 hr47) (by simp) rfl rfl (by simp <;> rfl) (by simp <;> rfl) ent40 (by simp <;> rfl) ?_
   refine .rr 5 ?_
   refine .nil (.seqR ?_)
   refine .rr 3 ?_
   refine .nil ?_
   replace h := isome h;rcases h with ⟨c48,h⟩ | ⟨c48,h⟩
   ·refine .condT rfl (decide_eq_true c48) ?_
    refine .seqR ?_
    refine .rr 1 ?_
    refine .nil (.ret ?_)
    cases h
    refine thenQ_ps ?_
    refine blockQ.ret ?_
    refine thenQ_ps ?_
    refine PostI.os ?_
    rintro rfl
    refine blockQ.ret ?_
    refine PostJ.out (by simp) ?_
    rintro rfl
    refine thenQ_ps ?_
    exact FinC.rs
   refine .condF rfl (decide_eq_false c48) ?_
   refine .skip (thenQ_normal ?_)
   replace h := bsome h;obtain ⟨v50,hj,h⟩ := h
   refine .cutR (mk 96 [] (L7 a0.Columns a0.Columns.length v16 ++ [(50,.b v50)]) (H6 a0)) ?_ ?_
   ·clear h;have h := hj;clear hj
    refine .rr 4 ?_
    replace h := isome h;rcases h with ⟨c51,h⟩ | ⟨c51,h⟩
    ·refine .sub (.bool 46 rfl (decide_eq_true c51)) ?_
     refine .rr 4 ?_
     cases h
     exact .nil .tt
    refine .sub (.bool 46 rfl (decide_eq_false c51)) ?_
    refine .rr 4 ?_
    cases h
    exact .nil .tt
   clear hj
   replace h := isome h;rcases h with ⟨c52,h⟩ | ⟨c52,h⟩
   ·refine .condT rfl c52 ?_
    refine .seqR ?_
    refine .rr 1 ?_
    refine .nil (.ret ?_)
    cases h
    refine blockQ.ret ?_
    refine thenQ_ps ?_
    refine PostI.os ?_
    rintro rfl
    refine blockQ.ret ?_
    refine PostJ.out (by simp) ?_
    rintro rfl
    refine thenQ_ps ?_
    exact FinC.rs
   refine .condF rfl (Bool.eq_false_iff.2 c52) ?_
   refine .skip (blockQ.normal (thenQ_normal (.region ?_)))
   replace h := csome h;obtain ⟨v53,hv53,h⟩ := h
   refine .rk 2 fun K k => ?_;simp [hv53];refine k ?_
   refine .nil ?_
   cases h
   refine PostI.next ?_
   exact Sub.tt
  refine .condF rfl (decide_eq_false c42) ?_
  refine .exit ?_
  cases h
  refine thenQ_ps ?_
  refine PostI.os ?_
  rintro rfl
  refine blockQ.hit (PostJ.next ?_)
  exact Sub.tt
 rintro ⟨⟩ h
 refine thenQ_normal (.seq (.seqR ?_))
 refine .rr 4 ?_
 refine .tt [(1,.ptr 1 0 0),(53,.si a0.PrimaryKey),(54,.i (a0.PrimaryKey.length : Int)),(55,.i 0)] (H6 a0) (.nil ?_)
 refine .lastJ (fun (_ : Unit) => mk 96 [] [(1,.ptr 1 0 0)] (H6 a0)) h ?_ ?_ <;> clear h
 ·intro o h
  refine .block ?_
  refine .iter (fun (v77 : Int) => mk 96 [] (L10 a0.PrimaryKey a0.PrimaryKey.length v77) (H6 a0)) h Sub.tt ?_
  clear h
  rintro v77 x h
  refine .seqR ?_
  refine .rr 1 ?_
  refine .nil (.seq ?_)
  replace h := isome h;rcases h with ⟨c127,h⟩ | ⟨c127,h⟩
  ·refine .condT rfl (decide_eq_true c127) ?_
   refine .skip (thenQ_normal (.seq (.block (.seqR ?_))))
   replace h := xsome h;obtain ⟨x128,k129,hx128k,hx128,hx128a,hx128b,h⟩ := h
   refine .rk 5 fun K k => ?_;simp [hx128,hx128k,hx128a];refine k ?_
   refine .tt (L11 v77 x128 a0.PrimaryKey a0.PrimaryKey.length) (H6 a0) (.nil ?_)
   replace h := bsome h;obtain ⟨v139,hj,h⟩ := h
   refine .cutR (mk 96 [] (L10 a0.PrimaryKey a0.PrimaryKey.length v77 ++ [(90,.b v139)]) (H6 a0)) ?_ ?_
   ·clear h;have h := hj;clear hj
    refine .rr 3 ?_
    replace h := isome h;rcases h with ⟨c140,h⟩ | ⟨c140,h⟩
    ·refine .sub (.bool 62 rfl (decide_eq_true c140)) ?_
     refine .rr 28 ?_
     cases h
     exact .nil .tt
    refine .sub (.bool 62 rfl (decide_eq_false c140)) ?_
    refine .rr 7 ?_
    replace h := isome h;rcases h with ⟨c141,h⟩ | ⟨c141,h⟩
    ·have c141_ := decide_eq_true c141
     refine .sub (.bool 67 rfl c141_) ?_
     refine .sub (.bool 69 rfl c141_) ?_
     refine .rr 21 ?_
     cases h
     exact .nil .tt
    have c141_ := decide_eq_false c141
    refine .sub (.bool 67 rfl c141_) ?_
    refine .sub (.bool 69 rfl c141_) ?_
    refine .st (mk 96 [] (L12 v77 x128 a0.PrimaryKey a0.PrimaryKey.length a0.Columns a0.Columns.length ++ [(67,.b false),(69,.b false)]) (H6 a0)) ?_
    replace h := xsome h;obtain ⟨x142,k143,hx142k,hx142,hx142a,hx142b,h⟩ := h
    refine .rk 8 fun K k => ?_;simp [hx142,hx142k,hx142a];refine k ?_
    replace h := isome h;rcases h with ⟨c144,h⟩ | ⟨c144,h⟩
    ·have c144_ := c144
     refine .sub (.bool 75 rfl c144_) ?_
     refine .sub (.bool 77 rfl c144_) ?_
     refine .rr 13 ?_
     cases h
     exact .nil .tt
    have c144_ := Bool.eq_false_iff.2 c144
    refine .sub (.bool 75 rfl c144_) ?_
    refine .sub (.bool 77 rfl c144_) ?_
    refine .rr 3 ?_
    replace h := isome h;rcases h with ⟨c145,h⟩ | ⟨c145,h⟩
    ·have c145_ := decide_eq_true c145
     refine .sub (.bool 79 rfl c145_) ?_
     refine .sub (.bool 80 rfl c145_) ?_
     refine .st (mk 96 [] (L15 v77 x128 a0.PrimaryKey a0.PrimaryKey.length a0.Columns a0.Columns.length x142.Name x142.Kind x142.Nullable ++ [(79,.b true),(80,.b true)]) (H6 a0)) ?_
     replace h := csome h;obtain ⟨v146,hv146,h⟩ := h
     replace h := xsome h;obtain ⟨x147,k148,hx147k,hx147,hx147a,hx147b,h⟩ := h
     refine .rk 10 fun K k => ?_;simp [hv146,hx147,hx147k,hx147a];refine k ?_
     cases h
     exact .nil .tt
    have c145_ := decide_eq_false c145
    refine .sub (.bool 79 rfl c145_) ?_
    refine .sub (.bool 80 rfl c145_) ?_
    refine .rr 10 ?_
    cases h
    exact .nil .tt
   clear hj
   replace h := isome h;rcases h with ⟨c149,h⟩ | ⟨c149,h⟩
   ·refine .condT rfl c149 ?_
    refine .seqR ?_
    refine .rr 1 ?_
    refine .nil (.ret ?_)
    cases h
    refine blockQ.ret ?_
    refine thenQ_ps ?_
    refine PostI.os ?_
    rintro rfl
    refine blockQ.ret ?_
    refine PostJ.out (by simp) ?_
    rintro rfl
    refine thenQ_ps ?_
    exact FinC.rs
   refine .condF rfl (Bool.eq_false_iff.2 c149) ?_
   refine .skip (blockQ.normal (thenQ_normal (.region ?_)))
   replace h := csome h;obtain ⟨v150,hv150,h⟩ := h
   refine .rk 2 fun K k => ?_;simp [hv150];refine k ?_
   refine .nil ?_
   cases h
   refine PostI.next ?_
   exact Sub.tt
  refine .condF rfl (decide_eq_false c127) ?_
  refine .exit ?_
  cases h
  refine thenQ_ps ?_
  refine PostI.os ?_
  rintro rfl
  refine blockQ.hit (PostJ.next ?_)
  exact Sub.tt
 rintro ⟨⟩ h
 refine thenQ_normal (.seq (.seqR ?_))
 refine .rr 4 ?_
 refine .nil ?_
 replace h := isome h;rcases h with ⟨c151,h⟩ | ⟨c151,h⟩
 ·refine .condT rfl c151 ?_
  refine .seqR ?_
  refine .rr 1 ?_
  refine .nil (.ret ?_)
  cases h
  refine thenQ_ps ?_
  exact FinC.rs
 refine .condF rfl (Bool.eq_false_iff.2 c151) ?_
 refine .skip (thenQ_normal (.seqR ?_))
 refine .rr 1 ?_
 refine .nil (.ret ?_)
 cases h
 exact FinC.rs
def d70 (_N : Nat) (a0 : S56) (a1 : ByteArray) : Option Bool :=
 some (decide (a0.Name = a1))
theorem p70 (N : Nat) (a0 : S56) (a1 : ByteArray) (r : Bool) (h : d70 N a0 a1 = some r) : FunC Tryz.prog 70 [.agg (k56 a0),.d (.pim [.lit (.string a1)])] (.b r) := by
 unfold d70 at h
 refine FunC.enter 8 [(0,.agg (k56 a0)),(1,.d (.pim [.lit (.string a1)]))] (by simp) Tryz.func70 rfl (of_decide_eq_true rfl) rfl rfl ?_
 refine .seqR ?_
 refine .rr 2 ?_
 refine .nil (.seqR ?_)
 refine .rr 5 ?_
 refine .nil (.ret ?_)
 cases h
 exact FinC.rs
def d69 (N : Nat) (a0 : (List S56)) (p1 : S56 → Option Bool) : Option Int :=
 bindO (β := Unit) (ρ := Int) (
  iterN (σ := Int) (ρ := (Out Unit Int)) (fun (v6 : Int) =>
   if v6 < (a0.length : Int) then (
    (idx a0 v6).bind fun x21 =>
    (p1 x21).bind fun r23 =>
    if r23 = true then (
     some (.inr (.ret v6))
    ) else
    (chkI (v6 + 1)).bind fun v25 =>
    some (.inl v25)
   ) else
   some (.inr (.go ()))
  ) N 0
 ) fun (_ : Unit) =>
 some (-1)
theorem p69 (N : Nat) (a0 : (List S56)) (g1 : Nat) (cs1 : List D) (p1 : S56 → Option Bool) (ent_1 : Rp.Enters Tryz.prog g1) (hp1 : ∀ a0 r,p1 a0 = some r → FunC Tryz.prog g1 ([.agg (k56 a0)] ++ cs1.map .d) (.b r)) (r : Int) (h : d69 N a0 p1 = some r) : FunC Tryz.prog 69 [.s56 a0,.fg g1 cs1] (.i r) := by
 unfold d69 at h
 refine FunC.enter 19 [(0,.s56 a0),(1,.fg g1 cs1)] (by simp) Tryz.func69 rfl (of_decide_eq_true rfl) rfl rfl ?_
 refine .seqR ?_
 refine .rr 1 ?_
 refine .nil (.seq (.seqR ?_))
 refine .rr 3 ?_
 refine .tt [(0,.s56 a0),(1,.fg g1 cs1),(7,.i (a0.length : Int)),(8,.i 0)] [] (.nil ?_)
 refine .lastJ (fun (_ : Unit) => mk 19 [] [] []) h ?_ ?_ <;> clear h
 ·intro o h
  refine .block ?_
  refine .iter (fun (v6 : Int) => mk 19 [] [(0,.s56 a0),(1,.fg g1 cs1),(7,.i (a0.length : Int)),(8,.i v6)] []) h Sub.tt ?_
  clear h
  rintro v6 x h
  refine .seqR ?_
  refine .rr 1 ?_
  refine .nil (.seq ?_)
  replace h := isome h;rcases h with ⟨c20,h⟩ | ⟨c20,h⟩
  ·refine .condT rfl (decide_eq_true c20) ?_
   refine .skip (thenQ_normal (.seq (.block (.seqR ?_))))
   refine .rr 2 ?_
   refine .tt [(0,.s56 a0),(1,.fg g1 cs1),(5,.i v6),(7,.i (a0.length : Int)),(8,.i v6)] [] (.nil (.seqR ?_))
   replace h := xsome h;obtain ⟨x21,k22,hx21k,hx21,hx21a,hx21b,h⟩ := h
   refine .rk 5 fun K k => ?_;simp [hx21,hx21k,hx21a];refine k ?_
   refine .tt [(0,.s56 a0),(1,.fg g1 cs1),(5,.i v6),(7,.i (a0.length : Int)),(8,.i v6),(11,.fg g1 cs1),(15,.agg (k56 x21))] [] ?_
   replace h := bsome h;obtain ⟨r23,hr23,h⟩ := h
   refine .callL (d := 16) (hp1 x21 r23 hr23) (by simp) rfl rfl (by simp <;> rfl) (by simp <;> rfl) ent_1 (by simp <;> rfl) ?_
   refine .st (mk 19 [] [(0,.s56 a0),(1,.fg g1 cs1),(5,.i v6),(7,.i (a0.length : Int)),(8,.i v6),(11,.fg g1 cs1),(15,.agg (k56 x21)),(16,.b r23)] []) (.nil ?_)
   replace h := isome h;rcases h with ⟨c24,h⟩ | ⟨c24,h⟩
   ·refine .condT rfl c24 ?_
    refine .seqR ?_
    refine .rr 2 ?_
    refine .nil (.ret ?_)
    cases h
    refine blockQ.ret ?_
    refine thenQ_ps ?_
    refine PostI.os ?_
    rintro rfl
    refine blockQ.ret ?_
    refine PostJ.out (by simp) ?_
    rintro rfl
    refine thenQ_ps ?_
    exact FinC.rs
   refine .condF rfl (Bool.eq_false_iff.2 c24) ?_
   refine .skip (blockQ.normal (thenQ_normal (.region ?_)))
   replace h := csome h;obtain ⟨v25,hv25,h⟩ := h
   refine .rk 2 fun K k => ?_;simp [hv25];refine k ?_
   refine .nil ?_
   cases h
   refine PostI.next ?_
   exact Sub.tt
  refine .condF rfl (decide_eq_false c20) ?_
  refine .exit ?_
  cases h
  refine thenQ_ps ?_
  refine PostI.os ?_
  rintro rfl
  refine blockQ.hit (PostJ.next ?_)
  exact Sub.tt
 rintro ⟨⟩ h
 refine thenQ_normal (.seqR ?_)
 refine .rr 1 ?_
 refine .nil (.ret ?_)
 cases h
 exact FinC.rs
def d41 (N : Nat) (a0 : S26) (a1 : ByteArray) : Option (Int × Bool) :=
 (d69 N a0.Tables (fun b0 => d70 N b0 a1)).bind fun r1 =>
 letv (maxI r1 0) fun v2 =>
 some (v2,decide (r1 ≥ 0))
theorem p41 (N : Nat) (a0 : S26) (a1 : ByteArray) (r : (Int × Bool)) (h : d41 N a0 a1 = some r) : FunC Tryz.prog 41 [.agg (k26 a0),.s a1] (.tup [.i r.1,.b r.2]) := by
 unfold d41 at h
 refine FunC.enter 15 [(0,.agg (k26 a0)),(1,.s a1)] (by simp) Tryz.func41 rfl (of_decide_eq_true rfl) rfl rfl ?_
 refine .seqR ?_
 refine .rr 4 ?_
 refine .nil (.seqR ?_)
 refine .rr 3 ?_
 refine .tt [(8,.s56 a0.Tables),(9,.fn (.func 70) [.ptr 3 0 0])] [(3,some (.box [.s a1]))] ?_
 replace h := bsome h;obtain ⟨r1,hr1,h⟩ := h
 refine .callL (d := 10) (p69 N a0.Tables 70 [.pim [.lit (.string a1)]] (fun b0 => d70 N b0 a1) ent70 (fun b0 r h => p70 N b0 a1 r h) r1 hr1) (by simp) rfl rfl (by simp <;> rfl) (by simp <;> rfl) ent69 (by simp <;> rfl) ?_
 refine .rr 1 ?_
 refine .tt [(6,.i r1)] [] (.nil (.seqR ?_))
 replace h := lsome h;obtain ⟨v2,hv2,h⟩ := h
 unfold maxI at hv2
 try simp only [Int.ofNat_lt] at hv2
 refine .rk 6 fun K k => ?_;simp [hv2];refine k ?_
 refine .nil (.ret ?_)
 cases h
 exact FinC.rs
def d20 (N : Nat) (a0 : S26) (a1 : S82) : Option Int :=
 (d41 N a0 a1.Table).bind fun r1 =>
 (d41 N a0 a1.RefTable).bind fun r2 =>
 Option.bind (α := Bool) (
  if (!r1.2) = true then (
   some true
  ) else
  some (!r2.2)
 ) fun (v4 : Bool) =>
 if v4 = true then (
  some 4
 ) else
 (idx a0.Tables r1.1).bind fun x7 =>
 (idx a0.Tables r2.1).bind fun x9 =>
 if ((a1.Columns.length : Int) != (x9.PrimaryKey.length : Int)) then (
  some 3
 ) else
 bindO (β := Unit) (ρ := Int) (
  iterN (σ := Int) (ρ := (Out Unit Int)) (fun (v25 : Int) =>
   if v25 < (a1.Columns.length : Int) then (
    (idx a1.Columns v25).bind fun x58 =>
    Option.bind (α := Bool) (
     if x58 < 0 then (
      some true
     ) else
     some (decide (x58 ≥ (x7.Columns.length : Int)))
    ) fun (v61 : Bool) =>
    if v61 = true then (
     some (.inr (.ret 3))
    ) else
    (idx x7.Columns x58).bind fun x64 =>
    (idx x9.PrimaryKey v25).bind fun x66 =>
    (idx x9.Columns x66).bind fun x68 =>
    if (x64.Kind != x68.Kind) then (
     some (.inr (.ret 7))
    ) else
    (chkI (v25 + 1)).bind fun v71 =>
    some (.inl v71)
   ) else
   some (.inr (.go ()))
  ) N 0
 ) fun (_ : Unit) =>
 some 0
theorem p20 (N : Nat) (a0 : S26) (a1 : S82) (r : Int) (h : d20 N a0 a1 = some r) : FunC Tryz.prog 20 [.agg (k26 a0),.agg (k82 a1)] (.i r) := by
 unfold d20 at h
 refine FunC.enter 85 [(0,.agg (k26 a0)),(1,.agg (k82 a1))] (by simp) Tryz.func20 rfl (of_decide_eq_true rfl) rfl rfl ?_
 refine .seqR ?_
 refine .rr 3 ?_
 refine .nil (.seqR ?_)
 refine .rr 3 ?_
 refine .tt [(2,.ptr 2 0 0),(3,.ptr 3 0 0),(14,.agg (k26 a0)),(16,.s a1.Table)] (H17 a0 a1) ?_
 replace h := bsome h;obtain ⟨r1,hr1,h⟩ := h
 refine .callL (d := 17) (p41 N a0 a1.Table r1 hr1) (by simp) rfl rfl (by simp <;> rfl) (by simp <;> rfl) ent41 (by simp <;> rfl) ?_
 refine .rr 5 ?_
 refine .nil (.seqR ?_)
 refine .rr 3 ?_
 refine .tt (L16 r1.1 r1.2 ++ [(21,.agg (k26 a0)),(23,.s a1.RefTable)]) (H17 a0 a1) ?_
 replace h := bsome h;obtain ⟨r2,hr2,h⟩ := h
 refine .callL (d := 24) (p41 N a0 a1.RefTable r2 hr2) (by simp) rfl rfl (by simp <;> rfl) (by simp <;> rfl) ent41 (by simp <;> rfl) ?_
 refine .rr 5 ?_
 refine .tt (L16 r1.1 r1.2 ++ [(7,.i r2.1),(8,.b r2.2)]) (H17 a0 a1) (.nil (.seq ?_))
 replace h := bsome h;obtain ⟨v4,hj,h⟩ := h
 refine .cutR (mk 85 [] [(2,.ptr 2 0 0),(3,.ptr 3 0 0),(5,.i r1.1),(7,.i r2.1),(32,.b v4)] (H17 a0 a1)) ?_ ?_
 ·clear h;have h := hj;clear hj
  refine .rr 3 ?_
  replace h := isome h;rcases h with ⟨c5,h⟩ | ⟨c5,h⟩
  ·refine .sub (.bool 29 rfl c5) ?_
   refine .rr 3 ?_
   cases h
   exact .nil .tt
  refine .sub (.bool 29 rfl (Bool.eq_false_iff.2 c5)) ?_
  refine .rr 3 ?_
  cases h
  exact .nil .tt
 clear hj
 replace h := isome h;rcases h with ⟨c6,h⟩ | ⟨c6,h⟩
 ·refine .condT rfl c6 ?_
  refine .seqR ?_
  refine .rr 1 ?_
  refine .nil (.ret ?_)
  cases h
  refine thenQ_ps ?_
  exact FinC.rs
 refine .condF rfl (Bool.eq_false_iff.2 c6) ?_
 refine .skip (thenQ_normal ?_)
 replace h := xsome h;obtain ⟨x7,k8,hx7k,hx7,hx7a,hx7b,h⟩ := h
 replace h := xsome h;obtain ⟨x9,k10,hx9k,hx9,hx9a,hx9b,h⟩ := h
 refine .seqAnyS [[],[0],[],[0,1,2],[0,1,2,3],[],[5],[],[5,6,7],[5,6,7,8],[],[],[0,1,2,3,4,10,11],[0,1,2,3,4,5,6,7,8,9,10,11,12]] (fun (b : Nat → Bool) => mk 85 [] [(2,.ptr 2 0 0),(3,.ptr 3 0 0),(5,.i r1.1),(7,.i r2.1),(9,(if b 10 then .ptr 9 0 0 else .junk)),(10,(if b 11 then .ptr 10 0 0 else .junk)),(33,(if b 0 then .ptr 2 0 0 else .junk)),(34,(if b 1 then .s56 a0.Tables else .junk)),(35,(if b 2 then .i r1.1 else .junk)),(36,(if b 3 then .d (.pim [.lit (.string x7.Name),.sl (x7.Columns.map cS53),.sl (x7.PrimaryKey.map (cI .i64))]) else .junk)),(37,(if b 4 then .agg (k56 x7) else .junk)),(38,(if b 5 then .ptr 2 0 0 else .junk)),(39,(if b 6 then .s56 a0.Tables else .junk)),(40,(if b 7 then .i r2.1 else .junk)),(41,(if b 8 then .d (.pim [.lit (.string x9.Name),.sl (x9.Columns.map cS53),.sl (x9.PrimaryKey.map (cI .i64))]) else .junk)),(42,(if b 9 then .agg (k56 x9) else .junk))] [(2,some (.box (k26 a0))),(3,some (.box (k82 a1))),(9,(if b 12 then some (.box (k56 x7)) else (if b 10 then some (.box [.s (ByteArray.mk #[]),.z,.z]) else none))),(10,(if b 13 then some (.box (k56 x9)) else (if b 11 then some (.box [.s (ByteArray.mk #[]),.z,.z]) else none)))]) (mk 85 [] [(3,.ptr 3 0 0),(9,.ptr 9 0 0),(10,.ptr 10 0 0)] (H66 a1 x7 x9)) (by kernel_rfl) (by kernel_rfl) Sub.tt (Steps.cons ?_ (Steps.cons ?_ (Steps.cons ?_ (Steps.cons ?_ (Steps.cons ?_ (Steps.cons ?_ (Steps.cons ?_ (Steps.cons ?_ (Steps.cons ?_ (Steps.cons ?_ (Steps.cons ?_ (Steps.cons ?_ (Steps.cons ?_ (Steps.cons ?_ (Steps.nil))))))))))))))) ?_ ?_
 iterate 10
  ·intro b h0 ha hd
   have T := fct h0 ha hd;simp at T
   refine .rk 1 fun K k => ?_;simp [T,hx7,hx7k,hx7a,hx9,hx9k,hx9a];refine k ?_
   exact .nil .tT
 ·intro b h0 ha hd
  have T := fct h0 ha hd;simp at T
  cases q11 : b 11 <;> (refine Chain.runK [] 1 fun K k => ?_;simp [T];refine k _ _ ?_;clear k K;exact .nil (.table (by simp [q11]) (by simp [T,q11])))
 ·intro b h0 ha hd
  have T := fct h0 ha hd;simp at T
  cases q10 : b 10 <;> (refine Chain.runK [] 1 fun K k => ?_;simp [T];refine k _ _ ?_;clear k K;exact .nil (.table (by simp [q10]) (by simp [T,q10])))
 iterate 2
  ·intro b h0 ha hd
   have T := fct h0 ha hd;simp at T
   refine .rk 1 fun K k => ?_;simp [T];refine k ?_
   exact .nil .tT
 ·intro b hb
  have T := FA_of (n := 14) hb;simp at T
  exact Sub.tT
 skip
 refine .seq (.seqR ?_)
 refine .rr 7 ?_
 refine .nil ?_
 replace h := isome h;rcases h with ⟨c11,h⟩ | ⟨c11,h⟩
 ·refine .condT rfl c11 ?_
  refine .seqR ?_
  refine .rr 1 ?_
  refine .nil (.ret ?_)
  cases h
  refine thenQ_ps ?_
  exact FinC.rs
 refine .condF rfl (Bool.eq_false_iff.2 c11) ?_
 refine .skip (thenQ_normal (.seq (.seqR ?_)))
 refine .rr 4 ?_
 refine .tt [(9,.ptr 9 0 0),(10,.ptr 10 0 0),(51,.si a1.Columns),(52,.i (a1.Columns.length : Int)),(53,.i 0)] (H20 x7 x9) (.nil ?_)
 refine .lastJ (fun (_ : Unit) => mk 85 [] [] []) h ?_ ?_ <;> clear h
 ·intro o h
  refine .block ?_
  refine .iter (fun (v25 : Int) => mk 85 [] (L17 a1.Columns a1.Columns.length v25) (H20 x7 x9)) h Sub.tt ?_
  clear h
  rintro v25 x h
  refine .seqR ?_
  refine .rr 1 ?_
  refine .nil (.seq ?_)
  replace h := isome h;rcases h with ⟨c57,h⟩ | ⟨c57,h⟩
  ·refine .condT rfl (decide_eq_true c57) ?_
   refine .skip (thenQ_normal (.seq (.block (.seqR ?_))))
   replace h := xsome h;obtain ⟨x58,k59,hx58k,hx58,hx58a,hx58b,h⟩ := h
   refine .rk 5 fun K k => ?_;simp [hx58,hx58k,hx58a];refine k ?_
   refine .tt (L18 v25 x58 a1.Columns a1.Columns.length) (H20 x7 x9) (.nil (.seq ?_))
   replace h := bsome h;obtain ⟨v61,hj,h⟩ := h
   refine .cutR (mk 85 [] (L18 v25 x58 a1.Columns a1.Columns.length ++ [(66,.b v61)]) (H20 x7 x9)) ?_ ?_
   ·clear h;have h := hj;clear hj
    refine .rr 3 ?_
    replace h := isome h;rcases h with ⟨c62,h⟩ | ⟨c62,h⟩
    ·refine .sub (.bool 60 rfl (decide_eq_true c62)) ?_
     refine .rr 6 ?_
     cases h
     exact .nil .tt
    refine .sub (.bool 60 rfl (decide_eq_false c62)) ?_
    refine .rr 6 ?_
    cases h
    exact .nil .tt
   clear hj
   replace h := isome h;rcases h with ⟨c63,h⟩ | ⟨c63,h⟩
   ·refine .condT rfl c63 ?_
    refine .seqR ?_
    refine .rr 1 ?_
    refine .nil (.ret ?_)
    cases h
    refine thenQ_ps ?_
    refine blockQ.ret ?_
    refine thenQ_ps ?_
    refine PostI.os ?_
    rintro rfl
    refine blockQ.ret ?_
    refine PostJ.out (by simp) ?_
    rintro rfl
    refine thenQ_ps ?_
    exact FinC.rs
   refine .condF rfl (Bool.eq_false_iff.2 c63) ?_
   refine .skip (thenQ_normal ?_)
   refine .seqQ (by kernel_rfl) (by kernel_rfl) ?_
   replace h := xsome h;obtain ⟨x64,k65,hx64k,hx64,hx64a,hx64b,h⟩ := h
   replace h := xsome h;obtain ⟨x66,k67,hx66k,hx66,hx66a,hx66b,h⟩ := h
   replace h := xsome h;obtain ⟨x68,k69,hx68k,hx68,hx68a,hx68b,h⟩ := h
   refine .rq 17 fun K k => ?_;simp [hx64,hx64k,hx64a,hx66,hx66k,hx66a,hx68,hx68k,hx68a];refine k ?_
   refine .nil ?_
   replace h := isome h;rcases h with ⟨c70,h⟩ | ⟨c70,h⟩
   ·refine .condT rfl c70 ?_
    refine .seqR ?_
    refine .rr 1 ?_
    refine .nil (.ret ?_)
    cases h
    refine blockQ.ret ?_
    refine thenQ_ps ?_
    refine PostI.os ?_
    rintro rfl
    refine blockQ.ret ?_
    refine PostJ.out (by simp) ?_
    rintro rfl
    refine thenQ_ps ?_
    exact FinC.rs
   refine .condF rfl (Bool.eq_false_iff.2 c70) ?_
   refine .skip (blockQ.normal (thenQ_normal (.region ?_)))
   replace h := csome h;obtain ⟨v71,hv71,h⟩ := h
   refine .rk 2 fun K k => ?_;simp [hv71];refine k ?_
   refine .nil ?_
   cases h
   refine PostI.next ?_
   exact Sub.tt
  refine .condF rfl (decide_eq_false c57) ?_
  refine .exit ?_
  cases h
  refine thenQ_ps ?_
  refine PostI.os ?_
  rintro rfl
  refine blockQ.hit (PostJ.next ?_)
  exact Sub.tt
 rintro ⟨⟩ h
 refine thenQ_normal (.seqR ?_)
 refine .rr 1 ?_
 refine .nil (.ret ?_)
 cases h
 exact FinC.rs
def d43 (N : Nat) (a0 : (List Int)) (a1 : (List Int)) : Option Bool :=
 if ((a0.length : Int) != (a1.length : Int)) then (
  some false
 ) else
 bindO (β := Unit) (ρ := Bool) (
  iterN (σ := Int) (ρ := (Out Unit Bool)) (fun (v7 : Int) =>
   if v7 < (a0.length : Int) then (
    (idx a0 v7).bind fun x22 =>
    (idx a1 v7).bind fun x24 =>
    if (x22 != x24) then (
     some (.inr (.ret false))
    ) else
    (chkI (v7 + 1)).bind fun v26 =>
    some (.inl v26)
   ) else
   some (.inr (.go ()))
  ) N 0
 ) fun (_ : Unit) =>
 some true
theorem p43 (N : Nat) (a0 : (List Int)) (a1 : (List Int)) (r : Bool) (h : d43 N a0 a1 = some r) : FunC Tryz.prog 43 [.si a0,.si a1] (.b r) := by
 unfold d43 at h
 refine FunC.enter 26 [(0,.si a0),(1,.si a1)] (by simp) Tryz.func43 rfl (of_decide_eq_true rfl) rfl rfl ?_
 refine .seqR ?_
 refine .rr 1 ?_
 refine .nil (.seq (.seqR ?_))
 refine .rr 5 ?_
 refine .nil ?_
 replace h := isome h;rcases h with ⟨c1,h⟩ | ⟨c1,h⟩
 ·refine .condT rfl c1 ?_
  refine .seqR ?_
  refine .rr 1 ?_
  refine .nil (.ret ?_)
  cases h
  refine thenQ_ps ?_
  exact FinC.rs
 refine .condF rfl (Bool.eq_false_iff.2 c1) ?_
 refine .skip (thenQ_normal (.seq (.seqR ?_)))
 refine .rr 3 ?_
 refine .tt [(0,.si a0),(1,.si a1),(12,.i (a0.length : Int)),(13,.i 0)] [] (.nil ?_)
 refine .lastJ (fun (_ : Unit) => mk 26 [] [] []) h ?_ ?_ <;> clear h
 ·intro o h
  refine .block ?_
  refine .iter (fun (v7 : Int) => mk 26 [] (L19 a0 a1 a0.length v7) []) h Sub.tt ?_
  clear h
  rintro v7 x h
  refine .seqR ?_
  refine .rr 1 ?_
  refine .nil (.seq ?_)
  replace h := isome h;rcases h with ⟨c21,h⟩ | ⟨c21,h⟩
  ·refine .condT rfl (decide_eq_true c21) ?_
   refine .skip (thenQ_normal (.seq (.block (.seqR ?_))))
   refine .rr 2 ?_
   refine .tt [(0,.si a0),(1,.si a1),(5,.i v7),(12,.i (a0.length : Int)),(13,.i v7)] [] (.nil ?_)
   refine .seqQ (by kernel_rfl) (by kernel_rfl) ?_
   replace h := xsome h;obtain ⟨x22,k23,hx22k,hx22,hx22a,hx22b,h⟩ := h
   replace h := bsome h;obtain ⟨x24,hx24,h⟩ := h
   obtain ⟨hx24,hx24a,hx24b⟩ := idx_some2 hx24 hx22k
   refine .rq 9 fun K k => ?_;simp [hx22,hx22a,hx24,hx22k];refine k ?_
   refine .nil ?_
   replace h := isome h;rcases h with ⟨c25,h⟩ | ⟨c25,h⟩
   ·refine .condT rfl c25 ?_
    refine .seqR ?_
    refine .rr 1 ?_
    refine .nil (.ret ?_)
    cases h
    refine blockQ.ret ?_
    refine thenQ_ps ?_
    refine PostI.os ?_
    rintro rfl
    refine blockQ.ret ?_
    refine PostJ.out (by simp) ?_
    rintro rfl
    refine thenQ_ps ?_
    exact FinC.rs
   refine .condF rfl (Bool.eq_false_iff.2 c25) ?_
   refine .skip (blockQ.normal (thenQ_normal (.region ?_)))
   replace h := csome h;obtain ⟨v26,hv26,h⟩ := h
   refine .rk 2 fun K k => ?_;simp [hv26];refine k ?_
   refine .nil ?_
   cases h
   refine PostI.next ?_
   exact Sub.tt
  refine .condF rfl (decide_eq_false c21) ?_
  refine .exit ?_
  cases h
  refine thenQ_ps ?_
  refine PostI.os ?_
  rintro rfl
  refine blockQ.hit (PostJ.next ?_)
  exact Sub.tt
 rintro ⟨⟩ h
 refine thenQ_normal (.seqR ?_)
 refine .rr 1 ?_
 refine .nil (.ret ?_)
 cases h
 exact FinC.rs
def d23 (N : Nat) (a0 : S82) (a1 : S82) : Option Bool :=
 Option.bind (α := Bool) (
  if decide (a0.Table = a1.Table) = true then (
   (d43 N a0.Columns a1.Columns).bind fun r6 =>
   if r6 = true then (
    some (decide (a0.RefTable = a1.RefTable))
   ) else
   some false
  ) else
  some false
 ) fun (v4 : Bool) =>
 some v4
theorem p23 (N : Nat) (a0 : S82) (a1 : S82) (r : Bool) (h : d23 N a0 a1 = some r) : FunC Tryz.prog 23 [.agg (k82 a0),.agg (k82 a1)] (.b r) := by
 unfold d23 at h
 refine FunC.enter 24 [(0,.agg (k82 a0)),(1,.agg (k82 a1))] (by simp) Tryz.func23 rfl (of_decide_eq_true rfl) rfl rfl ?_
 refine .seqR ?_
 refine .rr 3 ?_
 refine .tt [(2,.ptr 2 0 0),(3,.ptr 3 0 0)] (H28 a0 a1) (.nil ?_)
 replace h := bsome h;obtain ⟨v4,hj,h⟩ := h
 refine .cutR (mk 24 [] [(4,.b v4)] []) ?_ ?_
 ·clear h;have h := hj;clear hj
  refine .rr 6 ?_
  replace h := isome h;rcases h with ⟨c5,h⟩ | ⟨c5,h⟩
  ·refine .sub (.bool 10 rfl c5) ?_
   refine .rr 4 ?_
   refine .tt [(2,.ptr 2 0 0),(3,.ptr 3 0 0),(10,.b true),(12,.si a0.Columns),(14,.si a1.Columns)] (H28 a0 a1) ?_
   replace h := bsome h;obtain ⟨r6,hr6,h⟩ := h
   refine .callL (d := 15) (p43 N a0.Columns a1.Columns r6 hr6) (by simp) rfl rfl (by simp <;> rfl) (by simp <;> rfl) ent43 (by simp <;> rfl) ?_
   refine .rr 2 ?_
   replace h := isome h;rcases h with ⟨c7,h⟩ | ⟨c7,h⟩
   ·refine .sub (.bool 17 rfl c7) ?_
    refine .rr 7 ?_
    cases h
    exact .nil .tt
   refine .sub (.bool 17 rfl (Bool.eq_false_iff.2 c7)) ?_
   refine .rr 7 ?_
   cases h
   exact .nil .tt
  refine .sub (.bool 10 rfl (Bool.eq_false_iff.2 c5)) ?_
  refine .rr 14 ?_
  cases h
  exact .nil .tt
 clear hj
 refine .ret ?_
 cases h
 exact FinC.rs
def d22 (N : Nat) (a0 : S82) (a1 : S82) : Option Bool :=
 (d23 N a0 a1).bind fun r1 =>
 some r1
theorem p22 (N : Nat) (a0 : S82) (a1 : S82) (r : Bool) (h : d22 N a0 a1 = some r) : FunC Tryz.prog 22 [.agg (k82 a0),.d (.pim [.lit (.string a1.Table),.sl (a1.Columns.map (cI .i64)),.lit (.string a1.RefTable)])] (.b r) := by
 unfold d22 at h
 refine FunC.enter 7 [(0,.agg (k82 a0)),(1,.d (.pim [.lit (.string a1.Table),.sl (a1.Columns.map (cI .i64)),.lit (.string a1.RefTable)]))] (by simp) Tryz.func22 rfl (of_decide_eq_true rfl) rfl rfl ?_
 refine .seqR ?_
 refine .rr 2 ?_
 refine .nil (.seqR ?_)
 refine .rr 2 ?_
 refine .tt [(4,.agg (k82 a0)),(5,.agg (k82 a1))] [] ?_
 replace h := bsome h;obtain ⟨r1,hr1,h⟩ := h
 refine .callL (d := 6) (p23 N a0 a1 r1 hr1) (by simp) rfl rfl (by simp <;> rfl) (by simp <;> rfl) ent23 (by simp <;> rfl) ?_
 refine .rr 1 ?_
 refine .nil (.ret ?_)
 cases h
 exact FinC.rs
def d42 (N : Nat) (a0 : (List S82)) (p1 : S82 → Option Bool) : Option Int :=
 bindO (β := Unit) (ρ := Int) (
  iterN (σ := Int) (ρ := (Out Unit Int)) (fun (v6 : Int) =>
   if v6 < (a0.length : Int) then (
    (idx a0 v6).bind fun x21 =>
    (p1 x21).bind fun r23 =>
    if r23 = true then (
     some (.inr (.ret v6))
    ) else
    (chkI (v6 + 1)).bind fun v25 =>
    some (.inl v25)
   ) else
   some (.inr (.go ()))
  ) N 0
 ) fun (_ : Unit) =>
 some (-1)
theorem p42 (N : Nat) (a0 : (List S82)) (g1 : Nat) (cs1 : List D) (p1 : S82 → Option Bool) (ent_1 : Rp.Enters Tryz.prog g1) (hp1 : ∀ a0 r,p1 a0 = some r → FunC Tryz.prog g1 ([.agg (k82 a0)] ++ cs1.map .d) (.b r)) (r : Int) (h : d42 N a0 p1 = some r) : FunC Tryz.prog 42 [.s82 a0,.fg g1 cs1] (.i r) := by
 unfold d42 at h
 refine FunC.enter 19 [(0,.s82 a0),(1,.fg g1 cs1)] (by simp) Tryz.func42 rfl (of_decide_eq_true rfl) rfl rfl ?_
 refine .seqR ?_
 refine .rr 1 ?_
 refine .nil (.seq (.seqR ?_))
 refine .rr 3 ?_
 refine .tt [(0,.s82 a0),(1,.fg g1 cs1),(7,.i (a0.length : Int)),(8,.i 0)] [] (.nil ?_)
 refine .lastJ (fun (_ : Unit) => mk 19 [] [] []) h ?_ ?_ <;> clear h
 ·intro o h
  refine .block ?_
  refine .iter (fun (v6 : Int) => mk 19 [] [(0,.s82 a0),(1,.fg g1 cs1),(7,.i (a0.length : Int)),(8,.i v6)] []) h Sub.tt ?_
  clear h
  rintro v6 x h
  refine .seqR ?_
  refine .rr 1 ?_
  refine .nil (.seq ?_)
  replace h := isome h;rcases h with ⟨c20,h⟩ | ⟨c20,h⟩
  ·refine .condT rfl (decide_eq_true c20) ?_
   refine .skip (thenQ_normal (.seq (.block (.seqR ?_))))
   refine .rr 2 ?_
   refine .tt [(0,.s82 a0),(1,.fg g1 cs1),(5,.i v6),(7,.i (a0.length : Int)),(8,.i v6)] [] (.nil (.seqR ?_))
   replace h := xsome h;obtain ⟨x21,k22,hx21k,hx21,hx21a,hx21b,h⟩ := h
   refine .rk 5 fun K k => ?_;simp [hx21,hx21k,hx21a];refine k ?_
   refine .tt [(0,.s82 a0),(1,.fg g1 cs1),(5,.i v6),(7,.i (a0.length : Int)),(8,.i v6),(11,.fg g1 cs1),(15,.agg (k82 x21))] [] ?_
   replace h := bsome h;obtain ⟨r23,hr23,h⟩ := h
   refine .callL (d := 16) (hp1 x21 r23 hr23) (by simp) rfl rfl (by simp <;> rfl) (by simp <;> rfl) ent_1 (by simp <;> rfl) ?_
   refine .st (mk 19 [] [(0,.s82 a0),(1,.fg g1 cs1),(5,.i v6),(7,.i (a0.length : Int)),(8,.i v6),(11,.fg g1 cs1),(15,.agg (k82 x21)),(16,.b r23)] []) (.nil ?_)
   replace h := isome h;rcases h with ⟨c24,h⟩ | ⟨c24,h⟩
   ·refine .condT rfl c24 ?_
    refine .seqR ?_
    refine .rr 2 ?_
    refine .nil (.ret ?_)
    cases h
    refine blockQ.ret ?_
    refine thenQ_ps ?_
    refine PostI.os ?_
    rintro rfl
    refine blockQ.ret ?_
    refine PostJ.out (by simp) ?_
    rintro rfl
    refine thenQ_ps ?_
    exact FinC.rs
   refine .condF rfl (Bool.eq_false_iff.2 c24) ?_
   refine .skip (blockQ.normal (thenQ_normal (.region ?_)))
   replace h := csome h;obtain ⟨v25,hv25,h⟩ := h
   refine .rk 2 fun K k => ?_;simp [hv25];refine k ?_
   refine .nil ?_
   cases h
   refine PostI.next ?_
   exact Sub.tt
  refine .condF rfl (decide_eq_false c20) ?_
  refine .exit ?_
  cases h
  refine thenQ_ps ?_
  refine PostI.os ?_
  rintro rfl
  refine blockQ.hit (PostJ.next ?_)
  exact Sub.tt
 rintro ⟨⟩ h
 refine thenQ_normal (.seqR ?_)
 refine .rr 1 ?_
 refine .nil (.ret ?_)
 cases h
 exact FinC.rs
def d21 (N : Nat) (a0 : (List S82)) (p1 : S82 → Option Bool) : Option Bool :=
 (d42 N a0 p1).bind fun r1 =>
 some (decide (r1 ≥ 0))
theorem p21 (N : Nat) (a0 : (List S82)) (g1 : Nat) (cs1 : List D) (p1 : S82 → Option Bool) (ent_1 : Rp.Enters Tryz.prog g1) (hp1 : ∀ a0 r,p1 a0 = some r → FunC Tryz.prog g1 ([.agg (k82 a0)] ++ cs1.map .d) (.b r)) (r : Bool) (h : d21 N a0 p1 = some r) : FunC Tryz.prog 21 [.s82 a0,.fg g1 cs1] (.b r) := by
 unfold d21 at h
 refine FunC.enter 9 [(0,.s82 a0),(1,.fg g1 cs1)] (by simp) Tryz.func21 rfl (of_decide_eq_true rfl) rfl rfl ?_
 refine .seqR ?_
 refine .rr 1 ?_
 refine .nil (.seqR ?_)
 refine .rr 2 ?_
 refine .tt [(5,.s82 a0),(6,.fg g1 cs1)] [] ?_
 replace h := bsome h;obtain ⟨r1,hr1,h⟩ := h
 refine .callL (d := 7) (p42 N a0 g1 cs1 p1 ent_1 hp1 r1 hr1) (by simp) rfl rfl (by simp <;> rfl) (by simp <;> rfl) ent42 (by simp <;> rfl) ?_
 refine .rr 2 ?_
 refine .nil (.ret ?_)
 cases h
 exact FinC.rs
def d105 (_N : Nat) (a0 : Int) (a1 : Int) : Option Int :=
 if a0 < a1 then (
  some (-1)
 ) else
 if a0 > a1 then (
  some 1
 ) else
 some 0
theorem p105 (N : Nat) (a0 : Int) (a1 : Int) (r : Int) (h : d105 N a0 a1 = some r) : FunC Tryz.prog 105 [.i a0,.i a1] (.i r) := by
 unfold d105 at h
 refine FunC.enter 13 [(0,.i a0),(1,.i a1)] (by simp) Tryz.func105 rfl (of_decide_eq_true rfl) rfl rfl ?_
 refine .seqR ?_
 refine .rr 1 ?_
 refine .nil (.seq (.block (.seqR ?_)))
 refine .rr 4 ?_
 refine .nil ?_
 replace h := isome h;rcases h with ⟨c1,h⟩ | ⟨c1,h⟩
 ·refine .condT rfl (decide_eq_true c1) ?_
  refine .seqR ?_
  refine .rr 1 ?_
  refine .nil (.ret ?_)
  cases h
  refine blockQ.ret ?_
  refine thenQ_ps ?_
  exact FinC.rs
 refine .condF rfl (decide_eq_false c1) ?_
 refine .seqR ?_
 refine .rr 4 ?_
 refine .nil ?_
 replace h := isome h;rcases h with ⟨c2,h⟩ | ⟨c2,h⟩
 ·refine .condT rfl (decide_eq_true c2) ?_
  refine .seqR ?_
  refine .rr 1 ?_
  refine .nil (.ret ?_)
  cases h
  refine blockQ.ret ?_
  refine thenQ_ps ?_
  exact FinC.rs
 refine .condF rfl (decide_eq_false c2) ?_
 refine .skip (blockQ.normal (thenQ_normal (.seqR ?_)))
 refine .rr 1 ?_
 refine .nil (.ret ?_)
 cases h
 exact FinC.rs
def d143 (_N : Nat) (a0 a1 : ByteArray) : Option Int := some (Lib.compareBytes a0.data.toList a1.data.toList)
theorem p143 (N : Nat) (a0 a1 : ByteArray) (r : Int) (h : d143 N a0 a1 = some r) : FunC Tryz.prog 143 [.s a0,.s a1] (.i r) := by
 injection h with h;subst h
 exact FunC.of_calls (vals := [.string a0,.string a1]) (by rintro E w vs ⟨_,_,rfl,⟨rfl,_⟩,_,_,rfl,⟨rfl,_⟩,rfl⟩;rfl) rfl (fun w _ => (Tryz.bytealg_CompareString a0 a1 w).mono (by rintro e w2 ⟨rfl,rfl⟩;exact ⟨rfl,.refl _ _⟩))
def d106 (N : Nat) (a0 : ByteArray) (a1 : ByteArray) : Option Int :=
 (d143 N a0 a1).bind fun r1 =>
 some r1
theorem p106 (N : Nat) (a0 : ByteArray) (a1 : ByteArray) (r : Int) (h : d106 N a0 a1 = some r) : FunC Tryz.prog 106 [.s a0,.s a1] (.i r) := by
 unfold d106 at h
 refine FunC.enter 8 [(0,.s a0),(1,.s a1)] (by simp) Tryz.func106 rfl (of_decide_eq_true rfl) rfl rfl ?_
 refine .seqR ?_
 refine .rr 1 ?_
 refine .nil (.seqR ?_)
 refine .rr 2 ?_
 refine .tt [(5,.s a0),(6,.s a1)] [] ?_
 replace h := bsome h;obtain ⟨r1,hr1,h⟩ := h
 refine .callL (d := 7) (p143 N a0 a1 r1 hr1) (by simp) rfl rfl (by simp <;> rfl) (by simp <;> rfl) ent143 (by simp <;> rfl) ?_
 refine .rr 1 ?_
 refine .nil (.ret ?_)
 cases h
 exact FinC.rs
end Go.Proofs.YtmgddgcniacnbaaGreatDoor
