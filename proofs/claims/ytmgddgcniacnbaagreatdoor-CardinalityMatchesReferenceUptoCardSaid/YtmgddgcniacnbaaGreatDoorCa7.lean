/- Functions of the program as functional programs; the code computes them. -/
import Derived.Test.YtmgddgcniacnbaaGreatDoorCa6
namespace Go.Proofs.YtmgddgcniacnbaaGreatDoor
set_option maxRecDepth 100000
set_option maxHeartbeats 4000000
open Go.Ab Go.Rp
attribute [-simp] List.all_eq_true Array.all_toList Array.all_eq_true
def d136 (N : Nat) (a0 : (List ByteArray)) (a1 : ByteArray) : Option Int :=
 bindO (β := Unit) (ρ := Int) (
  iterN (σ := Int) (ρ := (Out Unit Int)) (fun (v5 : Int) =>
   if v5 < (a0.length : Int) then (
    (idx a0 v5).bind fun x18 =>
    if decide (a1 = x18) = true then (
     some (.inr (.ret v5))
    ) else
    (chkI (v5 + 1)).bind fun v21 =>
    some (.inl v21)
   ) else
   some (.inr (.go ()))
  ) N 0
 ) fun (_ : Unit) =>
 some (-1)
theorem p136 (N : Nat) (a0 : (List ByteArray)) (a1 : ByteArray) (r : Int) (h : d136 N a0 a1 = some r) : FunC Tryz.prog 136 [.ss a0,.s a1] (.i r) := by
 unfold d136 at h
 refine FunC.enter 19 [(0,.ss a0),(1,.s a1)] (by simp) Tryz.func136 rfl (of_decide_eq_true rfl) rfl rfl ?_
 refine .seqR ?_
 refine .rr 1 ?_
 refine .nil (.seq (.seqR ?_))
 refine .rr 3 ?_
 refine .tt [(0,.ss a0),(1,.s a1),(7,.i (a0.length : Int)),(8,.i 0)] [] (.nil ?_)
 refine .lastJ (fun (_ : Unit) => mk 19 [] [] []) h ?_ ?_ <;> clear h
 ·intro o h
  refine .block ?_
  refine .iter (fun (v5 : Int) => mk 19 [] (L54 a0 a1 a0.length v5) []) h Sub.tt ?_
  clear h
  rintro v5 x h
  refine .seqR ?_
  refine .rr 1 ?_
  refine .nil (.seq ?_)
  replace h := isome h;rcases h with ⟨c17,h⟩ | ⟨c17,h⟩
  ·refine .condT rfl (decide_eq_true c17) ?_
   refine .skip (thenQ_normal (.seq (.block (.seqR ?_))))
   refine .rr 2 ?_
   refine .tt [(0,.ss a0),(1,.s a1),(5,.i v5),(7,.i (a0.length : Int)),(8,.i v5)] [] (.nil (.seqR ?_))
   replace h := xsome h;obtain ⟨x18,k19,hx18k,hx18,hx18a,hx18b,h⟩ := h
   refine .rk 6 fun K k => ?_;simp [hx18,hx18k,hx18a];refine k ?_
   refine .nil ?_
   replace h := isome h;rcases h with ⟨c20,h⟩ | ⟨c20,h⟩
   ·refine .condT rfl c20 ?_
    refine .seqR ?_
    refine .rr 2 ?_
    refine .nil (.ret ?_)
    cases h
    refine blockQ.ret ?_
    refine thenQ_ps ?_
    refine PostI.os ?_
    rintro rfl
    refine blockQ.ret ?_
    refine PostJ.out (by simp) ?_
    rintro rfl
    refine thenQ_ps ?_
    exact FinC.rs
   refine .condF rfl (Bool.eq_false_iff.2 c20) ?_
   refine .skip (blockQ.normal (thenQ_normal (.region ?_)))
   replace h := csome h;obtain ⟨v21,hv21,h⟩ := h
   refine .rk 2 fun K k => ?_;simp [hv21];refine k ?_
   refine .nil ?_
   cases h
   refine PostI.next ?_
   exact Sub.tt
  refine .condF rfl (decide_eq_false c17) ?_
  refine .exit ?_
  cases h
  refine thenQ_ps ?_
  refine PostI.os ?_
  rintro rfl
  refine blockQ.hit (PostJ.next ?_)
  exact Sub.tt
 rintro ⟨⟩ h
 refine thenQ_normal (.seqR ?_)
 refine .rr 1 ?_
 refine .nil (.ret ?_)
 cases h
 exact FinC.rs
def d188 (_N : Nat) (a0 : Int) (a1 : Int) : Option Bool :=
 Option.bind (α := Bool) (
  if (a0 != a1) then (
   some (a0 != 0)
  ) else
  some false
 ) fun (v2 : Bool) =>
 some v2
theorem p188 (N : Nat) (a0 : Int) (a1 : Int) (r : Bool) (h : d188 N a0 a1 = some r) : FunC Tryz.prog 188 [.i a0,.d (.pim [.lit (.int .i64 a1)])] (.b r) := by
 unfold d188 at h
 refine FunC.enter 11 [(0,.i a0),(1,.d (.pim [.lit (.int .i64 a1)]))] (by simp) Tryz.func188 rfl (of_decide_eq_true rfl) rfl rfl ?_
 refine .seqR ?_
 refine .rr 1 ?_
 refine .tt [(0,.i a0),(1,.d (.pim [.lit (.int .i64 a1)]))] [] (.nil ?_)
 replace h := bsome h;obtain ⟨v2,hj,h⟩ := h
 refine .cutR (mk 11 [] [(3,.b v2)] []) ?_ ?_
 ·clear h;have h := hj;clear hj
  refine .rr 4 ?_
  replace h := isome h;rcases h with ⟨c3,h⟩ | ⟨c3,h⟩
  ·refine .sub (.bool 7 rfl c3) ?_
   refine .rr 4 ?_
   cases h
   exact .nil .tt
  refine .sub (.bool 7 rfl (Bool.eq_false_iff.2 c3)) ?_
  refine .rr 4 ?_
  cases h
  exact .nil .tt
 clear hj
 refine .ret ?_
 cases h
 exact FinC.rs
def d200 (N : Nat) (a0 : (List Int)) (p1 : Int → Option Bool) : Option Int :=
 bindO (β := Unit) (ρ := Int) (
  iterN (σ := Int) (ρ := (Out Unit Int)) (fun (v6 : Int) =>
   if v6 < (a0.length : Int) then (
    (idx a0 v6).bind fun x21 =>
    (p1 x21).bind fun r23 =>
    if r23 = true then (
     some (.inr (.ret v6))
    ) else
    (chkI (v6 + 1)).bind fun v25 =>
    some (.inl v25)
   ) else
   some (.inr (.go ()))
  ) N 0
 ) fun (_ : Unit) =>
 some (-1)
theorem p200 (N : Nat) (a0 : (List Int)) (g1 : Nat) (cs1 : List D) (p1 : Int → Option Bool) (ent_1 : Rp.Enters Tryz.prog g1) (hp1 : ∀ a0 r,p1 a0 = some r → FunC Tryz.prog g1 ([.i a0] ++ cs1.map .d) (.b r)) (r : Int) (h : d200 N a0 p1 = some r) : FunC Tryz.prog 200 [.si a0,.fg g1 cs1] (.i r) := by
 unfold d200 at h
 refine FunC.enter 19 [(0,.si a0),(1,.fg g1 cs1)] (by simp) Tryz.func200 rfl (of_decide_eq_true rfl) rfl rfl ?_
 refine .seqR ?_
 refine .rr 1 ?_
 refine .nil (.seq (.seqR ?_))
 refine .rr 3 ?_
 refine .tt [(0,.si a0),(1,.fg g1 cs1),(7,.i (a0.length : Int)),(8,.i 0)] [] (.nil ?_)
 refine .lastJ (fun (_ : Unit) => mk 19 [] [] []) h ?_ ?_ <;> clear h
 ·intro o h
  refine .block ?_
  refine .iter (fun (v6 : Int) => mk 19 [] [(0,.si a0),(1,.fg g1 cs1),(7,.i (a0.length : Int)),(8,.i v6)] []) h Sub.tt ?_
  clear h
  rintro v6 x h
  refine .seqR ?_
  refine .rr 1 ?_
  refine .nil (.seq ?_)
  replace h := isome h;rcases h with ⟨c20,h⟩ | ⟨c20,h⟩
  ·refine .condT rfl (decide_eq_true c20) ?_
   refine .skip (thenQ_normal (.seq (.block (.seqR ?_))))
   refine .rr 2 ?_
   refine .tt [(0,.si a0),(1,.fg g1 cs1),(5,.i v6),(7,.i (a0.length : Int)),(8,.i v6)] [] (.nil (.seqR ?_))
   replace h := xsome h;obtain ⟨x21,k22,hx21k,hx21,hx21a,hx21b,h⟩ := h
   refine .rk 5 fun K k => ?_;simp [hx21,hx21k,hx21a];refine k ?_
   refine .tt [(0,.si a0),(1,.fg g1 cs1),(5,.i v6),(7,.i (a0.length : Int)),(8,.i v6),(11,.fg g1 cs1),(15,.i x21)] [] ?_
   replace h := bsome h;obtain ⟨r23,hr23,h⟩ := h
   refine .callL (d := 16) (hp1 x21 r23 hr23) (by simp) rfl rfl (by simp <;> rfl) (by simp <;> rfl) ent_1 (by simp <;> rfl) ?_
   refine .st (mk 19 [] [(0,.si a0),(1,.fg g1 cs1),(5,.i v6),(7,.i (a0.length : Int)),(8,.i v6),(11,.fg g1 cs1),(15,.i x21),(16,.b r23)] []) (.nil ?_)
   replace h := isome h;rcases h with ⟨c24,h⟩ | ⟨c24,h⟩
   ·refine .condT rfl c24 ?_
    refine .seqR ?_
    refine .rr 2 ?_
    refine .nil (.ret ?_)
    cases h
    refine blockQ.ret ?_
    refine thenQ_ps ?_
    refine PostI.os ?_
    rintro rfl
    refine blockQ.ret ?_
    refine PostJ.out (by simp) ?_
    rintro rfl
    refine thenQ_ps ?_
    exact FinC.rs
   refine .condF rfl (Bool.eq_false_iff.2 c24) ?_
   refine .skip (blockQ.normal (thenQ_normal (.region ?_)))
   replace h := csome h;obtain ⟨v25,hv25,h⟩ := h
   refine .rk 2 fun K k => ?_;simp [hv25];refine k ?_
   refine .nil ?_
   cases h
   refine PostI.next ?_
   exact Sub.tt
  refine .condF rfl (decide_eq_false c20) ?_
  refine .exit ?_
  cases h
  refine thenQ_ps ?_
  refine PostI.os ?_
  rintro rfl
  refine blockQ.hit (PostJ.next ?_)
  exact Sub.tt
 rintro ⟨⟩ h
 refine thenQ_normal (.seqR ?_)
 refine .rr 1 ?_
 refine .nil (.ret ?_)
 cases h
 exact FinC.rs
def d187 (N : Nat) (a0 : (List Int)) (p1 : Int → Option Bool) : Option Bool :=
 (d200 N a0 p1).bind fun r1 =>
 some (decide (r1 ≥ 0))
theorem p187 (N : Nat) (a0 : (List Int)) (g1 : Nat) (cs1 : List D) (p1 : Int → Option Bool) (ent_1 : Rp.Enters Tryz.prog g1) (hp1 : ∀ a0 r,p1 a0 = some r → FunC Tryz.prog g1 ([.i a0] ++ cs1.map .d) (.b r)) (r : Bool) (h : d187 N a0 p1 = some r) : FunC Tryz.prog 187 [.si a0,.fg g1 cs1] (.b r) := by
 unfold d187 at h
 refine FunC.enter 9 [(0,.si a0),(1,.fg g1 cs1)] (by simp) Tryz.func187 rfl (of_decide_eq_true rfl) rfl rfl ?_
 refine .seqR ?_
 refine .rr 1 ?_
 refine .nil (.seqR ?_)
 refine .rr 2 ?_
 refine .tt [(5,.si a0),(6,.fg g1 cs1)] [] ?_
 replace h := bsome h;obtain ⟨r1,hr1,h⟩ := h
 refine .callL (d := 7) (p200 N a0 g1 cs1 p1 ent_1 hp1 r1 hr1) (by simp) rfl rfl (by simp <;> rfl) (by simp <;> rfl) ent200 (by simp <;> rfl) ?_
 refine .rr 2 ?_
 refine .nil (.ret ?_)
 cases h
 exact FinC.rs
def d186 (N : Nat) (a0 : Int) (a1 : (List Int)) : Option Bool :=
 (d187 N a1 (fun b0 => d188 N b0 a0)).bind fun r1 =>
 some (!r1)
theorem p186 (N : Nat) (a0 : Int) (a1 : (List Int)) (r : Bool) (h : d186 N a0 a1 = some r) : FunC Tryz.prog 186 [.i a0,.d (.pim [.sl (a1.map (cI .i64))])] (.b r) := by
 unfold d186 at h
 refine FunC.enter 8 [(0,.i a0),(1,.d (.pim [.sl (a1.map (cI .i64))]))] (by simp) Tryz.func186 rfl (of_decide_eq_true rfl) rfl rfl ?_
 refine .seqR ?_
 refine .rr 2 ?_
 refine .nil (.seqR ?_)
 refine .rr 2 ?_
 refine .tt [(4,.si a1),(5,.fn (.func 188) [.ptr 2 0 0])] [(2,some (.box [.i a0]))] ?_
 replace h := bsome h;obtain ⟨r1,hr1,h⟩ := h
 refine .callL (d := 6) (p187 N a1 188 [.pim [.lit (.int .i64 a0)]] (fun b0 => d188 N b0 a0) ent188 (fun b0 r h => p188 N b0 a0 r h) r1 hr1) (by simp) rfl rfl (by simp <;> rfl) (by simp <;> rfl) ent187 (by simp <;> rfl) ?_
 refine .rr 2 ?_
 refine .nil (.ret ?_)
 cases h
 exact FinC.rs
def d189 (_N : Nat) (a0 : Int) (a1 : Int) : Option Bool :=
 Option.bind (α := Bool) (
  if (a0 == a1) then (
   some true
  ) else
  if (a0 == 0) then (
   some true
  ) else
  some (a1 == 0)
 ) fun (v3 : Bool) =>
 some v3
theorem p189 (N : Nat) (a0 : Int) (a1 : Int) (r : Bool) (h : d189 N a0 a1 = some r) : FunC Tryz.prog 189 [.i a0,.i a1] (.b r) := by
 unfold d189 at h
 refine FunC.enter 16 [(0,.i a0),(1,.i a1)] (by simp) Tryz.func189 rfl (of_decide_eq_true rfl) rfl rfl ?_
 refine .seqR ?_
 refine .rr 1 ?_
 refine .tt [(0,.i a0),(1,.i a1)] [] (.nil ?_)
 replace h := bsome h;obtain ⟨v3,hj,h⟩ := h
 refine .cutR (mk 16 [] [(4,.b v3)] []) ?_ ?_
 ·clear h;have h := hj;clear hj
  refine .rr 4 ?_
  replace h := isome h;rcases h with ⟨c4,h⟩ | ⟨c4,h⟩
  ·refine .sub (.bool 8 rfl c4) ?_
   refine .rr 8 ?_
   cases h
   exact .nil .tt
  refine .sub (.bool 8 rfl (Bool.eq_false_iff.2 c4)) ?_
  refine .rr 4 ?_
  replace h := isome h;rcases h with ⟨c5,h⟩ | ⟨c5,h⟩
  ·refine .sub (.bool 12 rfl c5) ?_
   refine .rr 4 ?_
   cases h
   exact .nil .tt
  refine .sub (.bool 12 rfl (Bool.eq_false_iff.2 c5)) ?_
  refine .rr 4 ?_
  cases h
  exact .nil .tt
 clear hj
 refine .ret ?_
 cases h
 exact FinC.rs
def d190 (_N : Nat) (a0 : Int) (a1 : Bool) (a2 : Bool) : Option (Int × Bool × Int) :=
 if (!a2) = true then (
  some (0,false,7)
 ) else
 some (a0,a1,0)
theorem p190 (N : Nat) (a0 : Int) (a1 : Bool) (a2 : Bool) (r : (Int × Bool × Int)) (h : d190 N a0 a1 a2 = some r) : FunC Tryz.prog 190 [.i a0,.b a1,.b a2] (.tup [.i r.1,.b r.2.1,.i r.2.2]) := by
 unfold d190 at h
 refine FunC.enter 13 [(0,.i a0),(1,.b a1),(2,.b a2)] (by simp) Tryz.func190 rfl (of_decide_eq_true rfl) rfl rfl ?_
 refine .seqR ?_
 refine .rr 3 ?_
 refine .nil (.seq (.seqR ?_))
 refine .rr 2 ?_
 refine .nil ?_
 replace h := isome h;rcases h with ⟨c1,h⟩ | ⟨c1,h⟩
 ·refine .condT rfl c1 ?_
  refine .seqR ?_
  refine .rr 3 ?_
  refine .nil (.ret ?_)
  cases h
  refine thenQ_ps ?_
  exact FinC.rs
 refine .condF rfl (Bool.eq_false_iff.2 c1) ?_
 refine .skip (thenQ_normal (.seqR ?_))
 refine .rr 5 ?_
 refine .nil (.ret ?_)
 cases h
 exact FinC.rs
end Go.Proofs.YtmgddgcniacnbaaGreatDoor
