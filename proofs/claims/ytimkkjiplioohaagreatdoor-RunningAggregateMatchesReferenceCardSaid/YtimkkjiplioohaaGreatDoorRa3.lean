/- Functions of the program as functional programs; the code computes them. -/
import Derived.Test.YtimkkjiplioohaaGreatDoorRa2
namespace Go.Proofs.YtimkkjiplioohaaGreatDoor
set_option maxRecDepth 100000
set_option maxHeartbeats 4000000
open Go.Ab Go.Rp
attribute [-simp] List.all_eq_true Array.all_toList Array.all_eq_true
def d66 (N : Nat) (a0 : (List S61)) (p1 : S61 → Option Bool) : Option Bool :=
 (d100 N a0 p1).bind fun r1 =>
 some (decide (r1 ≥ 0))
theorem p66 (N : Nat) (a0 : (List S61)) (g1 : Nat) (cs1 : List D) (p1 : S61 → Option Bool) (ent_1 : Rp.Enters Tryz.prog g1) (hp1 : ∀ a0 r,p1 a0 = some r → FunC Tryz.prog g1 ([.agg [.i a0.Kind,.i a0.Int,.s a0.Text]] ++ cs1.map .d) (.b r)) (r : Bool) (h : d66 N a0 p1 = some r) : FunC Tryz.prog 66 [.s61 a0,.fg g1 cs1] (.b r) := by
 unfold d66 at h
 refine FunC.enter 9 [(0,.s61 a0),(1,.fg g1 cs1)] (by simp) Tryz.func66 rfl (of_decide_eq_true rfl) rfl rfl ?_
 refine .seqR ?_
 refine .rr 1 ?_
 refine .tt [(0,.s61 a0),(1,.fg g1 cs1)] [] (.nil (.seqR ?_))
 refine .rr 2 ?_
 refine .tt [(5,.s61 a0),(6,.fg g1 cs1)] [] ?_
 replace h := bsome h;obtain ⟨r1,hr1,h⟩ := h
 refine .callL (d := 7) (p100 N a0 g1 cs1 p1 ent_1 hp1 r1 hr1) (by simp) rfl rfl (by simp <;> rfl) (by simp <;> rfl) ent100 (by simp <;> rfl) ?_
 refine .st (mk 9 [] [(5,.s61 a0),(6,.fg g1 cs1),(7,.i r1)] []) ?_
 refine .rr 2 ?_
 refine .tt [(4,.b (decide (r1 ≥ 0)))] [] (.nil (.ret ?_))
 cases h
 exact FinC.rs
def d68 (_N : Nat) (a0 : S61) : Option Bool :=
 if (a0.Kind == 0) then (
  some (beqS61 a0 (S61.mk 0 0 (ByteArray.mk #[])))
 ) else
 if (a0.Kind == 1) then (
  Option.bind (α := Bool) (
   if decide (a0.Text = (ByteArray.mk #[])) = true then (
    if a0.Int ≥ (-1000000000000) then (
     some (decide (a0.Int ≤ 1000000000000))
    ) else
    some false
   ) else
   some false
  ) fun (v5 : Bool) =>
  some v5
 ) else
 if (a0.Kind == 2) then (
  Option.bind (α := Bool) (
   if decide (a0.Text = (ByteArray.mk #[])) = true then (
    if (a0.Int == 0) then (
     some true
    ) else
    some (a0.Int == 1)
   ) else
   some false
  ) fun (v11 : Bool) =>
  some v11
 ) else
 if (a0.Kind == 3) then (
  Option.bind (α := Bool) (
   if (a0.Int == 0) then (
    some (decide ((a0.Text.size : Int) ≤ 24))
   ) else
   some false
  ) fun (v16 : Bool) =>
  some v16
 ) else
 some false
theorem p68 (N : Nat) (a0 : S61) (r : Bool) (h : d68 N a0 = some r) : FunC Tryz.prog 68 [.agg [.i a0.Kind,.i a0.Int,.s a0.Text]] (.b r) := by
 unfold d68 at h
 refine FunC.enter 51 [(0,.agg [.i a0.Kind,.i a0.Int,.s a0.Text])] (by simp) Tryz.func68 rfl (of_decide_eq_true rfl) rfl rfl ?_
 refine .seqR ?_
 refine .rr 2 ?_
 refine .tt [(1,.ptr 1 0 0)] (H6 a0) (.nil (.seq (.seqR ?_)))
 refine .rr 2 ?_
 refine .tt [(1,.ptr 1 0 0),(4,.i a0.Kind)] (H6 a0) (.nil (.block (.seqR ?_)))
 refine .rr 2 ?_
 refine .tt [(1,.ptr 1 0 0),(4,.i a0.Kind),(5,.b (a0.Kind == 0))] (H6 a0) (.nil ?_)
 replace h := isome h;rcases h with ⟨c1,h⟩ | ⟨c1,h⟩
 ·have c1_ : (a0.Kind == 0) = true := c1
  refine .condT rfl c1_ ?_
  refine .seqR ?_
  refine .rr 2 ?_
  refine .tt [(7,.agg [.i a0.Kind,.i a0.Int,.s a0.Text]),(8,.agg [.i 0,.i 0,.s (ByteArray.mk #[])])] [] ?_
  refine .pureP (by simp) (pure_eqA false rfl rfl rfl rfl (by kernel_rfl) (eqv61 a0 (S61.mk 0 0 (ByteArray.mk #[])))) ?_
  refine .st (mk 51 [] [(7,.agg [.i a0.Kind,.i a0.Int,.s a0.Text]),(8,.agg [.i 0,.i 0,.s (ByteArray.mk #[])]),(9,.b (beqS61 a0 (S61.mk 0 0 (ByteArray.mk #[]))))] []) ?_
  refine .rr 1 ?_
  refine .tt [(2,.b (beqS61 a0 (S61.mk 0 0 (ByteArray.mk #[]))))] [] (.nil (.ret ?_))
  cases h
  refine blockQ.ret ?_
  refine thenQ_ps ?_
  exact FinC.rs
 have c1_ : (a0.Kind == 0) = false := Bool.eq_false_iff.2 c1
 refine .condF rfl c1_ ?_
 refine .seqR ?_
 refine .rr 2 ?_
 refine .tt [(1,.ptr 1 0 0),(4,.i a0.Kind),(10,.b (a0.Kind == 1))] (H6 a0) (.nil ?_)
 replace h := isome h;rcases h with ⟨c2,h⟩ | ⟨c2,h⟩
 ·have c2_ : (a0.Kind == 1) = true := c2
  refine .condT rfl c2_ ?_
  replace h := bsome h;obtain ⟨v5,hj,h⟩ := h
  refine .cutR (mk 51 [] [(2,.b v5)] []) ?_ ?_
  ·clear h;have h := hj;clear hj
   refine .rr 4 ?_
   refine .tt [(1,.ptr 1 0 0),(15,.b (decide (a0.Text = (ByteArray.mk #[]))))] (H6 a0) ?_
   replace h := isome h;rcases h with ⟨c6,h⟩ | ⟨c6,h⟩
   ·have c6_ : decide (a0.Text = (ByteArray.mk #[])) = true := c6
    refine .sub (.bool 15 rfl c6_) ?_
    refine .st (mk 51 [] [(1,.ptr 1 0 0),(15,.b true)] (H6 a0)) ?_
    refine .rr 5 ?_
    refine .tt [(1,.ptr 1 0 0),(20,.b (decide (a0.Int ≥ (-1000000000000))))] (H6 a0) ?_
    replace h := isome h;rcases h with ⟨c7,h⟩ | ⟨c7,h⟩
    ·have c7_ : decide (a0.Int ≥ (-1000000000000)) = true := decide_eq_true c7
     refine .sub (.bool 20 rfl c7_) ?_
     refine .st (mk 51 [] [(1,.ptr 1 0 0),(20,.b true)] (H6 a0)) ?_
     refine .rr 5 ?_
     refine .tt [(2,.b (decide (a0.Int ≤ 1000000000000)))] [] ?_
     cases h
     exact .nil .tt
    have c7_ : decide (a0.Int ≥ (-1000000000000)) = false := decide_eq_false c7
    refine .sub (.bool 20 rfl c7_) ?_
    refine .st (mk 51 [] [(1,.ptr 1 0 0),(20,.b false)] (H6 a0)) ?_
    refine .rr 5 ?_
    refine .tt [(2,.b false)] [] ?_
    cases h
    exact .nil .tt
   have c6_ : decide (a0.Text = (ByteArray.mk #[])) = false := Bool.eq_false_iff.2 c6
   refine .sub (.bool 15 rfl c6_) ?_
   refine .st (mk 51 [] [(1,.ptr 1 0 0),(15,.b false)] (H6 a0)) ?_
   refine .rr 10 ?_
   refine .tt [(2,.b false)] [] ?_
   cases h
   exact .nil .tt
  clear hj
  refine .ret ?_
  cases h
  refine blockQ.ret ?_
  refine thenQ_ps ?_
  exact FinC.rs
 have c2_ : (a0.Kind == 1) = false := Bool.eq_false_iff.2 c2
 refine .condF rfl c2_ ?_
 refine .seqR ?_
 refine .rr 2 ?_
 refine .tt [(1,.ptr 1 0 0),(4,.i a0.Kind),(25,.b (a0.Kind == 2))] (H6 a0) (.nil ?_)
 replace h := isome h;rcases h with ⟨c8,h⟩ | ⟨c8,h⟩
 ·have c8_ : (a0.Kind == 2) = true := c8
  refine .condT rfl c8_ ?_
  replace h := bsome h;obtain ⟨v11,hj,h⟩ := h
  refine .cutR (mk 51 [] [(2,.b v11)] []) ?_ ?_
  ·clear h;have h := hj;clear hj
   refine .rr 4 ?_
   refine .tt [(1,.ptr 1 0 0),(30,.b (decide (a0.Text = (ByteArray.mk #[]))))] (H6 a0) ?_
   replace h := isome h;rcases h with ⟨c12,h⟩ | ⟨c12,h⟩
   ·have c12_ : decide (a0.Text = (ByteArray.mk #[])) = true := c12
    refine .sub (.bool 30 rfl c12_) ?_
    refine .st (mk 51 [] [(1,.ptr 1 0 0),(30,.b true)] (H6 a0)) ?_
    refine .rr 4 ?_
    refine .tt [(1,.ptr 1 0 0),(30,.b true),(34,.b (a0.Int == 0))] (H6 a0) ?_
    replace h := isome h;rcases h with ⟨c13,h⟩ | ⟨c13,h⟩
    ·have c13_ : (a0.Int == 0) = true := c13
     refine .sub (.bool 34 rfl c13_) ?_
     refine .st (mk 51 [] [(1,.ptr 1 0 0),(30,.b true),(34,.b true)] (H6 a0)) ?_
     refine .rr 6 ?_
     refine .tt [(2,.b true)] [] ?_
     cases h
     exact .nil .tt
    have c13_ : (a0.Int == 0) = false := Bool.eq_false_iff.2 c13
    refine .sub (.bool 34 rfl c13_) ?_
    refine .st (mk 51 [] [(1,.ptr 1 0 0),(30,.b true),(34,.b false)] (H6 a0)) ?_
    refine .rr 6 ?_
    refine .tt [(2,.b (a0.Int == 1))] [] ?_
    cases h
    exact .nil .tt
   have c12_ : decide (a0.Text = (ByteArray.mk #[])) = false := Bool.eq_false_iff.2 c12
   refine .sub (.bool 30 rfl c12_) ?_
   refine .st (mk 51 [] [(1,.ptr 1 0 0),(30,.b false)] (H6 a0)) ?_
   refine .rr 10 ?_
   refine .tt [(2,.b false)] [] ?_
   cases h
   exact .nil .tt
  clear hj
  refine .ret ?_
  cases h
  refine blockQ.ret ?_
  refine thenQ_ps ?_
  exact FinC.rs
 have c8_ : (a0.Kind == 2) = false := Bool.eq_false_iff.2 c8
 refine .condF rfl c8_ ?_
 refine .seqR ?_
 refine .rr 2 ?_
 refine .tt [(1,.ptr 1 0 0),(40,.b (a0.Kind == 3))] (H6 a0) (.nil ?_)
 replace h := isome h;rcases h with ⟨c14,h⟩ | ⟨c14,h⟩
 ·have c14_ : (a0.Kind == 3) = true := c14
  refine .condT rfl c14_ ?_
  replace h := bsome h;obtain ⟨v16,hj,h⟩ := h
  refine .cutR (mk 51 [] [(2,.b v16)] []) ?_ ?_
  ·clear h;have h := hj;clear hj
   refine .rr 4 ?_
   refine .tt [(1,.ptr 1 0 0),(45,.b (a0.Int == 0))] (H6 a0) ?_
   replace h := isome h;rcases h with ⟨c17,h⟩ | ⟨c17,h⟩
   ·have c17_ : (a0.Int == 0) = true := c17
    refine .sub (.bool 45 rfl c17_) ?_
    refine .st (mk 51 [] [(1,.ptr 1 0 0),(45,.b true)] (H6 a0)) ?_
    refine .rr 6 ?_
    refine .tt [(2,.b (decide ((a0.Text.size : Int) ≤ 24)))] [] ?_
    cases h
    exact .nil .tt
   have c17_ : (a0.Int == 0) = false := Bool.eq_false_iff.2 c17
   refine .sub (.bool 45 rfl c17_) ?_
   refine .st (mk 51 [] [(1,.ptr 1 0 0),(45,.b false)] (H6 a0)) ?_
   refine .rr 6 ?_
   refine .tt [(2,.b false)] [] ?_
   cases h
   exact .nil .tt
  clear hj
  refine .ret ?_
  cases h
  refine blockQ.ret ?_
  refine thenQ_ps ?_
  exact FinC.rs
 have c14_ : (a0.Kind == 3) = false := Bool.eq_false_iff.2 c14
 refine .condF rfl c14_ ?_
 refine .skip (blockQ.normal (thenQ_normal (.seqR ?_)))
 refine .rr 1 ?_
 refine .tt [(2,.b false)] [] (.nil (.ret ?_))
 cases h
 exact FinC.rs
def d67 (N : Nat) (a0 : S61) : Option Bool :=
 (d68 N a0).bind fun r1 =>
 some (!r1)
theorem p67 (N : Nat) (a0 : S61) (r : Bool) (h : d67 N a0 = some r) : FunC Tryz.prog 67 [.agg [.i a0.Kind,.i a0.Int,.s a0.Text]] (.b r) := by
 unfold d67 at h
 refine FunC.enter 6 [(0,.agg [.i a0.Kind,.i a0.Int,.s a0.Text])] (by simp) Tryz.func67 rfl (of_decide_eq_true rfl) rfl rfl ?_
 refine .seqR ?_
 refine .rr 2 ?_
 refine .tt [(1,.ptr 1 0 0)] (H6 a0) (.nil (.seqR ?_))
 refine .rr 1 ?_
 refine .tt [(3,.agg [.i a0.Kind,.i a0.Int,.s a0.Text])] [] ?_
 replace h := bsome h;obtain ⟨r1,hr1,h⟩ := h
 refine .callL (d := 4) (p68 N a0 r1 hr1) (by simp) rfl rfl (by simp <;> rfl) (by simp <;> rfl) ent68 (by simp <;> rfl) ?_
 refine .st (mk 6 [] [(3,.agg [.i a0.Kind,.i a0.Int,.s a0.Text]),(4,.b r1)] []) ?_
 refine .rr 2 ?_
 refine .tt [(2,.b (!r1))] [] (.nil (.ret ?_))
 cases h
 exact FinC.rs
def d65 (N : Nat) (a0 : (List S61)) : Option Bool :=
 (d66 N a0 (fun b0 => d67 N b0 )).bind fun r1 =>
 some r1
theorem p65 (N : Nat) (a0 : (List S61)) (r : Bool) (h : d65 N a0 = some r) : FunC Tryz.prog 65 [.s61 a0] (.b r) := by
 unfold d65 at h
 refine FunC.enter 5 [(0,.s61 a0)] (by simp) Tryz.func65 rfl (of_decide_eq_true rfl) rfl rfl ?_
 refine .seqR ?_
 refine .rr 1 ?_
 refine .tt [(0,.s61 a0)] [] (.nil (.seqR ?_))
 refine .rr 1 ?_
 refine .tt [(3,.s61 a0)] [] ?_
 replace h := bsome h;obtain ⟨r1,hr1,h⟩ := h
 refine .callL (d := 4) (FunC.argsF (args := [.s61 a0,.d (.lit (.func (.func 67) #[] #[]))]) (p66 N a0 67 [] (fun b0 => d67 N b0 ) ent67 (fun b0 r h => p67 N b0  r h) r1 hr1) (by simp [V.wf]) rfl) (by simp) rfl rfl (by simp <;> rfl) (by simp <;> rfl) ent66 (by simp <;> rfl) ?_
 refine .st (mk 5 [] [(3,.s61 a0),(4,.b r1)] []) ?_
 refine .rr 1 ?_
 refine .tt [(2,.b r1)] [] (.nil (.ret ?_))
 cases h
 exact FinC.rs
def d29 (N : Nat) (a0 : (List (List S61))) : Option Bool :=
 (d56 N a0 (fun b0 => d65 N b0 )).bind fun r1 =>
 some (!r1)
theorem p29 (N : Nat) (a0 : (List (List S61))) (r : Bool) (h : d29 N a0 = some r) : FunC Tryz.prog 29 [.ls61 a0] (.b r) := by
 unfold d29 at h
 refine FunC.enter 6 [(0,.ls61 a0)] (by simp) Tryz.func29 rfl (of_decide_eq_true rfl) rfl rfl ?_
 refine .seqR ?_
 refine .rr 1 ?_
 refine .tt [(0,.ls61 a0)] [] (.nil (.seqR ?_))
 refine .rr 1 ?_
 refine .tt [(3,.ls61 a0)] [] ?_
 replace h := bsome h;obtain ⟨r1,hr1,h⟩ := h
 refine .callL (d := 4) (FunC.argsF (args := [.ls61 a0,.d (.lit (.func (.func 65) #[] #[]))]) (p56 N a0 65 [] (fun b0 => d65 N b0 ) ent65 (fun b0 r h => p65 N b0  r h) r1 hr1) (by simp [V.wf]) rfl) (by simp) rfl rfl (by simp <;> rfl) (by simp <;> rfl) ent56 (by simp <;> rfl) ?_
 refine .st (mk 6 [] [(3,.ls61 a0),(4,.b r1)] []) ?_
 refine .rr 2 ?_
 refine .tt [(2,.b (!r1))] [] (.nil (.ret ?_))
 cases h
 exact FinC.rs
theorem p82 (_ : Nat) (a1 : Int) {u : Unit} (h : growL 8 a1 = some u) : FunO Tryz.prog 82 [.z,.d (.lit (.int .i64 a1))] (.ref 0 0 ([] : (List Int)).length) (.arr 3 1 (([] : (List Int)).map (cI .i64))) := by
 obtain ⟨k,rfl,hb⟩ := growL_some h
 refine FunO.enter 27 [(0,.z),(1,.i k)] Tryz.func82 rfl (of_decide_eq_true rfl) rfl rfl ?_
 refine .goR [] 1 fun K hK => ?_;simp;refine hK _ ?_;clear hK K
 refine .seq ?_
 refine .goR [] 2 fun K hK => ?_;simp;refine hK _ ?_;clear hK K
 have hkn : ¬ ((k : Int) < 0) := by omega
 refine .condK fun K1 K2 k1 k2 => ?_;simp [hkn];refine k2 ?_;clear k1 k2 K1 K2
 refine .skip (thenQ_normal (.seq (.seqR ?_)))
 refine .runK [] 2 fun K hK => ?_;simp;refine hK _ _ ?_;clear hK K
 refine .pureP (by simp) (pure_capNil rfl rfl rfl ty22 rfl rfl) ?_
 have hw0 : IntKind.i64.wrap 0 = 0 := rfl
 have hw : IntKind.i64.wrap (k : Int) = k := wrap_ok ⟨by omega,by unfold Rp.reach at hb;omega⟩
 refine .runK [] 5 fun K hK => ?_;simp [hw,hw0];refine hK _ _ ?_;clear hK K
 refine .nil ?_
 refine .goR [] 2 fun K hK => ?_;simp;refine hK _ ?_;clear hK K
 rcases Nat.eq_zero_or_pos k with hk | hk
 ·subst hk
  refine .condK fun K1 K2 k1 k2 => ?_;simp;refine k2 ?_;clear k1 k2 K1 K2
  refine .skip (thenQ_normal ?_)
  refine .goR [] 2 fun K hK => ?_;simp;refine hK _ ?_;clear hK K
  refine .sub (.nilOwn (t := 4) (id := 900) (T := 3) (n := 1) rfl rfl (by decide)) ?_
  refine .st (mk 27 [] [(4,.ref 900 0 0)] [(900,some (.arr 3 1 []))]) (.ret ?_)
  exact FinO.ret (.ref 900 0 0) 900 (by simp) (by simp) (by simp) (by simp) rfl
 have hk0 : ¬ k = 0 := by omega
 refine .condK fun K1 K2 k1 k2 => ?_;simp [hk];refine k1 ?_;clear k1 k2 K1 K2
 refine .region ?_
 refine .runK [] 2 fun K hK => ?_;simp;refine hK _ _ ?_;clear hK K
 refine .pureP (by simp) (pure_capNil rfl rfl rfl ty22 rfl rfl) ?_
 refine .pureP (by simp) (pure_sliceNil ty22 rfl ty3 rfl rfl) ?_
 refine .runK [] 1 fun K hK => ?_;simp;refine hK _ _ ?_;clear hK K
 refine Chain.appMk (d := 22) (n := k) (te := ⟨_,1,8,_⟩) (by simp) rfl rfl rfl rfl ty22 rfl ty3 rfl ty3 rfl (by simp) rfl rfl hk (by decide) (by decide) rfl rfl hb ?_
 simp
 refine .tt [(0,.z),(22,.ref 22 0 k)] [(22,some (.arr 3 1 (List.replicate k [.lit (.int .i64 0)])))] ?_
 refine .runK [] 4 fun K hK => ?_;simp;refine hK _ _ ?_;clear hK K
 refine .nil (thenQ_normal ?_)
 refine .goR [] 2 fun K hK => ?_;simp;refine hK _ ?_;clear hK K
 refine .sub (.cut 22 0 rfl) ?_
 refine .st (mk 27 [] [(4,.ref 22 0 0)] [(22,some (.arr 3 1 []))]) (.ret ?_)
 exact FinO.ret (.ref 22 0 0) 22 (by simp) (by simp) (by simp) (by simp) rfl
def d37 (N : Nat) (a0 : (List (List Int))) : Option (List Int) :=
 Option.bind (α := Int) (
  iterN (σ := (Int × Int)) (ρ := Int) (fun ((v6,v7) : (Int × Int)) =>
   if v7 < (a0.length : Int) then (
    (idx a0 v7).bind fun x24 =>
    (chkI (v6 + (x24.length : Int))).bind fun v26 =>
    if v26 < 0 then (
     none
    ) else
    (chkI (v7 + 1)).bind fun v28 =>
    some (.inl (v26,v28))
   ) else
   some (.inr v6)
  ) N (0,0)
 ) fun (v22 : Int) =>
 (growL 8 v22).bind fun _ =>
 Option.bind (α := List Int) (
  iterN (σ := ((List Int) × Int)) (ρ := List Int) (fun ((l34,v35) : ((List Int) × Int)) =>
   if v35 < (a0.length : Int) then (
    (idx a0 v35).bind fun x50 =>
    (appL 8 l34 x50).bind fun _l52 =>
    (chkI (v35 + 1)).bind fun v53 =>
    some (.inl ((l34 ++ x50),v53))
   ) else
   some (.inr l34)
  ) N (([] : List Int),0)
 ) fun (l48 : List Int) =>
 some l48
theorem p37 (N : Nat) (a0 : (List (List Int))) (r : (List Int)) (h : d37 N a0 = some r) : FunC Tryz.prog 37 [.lsi a0] (.si r) := by
 unfold d37 at h
 refine FunC.enter 36 [(0,.lsi a0)] (by simp) Tryz.func37 rfl (of_decide_eq_true rfl) rfl rfl ?_
 refine .seqR ?_
 refine .rr 1 ?_
 refine .tt [(0,.lsi a0)] [] (.nil (.seqR ?_))
 refine .rr 1 ?_
 refine .tt [(0,.lsi a0),(3,.i 0)] [] (.nil (.seq (.seqR ?_)))
 refine .rr 3 ?_
 refine .tt [(0,.lsi a0),(3,.i 0),(9,.lsi a0),(10,.i (a0.length : Int)),(11,.i 0)] [] (.nil ?_)
 refine .lastN (fun (v22 : Int) => mk 36 [] [(0,.lsi a0),(3,.i v22)] []) h ?_ ?_ <;> clear h
 ·intro o h
  refine .block ?_
  refine .iter (fun ((v6,v7) : (Int × Int)) => mk 36 [] (L10 a0 v6 a0.length v7) []) h Sub.tt ?_
  clear h
  rintro ⟨v6,v7⟩ x h
  dsimp only at h ⊢
  refine .seqR ?_
  refine .rr 1 ?_
  refine .tt (L10 a0 v6 a0.length v7 ++ [(12,.b (decide (v7 < (a0.length : Int))))]) [] (.nil (.seq ?_))
  replace h := isome h;rcases h with ⟨c23,h⟩ | ⟨c23,h⟩
  ·have c23_ : decide (v7 < (a0.length : Int)) = true := decide_eq_true c23
   refine .condT rfl c23_ ?_
   refine .skip (thenQ_normal (.seq (.block (.seqR ?_))))
   replace h := xsome h;obtain ⟨x24,k25,hx24k,hx24,hx24a,hx24b,h⟩ := h
   refine .rk 3 fun K k => ?_;simp [hx24,hx24k,hx24a];refine k ?_
   refine .tt [(0,.lsi a0),(3,.i v6),(5,.si x24),(9,.lsi a0),(10,.i (a0.length : Int)),(11,.i v7)] [] (.nil (.seqR ?_))
   replace h := csome h;obtain ⟨v26,hv26,h⟩ := h
   refine .rk 5 fun K k => ?_;simp [hv26];refine k ?_
   refine .tt (L10 a0 v26 a0.length v7) [] (.nil (.seqR ?_))
   refine .rr 2 ?_
   refine .tt (L10 a0 v26 a0.length v7 ++ [(20,.b (decide (v26 < 0)))]) [] (.nil ?_)
   replace h := isome h;rcases h with ⟨c27,h⟩ | ⟨c27,h⟩
   ·have c27_ : decide (v26 < 0) = true := decide_eq_true c27
    refine .condT rfl c27_ ?_
    cases h
   have c27_ : decide (v26 < 0) = false := decide_eq_false c27
   refine .condF rfl c27_ ?_
   refine .skip (blockQ.normal (thenQ_normal (.region ?_)))
   replace h := csome h;obtain ⟨v28,hv28,h⟩ := h
   refine .rk 2 fun K k => ?_;simp [hv28];refine k ?_
   refine .tt (L10 a0 v26 a0.length v28) [] (.nil ?_)
   cases h
   refine PostI.next ?_
   exact Sub.tt
  have c23_ : decide (v7 < (a0.length : Int)) = false := decide_eq_false c23
  refine .condF rfl c23_ ?_
  refine .exit ?_
  cases h
  refine thenQ_ps ?_
  refine PostI.os ?_
  rintro rfl
  refine blockQ.hit (PostN.next ?_)
  exact Sub.tt
 rintro v22 h
 refine thenQ_normal (.seqR ?_)
 refine .rr 1 ?_
 refine .tt [(0,.lsi a0),(23,.i v22)] [] ?_
 replace h := bsome h;obtain ⟨g29,hg29,h⟩ := h
 refine .callO (d := 24) (p82 N v22 hg29) (by simp) rfl rfl (by simp <;> rfl) (by simp <;> rfl) ent82 (by simp) ⟨by simp,by simp⟩ ?_
 refine .st (mk 36 [] [(0,.lsi a0),(23,.i v22),(24,.ref 24 0 (([] : List Int).length))] [(24,R3 ([] : List Int))]) ?_
 refine .rr 1 ?_
 refine .tt [(0,.lsi a0),(6,.ref 24 0 (([] : List Int).length))] [(24,R3 ([] : List Int))] (.nil (.seq (.seqR ?_)))
 refine .rr 3 ?_
 refine .tt [(6,.ref 24 0 (([] : List Int).length)),(25,.lsi a0),(26,.i (a0.length : Int)),(27,.i 0)] [(24,R3 ([] : List Int))] (.nil ?_)
 refine .lastN (fun (l48 : List Int) => mk 36 [] [(6,.ref 24 0 l48.length)] [(24,R3 l48)]) h ?_ ?_ <;> clear h
 ·intro o h
  refine .block ?_
  refine .iter (fun ((l34,v35) : ((List Int) × Int)) => mk 36 [] [(6,.ref 24 0 l34.length),(25,.lsi a0),(26,.i (a0.length : Int)),(27,.i v35)] [(24,R3 l34)]) h Sub.tt ?_
  clear h
  rintro ⟨l34,v35⟩ x h
  dsimp only at h ⊢
  refine .seqR ?_
  refine .rr 1 ?_
  refine .tt [(6,.ref 24 0 l34.length),(25,.lsi a0),(26,.i (a0.length : Int)),(27,.i v35),(28,.b (decide (v35 < (a0.length : Int))))] [(24,R3 l34)] (.nil (.seq ?_))
  replace h := isome h;rcases h with ⟨c49,h⟩ | ⟨c49,h⟩
  ·have c49_ : decide (v35 < (a0.length : Int)) = true := decide_eq_true c49
   refine .condT rfl c49_ ?_
   refine .skip (thenQ_normal (.seq (.block (.seqR ?_))))
   replace h := xsome h;obtain ⟨x50,k51,hx50k,hx50,hx50a,hx50b,h⟩ := h
   refine .rk 3 fun K k => ?_;simp [hx50,hx50k,hx50a];refine k ?_
   refine .tt [(6,.ref 24 0 l34.length),(8,.si x50),(25,.lsi a0),(26,.i (a0.length : Int)),(27,.i v35)] [(24,R3 l34)] (.nil (.region ?_))
   replace h := bsome h;obtain ⟨l52,hl52,h⟩ := h
   obtain ⟨hl52a,hl52⟩ := appL_some hl52
   subst hl52
   try simp only [List.length_append,List.length_cons,List.length_nil,Nat.zero_add,Nat.mul_one] at hl52a
   refine .rk 4 fun K k => ?_;simp [hl52a];refine k ?_
   refine .tt [(6,.ref 24 0 ((l34 ++ x50).length)),(25,.lsi a0),(26,.i (a0.length : Int)),(27,.i v35)] [(24,R3 (l34 ++ x50))] (.nil (blockQ.normal (thenQ_normal (.region ?_))))
   replace h := csome h;obtain ⟨v53,hv53,h⟩ := h
   refine .rk 2 fun K k => ?_;simp [hv53];refine k ?_
   refine .tt [(6,.ref 24 0 ((l34 ++ x50).length)),(25,.lsi a0),(26,.i (a0.length : Int)),(27,.i v53)] [(24,R3 (l34 ++ x50))] (.nil ?_)
   cases h
   refine PostI.next ?_
   exact Sub.tt
  have c49_ : decide (v35 < (a0.length : Int)) = false := decide_eq_false c49
  refine .condF rfl c49_ ?_
  refine .exit ?_
  cases h
  refine thenQ_ps ?_
  refine PostI.os ?_
  rintro rfl
  refine blockQ.hit (PostN.next ?_)
  exact Sub.tt
 rintro l48 h
 refine thenQ_normal (.seqR ?_)
 refine .rr 2 ?_
 refine .tt [(2,.ref 24 0 l48.length)] [(24,R3 l48)] (.nil ?_)
 refine .sub (.freeze 24 rfl) ?_
 refine .st (mk 36 [] [(2,.si l48)] []) (.ret ?_)
 cases h
 exact FinC.rs
def d83 (_ : Nat) (a0 : (List Bool)) : Option (List Bool) := if a0.length * 1 ≤ Rp.reach then some a0 else none
theorem p83 (N : Nat) (a0 : (List Bool)) (r : (List Bool)) (h : d83 N a0 = some r) : FunO Tryz.prog 83 [.sb a0] (.ref 0 0 r.length) (.arr 4 1 (r.map cB)) := by
 obtain ⟨hz,h⟩ := gsome h
 cases h
 simp only [Nat.mul_one] at hz
 refine FunO.enter 8 [(0,.sb a0)] Tryz.func83 rfl (of_decide_eq_true rfl) rfl rfl ?_
 refine .goR [] 1 fun K k => ?_;simp;refine k _ ?_;clear k K
 refine .seq (.seqR ?_)
 refine .rr 1 ?_
 refine .eqNilE (es := a0.map cB) (by simp) rfl ty35 rfl (by simp) (by simp) fun b hb => ?_
 refine .nil ?_
 cases b with
 | true =>
  have he : a0 = [] := by
   cases a0 with
   | nil => rfl
   | cons x xs => exact absurd (hb (by simp)) (by simp)
  subst he
  refine .condK fun K1 K2 k1 k2 => ?_;simp;refine k1 ?_;clear k1 k2 K1 K2
  refine .goR [] 1 fun K k => ?_;simp;refine k _ ?_;clear k K
  refine .sub (.nilOwn (t := 2) (id := 902) (T := 4) (n := 1) rfl rfl (by decide)) ?_
  refine .st (mk 8 [] [(2,.ref 902 0 0)] [(902,some (.arr 4 1 []))]) (.ret ?_)
  exact thenQ_pass (by simp) (FinO.ret (.ref 902 0 0) 902 (by simp) (by simp) (by simp) (by simp) rfl)
 | false =>
  refine .condK fun K1 K2 k1 k2 => ?_;simp;refine k2 ?_;clear k1 k2 K1 K2
  refine .skip (thenQ_normal ?_)
  refine .goR [] 4 fun K k => ?_;simp [hz];refine k _ ?_;clear k K
  refine .tt [(2,.ref 5 0 a0.length)] [(5,R4 a0)] (.ret ?_)
  exact FinO.ret (.ref 5 0 a0.length) 5 (by simp) (by simp) (by simp) (by simp) rfl
def d73 (_N : Nat) (a0 : (List S61)) (a1 : Int) : Option Bool :=
 some (decide (a1 ≥ (a0.length : Int)))
theorem p73 (N : Nat) (a0 : (List S61)) (a1 : Int) (r : Bool) (h : d73 N a0 a1 = some r) : FunC Tryz.prog 73 [.s61 a0,.d (.pim [.lit (.int .i64 a1)])] (.b r) := by
 unfold d73 at h
 refine FunC.enter 8 [(0,.s61 a0),(1,.d (.pim [.lit (.int .i64 a1)]))] (by simp) Tryz.func73 rfl (of_decide_eq_true rfl) rfl rfl ?_
 refine .seqR ?_
 refine .rr 1 ?_
 refine .tt [(0,.s61 a0),(1,.d (.pim [.lit (.int .i64 a1)]))] [] (.nil (.seqR ?_))
 refine .rr 5 ?_
 refine .tt [(3,.b (decide (a1 ≥ (a0.length : Int))))] [] (.nil (.ret ?_))
 cases h
 exact FinC.rs
def d31 (N : Nat) (a0 : (List (List S61))) (a1 : S65) (a2 : Int) : Option Int :=
 if (a0.length : Int) > 600 then (
  some 2
 ) else
 Option.bind (α := Bool) (
  if a2 < 2 then (
   some true
  ) else
  some (decide (a2 > 64))
 ) fun (v3 : Bool) =>
 if v3 = true then (
  some 1
 ) else
 if (a1.Descending.length : Int) > (a1.Columns.length : Int) then (
  some 3
 ) else
 bindO (β := Unit) (ρ := Int) (
  iterN (σ := Int) (ρ := (Out Unit Int)) (fun (v16 : Int) =>
   if v16 < (a1.Columns.length : Int) then (
    (idx a1.Columns v16).bind fun x39 =>
    Option.bind (α := Bool) (
     if x39 < 0 then (
      some true
     ) else
     (d56 N a0 (fun b0 => d73 N b0 x39)).bind fun r45 =>
     some r45
    ) fun (v43 : Bool) =>
    if v43 = true then (
     some (.inr (.ret 3))
    ) else
    (chkI (v16 + 1)).bind fun v47 =>
    some (.inl v47)
   ) else
   some (.inr (.go ()))
  ) N 0
 ) fun (_ : Unit) =>
 some 0
theorem p31 (N : Nat) (a0 : (List (List S61))) (a1 : S65) (a2 : Int) (r : Int) (h : d31 N a0 a1 a2 = some r) : FunC Tryz.prog 31 [.ls61 a0,.agg [.si a1.Columns,.sb a1.Descending],.i a2] (.i r) := by
 unfold d31 at h
 refine FunC.enter 40 [(0,.ls61 a0),(1,.agg [.si a1.Columns,.sb a1.Descending]),(2,.i a2)] (by simp) Tryz.func31 rfl (of_decide_eq_true rfl) rfl rfl ?_
 refine .seqR ?_
 refine .rr 2 ?_
 refine .tt (L11 a0 a2) (H7 a1) (.nil (.seq (.seqR ?_)))
 refine .rr 3 ?_
 refine .tt (L11 a0 a2 ++ [(11,.b (decide ((a0.length : Int) > 600)))]) (H7 a1) (.nil ?_)
 replace h := isome h;rcases h with ⟨c1,h⟩ | ⟨c1,h⟩
 ·have c1_ : decide ((a0.length : Int) > 600) = true := decide_eq_true c1
  refine .condT rfl c1_ ?_
  refine .seqR ?_
  refine .rr 1 ?_
  refine .tt [(6,.i 2)] [] (.nil (.ret ?_))
  cases h
  refine thenQ_ps ?_
  exact FinC.rs
 have c1_ : decide ((a0.length : Int) > 600) = false := decide_eq_false c1
 refine .condF rfl c1_ ?_
 refine .skip (thenQ_normal (.seq ?_))
 replace h := bsome h;obtain ⟨v3,hj,h⟩ := h
 refine .cutR (mk 40 [] [(0,.ls61 a0),(4,.ptr 4 0 0),(17,.b v3)] (H7 a1)) ?_ ?_
 ·clear h;have h := hj;clear hj
  refine .rr 3 ?_
  refine .tt (L11 a0 a2 ++ [(14,.b (decide (a2 < 2)))]) (H7 a1) ?_
  replace h := isome h;rcases h with ⟨c4,h⟩ | ⟨c4,h⟩
  ·have c4_ : decide (a2 < 2) = true := decide_eq_true c4
   refine .sub (.bool 14 rfl c4_) ?_
   refine .st (mk 40 [] (L11 a0 a2 ++ [(14,.b true)]) (H7 a1)) ?_
   refine .rr 3 ?_
   refine .tt [(0,.ls61 a0),(4,.ptr 4 0 0),(17,.b true)] (H7 a1) ?_
   cases h
   exact .nil .tt
  have c4_ : decide (a2 < 2) = false := decide_eq_false c4
  refine .sub (.bool 14 rfl c4_) ?_
  refine .st (mk 40 [] (L11 a0 a2 ++ [(14,.b false)]) (H7 a1)) ?_
  refine .rr 3 ?_
  refine .tt [(0,.ls61 a0),(4,.ptr 4 0 0),(17,.b (decide (a2 > 64)))] (H7 a1) ?_
  cases h
  exact .nil .tt
 clear hj
 replace h := isome h;rcases h with ⟨c5,h⟩ | ⟨c5,h⟩
 ·have c5_ : v3 = true := c5
  refine .condT rfl c5_ ?_
  refine .seqR ?_
  refine .rr 1 ?_
  refine .tt [(6,.i 1)] [] (.nil (.ret ?_))
  cases h
  refine thenQ_ps ?_
  exact FinC.rs
 have c5_ : v3 = false := Bool.eq_false_iff.2 c5
 refine .condF rfl c5_ ?_
 refine .skip (thenQ_normal (.seq (.seqR ?_)))
 refine .rr 7 ?_
 refine .tt [(0,.ls61 a0),(4,.ptr 4 0 0),(24,.b (decide ((a1.Descending.length : Int) > (a1.Columns.length : Int))))] (H7 a1) (.nil ?_)
 replace h := isome h;rcases h with ⟨c6,h⟩ | ⟨c6,h⟩
 ·have c6_ : decide ((a1.Descending.length : Int) > (a1.Columns.length : Int)) = true := decide_eq_true c6
  refine .condT rfl c6_ ?_
  refine .seqR ?_
  refine .rr 1 ?_
  refine .tt [(6,.i 3)] [] (.nil (.ret ?_))
  cases h
  refine thenQ_ps ?_
  exact FinC.rs
 have c6_ : decide ((a1.Descending.length : Int) > (a1.Columns.length : Int)) = false := decide_eq_false c6
 refine .condF rfl c6_ ?_
 refine .skip (thenQ_normal (.seq (.seqR ?_)))
 refine .rr 4 ?_
 refine .tt [(0,.ls61 a0),(26,.si a1.Columns),(27,.i (a1.Columns.length : Int)),(28,.i 0)] [] (.nil ?_)
 refine .lastJ (fun (_ : Unit) => mk 40 [] [] []) h ?_ ?_ <;> clear h
 ·intro o h
  refine .block ?_
  refine .iter (fun (v16 : Int) => mk 40 [] (L12 a0 a1.Columns a1.Columns.length v16) []) h Sub.tt ?_
  clear h
  rintro v16 x h
  refine .seqR ?_
  refine .rr 1 ?_
  refine .tt (L12 a0 a1.Columns a1.Columns.length v16 ++ [(29,.b (decide (v16 < (a1.Columns.length : Int))))]) [] (.nil (.seq ?_))
  replace h := isome h;rcases h with ⟨c38,h⟩ | ⟨c38,h⟩
  ·have c38_ : decide (v16 < (a1.Columns.length : Int)) = true := decide_eq_true c38
   refine .condT rfl c38_ ?_
   refine .skip (thenQ_normal (.seq (.block (.seqR ?_))))
   replace h := xsome h;obtain ⟨x39,k40,hx39k,hx39,hx39a,hx39b,h⟩ := h
   refine .rk 4 fun K k => ?_;simp [hx39,hx39k,hx39a];refine k ?_
   refine .tt (L13 a0 a1.Columns a1.Columns.length v16) [(8,some (.box [.i x39]))] (.nil ?_)
   replace h := bsome h;obtain ⟨v43,hj,h⟩ := h
   refine .cutR (mk 40 [] (L12 a0 a1.Columns a1.Columns.length v16 ++ [(38,.b v43)]) []) ?_ ?_
   ·clear h;have h := hj;clear hj
    refine .rr 3 ?_
    refine .tt (L13 a0 a1.Columns a1.Columns.length v16 ++ [(34,.b (decide (x39 < 0)))]) [(8,some (.box [.i x39]))] ?_
    replace h := isome h;rcases h with ⟨c44,h⟩ | ⟨c44,h⟩
    ·have c44_ : decide (x39 < 0) = true := decide_eq_true c44
     refine .sub (.bool 34 rfl c44_) ?_
     refine .st (mk 40 [] (L13 a0 a1.Columns a1.Columns.length v16 ++ [(34,.b true)]) [(8,some (.box [.i x39]))]) ?_
     refine .rr 4 ?_
     refine .tt (L12 a0 a1.Columns a1.Columns.length v16 ++ [(35,.tup []),(36,.tup []),(37,.tup []),(38,.b true)]) [] ?_
     cases h
     exact .nil .tt
    have c44_ : decide (x39 < 0) = false := decide_eq_false c44
    refine .sub (.bool 34 rfl c44_) ?_
    refine .st (mk 40 [] (L13 a0 a1.Columns a1.Columns.length v16 ++ [(34,.b false)]) [(8,some (.box [.i x39]))]) ?_
    refine .rr 2 ?_
    refine .tt (L12 a0 a1.Columns a1.Columns.length v16 ++ [(34,.b false),(35,.ls61 a0),(36,.fn (.func 73) [.ptr 8 0 0])]) [(8,some (.box [.i x39]))] ?_
    replace h := bsome h;obtain ⟨r45,hr45,h⟩ := h
    refine .callL (d := 37) (p56 N a0 73 [.pim [.lit (.int .i64 x39)]] (fun b0 => d73 N b0 x39) ent73 (fun b0 r h => p73 N b0 x39 r h) r45 hr45) (by simp) rfl rfl (by simp <;> rfl) (by simp <;> rfl) ent56 (by simp <;> rfl) ?_
    refine .st (mk 40 [] (L12 a0 a1.Columns a1.Columns.length v16 ++ [(34,.b false),(35,.ls61 a0),(36,.fn (.func 73) [.ptr 8 0 0]),(37,.b r45)]) [(8,some (.box [.i x39]))]) ?_
    refine .rr 1 ?_
    refine .tt (L12 a0 a1.Columns a1.Columns.length v16 ++ [(35,.ls61 a0),(36,.fn (.func 73) [.ptr 8 0 0]),(37,.b r45),(38,.b r45)]) [(8,some (.box [.i x39]))] ?_
    cases h
    exact .nil .tt
   clear hj
   replace h := isome h;rcases h with ⟨c46,h⟩ | ⟨c46,h⟩
   ·have c46_ : v43 = true := c46
    refine .condT rfl c46_ ?_
    refine .seqR ?_
    refine .rr 1 ?_
    refine .tt [(6,.i 3)] [] (.nil (.ret ?_))
    cases h
    refine blockQ.ret ?_
    refine thenQ_ps ?_
    refine PostI.os ?_
    rintro rfl
    refine blockQ.ret ?_
    refine PostJ.out (by simp) ?_
    rintro rfl
    refine thenQ_ps ?_
    exact FinC.rs
   have c46_ : v43 = false := Bool.eq_false_iff.2 c46
   refine .condF rfl c46_ ?_
   refine .skip (blockQ.normal (thenQ_normal (.region ?_)))
   replace h := csome h;obtain ⟨v47,hv47,h⟩ := h
   refine .rk 2 fun K k => ?_;simp [hv47];refine k ?_
   refine .tt (L12 a0 a1.Columns a1.Columns.length v47) [] (.nil ?_)
   cases h
   refine PostI.next ?_
   exact Sub.tt
  have c38_ : decide (v16 < (a1.Columns.length : Int)) = false := decide_eq_false c38
  refine .condF rfl c38_ ?_
  refine .exit ?_
  cases h
  refine thenQ_ps ?_
  refine PostI.os ?_
  rintro rfl
  refine blockQ.hit (PostJ.next ?_)
  exact Sub.tt
 rintro ⟨⟩ h
 refine thenQ_normal (.seqR ?_)
 refine .rr 1 ?_
 refine .tt [(6,.i 0)] [] (.nil (.ret ?_))
 cases h
 exact FinC.rs
set_option maxHeartbeats 2000000 in
attribute [local go_sem] Oper.semAt_some in
open Go.RowKit Go.Shelf in
theorem cc132 : ChunkC Tryz.prog 132 1 := by
 intro pb po qb qo l N n J Jx W hN hn hn2 hdr hbase hY h0
 refine callsIn_of_wp Tryz.func132 rfl trivial ?_ rfl
 simp only [show Tryz.f132.ntmps = 31 from rfl,List.size_toArray,List.length_cons,List.length_nil,Nat.reduceAdd,Nat.reduceSub,Array.replicate_succ,Array.replicate_zero,List.push_toArray,List.append_toArray,List.nil_append,List.cons_append]
 gi_wp2
 gi_loopw [4] (fun i wr => ∃ k j : Nat,k * n = j ∧ i = .int .i64 (j : Int) ∧ j < N + n ∧ J k wr) (fun i _ => (N + n - intOf i).toNat)
 case atStart => exact ⟨0,0,by simp,rfl,by omega,h0⟩
 case round =>
  obtain ⟨k,j,hj,rfl,hk,hJs⟩ := hrel
  obtain ⟨⟨A,cap,hb0⟩,hq0⟩ := hbase k wr hJs
  by_cases hlt : j < N
  ·gi_wp2
   have hjc : (j : Int) ≤ N := by omega
   have hj0 : ¬ (j : Int) < 0 := by omega
   obtain ⟨b,off,hA,hcj⟩ : ∃ b off,A = some ⟨b,off,none⟩ ∧ ¬ cap = j := by
    obtain ⟨_,⟨b,off,cap',hc,hcap,_⟩,_⟩ := hY k wr (by omega) hJs
    rw [hb0] at hc
    injection hc with hc
    injection hc with hc _ hc2
    exact ⟨b,off,hc,by omega⟩
   subst hA
   gi_quiet (fail)
   replace hJs := hdr k wr nq hJs
   obtain ⟨⟨A,cap2,hb1⟩,hq1⟩ := hbase k _ hJs
   obtain ⟨args,⟨b2,off2,cap',hc,hcap,rfl⟩,fn,tmps,assign,body,hy,hR⟩ := hY k _ (by omega) hJs
   clear hb0 hq0
   generalize wr.drewN nq = w2 at *
   have hmin : (if N - j < n then ((N - j : Nat) : Int) else (n : Int)) = ((min n (N - j) : Nat) : Int) := by omega
   rw [hmin]
   obtain ⟨m,hm⟩ : ∃ m,min n (N - j) = m := ⟨_,rfl⟩
   rw [hj,hm] at hy
   rw [hm]
   have hmn : m ≤ n := by omega
   have hmj : j + m ≤ N := by omega
   rw [hb1] at hc
   injection hc with hc
   injection hc with hc1 hc2 hc3
   subst hc1 hc3
   rw [Nat.mul_one] at hy
   have e1 : (j : Int) + m ≤ cap2 := by omega
   have e2 : (j : Int) ≤ j + m := by omega
   have e3 : ((j : Int) + m).toNat - j = m := by omega
   gi_wp2
   refine hR.mono ?_
   rintro e W3 (⟨rfl,hJ3⟩ | ⟨rfl,hJx3⟩)
   ·obtain ⟨_,hq3⟩ := hbase (k + 1) W3 hJ3
    gi_wp2
    go_roundw
    case rel => exact ⟨k + 1,j + n,by rw [Nat.add_mul,hj,Nat.one_mul],by simp,by omega,hJ3⟩
    case measure => simp [intOf];omega
   ·gi_wp2
    refine bodyPost_ret (results_none rfl _ _ _) rfl ?_
    exact ⟨⟨_,rfl⟩,.inr hJx3⟩
  ·gi_wp2
   go_end0
   exact ⟨⟨_,rfl⟩,.inl ⟨k,by omega,hJs⟩⟩
theorem pch109 (es : List (List D)) (v : Int) (hv : 1 ≤ v) : FunM Tryz.prog 109 [.d (.sl es),.i v] [] [] (.fn (.func 132) [.ptr 2 0 0,.ptr 3 0 0]) [(2,.box [.d (.sl es)]),(3,.box [.i v])] := by
 refine FunM.enter 9 [(0,.d (.sl es)),(1,.i v)] Tryz.func109 rfl (of_decide_eq_true rfl) rfl rfl ?_
 have hv1 : ¬ v < 1 := by omega
 refine .goR [] 3 fun K k => ?_;simp;refine k _ ?_;clear k K
 refine .seq ?_
 refine .goR [] 2 fun K k => ?_;simp;refine k _ ?_;clear k K
 refine .condK fun K1 K2 k1 k2 => ?_;simp [hv1];refine k2 ?_;clear k1 k2 K1 K2
 refine .skip (thenQ_normal ?_)
 refine .goR [] 2 fun K k => ?_;simp;refine k _ ?_;clear k K
 refine .ret ?_
 exact FinF.ret (by simp) (by simp)
def d78 (_ : Nat) (a0 : (List (List S61))) : Option (List (List S61)) := if a0.length * 24 ≤ Rp.reach then some a0 else none
theorem p78 (N : Nat) (a0 : (List (List S61))) (r : (List (List S61))) (h : d78 N a0 = some r) : FunO Tryz.prog 78 [.ls61 a0] (.ref 0 0 r.length) (.arr 57 1 (r.map (cL cS61))) := by
 obtain ⟨hz,h⟩ := gsome h
 cases h
 refine FunO.enter 8 [(0,.ls61 a0)] Tryz.func78 rfl (of_decide_eq_true rfl) rfl rfl ?_
 refine .goR [] 1 fun K k => ?_;simp;refine k _ ?_;clear k K
 refine .seq (.seqR ?_)
 refine .rr 1 ?_
 refine .eqNilE (es := a0.map (cL cS61)) (by simp) rfl ty48 rfl (by simp) (by simp) fun b hb => ?_
 refine .nil ?_
 cases b with
 | true =>
  have he : a0 = [] := by
   cases a0 with
   | nil => rfl
   | cons x xs => exact absurd (hb (by simp)) (by simp)
  subst he
  refine .condK fun K1 K2 k1 k2 => ?_;simp;refine k1 ?_;clear k1 k2 K1 K2
  refine .goR [] 1 fun K k => ?_;simp;refine k _ ?_;clear k K
  refine .sub (.nilOwn (t := 2) (id := 902) (T := 57) (n := 1) rfl rfl (by decide)) ?_
  refine .st (mk 8 [] [(2,.ref 902 0 0)] [(902,some (.arr 57 1 []))]) (.ret ?_)
  exact thenQ_pass (by simp) (FinO.ret (.ref 902 0 0) 902 (by simp) (by simp) (by simp) (by simp) rfl)
 | false =>
  refine .condK fun K1 K2 k1 k2 => ?_;simp;refine k2 ?_;clear k1 k2 K1 K2
  refine .skip (thenQ_normal ?_)
  refine .goR [] 4 fun K k => ?_;simp [hz];refine k _ ?_;clear k K
  refine .tt [(2,.ref 5 0 a0.length)] [(5,R57 a0)] (.ret ?_)
  exact FinO.ret (.ref 5 0 a0.length) 5 (by simp) (by simp) (by simp) (by simp) rfl
def d111 (N : Nat) (a0 : (List S61)) (a1 : (List S61)) (a2 : S65) : Option Int :=
 (d70 N a0 a1 a2).bind fun r1 =>
 some r1
theorem p111 (N : Nat) (a0 : (List S61)) (a1 : (List S61)) (a2 : S65) (r : Int) (h : d111 N a0 a1 a2 = some r) : FunC Tryz.prog 111 [.s61 a0,.s61 a1,.d (.pim [.sl (a2.Columns.map (cI .i64)),.sl (a2.Descending.map cB)])] (.i r) := by
 unfold d111 at h
 refine FunC.enter 10 [(0,.s61 a0),(1,.s61 a1),(2,.d (.pim [.sl (a2.Columns.map (cI .i64)),.sl (a2.Descending.map cB)]))] (by simp) Tryz.func111 rfl (of_decide_eq_true rfl) rfl rfl ?_
 refine .seqR ?_
 refine .rr 1 ?_
 refine .tt (L1 a0 a1 ++ [(2,.d (.pim [.sl (a2.Columns.map (cI .i64)),.sl (a2.Descending.map cB)]))]) [] (.nil (.seqR ?_))
 refine .rr 3 ?_
 refine .tt [(6,.s61 a0),(7,.s61 a1),(8,.agg [.si a2.Columns,.sb a2.Descending])] [] ?_
 replace h := bsome h;obtain ⟨r1,hr1,h⟩ := h
 refine .callL (d := 9) (p70 N a0 a1 a2 r1 hr1) (by simp) rfl rfl (by simp <;> rfl) (by simp <;> rfl) ent70 (by simp <;> rfl) ?_
 refine .st (mk 10 [] [(6,.s61 a0),(7,.s61 a1),(8,.agg [.si a2.Columns,.sb a2.Descending]),(9,.i r1)] []) ?_
 refine .rr 1 ?_
 refine .tt [(5,.i r1)] [] (.nil (.ret ?_))
 cases h
 exact FinC.rs
end Go.Proofs.YtimkkjiplioohaaGreatDoor
