/- Functions of the program as functional programs; the code computes them. -/
import Derived.Test.YtimkkjiplioohaaGreatDoorSt11
import Derived.Test.YtimkkjiplioohaaGreatDoorStS
namespace Go.Proofs.YtimkkjiplioohaaGreatDoor
open Go.Ab Go.Rp
attribute [-simp] List.all_eq_true Array.all_toList Array.all_eq_true

/-- stemma/stemlaw3.SortMatchesReference -/
def d8 (N : Nat) (a0 : (List (List S61))) (a1 : S65) (a2 : Int) (a3 : Int) : Option Bool :=
 (d9 N ).bind fun r1 =>
 if (!r1) = true then (
  some false
 ) else
 Option.bind (α := Bool) (
  letv ([a0] : List (List (List S61))) fun l7 =>
  (d21 N l7).bind fun r8 =>
  if r8 = true then (
   some true
  ) else
  some (decide ((a1.Columns.length : Int) > 10))
 ) fun (v6 : Bool) =>
 if v6 = true then (
  some true
 ) else
 (d40 N a0 a1 a2).bind fun r11 =>
 (d31 N a0 a1 a2).bind fun r12 =>
 if (r12 != 0) then (
  Option.bind (α := Bool) (
   if (r11.2.2 == r12) then (
    if ((r11.1.length : Int) == 0) then (
     some (r11.2.1 == 0)
    ) else
    some false
   ) else
   some false
  ) fun (v16 : Bool) =>
  some v16
 ) else
 (d33 N a0 a1).bind fun r19 =>
 (chkI ((a0.length : Int) + a2)).bind fun v20 =>
 (chkI (v20 - 1)).bind fun v21 =>
 (quoI v21 a2).bind fun v22 =>
 Option.bind (α := Int) (
  iterN (σ := (Int × Int)) (ρ := Int) (fun ((v28, v29) : (Int × Int)) =>
   if v29 > 1 then (
    (chkI (v28 + 1)).bind fun v44 =>
    (chkI (v29 + a2)).bind fun v45 =>
    (chkI (v45 - 1)).bind fun v46 =>
    (quoI v46 a2).bind fun v47 =>
    some (.inl (v44, v47))
   ) else
   some (.inr v28)
  ) N (0, v22)
 ) fun (v42 : Int) =>
 (d41 N a0 a1 a3).bind fun r48 =>
 Option.bind (α := Bool) (
  if a3 < 0 then (
   some true
  ) else
  some (decide (a3 > 64))
 ) fun (v50 : Bool) =>
 if v50 = true then (
  Option.bind (α := Bool) (
   if (r48.2 == 1) then (
    some ((r48.1.length : Int) == 0)
   ) else
   some false
  ) fun (v54 : Bool) =>
  some v54
 ) else
 Option.bind (α := Bool) (
  if (r11.2.2 == 0) then (
   (d28 N r11.1 r19).bind fun r67 =>
   if r67 = true then (
    if (r11.2.1 == v42) then (
     if (r48.2 == 0) then (
      letv (minI a3 (r19.length : Int)) fun v71 =>
      (natI v71 r19.length).bind fun n72 =>
      letv (r19.take n72) fun l73 =>
      (d28 N r48.1 l73).bind fun r74 =>
      some r74
     ) else
     some false
    ) else
    some false
   ) else
   some false
  ) else
  some false
 ) fun (v65 : Bool) =>
 some v65
set_option maxRecDepth 100000 in
set_option maxHeartbeats 4000000 in
theorem p8 (N : Nat) (a0 : (List (List S61))) (a1 : S65) (a2 : Int) (a3 : Int) (r : Bool) (h : d8 N a0 a1 a2 a3 = some r) : FunC Tryz.prog 8 [.d (.sl (a0.map (cL cS61))), .agg [.d (.sl (a1.Columns.map (cI .i64))), .d (.sl (a1.Descending.map cB))], .i a2, .i a3] (.b r) := by
 unfold d8 at h
 refine FunC.enter 121 [(0, .d (.sl (a0.map (cL cS61)))), (1, .agg [.d (.sl (a1.Columns.map (cI .i64))), .d (.sl (a1.Descending.map cB))]), (2, .i a2), (3, .i a3)] (by simp) Tryz.func8 rfl (of_decide_eq_true rfl) rfl rfl ?_
 refine .seqR ?_
 refine .runK [] 2 fun K k => ?_; simp; refine k _ _ ?_; clear k K
 refine .tt (L55 a0 a2 a3) (H3 a1) ?_
 refine .nil ?_
 refine .seq ?_
 refine .seqR ?_
 replace h := bsome h; obtain ⟨r1, hr1, h⟩ := h
 refine .callL (d := 18) (p9 N  r1 hr1) (by simp) rfl rfl (by simp <;> rfl) (by simp <;> rfl) ent9 (by simp <;> rfl) ?_
 refine .st (mk 121 [] (L55 a0 a2 a3 ++ [(18, .b r1)]) (H3 a1)) ?_
 refine .runK [] 1 fun K k => ?_; simp; refine k _ _ ?_; clear k K
 refine .tt (L55 a0 a2 a3 ++ [(19, .b (!r1))]) (H3 a1) ?_
 refine .nil ?_
 replace h := isome h; rcases h with ⟨c2, h⟩ | ⟨c2, h⟩
 ·have c2_ : (!r1) = true := c2
  refine .condT (b := (!r1)) rfl c2_ ?_
  refine .sub (.bool 19 (b := (!r1)) rfl c2_) ?_
  refine .st (mk 121 [] (L55 a0 a2 a3 ++ [(19, .b true)]) (H3 a1)) ?_
  refine .seqR ?_
  refine .runK [] 1 fun K k => ?_; simp; refine k _ _ ?_; clear k K
  refine .tt [(8, .b false)] [] ?_
  refine .nil ?_
  refine .ret ?_
  cases h
  refine thenQ_pass (by simp) ?_
  exact FinC.ret (by simp) (by simp)
 have c2_ : (!r1) = false := Bool.eq_false_iff.2 c2
 refine .condF (b := (!r1)) rfl c2_ ?_
 refine .sub (.bool 19 (b := (!r1)) rfl c2_) ?_
 refine .st (mk 121 [] (L56 a0 a2 a3) (H3 a1)) ?_
 refine .skip ?_
 refine thenQ_normal ?_
 refine .seq ?_
 replace h := bsome h; obtain ⟨v6, hj, h⟩ := h
 refine .cutR (mk 121 [] (L55 a0 a2 a3 ++ [(28, .b v6)]) (H3 a1)) ?_ ?_
 ·clear h; have h := hj; clear hj
  refine .runK [] 2 fun K k => ?_; simp; refine k _ _ ?_; clear k K
  refine .sub (.wkRow 21 rfl) ?_
  replace h := lsome h; obtain ⟨l7, hl7, h⟩ := h
  refine .sub (S' := mk 121 [] (L56 a0 a2 a3 ++ [(20, .d (.sl (a0.map (cL cS61)))), (21, .ref 21 0 l7.length)]) [(5, some (.box [.d (.sl (a1.Columns.map (cI .i64))), .d (.sl (a1.Descending.map cB))])), (21, R48 l7)]) (by simp; subst hl7; exact Sub.table (by simp) (by simp)) ?_
  replace h := bsome h; obtain ⟨r8, hr8, h⟩ := h
  refine .callL (d := 22) (p21 N l7 r8 hr8) (by simp) rfl rfl (by simp <;> rfl) (by simp <;> rfl) ent21 (by simp <;> rfl) ?_
  refine .st (mk 121 [] (L56 a0 a2 a3 ++ [(20, .d (.sl (a0.map (cL cS61)))), (21, .ref 21 0 l7.length), (22, .b r8)]) [(5, some (.box [.d (.sl (a1.Columns.map (cI .i64))), .d (.sl (a1.Descending.map cB))])), (21, R48 l7)]) ?_
  refine .runK [] 1 fun K k => ?_; simp; refine k _ _ ?_; clear k K
  refine .tt (L55 a0 a2 a3 ++ [(23, .b r8)]) (H3 a1) ?_
  replace h := isome h; rcases h with ⟨c9, h⟩ | ⟨c9, h⟩
  ·have c9_ : r8 = true := c9
   refine .sub (.bool 23 (b := r8) rfl c9_) ?_
   refine .st (mk 121 [] (L55 a0 a2 a3 ++ [(23, .b true)]) (H3 a1)) ?_
   refine .runK [] 5 fun K k => ?_; simp; refine k _ _ ?_; clear k K
   refine .tt (L55 a0 a2 a3 ++ [(28, .b true)]) (H3 a1) ?_
   cases h
   exact .nil .tt
  have c9_ : r8 = false := Bool.eq_false_iff.2 c9
  refine .sub (.bool 23 (b := r8) rfl c9_) ?_
  refine .st (mk 121 [] (L55 a0 a2 a3 ++ [(23, .b false)]) (H3 a1)) ?_
  refine .runK [] 5 fun K k => ?_; simp; refine k _ _ ?_; clear k K
  refine .tt (L55 a0 a2 a3 ++ [(28, .b (decide ((a1.Columns.length : Int) > 10)))]) (H3 a1) ?_
  cases h
  exact .nil .tt
 clear hj
 replace h := isome h; rcases h with ⟨c10, h⟩ | ⟨c10, h⟩
 ·have c10_ : v6 = true := c10
  refine .condT (b := v6) rfl c10_ ?_
  refine .sub (.bool 28 (b := v6) rfl c10_) ?_
  refine .st (mk 121 [] (L55 a0 a2 a3 ++ [(28, .b true)]) (H3 a1)) ?_
  refine .seqR ?_
  refine .runK [] 1 fun K k => ?_; simp; refine k _ _ ?_; clear k K
  refine .tt [(8, .b true)] [] ?_
  refine .nil ?_
  refine .ret ?_
  cases h
  refine thenQ_pass (by simp) ?_
  exact FinC.ret (by simp) (by simp)
 have c10_ : v6 = false := Bool.eq_false_iff.2 c10
 refine .condF (b := v6) rfl c10_ ?_
 refine .sub (.bool 28 (b := v6) rfl c10_) ?_
 refine .st (mk 121 [] (L55 a0 a2 a3 ++ [(28, .b false)]) (H3 a1)) ?_
 refine .skip ?_
 refine thenQ_normal ?_
 refine .seqR ?_
 refine .runK [] 3 fun K k => ?_; simp; refine k _ _ ?_; clear k K
 refine .tt (L55 a0 a2 a3 ++ [(30, .d (.sl (a0.map (cL cS61)))), (31, .agg [.d (.sl (a1.Columns.map (cI .i64))), .d (.sl (a1.Descending.map cB))]), (32, .i a2)]) (H3 a1) ?_
 replace h := bsome h; obtain ⟨r11, hr11, h⟩ := h
 refine .callC (d := 33) (p40 N a0 a1 a2 r11 hr11) (by simp) rfl rfl (by simp <;> rfl) (by simp <;> rfl) ent40 (by simp) (.inl ⟨by simp, by simp⟩) ?_
 refine .st (mk 121 [] (L55 a0 a2 a3 ++ [(30, .d (.sl (a0.map (cL cS61)))), (31, .agg [.d (.sl (a1.Columns.map (cI .i64))), .d (.sl (a1.Descending.map cB))]), (32, .i a2), (33, .tup [.d (.sl (r11.1.map (cL cS61))), .i r11.2.1, .i r11.2.2])]) (H3 a1)) ?_
 refine .runK [] 7 fun K k => ?_; simp; refine k _ _ ?_; clear k K
 refine .tt (L57 a0 a2 a3 r11.1 r11.2.1 r11.2.2) (H3 a1) ?_
 refine .nil ?_
 refine .seq ?_
 refine .seqR ?_
 refine .runK [] 3 fun K k => ?_; simp; refine k _ _ ?_; clear k K
 refine .tt (L57 a0 a2 a3 r11.1 r11.2.1 r11.2.2 ++ [(37, .d (.sl (a0.map (cL cS61)))), (38, .agg [.d (.sl (a1.Columns.map (cI .i64))), .d (.sl (a1.Descending.map cB))]), (39, .i a2)]) (H3 a1) ?_
 replace h := bsome h; obtain ⟨r12, hr12, h⟩ := h
 refine .callL (d := 40) (p31 N a0 a1 a2 r12 hr12) (by simp) rfl rfl (by simp <;> rfl) (by simp <;> rfl) ent31 (by simp <;> rfl) ?_
 refine .st (mk 121 [] (L57 a0 a2 a3 r11.1 r11.2.1 r11.2.2 ++ [(37, .d (.sl (a0.map (cL cS61)))), (38, .agg [.d (.sl (a1.Columns.map (cI .i64))), .d (.sl (a1.Descending.map cB))]), (39, .i a2), (40, .i r12)]) (H3 a1)) ?_
 refine .runK [] 1 fun K k => ?_; simp; refine k _ _ ?_; clear k K
 refine .tt (L58 a0 a2 a3 r11.1 r11.2.1 r11.2.2 r12) (H3 a1) ?_
 refine .nil ?_
 refine .seqR ?_
 refine .runK [] 2 fun K k => ?_; simp; refine k _ _ ?_; clear k K
 refine .tt (L58 a0 a2 a3 r11.1 r11.2.1 r11.2.2 r12 ++ [(42, .b (r12 != 0))]) (H3 a1) ?_
 refine .nil ?_
 replace h := isome h; rcases h with ⟨c13, h⟩ | ⟨c13, h⟩
 ·have c13_ : (r12 != 0) = true := c13
  refine .condT (b := (r12 != 0)) rfl c13_ ?_
  refine .sub (.bool 42 (b := (r12 != 0)) rfl c13_) ?_
  refine .st (mk 121 [] (L58 a0 a2 a3 r11.1 r11.2.1 r11.2.2 r12 ++ [(42, .b true)]) (H3 a1)) ?_
  replace h := bsome h; obtain ⟨v16, hj, h⟩ := h
  refine .cutR (mk 121 [] [(8, .b v16)] []) ?_ ?_
  ·clear h; have h := hj; clear hj
   refine .runK [] 4 fun K k => ?_; simp; refine k _ _ ?_; clear k K
   refine .tt [(9, .d (.sl (r11.1.map (cL cS61)))), (10, .i r11.2.1), (46, .b (r11.2.2 == r12))] [] ?_
   replace h := isome h; rcases h with ⟨c17, h⟩ | ⟨c17, h⟩
   ·have c17_ : (r11.2.2 == r12) = true := c17
    refine .sub (.bool 46 (b := (r11.2.2 == r12)) rfl c17_) ?_
    refine .st (mk 121 [] [(9, .d (.sl (r11.1.map (cL cS61)))), (10, .i r11.2.1), (46, .b true)] []) ?_
    refine .runK [] 5 fun K k => ?_; simp; refine k _ _ ?_; clear k K
    refine .tt [(10, .i r11.2.1), (51, .b ((r11.1.length : Int) == 0))] [] ?_
    replace h := isome h; rcases h with ⟨c18, h⟩ | ⟨c18, h⟩
    ·have c18_ : ((r11.1.length : Int) == 0) = true := c18
     refine .sub (.bool 51 (b := ((r11.1.length : Int) == 0)) rfl c18_) ?_
     refine .st (mk 121 [] [(10, .i r11.2.1), (51, .b true)] []) ?_
     refine .runK [] 4 fun K k => ?_; simp; refine k _ _ ?_; clear k K
     refine .tt [(8, .b (r11.2.1 == 0))] [] ?_
     cases h
     exact .nil .tt
    have c18_ : ((r11.1.length : Int) == 0) = false := Bool.eq_false_iff.2 c18
    refine .sub (.bool 51 (b := ((r11.1.length : Int) == 0)) rfl c18_) ?_
    refine .st (mk 121 [] [(10, .i r11.2.1), (51, .b false)] []) ?_
    refine .runK [] 4 fun K k => ?_; simp; refine k _ _ ?_; clear k K
    refine .tt [(8, .b false)] [] ?_
    cases h
    exact .nil .tt
   have c17_ : (r11.2.2 == r12) = false := Bool.eq_false_iff.2 c17
   refine .sub (.bool 46 (b := (r11.2.2 == r12)) rfl c17_) ?_
   refine .st (mk 121 [] [(9, .d (.sl (r11.1.map (cL cS61)))), (10, .i r11.2.1), (46, .b false)] []) ?_
   refine .runK [] 9 fun K k => ?_; simp; refine k _ _ ?_; clear k K
   refine .tt [(8, .b false)] [] ?_
   cases h
   exact .nil .tt
  clear hj
  refine .ret ?_
  cases h
  refine thenQ_pass (by simp) ?_
  exact FinC.ret (by simp) (by simp)
 have c13_ : (r12 != 0) = false := Bool.eq_false_iff.2 c13
 refine .condF (b := (r12 != 0)) rfl c13_ ?_
 refine .sub (.bool 42 (b := (r12 != 0)) rfl c13_) ?_
 refine .st (mk 121 [] (L58 a0 a2 a3 r11.1 r11.2.1 r11.2.2 r12 ++ [(42, .b false)]) (H3 a1)) ?_
 refine .skip ?_
 refine thenQ_normal ?_
 refine .seqR ?_
 refine .runK [] 2 fun K k => ?_; simp; refine k _ _ ?_; clear k K
 refine .tt (L57 a0 a2 a3 r11.1 r11.2.1 r11.2.2 ++ [(55, .d (.sl (a0.map (cL cS61)))), (56, .agg [.d (.sl (a1.Columns.map (cI .i64))), .d (.sl (a1.Descending.map cB))])]) (H3 a1) ?_
 replace h := bsome h; obtain ⟨r19, hr19, h⟩ := h
 refine .callC (d := 57) (p33 N a0 a1 r19 hr19) (by simp) rfl rfl (by simp <;> rfl) (by simp <;> rfl) ent33 (by simp) (.inl ⟨by simp, by simp⟩) ?_
 refine .st (mk 121 [] (L57 a0 a2 a3 r11.1 r11.2.1 r11.2.2 ++ [(55, .d (.sl (a0.map (cL cS61)))), (56, .agg [.d (.sl (a1.Columns.map (cI .i64))), .d (.sl (a1.Descending.map cB))]), (57, .d (.sl (r19.map (cL cS61))))]) (H3 a1)) ?_
 refine .runK [] 1 fun K k => ?_; simp; refine k _ _ ?_; clear k K
 refine .tt (L59 a0 a2 a3 r11.1 r11.2.1 r11.2.2 r19) (H3 a1) ?_
 refine .nil ?_
 refine .seqR ?_
 refine .runK [] 1 fun K k => ?_; simp; refine k _ _ ?_; clear k K
 refine .tt (L59 a0 a2 a3 r11.1 r11.2.1 r11.2.2 r19 ++ [(14, .i 0)]) (H3 a1) ?_
 refine .nil ?_
 refine .seq ?_
 refine .seqR ?_
 replace h := bsome h; obtain ⟨v20, hv20, h⟩ := h
 have hv20 := chkI_some hv20
 replace h := bsome h; obtain ⟨v21, hv21, h⟩ := h
 have hv21 := chkI_some hv21
 replace h := bsome h; obtain ⟨v22, hv22, h⟩ := h
 obtain ⟨hv22a, hv22⟩ := quoI_some hv22
 refine .runK [] 8 fun K k => ?_; simp [hv20, hv21, hv22, hv22a]; refine k _ _ ?_; clear k K
 refine .tt (L59 a0 a2 a3 r11.1 r11.2.1 r11.2.2 r19 ++ [(14, .i 0), (15, .i v22)]) (H3 a1) ?_
 refine .nil ?_
 refine .lastN (fun (v42 : Int) => mk 121 [] [(0, .d (.sl (a0.map (cL cS61)))), (3, .i a3), (5, .ptr 5 0 0), (9, .d (.sl (r11.1.map (cL cS61)))), (10, .i r11.2.1), (11, .i r11.2.2), (13, .d (.sl (r19.map (cL cS61)))), (14, .i v42)] (H3 a1)) h ?_ ?_ <;> clear h
 ·intro o h
  refine .block ?_
  refine .iter (fun ((v28, v29) : (Int × Int)) => mk 121 [] (L60 a0 a2 a3 r11.1 r11.2.1 r11.2.2 r19 v28 v29) (H3 a1)) h Sub.tt ?_
  clear h
  rintro ⟨v28, v29⟩ x h
  dsimp only at h ⊢
  refine .seq ?_
  refine .seqR ?_
  refine .runK [] 2 fun K k => ?_; simp; refine k _ _ ?_; clear k K
  refine .tt (L60 a0 a2 a3 r11.1 r11.2.1 r11.2.2 r19 v28 v29 ++ [(66, .b (decide (v29 > 1)))]) (H3 a1) ?_
  refine .nil ?_
  replace h := isome h; rcases h with ⟨c43, h⟩ | ⟨c43, h⟩
  ·have c43_ : decide (v29 > 1) = true := decide_eq_true c43
   refine .condT (b := decide (v29 > 1)) rfl c43_ ?_
   refine .sub (.bool 66 (b := decide (v29 > 1)) rfl c43_) ?_
   refine .st (mk 121 [] (L60 a0 a2 a3 r11.1 r11.2.1 r11.2.2 r19 v28 v29 ++ [(66, .b true)]) (H3 a1)) ?_
   refine .skip ?_
   refine thenQ_normal ?_
   refine .seq ?_
   refine .block ?_
   refine .region ?_
   replace h := bsome h; obtain ⟨v44, hv44, h⟩ := h
   have hv44 := chkI_some hv44
   refine .runK [] 3 fun K k => ?_; simp [hv44]; refine k _ _ ?_; clear k K
   refine .tt (L60 a0 a2 a3 r11.1 r11.2.1 r11.2.2 r19 v44 v29) (H3 a1) ?_
   refine .nil ?_
   refine blockQ.normal ?_
   refine thenQ_normal ?_
   refine .region ?_
   replace h := bsome h; obtain ⟨v45, hv45, h⟩ := h
   have hv45 := chkI_some hv45
   replace h := bsome h; obtain ⟨v46, hv46, h⟩ := h
   have hv46 := chkI_some hv46
   replace h := bsome h; obtain ⟨v47, hv47, h⟩ := h
   obtain ⟨hv47a, hv47⟩ := quoI_some hv47
   refine .runK [] 7 fun K k => ?_; simp [hv45, hv46, hv47, hv47a]; refine k _ _ ?_; clear k K
   refine .tt (L60 a0 a2 a3 r11.1 r11.2.1 r11.2.2 r19 v44 v47) (H3 a1) ?_
   refine .nil ?_
   cases h
   refine PostI.next ?_
   exact Sub.tt
  have c43_ : decide (v29 > 1) = false := decide_eq_false c43
  refine .condF (b := decide (v29 > 1)) rfl c43_ ?_
  refine .sub (.bool 66 (b := decide (v29 > 1)) rfl c43_) ?_
  refine .st (mk 121 [] (L60 a0 a2 a3 r11.1 r11.2.1 r11.2.2 r19 v28 v29 ++ [(66, .b false)]) (H3 a1)) ?_
  refine .exit ?_
  cases h
  refine thenQ_pass (by simp) ?_
  refine PostI.out (by simp) ?_
  rintro rfl
  refine blockQ.hit ?_
  refine PostN.next ?_
  exact Sub.tt
 rintro v42 h
 refine thenQ_normal ?_
 refine .seqR ?_
 refine .runK [] 3 fun K k => ?_; simp; refine k _ _ ?_; clear k K
 refine .tt [(3, .i a3), (9, .d (.sl (r11.1.map (cL cS61)))), (10, .i r11.2.1), (11, .i r11.2.2), (13, .d (.sl (r19.map (cL cS61)))), (14, .i v42), (76, .d (.sl (a0.map (cL cS61)))), (77, .agg [.d (.sl (a1.Columns.map (cI .i64))), .d (.sl (a1.Descending.map cB))]), (78, .i a3)] [] ?_
 replace h := bsome h; obtain ⟨r48, hr48, h⟩ := h
 refine .callC (d := 79) (p41 N a0 a1 a3 r48 hr48) (by simp) rfl rfl (by simp <;> rfl) (by simp <;> rfl) ent41 (by simp) (.inl ⟨by simp, by simp⟩) ?_
 refine .st (mk 121 [] [(3, .i a3), (9, .d (.sl (r11.1.map (cL cS61)))), (10, .i r11.2.1), (11, .i r11.2.2), (13, .d (.sl (r19.map (cL cS61)))), (14, .i v42), (76, .d (.sl (a0.map (cL cS61)))), (77, .agg [.d (.sl (a1.Columns.map (cI .i64))), .d (.sl (a1.Descending.map cB))]), (78, .i a3), (79, .tup [.d (.sl (r48.1.map (cL cS61))), .i r48.2])] []) ?_
 refine .runK [] 5 fun K k => ?_; simp; refine k _ _ ?_; clear k K
 refine .tt (L61 a3 r11.1 r11.2.1 r11.2.2 r19 v42 r48.1 r48.2) [] ?_
 refine .nil ?_
 refine .seq ?_
 replace h := bsome h; obtain ⟨v50, hj, h⟩ := h
 refine .cutR (mk 121 [] (L61 a3 r11.1 r11.2.1 r11.2.2 r19 v42 r48.1 r48.2 ++ [(87, .b v50)]) []) ?_ ?_
 ·clear h; have h := hj; clear hj
  refine .runK [] 3 fun K k => ?_; simp; refine k _ _ ?_; clear k K
  refine .tt (L61 a3 r11.1 r11.2.1 r11.2.2 r19 v42 r48.1 r48.2 ++ [(84, .b (decide (a3 < 0)))]) [] ?_
  replace h := isome h; rcases h with ⟨c51, h⟩ | ⟨c51, h⟩
  ·have c51_ : decide (a3 < 0) = true := decide_eq_true c51
   refine .sub (.bool 84 (b := decide (a3 < 0)) rfl c51_) ?_
   refine .st (mk 121 [] (L61 a3 r11.1 r11.2.1 r11.2.2 r19 v42 r48.1 r48.2 ++ [(84, .b true)]) []) ?_
   refine .runK [] 3 fun K k => ?_; simp; refine k _ _ ?_; clear k K
   refine .tt (L61 a3 r11.1 r11.2.1 r11.2.2 r19 v42 r48.1 r48.2 ++ [(87, .b true)]) [] ?_
   cases h
   exact .nil .tt
  have c51_ : decide (a3 < 0) = false := decide_eq_false c51
  refine .sub (.bool 84 (b := decide (a3 < 0)) rfl c51_) ?_
  refine .st (mk 121 [] (L61 a3 r11.1 r11.2.1 r11.2.2 r19 v42 r48.1 r48.2 ++ [(84, .b false)]) []) ?_
  refine .runK [] 3 fun K k => ?_; simp; refine k _ _ ?_; clear k K
  refine .tt (L61 a3 r11.1 r11.2.1 r11.2.2 r19 v42 r48.1 r48.2 ++ [(87, .b (decide (a3 > 64)))]) [] ?_
  cases h
  exact .nil .tt
 clear hj
 replace h := isome h; rcases h with ⟨c52, h⟩ | ⟨c52, h⟩
 ·have c52_ : v50 = true := c52
  refine .condT (b := v50) rfl c52_ ?_
  refine .sub (.bool 87 (b := v50) rfl c52_) ?_
  refine .st (mk 121 [] (L61 a3 r11.1 r11.2.1 r11.2.2 r19 v42 r48.1 r48.2 ++ [(87, .b true)]) []) ?_
  replace h := bsome h; obtain ⟨v54, hj, h⟩ := h
  refine .cutR (mk 121 [] [(8, .b v54)] []) ?_ ?_
  ·clear h; have h := hj; clear hj
   refine .runK [] 3 fun K k => ?_; simp; refine k _ _ ?_; clear k K
   refine .tt [(16, .d (.sl (r48.1.map (cL cS61)))), (90, .b (r48.2 == 1))] [] ?_
   replace h := isome h; rcases h with ⟨c55, h⟩ | ⟨c55, h⟩
   ·have c55_ : (r48.2 == 1) = true := c55
    refine .sub (.bool 90 (b := (r48.2 == 1)) rfl c55_) ?_
    refine .st (mk 121 [] [(16, .d (.sl (r48.1.map (cL cS61)))), (90, .b true)] []) ?_
    refine .runK [] 5 fun K k => ?_; simp; refine k _ _ ?_; clear k K
    refine .tt [(8, .b ((r48.1.length : Int) == 0))] [] ?_
    cases h
    exact .nil .tt
   have c55_ : (r48.2 == 1) = false := Bool.eq_false_iff.2 c55
   refine .sub (.bool 90 (b := (r48.2 == 1)) rfl c55_) ?_
   refine .st (mk 121 [] [(16, .d (.sl (r48.1.map (cL cS61)))), (90, .b false)] []) ?_
   refine .runK [] 5 fun K k => ?_; simp; refine k _ _ ?_; clear k K
   refine .tt [(8, .b false)] [] ?_
   cases h
   exact .nil .tt
  clear hj
  refine .ret ?_
  cases h
  refine thenQ_pass (by simp) ?_
  exact FinC.ret (by simp) (by simp)
 have c52_ : v50 = false := Bool.eq_false_iff.2 c52
 refine .condF (b := v50) rfl c52_ ?_
 refine .sub (.bool 87 (b := v50) rfl c52_) ?_
 refine .st (mk 121 [] (L61 a3 r11.1 r11.2.1 r11.2.2 r19 v42 r48.1 r48.2 ++ [(87, .b false)]) []) ?_
 refine .skip ?_
 refine thenQ_normal ?_
 replace h := bsome h; obtain ⟨v65, hj, h⟩ := h
 refine .cutR (mk 121 [] [(8, .b v65)] []) ?_ ?_
 ·clear h; have h := hj; clear hj
  refine .runK [] 3 fun K k => ?_; simp; refine k _ _ ?_; clear k K
  refine .tt (L62 a3 r11.1 r11.2.1 r19 v42 r48.1 r48.2 ++ [(97, .b (r11.2.2 == 0))]) [] ?_
  replace h := isome h; rcases h with ⟨c66, h⟩ | ⟨c66, h⟩
  ·have c66_ : (r11.2.2 == 0) = true := c66
   refine .sub (.bool 97 (b := (r11.2.2 == 0)) rfl c66_) ?_
   refine .st (mk 121 [] (L62 a3 r11.1 r11.2.1 r19 v42 r48.1 r48.2 ++ [(97, .b true)]) []) ?_
   refine .runK [] 2 fun K k => ?_; simp; refine k _ _ ?_; clear k K
   refine .tt (L63 a3 r11.2.1 r19 v42 r48.1 r48.2 ++ [(97, .b true), (98, .d (.sl (r11.1.map (cL cS61)))), (99, .d (.sl (r19.map (cL cS61))))]) [] ?_
   replace h := bsome h; obtain ⟨r67, hr67, h⟩ := h
   refine .callL (d := 100) (p28 N r11.1 r19 r67 hr67) (by simp) rfl rfl (by simp <;> rfl) (by simp <;> rfl) ent28 (by simp <;> rfl) ?_
   refine .st (mk 121 [] (L63 a3 r11.2.1 r19 v42 r48.1 r48.2 ++ [(97, .b true), (98, .d (.sl (r11.1.map (cL cS61)))), (99, .d (.sl (r19.map (cL cS61)))), (100, .b r67)]) []) ?_
   refine .runK [] 2 fun K k => ?_; simp; refine k _ _ ?_; clear k K
   refine .tt (L63 a3 r11.2.1 r19 v42 r48.1 r48.2 ++ [(102, .b r67)]) [] ?_
   replace h := isome h; rcases h with ⟨c68, h⟩ | ⟨c68, h⟩
   ·have c68_ : r67 = true := c68
    refine .sub (.bool 102 (b := r67) rfl c68_) ?_
    refine .st (mk 121 [] (L63 a3 r11.2.1 r19 v42 r48.1 r48.2 ++ [(102, .b true)]) []) ?_
    refine .runK [] 5 fun K k => ?_; simp; refine k _ _ ?_; clear k K
    refine .tt (L64 a3 r19 r48.1 r48.2 ++ [(107, .b (r11.2.1 == v42))]) [] ?_
    replace h := isome h; rcases h with ⟨c69, h⟩ | ⟨c69, h⟩
    ·have c69_ : (r11.2.1 == v42) = true := c69
     refine .sub (.bool 107 (b := (r11.2.1 == v42)) rfl c69_) ?_
     refine .st (mk 121 [] (L64 a3 r19 r48.1 r48.2 ++ [(107, .b true)]) []) ?_
     refine .runK [] 4 fun K k => ?_; simp; refine k _ _ ?_; clear k K
     refine .tt (L65 a3 r19 r48.1 ++ [(111, .b (r48.2 == 0))]) [] ?_
     replace h := isome h; rcases h with ⟨c70, h⟩ | ⟨c70, h⟩
     ·have c70_ : (r48.2 == 0) = true := c70
      refine .sub (.bool 111 (b := (r48.2 == 0)) rfl c70_) ?_
      refine .st (mk 121 [] (L65 a3 r19 r48.1 ++ [(111, .b true)]) []) ?_
      replace h := lsome h; obtain ⟨v71, hv71, h⟩ := h
      unfold minI at hv71
      try simp only [Int.ofNat_lt] at hv71
      replace h := bsome h; obtain ⟨n72, gn72, h⟩ := h
      obtain ⟨hn72a, hn72⟩ := natI_some gn72
      clear gn72
      subst hn72a
      replace h := lsome h; obtain ⟨l73, gl73, h⟩ := h
      have hl73 : ((r19.map (cL cS61)).take n72) = l73.map (cL cS61) := by rw [← gl73]; simp
      clear gl73
      refine .runK [] 7 fun K k => ?_; simp [hv71, hn72, hl73]; refine k _ _ ?_; clear k K
      refine .tt [(111, .b true), (112, .d (.sl (r48.1.map (cL cS61)))), (118, .d (.sl (l73.map (cL cS61))))] [] ?_
      replace h := bsome h; obtain ⟨r74, hr74, h⟩ := h
      refine .callL (d := 119) (p28 N r48.1 l73 r74 hr74) (by simp) rfl rfl (by simp <;> rfl) (by simp <;> rfl) ent28 (by simp <;> rfl) ?_
      refine .st (mk 121 [] [(111, .b true), (112, .d (.sl (r48.1.map (cL cS61)))), (118, .d (.sl (l73.map (cL cS61)))), (119, .b r74)] []) ?_
      refine .runK [] 2 fun K k => ?_; simp; refine k _ _ ?_; clear k K
      refine .tt [(8, .b r74)] [] ?_
      cases h
      exact .nil .tt
     have c70_ : (r48.2 == 0) = false := Bool.eq_false_iff.2 c70
     refine .sub (.bool 111 (b := (r48.2 == 0)) rfl c70_) ?_
     refine .st (mk 121 [] (L65 a3 r19 r48.1 ++ [(111, .b false)]) []) ?_
     refine .runK [] 10 fun K k => ?_; simp; refine k _ _ ?_; clear k K
     refine .tt [(8, .b false)] [] ?_
     cases h
     exact .nil .tt
    have c69_ : (r11.2.1 == v42) = false := Bool.eq_false_iff.2 c69
    refine .sub (.bool 107 (b := (r11.2.1 == v42)) rfl c69_) ?_
    refine .st (mk 121 [] (L64 a3 r19 r48.1 r48.2 ++ [(107, .b false)]) []) ?_
    refine .runK [] 14 fun K k => ?_; simp; refine k _ _ ?_; clear k K
    refine .tt [(8, .b false)] [] ?_
    cases h
    exact .nil .tt
   have c68_ : r67 = false := Bool.eq_false_iff.2 c68
   refine .sub (.bool 102 (b := r67) rfl c68_) ?_
   refine .st (mk 121 [] (L63 a3 r11.2.1 r19 v42 r48.1 r48.2 ++ [(102, .b false)]) []) ?_
   refine .runK [] 19 fun K k => ?_; simp; refine k _ _ ?_; clear k K
   refine .tt [(8, .b false)] [] ?_
   cases h
   exact .nil .tt
  have c66_ : (r11.2.2 == 0) = false := Bool.eq_false_iff.2 c66
  refine .sub (.bool 97 (b := (r11.2.2 == 0)) rfl c66_) ?_
  refine .st (mk 121 [] (L62 a3 r11.1 r11.2.1 r19 v42 r48.1 r48.2 ++ [(97, .b false)]) []) ?_
  refine .runK [] 24 fun K k => ?_; simp; refine k _ _ ?_; clear k K
  refine .tt [(8, .b false)] [] ?_
  cases h
  exact .nil .tt
 clear hj
 refine .ret ?_
 cases h
 exact FinC.ret (by simp) (by simp)
end Go.Proofs.YtimkkjiplioohaaGreatDoor
