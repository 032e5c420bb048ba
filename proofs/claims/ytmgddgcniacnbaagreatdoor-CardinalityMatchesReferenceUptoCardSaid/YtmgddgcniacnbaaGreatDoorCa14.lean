/- Functions of the program as functional programs; the code computes them. -/
import Derived.Test.YtmgddgcniacnbaaGreatDoorCa13
namespace Go.Proofs.YtmgddgcniacnbaaGreatDoor
set_option maxRecDepth 100000
set_option maxHeartbeats 4000000
open Go.Ab Go.Rp
attribute [-simp] List.all_eq_true Array.all_toList Array.all_eq_true
def d78 (N : Nat) (a0 : S56) (a1 : ByteArray) (a2 : S76) : Option Bool :=
 (d117 N a2).bind fun r1 =>
 bindO (β := Unit) (ρ := Bool) (
  iterN (σ := Int) (ρ := (Out Unit Bool)) (fun (v160 : Int) =>
   if v160 < (r1.length : Int) then (
    bindO (β := Unit) (ρ := (Int ⊕ (Out Unit Bool))) (
     (idx r1 v160).bind fun x562 =>
     Option.bind (α := Bool) (
      if (x562.Kind != 5) then (
       some true
      ) else
      if (!decide (x562.Name = (ByteArray.mk #[61]))) = true then (
       some true
      ) else
      some ((x562.Args.length : Int) != 2)
     ) fun (v566 : Bool) =>
     if v566 = true then (
      some (.go ())
     ) else
     bindO (β := Unit) (ρ := (Out Unit (Int ⊕ (Out Unit Bool)))) (
      iterN (σ := Int) (ρ := (Out Unit (Out Unit (Int ⊕ (Out Unit Bool))))) (fun (v585 : Int) =>
       if v585 < (x562.Args.length : Int) then (
        (idx x562.Args v585).bind fun x624 =>
        Option.bind (α := Bool) (
         if (x624.Kind == 2) then (
          if decide (x624.Name = a1) = true then (
           (chkI (1 - v585)).bind fun v635 =>
           (idx x562.Args v635).bind fun x636 =>
           (d116 N x636 a0).bind fun r638 =>
           some r638
          ) else
          some false
         ) else
         some false
        ) fun (v632 : Bool) =>
        if v632 = true then (
         some (.inr (.ret (.ret (.inr (.ret true)))))
        ) else
        (chkI (v585 + 1)).bind fun v640 =>
        some (.inl v640)
       ) else
       some (.inr (.go ()))
      ) N 0
     ) fun (_ : Unit) =>
     some (.go ())
    ) fun (_ : Unit) =>
    (chkI (v160 + 1)).bind fun v641 =>
    some (.inl v641)
   ) else
   some (.inr (.go ()))
  ) N 0
 ) fun (_ : Unit) =>
 some false
theorem p78 (N : Nat) (a0 : S56) (a1 : ByteArray) (a2 : S76) (r : Bool) (h : d78 N a0 a1 a2 = some r) : FunC Tryz.prog 78 [.agg (k56 a0),.s a1,.agg (k76 a2)] (.b r) := by
 unfold d78 at h
 refine FunC.enter 68 [(0,.agg (k56 a0)),(1,.s a1),(2,.agg (k76 a2))] (by simp) Tryz.func78 rfl (of_decide_eq_true rfl) rfl rfl ?_
 refine .seqR ?_
 refine .rr 3 ?_
 refine .nil (.seqR ?_)
 refine .rr 3 ?_
 refine .nil (.seqR ?_)
 refine .rr 2 ?_
 refine .nil (.seq (.seqR ?_))
 refine .rr 1 ?_
 refine .tt [(1,.s a1),(8,.fn (.func 116) [.ptr 7 0 0]),(15,.agg (k76 a2))] [(3,some (.box (k56 a0))),(7,some (.box [.fn (.func 115) [.ptr 3 0 0]]))] ?_
 replace h := bsome h;obtain ⟨r1,hr1,h⟩ := h
 refine .callO (d := 16) (p117 N a2 r1 hr1) (by simp) rfl rfl (by simp <;> rfl) (by simp <;> rfl) ent117 (by simp) ⟨by simp,by simp⟩ ?_
 refine .rr 2 ?_
 refine .tt [(1,.s a1),(8,.fn (.func 116) [.ptr 7 0 0]),(16,.ref 16 0 r1.length),(17,.i (r1.length : Int)),(18,.i 0)] (H38 a0 r1) (.nil ?_)
 refine .lastJ (fun (_ : Unit) => mk 68 [] [] []) h ?_ ?_ <;> clear h
 ·intro o h
  refine .block ?_
  refine .iter (fun (v160 : Int) => mk 68 [] (L120 a1 r1.length v160) (H38 a0 r1)) h Sub.tt ?_
  clear h
  rintro v160 x h
  refine .seqR ?_
  refine .rr 1 ?_
  refine .nil (.seq ?_)
  replace h := isome h;rcases h with ⟨c482,h⟩ | ⟨c482,h⟩
  ·refine .condT rfl (decide_eq_true c482) ?_
   refine .skip (thenQ_normal ?_)
   refine .seqJ (fun (_ : Unit) => mk 68 [] (L120 a1 r1.length v160) (H38 a0 r1)) h ?_ ?_ <;> clear h
   ·intro o h
    refine .block (.seqR ?_)
    replace h := xsome h;obtain ⟨x562,k563,hx562k,hx562,hx562a,hx562b,h⟩ := h
    refine .rk 4 fun K k => ?_;simp [hx562,hx562k,hx562a,hx562b];refine k ?_
    refine .tt (L121 a1 r1.length v160) (H14 a0 x562 r1) (.nil (.seq ?_))
    replace h := bsome h;obtain ⟨v566,hj,h⟩ := h
    refine .cutR (mk 68 [] (L121 a1 r1.length v160 ++ [(35,.b v566)]) (H14 a0 x562 r1)) ?_ ?_
    ·clear h;have h := hj;clear hj
     refine .rr 4 ?_
     replace h := isome h;rcases h with ⟨c567,h⟩ | ⟨c567,h⟩
     ·refine .sub (.bool 25 rfl c567) ?_
      refine .rr 10 ?_
      cases h
      exact .nil .tt
     refine .sub (.bool 25 rfl (Bool.eq_false_iff.2 c567)) ?_
     refine .rr 5 ?_
     replace h := isome h;rcases h with ⟨c568,h⟩ | ⟨c568,h⟩
     ·have c568_ := c568
      refine .sub (.bool 28 rfl c568_) ?_
      refine .sub (.bool 30 rfl c568_) ?_
      refine .rr 5 ?_
      cases h
      exact .nil .tt
     have c568_ := Bool.eq_false_iff.2 c568
     refine .sub (.bool 28 rfl c568_) ?_
     refine .sub (.bool 30 rfl c568_) ?_
     refine .rr 5 ?_
     cases h
     exact .nil .tt
    clear hj
    replace h := isome h;rcases h with ⟨c569,h⟩ | ⟨c569,h⟩
    ·refine .condT rfl c569 ?_
     refine .exit ?_
     cases h
     refine thenQ_ps ?_
     refine blockQ.hit (PostJ.next ?_)
     exact Sub.tt
    refine .condF rfl (Bool.eq_false_iff.2 c569) ?_
    refine .skip (thenQ_normal (.seqR ?_))
    refine .rr 4 ?_
    refine .tt (L121 a1 r1.length v160 ++ [(38,.i (x562.Args.length : Int)),(39,.i 0)]) (H14 a0 x562 r1) (.nil ?_)
    refine .lastJ (fun (_ : Unit) => mk 68 [] (L120 a1 r1.length v160) (H38 a0 r1)) h ?_ ?_ <;> clear h
    ·intro o h
     refine .block ?_
     refine .iter (fun (v585 : Int) => mk 68 [] (L123 a1 r1.length v160 x562.Args.length v585) (H14 a0 x562 r1)) h Sub.tt ?_
     clear h
     rintro v585 x h
     refine .seqR ?_
     refine .rr 1 ?_
     refine .nil (.seq ?_)
     replace h := isome h;rcases h with ⟨c623,h⟩ | ⟨c623,h⟩
     ·refine .condT rfl (decide_eq_true c623) ?_
      refine .skip (thenQ_normal (.seq (.block (.seqR ?_))))
      refine .rr 2 ?_
      refine .tt [(1,.s a1),(8,.fn (.func 116) [.ptr 7 0 0]),(10,.ptr 10 0 0),(11,.i v585),(16,.ref 16 0 r1.length),(17,.i (r1.length : Int)),(18,.i v160),(38,.i (x562.Args.length : Int)),(39,.i v585)] (H14 a0 x562 r1) (.nil (.seqR ?_))
      replace h := xsome h;obtain ⟨x624,k625,hx624k,hx624,hx624a,hx624b,h⟩ := h
      refine .rk 7 fun K k => ?_;simp [hx624,hx624k,hx624a];refine k ?_
      refine .tt (L124 a1 v585 r1.length v160 x562.Args.length) (H25 a0 x562 x624 r1) (.nil ?_)
      replace h := bsome h;obtain ⟨v632,hj,h⟩ := h
      refine .cutR (mk 68 [] (L123 a1 r1.length v160 x562.Args.length v585 ++ [(65,.b v632)]) (H14 a0 x562 r1)) ?_ ?_
      ·clear h;have h := hj;clear hj
       refine .rr 4 ?_
       replace h := isome h;rcases h with ⟨c633,h⟩ | ⟨c633,h⟩
       ·refine .sub (.bool 50 rfl c633) ?_
        refine .rr 6 ?_
        replace h := isome h;rcases h with ⟨c634,h⟩ | ⟨c634,h⟩
        ·have c634_ := c634
         refine .sub (.bool 54 rfl c634_) ?_
         refine .sub (.bool 56 rfl c634_) ?_
         refine .st (mk 68 [] (L125 a1 v585 r1.length v160 x562.Args.length x624.Name ++ [(54,.b true),(56,.b true)]) (H25 a0 x562 x624 r1)) ?_
         replace h := csome h;obtain ⟨v635,hv635,h⟩ := h
         replace h := xsome h;obtain ⟨x636,k637,hx636k,hx636,hx636a,hx636b,h⟩ := h
         refine .rk 7 fun K k => ?_;simp [hv635,hx636,hx636k,hx636a];refine k ?_
         refine .tt (L126 a1 r1.length v160 x562.Args.length v585 x624.Name ++ [(56,.b true),(57,.fn (.func 116) [.ptr 7 0 0]),(58,.ptr 10 0 6),(59,.s76 x562.Args),(60,.i v585),(61,.i v635),(62,.d (.pim [.lit (.int .i64 x636.Kind),.lit (.string x636.Name),.lit (.int .i64 x636.Index),.lit (.int .i64 x636.Value.Kind),.lit (.int .i64 x636.Value.Int),.lit (.string x636.Value.Text),.sl (x636.Args.map cS76)])),(63,.agg (k76 x636))]) (H25 a0 x562 x624 r1) ?_
         replace h := bsome h;obtain ⟨r638,hr638,h⟩ := h
         refine .callL (d := 64) (p116 N x636 a0 r638 hr638) (by simp) rfl rfl (by simp <;> rfl) (by simp <;> rfl) ent116 (by simp <;> rfl) ?_
         refine .rr 1 ?_
         cases h
         exact .nil .tt
        have c634_ := Bool.eq_false_iff.2 c634
        refine .sub (.bool 54 rfl c634_) ?_
        refine .sub (.bool 56 rfl c634_) ?_
        refine .rr 9 ?_
        cases h
        exact .nil .tt
       refine .sub (.bool 50 rfl (Bool.eq_false_iff.2 c633)) ?_
       refine .rr 15 ?_
       cases h
       exact .nil .tt
      clear hj
      replace h := isome h;rcases h with ⟨c639,h⟩ | ⟨c639,h⟩
      ·refine .condT rfl c639 ?_
       refine .seqR ?_
       refine .rr 1 ?_
       refine .nil (.ret ?_)
       cases h
       refine blockQ.ret ?_
       refine thenQ_ps ?_
       refine PostI.os ?_
       rintro rfl
       refine blockQ.ret ?_
       refine PostJ.out (by simp) ?_
       rintro rfl
       refine blockQ.ret ?_
       refine PostJ.out (by simp) ?_
       rintro rfl
       refine PostI.os ?_
       rintro rfl
       refine blockQ.ret ?_
       refine PostJ.out (by simp) ?_
       rintro rfl
       refine thenQ_ps ?_
       exact FinC.rs
      refine .condF rfl (Bool.eq_false_iff.2 c639) ?_
      refine .skip (blockQ.normal (thenQ_normal (.region ?_)))
      replace h := csome h;obtain ⟨v640,hv640,h⟩ := h
      refine .rk 2 fun K k => ?_;simp [hv640];refine k ?_
      refine .nil ?_
      cases h
      refine PostI.next ?_
      exact Sub.tt
     refine .condF rfl (decide_eq_false c623) ?_
     refine .exit ?_
     cases h
     refine thenQ_ps ?_
     refine PostI.os ?_
     rintro rfl
     refine blockQ.hit (PostJ.next ?_)
     exact Sub.tt
    rintro ⟨⟩ h
    cases h
    refine blockQ.normal (PostJ.next ?_)
    exact Sub.tt
   rintro ⟨⟩ h
   refine .region ?_
   replace h := csome h;obtain ⟨v641,hv641,h⟩ := h
   refine .rk 2 fun K k => ?_;simp [hv641];refine k ?_
   refine .nil ?_
   cases h
   refine PostI.next ?_
   exact Sub.tt
  refine .condF rfl (decide_eq_false c482) ?_
  refine .exit ?_
  cases h
  refine thenQ_ps ?_
  refine PostI.os ?_
  rintro rfl
  refine blockQ.hit (PostJ.next ?_)
  exact Sub.tt
 rintro ⟨⟩ h
 refine thenQ_normal (.seqR ?_)
 refine .rr 1 ?_
 refine .nil (.ret ?_)
 cases h
 exact FinC.rs
def d55 (N : Nat) (a0 : S26) (a1 : S34) (a2 : S76) : Option Bool :=
 Option.bind (α := (Int × ByteArray × (List ByteArray) × (List S76) × (List S79) × (List Bool) × Int × Int × (List S34))) (
  iterN (σ := (Int × ByteArray × (List ByteArray) × (List S76) × (List S79) × (List Bool) × Int × Int × (List S34))) (ρ := (Int × ByteArray × (List ByteArray) × (List S76) × (List S79) × (List Bool) × Int × Int × (List S34))) (fun ((v6,v7,l8,l9,l10,l11,v12,v13,l14) : (Int × ByteArray × (List ByteArray) × (List S76) × (List S79) × (List Bool) × Int × Int × (List S34))) =>
   Option.bind (α := Bool) (
    if (v6 == 2) then (
     some ((l14.length : Int) == 1)
    ) else
    some false
   ) fun (v44 : Bool) =>
   if v44 = true then (
    (idx l14 0).bind fun x47 =>
    some (.inl (x47.Kind,x47.Table,x47.Names,x47.Exprs,x47.Aggregates,x47.Descending,x47.Count,x47.Offset,x47.Inputs))
   ) else
   some (.inr (v6,v7,l8,l9,l10,l11,v12,v13,l14))
  ) N (a1.Kind,a1.Table,a1.Names,a1.Exprs,a1.Aggregates,a1.Descending,a1.Count,a1.Offset,a1.Inputs)
 ) fun ((v34,v35,_l36,_l37,_l38,_l39,_v40,_v41,_l42) : (Int × ByteArray × (List ByteArray) × (List S76) × (List S79) × (List Bool) × Int × Int × (List S34))) =>
 if (v34 != 1) then (
  some false
 ) else
 bindO (β := Unit) (ρ := Bool) (
  iterN (σ := Int) (ρ := (Out Unit Bool)) (fun (v118 : Int) =>
   if v118 < (a0.Tables.length : Int) then (
    (idx a0.Tables v118).bind fun x261 =>
    if (!decide (x261.Name = v35)) = true then (
     (chkI (v118 + 1)).bind fun v264 =>
     some (.inl v264)
    ) else
    bindO (β := Unit) (ρ := (Int ⊕ (Out Unit Bool))) (
     iterN (σ := Int) (ρ := (Out Unit (Int ⊕ (Out Unit Bool)))) (fun (v280 : Int) =>
      if v280 < (x261.PrimaryKey.length : Int) then (
       (idx x261.PrimaryKey v280).bind fun x315 =>
       Option.bind (α := Bool) (
        if x315 < 0 then (
         some true
        ) else
        if x315 ≥ (x261.Columns.length : Int) then (
         some true
        ) else
        (idx x261.Columns x315).bind fun x325 =>
        (d78 N x261 x325.Name a2).bind fun r327 =>
        some (!r327)
       ) fun (v322 : Bool) =>
       if v322 = true then (
        some (.inr (.ret (.inr (.ret false))))
       ) else
       (chkI (v280 + 1)).bind fun v329 =>
       some (.inl v329)
      ) else
      some (.inr (.go ()))
     ) N 0
    ) fun (_ : Unit) =>
    some (.inr (.ret true))
   ) else
   some (.inr (.go ()))
  ) N 0
 ) fun (_ : Unit) =>
 some false
theorem p55 (N : Nat) (a0 : S26) (a1 : S34) (a2 : S76) (r : Bool) (h : d55 N a0 a1 a2 = some r) : FunC Tryz.prog 55 [.agg (k26 a0),.agg (k34 a1),.agg (k76 a2)] (.b r) := by
 unfold d55 at h
 refine FunC.enter 69 [(0,.agg (k26 a0)),(1,.agg (k34 a1)),(2,.agg (k76 a2))] (by simp) Tryz.func55 rfl (of_decide_eq_true rfl) rfl rfl ?_
 refine .seqR ?_
 refine .rr 4 ?_
 refine .tt [(3,.ptr 3 0 0),(4,.ptr 4 0 0),(5,.ptr 5 0 0)] (H48 a0 a1 a2) (.nil ?_)
 refine .seqN (fun ((v34,v35,l36,l37,l38,l39,v40,v41,l42) : (Int × ByteArray × (List ByteArray) × (List S76) × (List S79) × (List Bool) × Int × Int × (List S34))) => mk 69 [] [(3,.ptr 3 0 0),(4,.ptr 4 0 0),(5,.ptr 5 0 0)] (H21 a0 v34 v35 l36 l37 l38 l39 v40 v41 l42 a2)) h ?_ ?_ <;> clear h
 ·intro o h
  refine .block ?_
  refine .iter (fun ((v6,v7,l8,l9,l10,l11,v12,v13,l14) : (Int × ByteArray × (List ByteArray) × (List S76) × (List S79) × (List Bool) × Int × Int × (List S34))) => mk 69 [] [(3,.ptr 3 0 0),(4,.ptr 4 0 0),(5,.ptr 5 0 0)] (H21 a0 v6 v7 l8 l9 l10 l11 v12 v13 l14 a2)) h Sub.tt ?_
  clear h
  rintro ⟨v6,v7,l8,l9,l10,l11,v12,v13,l14⟩ x h
  dsimp only at h ⊢
  refine .seq ?_
  replace h := bsome h;obtain ⟨v44,hj,h⟩ := h
  refine .cutR (mk 69 [] (L102 ++ [(19,.b v44)]) (H21 a0 v6 v7 l8 l9 l10 l11 v12 v13 l14 a2)) ?_ ?_
  ·clear h;have h := hj;clear hj
   refine .rr 4 ?_
   replace h := isome h;rcases h with ⟨c45,h⟩ | ⟨c45,h⟩
   ·refine .sub (.bool 14 rfl c45) ?_
    refine .rr 5 ?_
    cases h
    exact .nil .tt
   refine .sub (.bool 14 rfl (Bool.eq_false_iff.2 c45)) ?_
   refine .rr 5 ?_
   cases h
   exact .nil .tt
  clear hj
  replace h := isome h;rcases h with ⟨c46,h⟩ | ⟨c46,h⟩
  ·refine .condT rfl c46 ?_
   refine .skip (thenQ_normal (.block (.region ?_)))
   replace h := bsome h;obtain ⟨x47,hx47,h⟩ := h
   obtain ⟨hx47,hx47b,hx47c⟩ := idx_someN (n := 0) hx47
   refine .rk 5 fun K k => ?_;simp [hx47];refine k ?_
   refine .nil ?_
   cases h
   refine blockQ.normal (PostI.next ?_)
   exact Sub.tt
  refine .condF rfl (Bool.eq_false_iff.2 c46) ?_
  refine .exit ?_
  cases h
  refine thenQ_ps ?_
  refine PostI.os ?_
  rintro rfl
  refine blockQ.hit (PostN.next ?_)
  exact Sub.tt
 rintro ⟨v34,v35,l36,l37,l38,l39,v40,v41,l42⟩ h
 dsimp only at h ⊢
 refine .seq (.seqR ?_)
 refine .rr 3 ?_
 refine .nil ?_
 replace h := isome h;rcases h with ⟨c48,h⟩ | ⟨c48,h⟩
 ·refine .condT rfl c48 ?_
  refine .seqR ?_
  refine .rr 1 ?_
  refine .nil (.ret ?_)
  cases h
  refine thenQ_ps ?_
  exact FinC.rs
 refine .condF rfl (Bool.eq_false_iff.2 c48) ?_
 refine .skip (thenQ_normal (.seq (.seqR ?_)))
 refine .rr 4 ?_
 refine .tt [(4,.ptr 4 0 0),(5,.ptr 5 0 0),(28,.s56 a0.Tables),(29,.i (a0.Tables.length : Int)),(30,.i 0)] (H35 v34 v35 l36 l37 l38 l39 v40 v41 l42 a2) (.nil ?_)
 refine .lastJ (fun (_ : Unit) => mk 69 [] [] []) h ?_ ?_ <;> clear h
 ·intro o h
  refine .block ?_
  refine .iter (fun (v118 : Int) => mk 69 [] (L127 a0.Tables a0.Tables.length v118) (H35 v34 v35 l36 l37 l38 l39 v40 v41 l42 a2)) h Sub.tt ?_
  clear h
  rintro v118 x h
  refine .seqR ?_
  refine .rr 1 ?_
  refine .nil (.seq ?_)
  replace h := isome h;rcases h with ⟨c260,h⟩ | ⟨c260,h⟩
  ·refine .condT rfl (decide_eq_true c260) ?_
   refine .skip (thenQ_normal (.seq (.block (.seqR ?_))))
   replace h := xsome h;obtain ⟨x261,k262,hx261k,hx261,hx261a,hx261b,h⟩ := h
   refine .rk 4 fun K k => ?_;simp [hx261,hx261k,hx261a];refine k ?_
   refine .nil (.seq (.seqR ?_))
   refine .rr 5 ?_
   refine .nil ?_
   replace h := isome h;rcases h with ⟨c263,h⟩ | ⟨c263,h⟩
   ·refine .condT rfl c263 ?_
    refine .exit ?_
    refine thenQ_ps ?_
    refine blockQ.hit (thenQ_normal (.region ?_))
    replace h := csome h;obtain ⟨v264,hv264,h⟩ := h
    refine .rk 2 fun K k => ?_;simp [hv264];refine k ?_
    refine .nil ?_
    cases h
    refine PostI.next ?_
    exact Sub.tt
   refine .condF rfl (Bool.eq_false_iff.2 c263) ?_
   refine .skip (thenQ_normal (.seq (.seqR ?_)))
   refine .rr 4 ?_
   refine .tt [(5,.ptr 5 0 0),(8,.ptr 8 0 0),(40,.si x261.PrimaryKey),(41,.i (x261.PrimaryKey.length : Int)),(42,.i 0)] (H10 a2 x261) (.nil ?_)
   refine .lastJ (fun (_ : Unit) => mk 69 [] [] []) h ?_ ?_ <;> clear h
   ·intro o h
    refine .block ?_
    refine .iter (fun (v280 : Int) => mk 69 [] (L128 x261.PrimaryKey x261.PrimaryKey.length v280) (H10 a2 x261)) h Sub.tt ?_
    clear h
    rintro v280 x h
    refine .seqR ?_
    refine .rr 1 ?_
    refine .nil (.seq ?_)
    replace h := isome h;rcases h with ⟨c314,h⟩ | ⟨c314,h⟩
    ·refine .condT rfl (decide_eq_true c314) ?_
     refine .skip (thenQ_normal (.seq (.block (.seqR ?_))))
     replace h := xsome h;obtain ⟨x315,k316,hx315k,hx315,hx315a,hx315b,h⟩ := h
     refine .rk 3 fun K k => ?_;simp [hx315,hx315k,hx315a];refine k ?_
     refine .tt (L129 x315 x261.PrimaryKey x261.PrimaryKey.length v280) (H10 a2 x261) (.nil ?_)
     replace h := bsome h;obtain ⟨v322,hj,h⟩ := h
     refine .cutQ (by kernel_rfl) (by kernel_rfl) (mk 69 [] (L128 x261.PrimaryKey x261.PrimaryKey.length v280 ++ [(66,.b v322)]) (H10 a2 x261)) ?_ ?_
     ·clear h;have h := hj;clear hj
      refine .rq 3 fun K k => ?_;simp;refine k ?_
      replace h := isome h;rcases h with ⟨c323,h⟩ | ⟨c323,h⟩
      ·refine .sub (.bool 48 rfl (decide_eq_true c323)) ?_
       refine .rq 18 fun K k => ?_;simp;refine k ?_
       cases h
       exact .nil .tt
      refine .sub (.bool 48 rfl (decide_eq_false c323)) ?_
      refine .rq 7 fun K k => ?_;simp;refine k ?_
      replace h := isome h;rcases h with ⟨c324,h⟩ | ⟨c324,h⟩
      ·have c324_ := decide_eq_true c324
       refine .sub (.bool 53 rfl c324_) ?_
       refine .sub (.bool 55 rfl c324_) ?_
       refine .rq 11 fun K k => ?_;simp;refine k ?_
       cases h
       exact .nil .tt
      have c324_ := decide_eq_false c324
      refine .sub (.bool 53 rfl c324_) ?_
      refine .sub (.bool 55 rfl c324_) ?_
      refine .st (mk 69 [] (L130 x315 x261.PrimaryKey x261.PrimaryKey.length v280 x261.Columns x261.Columns.length ++ [(53,.b false),(55,.b false)]) (H10 a2 x261)) ?_
      replace h := xsome h;obtain ⟨x325,k326,hx325k,hx325,hx325a,hx325b,h⟩ := h
      refine .rq 8 fun K k => ?_;simp [hx325,hx325k,hx325a];refine k ?_
      refine .tt (L131 x261.PrimaryKey x261.PrimaryKey.length v280 x315 x261.Columns x261.Columns.length ++ [(55,.b false),(56,.agg (k56 x261)),(57,.ptr 8 0 1),(58,.s53 x261.Columns),(59,.i x315),(60,.d (.pim [.lit (.string x325.Name),.lit (.int .i64 x325.Kind),.lit (.bool x325.Nullable)])),(61,.d (.pim [.lit (.string x325.Name),.lit (.int .i64 x325.Kind),.lit (.bool x325.Nullable)])),(62,.s x325.Name),(63,.agg (k76 a2))]) (H10 a2 x261) ?_
      replace h := bsome h;obtain ⟨r327,hr327,h⟩ := h
      refine .callL (d := 64) (p78 N x261 x325.Name a2 r327 hr327) (by simp) rfl rfl (by simp <;> rfl) (by simp <;> rfl) ent78 (by simp <;> rfl) ?_
      refine .rq 2 fun K k => ?_;simp;refine k ?_
      cases h
      exact .nil .tt
     clear hj
     replace h := isome h;rcases h with ⟨c328,h⟩ | ⟨c328,h⟩
     ·refine .condT rfl c328 ?_
      refine .seqR ?_
      refine .rr 1 ?_
      refine .nil (.ret ?_)
      cases h
      refine blockQ.ret ?_
      refine thenQ_ps ?_
      refine PostI.os ?_
      rintro rfl
      refine blockQ.ret ?_
      refine PostJ.out (by simp) ?_
      rintro rfl
      refine thenQ_ps ?_
      refine blockQ.ret ?_
      refine thenQ_ps ?_
      refine PostI.os ?_
      rintro rfl
      refine blockQ.ret ?_
      refine PostJ.out (by simp) ?_
      rintro rfl
      refine thenQ_ps ?_
      exact FinC.rs
     refine .condF rfl (Bool.eq_false_iff.2 c328) ?_
     refine .skip (blockQ.normal (thenQ_normal (.region ?_)))
     replace h := csome h;obtain ⟨v329,hv329,h⟩ := h
     refine .rk 2 fun K k => ?_;simp [hv329];refine k ?_
     refine .nil ?_
     cases h
     refine PostI.next ?_
     exact Sub.tt
    refine .condF rfl (decide_eq_false c314) ?_
    refine .exit ?_
    cases h
    refine thenQ_ps ?_
    refine PostI.os ?_
    rintro rfl
    refine blockQ.hit (PostJ.next ?_)
    exact Sub.tt
   rintro ⟨⟩ h
   refine thenQ_normal (.seqR ?_)
   refine .rr 1 ?_
   refine .nil (.ret ?_)
   cases h
   refine blockQ.ret ?_
   refine thenQ_ps ?_
   refine PostI.os ?_
   rintro rfl
   refine blockQ.ret ?_
   refine PostJ.out (by simp) ?_
   rintro rfl
   refine thenQ_ps ?_
   exact FinC.rs
  refine .condF rfl (decide_eq_false c260) ?_
  refine .exit ?_
  cases h
  refine thenQ_ps ?_
  refine PostI.os ?_
  rintro rfl
  refine blockQ.hit (PostJ.next ?_)
  exact Sub.tt
 rintro ⟨⟩ h
 refine thenQ_normal (.seqR ?_)
 refine .rr 1 ?_
 refine .nil (.ret ?_)
 cases h
 exact FinC.rs
def d31 (N : Nat) (a0 : S26) (a1 : S34) (a2 : (List S49)) : Option S49 :=
 (idx a2 0).bind fun x1 =>
 (idx a2 1).bind fun x2 =>
 (chkI (x1.High * x2.High)).bind fun v3 =>
 (idx a1.Exprs 0).bind fun x4 =>
 if (x4.Kind == 1) then (
  (d54 N x4.Value).bind fun r6 =>
  if r6 = true then (
   (chkI (x1.Low * x2.Low)).bind fun v8 =>
   some (S49.mk v8 v3)
  ) else
  some (S49.mk 0 0)
 ) else
 (idx a1.Inputs 1).bind fun x9 =>
 (d55 N a0 x9 x4).bind fun r10 =>
 Option.bind (α := Int) (
  if r10 = true then (
   letv (minI v3 x1.High) fun v15 =>
   some v15
  ) else
  some v3
 ) fun (v13 : Int) =>
 (idx a1.Inputs 0).bind fun x16 =>
 (idx a1.Exprs 0).bind fun x17 =>
 (d55 N a0 x16 x17).bind fun r18 =>
 if r18 = true then (
  (idx a2 1).bind fun x20 =>
  letv (minI v13 x20.High) fun v21 =>
  some (S49.mk 0 v21)
 ) else
 some (S49.mk 0 v13)
theorem p31 (N : Nat) (a0 : S26) (a1 : S34) (a2 : (List S49)) (r : S49) (h : d31 N a0 a1 a2 = some r) : FunC Tryz.prog 31 [.agg (k26 a0),.agg (k34 a1),.s49 a2] (.agg [.i r.Low,.i r.High]) := by
 unfold d31 at h
 refine FunC.enter 79 [(0,.agg (k26 a0)),(1,.agg (k34 a1)),(2,.s49 a2)] (by simp) Tryz.func31 rfl (of_decide_eq_true rfl) rfl rfl ?_
 refine .seqR ?_
 refine .rr 3 ?_
 refine .tt [(2,.s49 a2),(3,.ptr 3 0 0),(4,.ptr 4 0 0),(6,.ptr 6 0 0)] [(3,some (.box (k26 a0))),(4,some (.box (k34 a1))),(6,some (.box [.i 0,.i 0]))] (.nil ?_)
 replace h := bsome h;obtain ⟨x1,hx1,h⟩ := h
 obtain ⟨hx1,hx1b,hx1c⟩ := idx_someN (n := 0) hx1
 replace h := bsome h;obtain ⟨x2,hx2,h⟩ := h
 obtain ⟨hx2,hx2b,hx2c⟩ := idx_someN (n := 1) hx2
 replace h := csome h;obtain ⟨v3,hv3,h⟩ := h
 refine .seqAnyS [[],[0],[0,1],[0,1,2],[],[4],[4,5],[4,5,6],[0,1,2,3,4,5,6,7],[0,1,2,3,4,5,6,7,8],[],[0,1,2,3,4,5,6,7,8,9,10]] (fun (b : Nat → Bool) => mk 79 [] [(2,.s49 a2),(3,.ptr 3 0 0),(4,.ptr 4 0 0),(6,.ptr 6 0 0),(7,(if b 10 then .ptr 7 0 0 else .junk)),(9,(if b 0 then .s49 a2 else .junk)),(10,(if b 1 then .d (.pim [.lit (.int .i64 x1.Low),.lit (.int .i64 x1.High)]) else .junk)),(11,(if b 2 then .d (.pim [.lit (.int .i64 x1.High)]) else .junk)),(12,(if b 3 then .i x1.High else .junk)),(13,(if b 4 then .s49 a2 else .junk)),(14,(if b 5 then .d (.pim [.lit (.int .i64 x2.Low),.lit (.int .i64 x2.High)]) else .junk)),(15,(if b 6 then .d (.pim [.lit (.int .i64 x2.High)]) else .junk)),(16,(if b 7 then .i x2.High else .junk)),(17,(if b 8 then .i v3 else .junk)),(18,(if b 9 then .agg [.i 0,.i v3] else .junk))] [(3,some (.box (k26 a0))),(4,some (.box (k34 a1))),(6,some (.box [.i 0,.i 0])),(7,(if b 11 then some (.box [.i 0,.i v3]) else (if b 10 then some (.box [.i 0,.i 0]) else none)))]) (mk 79 [] (L132 a2) (H41 a0 a1 v3)) (by kernel_rfl) (by kernel_rfl) Sub.tt (Steps.cons ?_ (Steps.cons ?_ (Steps.cons ?_ (Steps.cons ?_ (Steps.cons ?_ (Steps.cons ?_ (Steps.cons ?_ (Steps.cons ?_ (Steps.cons ?_ (Steps.cons ?_ (Steps.cons ?_ (Steps.cons ?_ (Steps.nil))))))))))))) ?_ ?_
 iterate 10
  ·intro b h0 ha hd
   have T := fct h0 ha hd;simp at T
   refine .rk 1 fun K k => ?_;simp [T,hx1,hx2,hv3];refine k ?_
   exact .nil .tT
 iterate 2
  ·intro b h0 ha hd
   have T := fct h0 ha hd;simp at T
   refine .rk 1 fun K k => ?_;simp [T];refine k ?_
   exact .nil .tT
 ·intro b hb
  have T := FA_of (n := 12) hb;simp at T
  exact Sub.tT
 skip
 refine .seq (.seqR ?_)
 replace h := bsome h;obtain ⟨x4,hx4,h⟩ := h
 obtain ⟨hx4,hx4b,hx4c⟩ := idx_someN (n := 0) hx4
 refine .rk 6 fun K k => ?_;simp [hx4];refine k ?_
 refine .nil (.seqR ?_)
 refine .rr 3 ?_
 refine .nil ?_
 replace h := isome h;rcases h with ⟨c5,h⟩ | ⟨c5,h⟩
 ·refine .condT rfl c5 ?_
  refine .seq (.seqR ?_)
  refine .rr 2 ?_
  refine .tt (L133 a2 ++ [(27,.agg (k58 x4.Value))]) (H42 v3) ?_
  replace h := bsome h;obtain ⟨r6,hr6,h⟩ := h
  refine .callL (d := 28) (p54 N x4.Value r6 hr6) (by simp) rfl rfl (by simp <;> rfl) (by simp <;> rfl) ent54 (by simp <;> rfl) ?_
  refine .st (mk 79 [] (L133 a2 ++ [(27,.agg (k58 x4.Value)),(28,.b r6)]) (H42 v3)) (.nil ?_)
  replace h := isome h;rcases h with ⟨c7,h⟩ | ⟨c7,h⟩
  ·refine .condT rfl c7 ?_
   replace h := csome h;obtain ⟨v8,hv8,h⟩ := h
   refine .seqT 12 (by kernel_rfl) (by kernel_rfl) fun K k => ?_;simp [hx1,hx2,hv8];refine k _ _ ?_;clear k K
   refine .rr 1 ?_
   refine .nil (.ret ?_)
   cases h
   refine thenQ_ps ?_
   refine thenQ_ps ?_
   exact FinC.rs
  refine .condF rfl (Bool.eq_false_iff.2 c7) ?_
  refine .skip (thenQ_normal (.seqR ?_))
  refine .rr 2 ?_
  refine .nil (.ret ?_)
  cases h
  refine thenQ_ps ?_
  exact FinC.rs
 refine .condF rfl (Bool.eq_false_iff.2 c5) ?_
 refine .skip (thenQ_normal (.seq ?_))
 refine .seqQ (by kernel_rfl) (by kernel_rfl) ?_
 replace h := bsome h;obtain ⟨x9,hx9,h⟩ := h
 obtain ⟨hx9,hx9b,hx9c⟩ := idx_someN (n := 1) hx9
 refine .rq 9 fun K k => ?_;simp [hx9,hx4];refine k ?_
 refine .tt (L132 a2 ++ [(42,.agg (k26 a0)),(46,.agg (k34 x9)),(50,.agg (k76 x4))]) (H41 a0 a1 v3) ?_
 replace h := bsome h;obtain ⟨r10,hr10,h⟩ := h
 refine .callL (d := 51) (p55 N a0 x9 x4 r10 hr10) (by simp) rfl rfl (by simp <;> rfl) (by simp <;> rfl) ent55 (by simp <;> rfl) ?_
 refine .st (mk 79 [] (L132 a2 ++ [(42,.agg (k26 a0)),(46,.agg (k34 x9)),(50,.agg (k76 x4)),(51,.b r10)]) (H41 a0 a1 v3)) (.nil ?_)
 refine .lastN (fun (v13 : Int) => mk 79 [] (L132 a2) (H41 a0 a1 v13)) h ?_ ?_ <;> clear h
 ·intro o h
  replace h := isome h;rcases h with ⟨c14,h⟩ | ⟨c14,h⟩
  ·refine .condT rfl c14 ?_
   replace h := lsome h;obtain ⟨v15,hv15,h⟩ := h
   unfold minI at hv15
   try simp only [Int.ofNat_lt] at hv15
   refine .regionT 8 (by kernel_rfl) (by kernel_rfl) fun K k => ?_;simp [hx1,hv15];refine k _ _ ?_;clear k K
   refine .rr 1 ?_
   refine .nil ?_
   cases h
   refine PostN.next ?_
   exact Sub.tt
  refine .condF rfl (Bool.eq_false_iff.2 c14) ?_
  refine .skip ?_
  cases h
  refine PostN.next ?_
  exact Sub.tt
 rintro v13 h
 refine thenQ_normal (.seq ?_)
 refine .seqQ (by kernel_rfl) (by kernel_rfl) ?_
 replace h := bsome h;obtain ⟨x16,hx16,h⟩ := h
 obtain ⟨hx16,hx16b,hx16c⟩ := idx_someN (n := 0) hx16
 replace h := bsome h;obtain ⟨x17,hx17,h⟩ := h
 obtain ⟨hx17,hx17b,hx17c⟩ := idx_someN (n := 0) hx17
 refine .rq 9 fun K k => ?_;simp [hx16,hx17];refine k ?_
 refine .tt (L133 a2 ++ [(60,.agg (k26 a0)),(64,.agg (k34 x16)),(68,.agg (k76 x17))]) (H42 v13) ?_
 replace h := bsome h;obtain ⟨r18,hr18,h⟩ := h
 refine .callL (d := 69) (p55 N a0 x16 x17 r18 hr18) (by simp) rfl rfl (by simp <;> rfl) (by simp <;> rfl) ent55 (by simp <;> rfl) ?_
 refine .st (mk 79 [] (L133 a2 ++ [(60,.agg (k26 a0)),(64,.agg (k34 x16)),(68,.agg (k76 x17)),(69,.b r18)]) (H42 v13)) (.nil ?_)
 replace h := isome h;rcases h with ⟨c19,h⟩ | ⟨c19,h⟩
 ·refine .condT rfl c19 ?_
  replace h := bsome h;obtain ⟨x20,hx20,h⟩ := h
  obtain ⟨hx20,hx20b,hx20c⟩ := idx_someN (n := 1) hx20
  replace h := lsome h;obtain ⟨v21,hv21,h⟩ := h
  unfold minI at hv21
  try simp only [Int.ofNat_lt] at hv21
  refine .regionT 8 (by kernel_rfl) (by kernel_rfl) fun K k => ?_;simp [hx20,hv21];refine k _ _ ?_;clear k K
  refine .rr 1 ?_
  refine .nil (thenQ_normal (.seqR ?_))
  refine .rr 2 ?_
  refine .nil (.ret ?_)
  cases h
  exact FinC.rs
 refine .condF rfl (Bool.eq_false_iff.2 c19) ?_
 refine .skip (thenQ_normal (.seqR ?_))
 refine .rr 2 ?_
 refine .nil (.ret ?_)
 cases h
 exact FinC.rs
end Go.Proofs.YtmgddgcniacnbaaGreatDoor
