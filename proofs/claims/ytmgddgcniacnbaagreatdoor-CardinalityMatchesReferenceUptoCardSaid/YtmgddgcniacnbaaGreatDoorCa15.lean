/- Functions of the program as functional programs; the code computes them. -/
import Derived.Test.YtmgddgcniacnbaaGreatDoorCa14
import Derived.Test.YtmgddgcniacnbaaGreatDoorCaS
namespace Go.Proofs.YtmgddgcniacnbaaGreatDoor
set_option maxRecDepth 100000
set_option maxHeartbeats 4000000
open Go.Ab Go.Rp
attribute [-simp] List.all_eq_true Array.all_toList Array.all_eq_true
def d32 (N : Nat) (a0 : S26) (a1 : S34) (a2 : (List S49)) (_a3 : S49) : Option Int :=
 (idx a1.Inputs 1).bind fun x1 =>
 (idx a1.Exprs 0).bind fun x2 =>
 (d55 N a0 x1 x2).bind fun r3 =>
 if r3 = true then (
  (idx a2 0).bind fun x5 =>
  some x5.High
 ) else
 (idx a2 0).bind fun x6 =>
 (idx a2 1).bind fun x7 =>
 letv (maxI 1 x7.High) fun v8 =>
 (chkI (x6.High * v8)).bind fun v9 =>
 some v9
theorem p32 (N : Nat) (a0 : S26) (a1 : S34) (a2 : (List S49)) (a3 : S49) (r : Int) (h : d32 N a0 a1 a2 a3 = some r) : FunC Tryz.prog 32 [.agg (k26 a0),.agg (k34 a1),.s49 a2,.agg [.i a3.Low,.i a3.High]] (.i r) := by
 unfold d32 at h
 refine FunC.enter 33 [(0,.agg (k26 a0)),(1,.agg (k34 a1)),(2,.s49 a2),(3,.agg [.i a3.Low,.i a3.High])] (by simp) Tryz.func32 rfl (of_decide_eq_true rfl) rfl rfl ?_
 refine .seqR ?_
 refine .rr 4 ?_
 refine .tt [(2,.s49 a2),(4,.ptr 4 0 0),(5,.ptr 5 0 0)] [(4,some (.box (k26 a0))),(5,some (.box (k34 a1)))] (.nil (.seq ?_))
 refine .seqQ (by kernel_rfl) (by kernel_rfl) ?_
 replace h := bsome h;obtain ⟨x1,hx1,h⟩ := h
 obtain ⟨hx1,hx1b,hx1c⟩ := idx_someN (n := 1) hx1
 replace h := bsome h;obtain ⟨x2,hx2,h⟩ := h
 obtain ⟨hx2,hx2b,hx2c⟩ := idx_someN (n := 0) hx2
 refine .rq 9 fun K k => ?_;simp [hx1,hx2];refine k ?_
 refine .tt [(2,.s49 a2),(9,.agg (k26 a0)),(13,.agg (k34 x1)),(17,.agg (k76 x2))] [] ?_
 replace h := bsome h;obtain ⟨r3,hr3,h⟩ := h
 refine .callL (d := 18) (p55 N a0 x1 x2 r3 hr3) (by simp) rfl rfl (by simp <;> rfl) (by simp <;> rfl) ent55 (by simp <;> rfl) ?_
 refine .st (mk 33 [] [(2,.s49 a2),(9,.agg (k26 a0)),(13,.agg (k34 x1)),(17,.agg (k76 x2)),(18,.b r3)] []) (.nil ?_)
 replace h := isome h;rcases h with ⟨c4,h⟩ | ⟨c4,h⟩
 ·refine .condT rfl c4 ?_
  refine .seqR ?_
  replace h := bsome h;obtain ⟨x5,hx5,h⟩ := h
  obtain ⟨hx5,hx5b,hx5c⟩ := idx_someN (n := 0) hx5
  refine .rk 5 fun K k => ?_;simp [hx5];refine k ?_
  refine .nil (.ret ?_)
  cases h
  refine thenQ_ps ?_
  exact FinC.rs
 refine .condF rfl (Bool.eq_false_iff.2 c4) ?_
 refine .skip (thenQ_normal ?_)
 refine .seqQ (by kernel_rfl) (by kernel_rfl) ?_
 replace h := bsome h;obtain ⟨x6,hx6,h⟩ := h
 obtain ⟨hx6,hx6b,hx6c⟩ := idx_someN (n := 0) hx6
 replace h := bsome h;obtain ⟨x7,hx7,h⟩ := h
 obtain ⟨hx7,hx7b,hx7c⟩ := idx_someN (n := 1) hx7
 replace h := lsome h;obtain ⟨v8,hv8,h⟩ := h
 unfold maxI at hv8
 try simp only [Int.ofNat_lt] at hv8
 replace h := csome h;obtain ⟨v9,hv9,h⟩ := h
 refine .rq 11 fun K k => ?_;simp [hx6,hx7,hv8,hv9];refine k ?_
 refine .nil (.ret ?_)
 cases h
 exact FinC.rs
def d11 : (N : Nat) → (a0 : S26) → (a1 : (List S41)) → (a2 : S34) → Option S49
 | 0,_,_,_ => none
 | N + 1,a0,a1,a2 =>
  Option.bind (α := List S49) (
   iterN (σ := ((List S49) × Int)) (ρ := List S49) (fun ((l6,v7) : ((List S49) × Int)) =>
    if v7 < (a2.Inputs.length : Int) then (
     (idx a2.Inputs v7).bind fun x24 =>
     (d11 N a0 a1 x24).bind fun r26 =>
     (appL 16 l6 [r26]).bind fun _l27 =>
     (chkI (v7 + 1)).bind fun v28 =>
     some (.inl ((l6 ++ [r26]),v28))
    ) else
    some (.inr l6)
   ) N (([] : List S49),0)
  ) fun (l22 : List S49) =>
  if (a2.Kind == 1) then (
   bindO (β := Unit) (ρ := S49) (
    iterN (σ := Int) (ρ := (Out Unit S49)) (fun (v34 : Int) =>
     if v34 < (a1.length : Int) then (
      (idx a1 v34).bind fun x47 =>
      if decide (x47.Table = a2.Table) = true then (
       some (.inr (.ret (S49.mk x47.Rows x47.Rows)))
      ) else
      (chkI (v34 + 1)).bind fun v50 =>
      some (.inl v50)
     ) else
     some (.inr (.go ()))
    ) N 0
   ) fun (_ : Unit) =>
   some (S49.mk 0 0)
  ) else
  if (a2.Kind == 2) then (
   (idx l22 0).bind fun x52 =>
   (idx a2.Exprs 0).bind fun x53 =>
   (d30 N x52 x53).bind fun r54 =>
   some r54
  ) else
  if (a2.Kind == 4) then (
   (d31 N a0 a2 l22).bind fun r56 =>
   some r56
  ) else
  if (a2.Kind == 5) then (
   (d31 N a0 a2 l22).bind fun r58 =>
   (idx l22 0).bind fun x59 =>
   letv (maxI x59.Low r58.Low) fun v60 =>
   (d32 N a0 a2 l22 r58).bind fun r61 =>
   letv (maxI x59.High r61) fun v62 =>
   some (S49.mk v60 v62)
  ) else
  if (a2.Kind == 6) then (
   (idx l22 0).bind fun x64 =>
   (idx l22 1).bind fun x65 =>
   (chkI (x64.Low + x65.Low)).bind fun v66 =>
   (chkI (x64.High + x65.High)).bind fun v67 =>
   some (S49.mk v66 v67)
  ) else
  if (a2.Kind == 7) then (
   (idx l22 0).bind fun x69 =>
   (idx l22 1).bind fun x70 =>
   (chkI (x69.Low - x70.High)).bind fun v71 =>
   letv (maxI 0 v71) fun v72 =>
   some (S49.mk v72 x69.High)
  ) else
  if (a2.Kind == 8) then (
   if ((a2.Exprs.length : Int) == 0) then (
    some (S49.mk 1 1)
   ) else
   (idx l22 0).bind fun x75 =>
   letv (minI 1 x75.Low) fun v76 =>
   some (S49.mk v76 x75.High)
  ) else
  if (a2.Kind == 10) then (
   (idx l22 0).bind fun x78 =>
   (chkI (x78.Low - a2.Offset)).bind fun v79 =>
   letv (maxI 0 v79) fun v80 =>
   letv (minI a2.Count v80) fun v81 =>
   (chkI (x78.High - a2.Offset)).bind fun v82 =>
   letv (maxI 0 v82) fun v83 =>
   letv (minI a2.Count v83) fun v84 =>
   some (S49.mk v81 v84)
  ) else
  if (a2.Kind == 3) then (
   (idx l22 0).bind fun x86 =>
   some x86
  ) else
  if (a2.Kind == 9) then (
   (idx l22 0).bind fun x88 =>
   some x88
  ) else
  some (S49.mk 0 0)
theorem p11 (N : Nat) : ∀ (a0 : S26) (a1 : (List S41)) (a2 : S34) (r : S49) (_ : d11 N a0 a1 a2 = some r),FunC Tryz.prog 11 [.agg (k26 a0),.s41 a1,.agg (k34 a2)] (.agg [.i r.Low,.i r.High]) := by
 induction N with
 | zero => intro a0 a1 a2 r h;cases h
 | succ N ih =>
 intro a0 a1 a2 r h
 unfold d11 at h
 refine FunC.enter 176 [(0,.agg (k26 a0)),(1,.s41 a1),(2,.agg (k34 a2))] (by simp) Tryz.func11 rfl (of_decide_eq_true rfl) rfl rfl ?_
 refine .seqR ?_
 refine .rr 3 ?_
 refine .nil (.seqR ?_)
 refine .rr 1 ?_
 refine .nil (.seq (.seqR ?_))
 refine .rr 4 ?_
 refine .tt (L134 a1 ++ [(7,.z),(14,.s34 a2.Inputs),(15,.i (a2.Inputs.length : Int)),(16,.i 0)]) (H63 a0 a2) (.nil ?_)
 refine .lastN (fun (l22 : List S49) => mk 176 [] (L135 a1 l22.length) (H23 a0 a2 l22)) h ?_ ?_ <;> clear h
 ·intro o h
  refine .block ?_
  refine .iter (fun ((l6,v7) : ((List S49) × Int)) => mk 176 [] (L135 a1 l6.length ++ [(14,.s34 a2.Inputs),(15,.i (a2.Inputs.length : Int)),(16,.i v7)]) (H23 a0 a2 l6)) h (Sub.trans (Sub.nilOwn (t := 7) (id := 26) (T := 49) (n := 2) rfl rfl (by decide)) (by simp;exact Sub.tt)) ?_
  clear h
  rintro ⟨l6,v7⟩ x h
  dsimp only at h ⊢
  refine .seqR ?_
  refine .rr 1 ?_
  refine .nil (.seq ?_)
  replace h := isome h;rcases h with ⟨c23,h⟩ | ⟨c23,h⟩
  ·refine .condT rfl (decide_eq_true c23) ?_
   refine .skip (thenQ_normal (.seq (.block (.seqR ?_))))
   replace h := xsome h;obtain ⟨x24,k25,hx24k,hx24,hx24a,hx24b,h⟩ := h
   refine .rk 4 fun K k => ?_;simp [hx24,hx24k,hx24a];refine k ?_
   refine .tt (L135 a1 l6.length ++ [(9,.ptr 9 0 0),(14,.s34 a2.Inputs),(15,.i (a2.Inputs.length : Int)),(16,.i v7)]) [(3,some (.box (k26 a0))),(5,some (.box (k34 a2))),(6,some (.box [.i 0,.i 0])),(9,some (.box (k34 x24))),(26,R49 l6)] (.nil (.region ?_))
   refine .runK [25] 4 fun K k => ?_;simp;refine k _ _ ?_;clear k K
   refine .tt (L134 a1 ++ [(14,.s34 a2.Inputs),(15,.i (a2.Inputs.length : Int)),(16,.i v7),(20,.ref 26 0 l6.length),(21,.agg (k26 a0)),(22,.s41 a1),(23,.agg (k34 x24))]) (H23 a0 a2 l6) ?_
   replace h := bsome h;obtain ⟨r26,hr26,h⟩ := h
   refine .callC (d := 24) (ih a0 a1 x24 r26 hr26) (by simp) rfl rfl (by simp <;> rfl) (by simp <;> rfl) ent11 (by simp) (.inl ⟨by simp,by simp⟩) ?_
   refine .st (mk 176 [] (L134 a1 ++ [(14,.s34 a2.Inputs),(15,.i (a2.Inputs.length : Int)),(16,.i v7),(20,.ref 26 0 l6.length),(21,.agg (k26 a0)),(22,.s41 a1),(23,.agg (k34 x24)),(24,.agg [.i r26.Low,.i r26.High])]) (H23 a0 a2 l6)) ?_
   replace h := bsome h;obtain ⟨l27,hl27,h⟩ := h
   obtain ⟨hl27a,hl27⟩ := appL_some hl27
   subst hl27
   try simp only [List.length_cons,List.length_nil,Nat.zero_add] at hl27a
   refine .runK [25] 3 fun K k => ?_;simp [hl27a];refine k _ _ ?_;clear k K
   refine .tt (L134 a1 ++ [(7,.ref 26 0 ((l6 ++ [r26]).length)),(14,.s34 a2.Inputs),(15,.i (a2.Inputs.length : Int)),(16,.i v7)]) [(3,some (.box (k26 a0))),(5,some (.box (k34 a2))),(6,some (.box [.i 0,.i 0])),(26,R49 (l6 ++ [r26]))] (.nil (blockQ.normal (thenQ_normal (.region ?_))))
   replace h := csome h;obtain ⟨v28,hv28,h⟩ := h
   refine .rk 2 fun K k => ?_;simp [hv28];refine k ?_
   refine .nil ?_
   cases h
   refine PostI.next ?_
   exact Sub.tt
  ·refine .condF rfl (decide_eq_false c23) ?_
   refine .exit ?_
   cases h
   refine thenQ_ps ?_
   refine PostI.os ?_
   rintro rfl
   refine blockQ.hit (PostN.next ?_)
   exact Sub.tt
 ·rintro l22 h
  refine thenQ_normal (.seq (.seqR ?_))
  refine .rr 2 ?_
  refine .nil (.block (.seqR ?_))
  refine .rr 2 ?_
  refine .nil ?_
  replace h := isome h;rcases h with ⟨c29,h⟩ | ⟨c29,h⟩
  ·refine .condT rfl c29 ?_
   refine .seqR ?_
   refine .rr 3 ?_
   refine .tt [(5,.ptr 5 0 0),(6,.ptr 6 0 0),(32,.s41 a1),(33,.i (a1.length : Int)),(34,.i 0)] (H52 a2) (.nil ?_)
   refine .lastJ (fun (_ : Unit) => mk 176 [] [(6,.ptr 6 0 0)] [(6,some (.box [.i 0,.i 0]))]) h ?_ ?_ <;> clear h
   ·intro o h
    refine .block ?_
    refine .iter (fun (v34 : Int) => mk 176 [] (L136 a1 a1.length v34) (H52 a2)) h Sub.tt ?_
    clear h
    rintro v34 x h
    refine .seqR ?_
    refine .rr 1 ?_
    refine .nil (.seq ?_)
    replace h := isome h;rcases h with ⟨c46,h⟩ | ⟨c46,h⟩
    ·refine .condT rfl (decide_eq_true c46) ?_
     refine .skip (thenQ_normal (.seq (.block (.seqR ?_))))
     replace h := xsome h;obtain ⟨x47,k48,hx47k,hx47,hx47a,hx47b,h⟩ := h
     refine .rk 4 fun K k => ?_;simp [hx47,hx47k,hx47a];refine k ?_
     refine .nil (.seqR ?_)
     refine .rr 5 ?_
     refine .nil ?_
     replace h := isome h;rcases h with ⟨c49,h⟩ | ⟨c49,h⟩
     ·refine .condT rfl c49 ?_
      refine .seqR ?_
      refine .rr 6 ?_
      refine .nil (.ret ?_)
      cases h
      refine blockQ.ret ?_
      refine thenQ_ps ?_
      refine PostI.os ?_
      rintro rfl
      refine blockQ.ret ?_
      refine PostJ.out (by simp) ?_
      rintro rfl
      refine blockQ.ret ?_
      refine thenQ_ps ?_
      exact FinC.rs
     ·refine .condF rfl (Bool.eq_false_iff.2 c49) ?_
      refine .skip (blockQ.normal (thenQ_normal (.region ?_)))
      replace h := csome h;obtain ⟨v50,hv50,h⟩ := h
      refine .rk 2 fun K k => ?_;simp [hv50];refine k ?_
      refine .nil ?_
      cases h
      refine PostI.next ?_
      exact Sub.tt
    ·refine .condF rfl (decide_eq_false c46) ?_
     refine .exit ?_
     cases h
     refine thenQ_ps ?_
     refine PostI.os ?_
     rintro rfl
     refine blockQ.hit (PostJ.next ?_)
     exact Sub.tt
   ·rintro ⟨⟩ h
    refine blockQ.normal (thenQ_normal (.seqR ?_))
    refine .rr 2 ?_
    refine .nil (.ret ?_)
    cases h
    exact FinC.rs
  ·refine .condF rfl (Bool.eq_false_iff.2 c29) ?_
   refine .seqR ?_
   refine .rr 2 ?_
   refine .nil ?_
   replace h := isome h;rcases h with ⟨c51,h⟩ | ⟨c51,h⟩
   ·refine .condT rfl c51 ?_
    replace h := bsome h;obtain ⟨x52,hx52,h⟩ := h
    obtain ⟨hx52,hx52b,hx52c⟩ := idx_someN (n := 0) hx52
    have hx52d : (0 : Int) < (l22.length : Int) := by omega
    replace h := bsome h;obtain ⟨x53,hx53,h⟩ := h
    obtain ⟨hx53,hx53b,hx53c⟩ := idx_someN (n := 0) hx53
    refine .seqT 7 (by kernel_rfl) (by kernel_rfl) fun K k => ?_;simp [hx52b,hx52c,hx53];refine k _ _ ?_;clear k K
    refine .tt [(6,.ptr 6 0 0),(53,.agg [.i x52.Low,.i x52.High]),(57,.agg (k76 x53))] [(6,some (.box [.i 0,.i 0]))] ?_
    replace h := bsome h;obtain ⟨r54,hr54,h⟩ := h
    refine .callC (d := 58) (p30 N x52 x53 r54 hr54) (by simp) rfl rfl (by simp <;> rfl) (by simp <;> rfl) ent30 (by simp) (.inl ⟨by simp,by simp⟩) ?_
    refine .rr 1 ?_
    refine .nil (.ret ?_)
    cases h
    refine blockQ.ret ?_
    refine thenQ_ps ?_
    exact FinC.rs
   ·refine .condF rfl (Bool.eq_false_iff.2 c51) ?_
    refine .seqR ?_
    refine .rr 2 ?_
    refine .nil ?_
    replace h := isome h;rcases h with ⟨c55,h⟩ | ⟨c55,h⟩
    ·refine .condT rfl c55 ?_
     refine .seqR ?_
     refine .rr 3 ?_
     refine .tt [(6,.ptr 6 0 0),(61,.agg (k26 a0)),(62,.agg (k34 a2)),(63,.ref 26 0 l22.length)] [(6,some (.box [.i 0,.i 0])),(26,R49 l22)] ?_
     replace h := bsome h;obtain ⟨r56,hr56,h⟩ := h
     refine .callC (d := 64) (p31 N a0 a2 l22 r56 hr56) (by simp) rfl rfl (by simp <;> rfl) (by simp <;> rfl) ent31 (by simp) (.inr (by simp)) ?_
     refine .rr 1 ?_
     refine .nil (.ret ?_)
     cases h
     refine blockQ.ret ?_
     refine thenQ_ps ?_
     exact FinC.rs
    ·refine .condF rfl (Bool.eq_false_iff.2 c55) ?_
     refine .seqR ?_
     refine .rr 2 ?_
     refine .nil ?_
     replace h := isome h;rcases h with ⟨c57,h⟩ | ⟨c57,h⟩
     ·refine .condT rfl c57 ?_
      refine .seqR ?_
      refine .rr 3 ?_
      refine .tt [(3,.ptr 3 0 0),(5,.ptr 5 0 0),(6,.ptr 6 0 0),(7,.ref 26 0 l22.length),(67,.agg (k26 a0)),(68,.agg (k34 a2)),(69,.ref 26 0 l22.length)] (H23 a0 a2 l22) ?_
      replace h := bsome h;obtain ⟨r58,hr58,h⟩ := h
      refine .callC (d := 70) (p31 N a0 a2 l22 r58 hr58) (by simp) rfl rfl (by simp <;> rfl) (by simp <;> rfl) ent31 (by simp) (.inr (by simp)) ?_
      refine .rr 2 ?_
      refine .tt [(3,.ptr 3 0 0),(5,.ptr 5 0 0),(6,.ptr 6 0 0),(7,.ref 26 0 l22.length),(12,.ptr 12 0 0)] [(3,some (.box (k26 a0))),(5,some (.box (k34 a2))),(6,some (.box [.i 0,.i 0])),(12,some (.box [.i r58.Low,.i r58.High])),(26,R49 l22)] (.nil ?_)
      replace h := bsome h;obtain ⟨x59,hx59,h⟩ := h
      obtain ⟨hx59,hx59b,hx59c⟩ := idx_someN (n := 0) hx59
      have hx59d : (0 : Int) < (l22.length : Int) := by omega
      replace h := lsome h;obtain ⟨v60,hv60,h⟩ := h
      unfold maxI at hv60
      try simp only [Int.ofNat_lt] at hv60
      replace h := bsome h;obtain ⟨r61,hr61,h⟩ := h
      replace h := lsome h;obtain ⟨v62,hv62,h⟩ := h
      unfold maxI at hv62
      try simp only [Int.ofNat_lt] at hv62
      refine .seqAnyS [[],[0],[0,1],[0,1,2],[],[4],[0,1,2,3,4,5],[],[7],[7,8],[7,8,9],[],[],[],[],[11,12,13,14],[7,8,9,10,11,12,13,14,15],[0,1,2,3,4,5,6,7,8,9,10,11,12,13,14,15,16],[0,1,2,3,4,5,6,7,8,9,10,11,12,13,14,15,16,17]] (fun (b : Nat → Bool) => mk 176 [] [(3,.ptr 3 0 0),(5,.ptr 5 0 0),(6,.ptr 6 0 0),(7,.ref 26 0 l22.length),(12,.ptr 12 0 0),(71,(if b 0 then .ref 26 0 l22.length else .junk)),(72,(if b 1 then .ptr 26 0 0 else .junk)),(73,(if b 2 then .ptr 26 0 0 else .junk)),(74,(if b 3 then .i x59.Low else .junk)),(75,(if b 4 then .ptr 12 0 0 else .junk)),(76,(if b 5 then .i r58.Low else .junk)),(77,(if b 6 then .i v60 else .junk)),(78,(if b 7 then .ref 26 0 l22.length else .junk)),(79,(if b 8 then .ptr 26 0 0 else .junk)),(80,(if b 9 then .ptr 26 0 1 else .junk)),(81,(if b 10 then .i x59.High else .junk)),(82,(if b 11 then .agg (k26 a0) else .junk)),(83,(if b 12 then .agg (k34 a2) else .junk)),(84,(if b 13 then .ref 26 0 l22.length else .junk)),(85,(if b 14 then .agg [.i r58.Low,.i r58.High] else .junk)),(86,(if b 15 then .i r61 else .junk)),(87,(if b 16 then .i v62 else .junk)),(88,(if b 17 then .agg [.i v60,.i v62] else .junk))] [(3,some (.box (k26 a0))),(5,some (.box (k34 a2))),(6,(if b 18 then some (.box [.i v60,.i v62]) else some (.box [.i 0,.i 0]))),(12,some (.box [.i r58.Low,.i r58.High])),(26,R49 l22)]) (mk 176 [] [(6,.ptr 6 0 0)] [(6,some (.box [.i v60,.i v62]))]) (by kernel_rfl) (by kernel_rfl) Sub.tt (Steps.cons ?_ (Steps.cons ?_ (Steps.cons ?_ (Steps.cons ?_ (Steps.cons ?_ (Steps.cons ?_ (Steps.cons ?_ (Steps.cons ?_ (Steps.cons ?_ (Steps.cons ?_ (Steps.cons ?_ (Steps.cons ?_ (Steps.cons ?_ (Steps.cons ?_ (Steps.cons ?_ (Steps.cons ?_ (Steps.cons ?_ (Steps.cons ?_ (Steps.cons ?_ (Steps.nil)))))))))))))))))))) ?_ ?_
      iterate 15
       ·intro b h0 ha hd
        have T := fct h0 ha hd;simp at T
        refine .rk 1 fun K k => ?_;simp [T,hx59b,hx59c,hv60];refine k ?_
        exact .nil .tT
      ·intro b h0 ha hd
       have T := fct h0 ha hd;simp at T
       simp only [T,if_true,if_false,Bool.false_eq_true]
       refine .callL (d := 86) (p32 N a0 a2 l22 r58 r61 hr61) (by simp) rfl rfl (by simp <;> rfl) (by simp <;> rfl) ent32 (by simp <;> rfl) ?_
       exact .nil (by simp [T];exact Sub.tT)
      iterate 3
       ·intro b h0 ha hd
        have T := fct h0 ha hd;simp at T
        refine .rk 1 fun K k => ?_;simp [T,hv62];refine k ?_
        exact .nil .tT
      ·intro b hb
       have T := FA_of (n := 19) hb;simp at T
       exact Sub.tT
      ·skip
       refine .ret ?_
       cases h
       refine blockQ.ret ?_
       refine thenQ_ps ?_
       exact FinC.rs
     ·refine .condF rfl (Bool.eq_false_iff.2 c57) ?_
      refine .seqR ?_
      refine .rr 2 ?_
      refine .nil ?_
      replace h := isome h;rcases h with ⟨c63,h⟩ | ⟨c63,h⟩
      ·refine .condT rfl c63 ?_
       replace h := bsome h;obtain ⟨x64,hx64,h⟩ := h
       obtain ⟨hx64,hx64b,hx64c⟩ := idx_someN (n := 0) hx64
       have hx64d : (0 : Int) < (l22.length : Int) := by omega
       replace h := bsome h;obtain ⟨x65,hx65,h⟩ := h
       obtain ⟨hx65,hx65b,hx65c⟩ := idx_someN (n := 1) hx65
       have hx65d : (1 : Int) < (l22.length : Int) := by omega
       replace h := csome h;obtain ⟨v66,hv66,h⟩ := h
       replace h := csome h;obtain ⟨v67,hv67,h⟩ := h
       refine .seqT 19 (by kernel_rfl) (by kernel_rfl) fun K k => ?_;simp [hx64b,hx64c,hx65b,hx65c,hx65d,hv66,hv67];refine k _ _ ?_;clear k K
       refine .rr 1 ?_
       refine .nil (.ret ?_)
       cases h
       refine blockQ.ret ?_
       refine thenQ_ps ?_
       exact FinC.rs
      ·refine .condF rfl (Bool.eq_false_iff.2 c63) ?_
       refine .seqR ?_
       refine .rr 2 ?_
       refine .nil ?_
       replace h := isome h;rcases h with ⟨c68,h⟩ | ⟨c68,h⟩
       ·refine .condT rfl c68 ?_
        replace h := bsome h;obtain ⟨x69,hx69,h⟩ := h
        obtain ⟨hx69,hx69b,hx69c⟩ := idx_someN (n := 0) hx69
        have hx69d : (0 : Int) < (l22.length : Int) := by omega
        replace h := bsome h;obtain ⟨x70,hx70,h⟩ := h
        obtain ⟨hx70,hx70b,hx70c⟩ := idx_someN (n := 1) hx70
        have hx70d : (1 : Int) < (l22.length : Int) := by omega
        replace h := csome h;obtain ⟨v71,hv71,h⟩ := h
        replace h := lsome h;obtain ⟨v72,hv72,h⟩ := h
        unfold maxI at hv72
        try simp only [Int.ofNat_lt] at hv72
        refine .seqT 15 (by kernel_rfl) (by kernel_rfl) fun K k => ?_;simp [hx69b,hx69c,hx70b,hx70c,hx70d,hv71,hv72];refine k _ _ ?_;clear k K
        refine .rr 1 ?_
        refine .nil (.ret ?_)
        cases h
        refine blockQ.ret ?_
        refine thenQ_ps ?_
        exact FinC.rs
       ·refine .condF rfl (Bool.eq_false_iff.2 c68) ?_
        refine .seqR ?_
        refine .rr 2 ?_
        refine .nil ?_
        replace h := isome h;rcases h with ⟨c73,h⟩ | ⟨c73,h⟩
        ·refine .condT rfl c73 ?_
         refine .seq (.seqR ?_)
         refine .rr 4 ?_
         refine .nil ?_
         replace h := isome h;rcases h with ⟨c74,h⟩ | ⟨c74,h⟩
         ·refine .condT rfl c74 ?_
          refine .seqR ?_
          refine .rr 2 ?_
          refine .nil (.ret ?_)
          cases h
          refine thenQ_ps ?_
          refine blockQ.ret ?_
          refine thenQ_ps ?_
          exact FinC.rs
         ·refine .condF rfl (Bool.eq_false_iff.2 c74) ?_
          refine .skip (thenQ_normal ?_)
          replace h := bsome h;obtain ⟨x75,hx75,h⟩ := h
          obtain ⟨hx75,hx75b,hx75c⟩ := idx_someN (n := 0) hx75
          have hx75d : (0 : Int) < (l22.length : Int) := by omega
          replace h := lsome h;obtain ⟨v76,hv76,h⟩ := h
          unfold minI at hv76
          try simp only [Int.ofNat_lt] at hv76
          refine .seqT 10 (by kernel_rfl) (by kernel_rfl) fun K k => ?_;simp [hx75b,hx75c,hv76];refine k _ _ ?_;clear k K
          refine .rr 1 ?_
          refine .nil (.ret ?_)
          cases h
          refine blockQ.ret ?_
          refine thenQ_ps ?_
          exact FinC.rs
        ·refine .condF rfl (Bool.eq_false_iff.2 c73) ?_
         refine .seqR ?_
         refine .rr 2 ?_
         refine .nil ?_
         replace h := isome h;rcases h with ⟨c77,h⟩ | ⟨c77,h⟩
         ·refine .condT rfl c77 ?_
          replace h := bsome h;obtain ⟨x78,hx78,h⟩ := h
          obtain ⟨hx78,hx78b,hx78c⟩ := idx_someN (n := 0) hx78
          have hx78d : (0 : Int) < (l22.length : Int) := by omega
          replace h := csome h;obtain ⟨v79,hv79,h⟩ := h
          replace h := lsome h;obtain ⟨v80,hv80,h⟩ := h
          unfold maxI at hv80
          try simp only [Int.ofNat_lt] at hv80
          replace h := lsome h;obtain ⟨v81,hv81,h⟩ := h
          unfold minI at hv81
          try simp only [Int.ofNat_lt] at hv81
          replace h := csome h;obtain ⟨v82,hv82,h⟩ := h
          replace h := lsome h;obtain ⟨v83,hv83,h⟩ := h
          unfold maxI at hv83
          try simp only [Int.ofNat_lt] at hv83
          replace h := lsome h;obtain ⟨v84,hv84,h⟩ := h
          unfold minI at hv84
          try simp only [Int.ofNat_lt] at hv84
          refine .seqT 23 (by kernel_rfl) (by kernel_rfl) fun K k => ?_;simp [hx78b,hx78c,hv79,hv80,hv81,hv82,hv83,hv84];refine k _ _ ?_;clear k K
          refine .rr 1 ?_
          refine .nil (.ret ?_)
          cases h
          refine blockQ.ret ?_
          refine thenQ_ps ?_
          exact FinC.rs
         ·refine .condF rfl (Bool.eq_false_iff.2 c77) ?_
          refine .seq (.seqR ?_)
          refine .rr 2 ?_
          refine .nil ?_
          replace h := isome h;rcases h with ⟨c85,h⟩ | ⟨c85,h⟩
          ·have c85_ := c85
           refine .condT rfl c85_ ?_
           refine .sub (.bool 169 rfl c85_) ?_
           refine .st (mk 176 [] [(6,.ptr 6 0 0),(7,.ref 26 0 l22.length),(29,.i a2.Kind),(169,.b true)] [(6,some (.box [.i 0,.i 0])),(26,R49 l22)]) (.skip (thenQ_normal ?_))
           refine .condK fun K1 K2 k1 k2 => ?_;simp;refine k1 ?_;clear k1 k2 K1 K2
           refine .seqR ?_
           replace h := bsome h;obtain ⟨x86,hx86,h⟩ := h
           obtain ⟨hx86,hx86b,hx86c⟩ := idx_someN (n := 0) hx86
           have hx86d : (0 : Int) < (l22.length : Int) := by omega
           refine .rk 4 fun K k => ?_;simp [hx86b,hx86c];refine k ?_
           refine .nil (.ret ?_)
           cases h
           refine blockQ.ret ?_
           refine thenQ_ps ?_
           exact FinC.rs
          ·have c85_ := Bool.eq_false_iff.2 c85
           refine .condF rfl c85_ ?_
           refine .sub (.bool 169 rfl c85_) ?_
           refine .region ?_
           refine .rr 2 ?_
           refine .nil (thenQ_normal ?_)
           replace h := isome h;rcases h with ⟨c87,h⟩ | ⟨c87,h⟩
           ·refine .condT rfl c87 ?_
            refine .seqR ?_
            replace h := bsome h;obtain ⟨x88,hx88,h⟩ := h
            obtain ⟨hx88,hx88b,hx88c⟩ := idx_someN (n := 0) hx88
            have hx88d : (0 : Int) < (l22.length : Int) := by omega
            refine .rk 4 fun K k => ?_;simp [hx88b,hx88c];refine k ?_
            refine .nil (.ret ?_)
            cases h
            refine blockQ.ret ?_
            refine thenQ_ps ?_
            exact FinC.rs
           ·refine .condF rfl (Bool.eq_false_iff.2 c87) ?_
            refine .skip (blockQ.normal (thenQ_normal (.seqR ?_)))
            refine .rr 2 ?_
            refine .nil (.ret ?_)
            cases h
            exact FinC.rs
def d3 (N : Nat) (a0 : S26) (a1 : (List S41)) (a2 : S34) : Option Bool :=
 (d4 N ).bind fun r1 =>
 if (!r1) = true then (
  some false
 ) else
 Option.bind (α := Bool) (
  (d5 N a2 400).bind fun r10 =>
  if r10 < 0 then (
   some true
  ) else
  (d6 N a0).bind fun r12 =>
  if (r12 != 0) then (
   some true
  ) else
  if (a1.length : Int) > 20 then (
   some true
  ) else
  (d7 N a1 (fun b0 => d8 N b0 )).bind fun r15 =>
  some r15
 ) fun (v9 : Bool) =>
 if v9 = true then (
  some true
 ) else
 (d9 N a0 a2).bind fun r17 =>
 if (r17.2 != 0) then (
  some true
 ) else
 (d10 N a0 a1 a2).bind fun r19 =>
 (d11 N a0 a1 a2).bind fun r20 =>
 some (beqS49 r20 (S49.mk r19.1 r19.2))
theorem p3 (N : Nat) (a0 : S26) (a1 : (List S41)) (a2 : S34) (r : Bool) (h : d3 N a0 a1 a2 = some r) : FunC Tryz.prog 3 [.agg (k26 a0),.s41 a1,.agg (k34 a2)] (.b r) := by
 unfold d3 at h
 refine FunC.enter 53 [(0,.agg (k26 a0)),(1,.s41 a1),(2,.agg (k34 a2))] (by simp) Tryz.func3 rfl (of_decide_eq_true rfl) rfl rfl ?_
 refine .seqR ?_
 refine .rr 3 ?_
 refine .tt (L106 a1) (H4 a0 a2) (.nil (.seq (.seqR ?_)))
 replace h := bsome h;obtain ⟨r1,hr1,h⟩ := h
 refine .callL (d := 11) (p4 N  r1 hr1) (by simp) rfl rfl (by simp <;> rfl) (by simp <;> rfl) ent4 (by simp <;> rfl) ?_
 refine .rr 1 ?_
 refine .nil ?_
 replace h := isome h;rcases h with ⟨c2,h⟩ | ⟨c2,h⟩
 ·refine .condT rfl c2 ?_
  refine .seqR ?_
  refine .rr 1 ?_
  refine .nil (.ret ?_)
  cases h
  refine thenQ_ps ?_
  exact FinC.rs
 refine .condF rfl (Bool.eq_false_iff.2 c2) ?_
 refine .skip (thenQ_normal (.seq ?_))
 replace h := bsome h;obtain ⟨v9,hj,h⟩ := h
 refine .cutR (mk 53 [] (L106 a1 ++ [(29,.b v9)]) (H4 a0 a2)) ?_ ?_
 ·clear h;have h := hj;clear hj
  refine .rr 1 ?_
  refine .tt (L106 a1 ++ [(13,.agg (k34 a2))]) (H4 a0 a2) ?_
  replace h := bsome h;obtain ⟨r10,hr10,h⟩ := h
  refine .callL (d := 14) (p5 N a2 400 r10 hr10) (by simp) rfl rfl (by simp <;> rfl) (by simp <;> rfl) ent5 (by simp <;> rfl) ?_
  refine .rr 2 ?_
  replace h := isome h;rcases h with ⟨c11,h⟩ | ⟨c11,h⟩
  ·refine .sub (.bool 16 rfl (decide_eq_true c11)) ?_
   refine .rr 13 ?_
   cases h
   exact .nil .tt
  refine .sub (.bool 16 rfl (decide_eq_false c11)) ?_
  refine .rr 1 ?_
  refine .tt (L140 a1 ++ [(17,.agg (k26 a0))]) (H4 a0 a2) ?_
  replace h := bsome h;obtain ⟨r12,hr12,h⟩ := h
  refine .callL (d := 18) (p6 N a0 r12 hr12) (by simp) rfl rfl (by simp <;> rfl) (by simp <;> rfl) ent6 (by simp <;> rfl) ?_
  refine .rr 3 ?_
  replace h := isome h;rcases h with ⟨c13,h⟩ | ⟨c13,h⟩
  ·refine .sub (.bool 21 rfl c13) ?_
   refine .rr 8 ?_
   cases h
   exact .nil .tt
  refine .sub (.bool 21 rfl (Bool.eq_false_iff.2 c13)) ?_
  refine .rr 5 ?_
  replace h := isome h;rcases h with ⟨c14,h⟩ | ⟨c14,h⟩
  ·refine .sub (.bool 26 rfl (decide_eq_true c14)) ?_
   refine .rr 3 ?_
   cases h
   exact .nil .tt
  refine .sub (.bool 26 rfl (decide_eq_false c14)) ?_
  refine .rr 1 ?_
  refine .tt (L141 a1 ++ [(27,.s41 a1)]) (H4 a0 a2) ?_
  replace h := bsome h;obtain ⟨r15,hr15,h⟩ := h
  refine .callL (d := 28) (FunC.argsF (args := [.s41 a1,.d (.lit (.func (.func 8) #[] #[]))]) (p7 N a1 8 [] (fun b0 => d8 N b0 ) ent8 (fun b0 r h => p8 N b0  r h) r15 hr15) (by simp [V.wf]) rfl) (by simp) rfl rfl (by simp <;> rfl) (by simp <;> rfl) ent7 (by simp <;> rfl) ?_
  refine .rr 1 ?_
  cases h
  exact .nil .tt
 clear hj
 replace h := isome h;rcases h with ⟨c16,h⟩ | ⟨c16,h⟩
 ·refine .condT rfl c16 ?_
  refine .seqR ?_
  refine .rr 1 ?_
  refine .nil (.ret ?_)
  cases h
  refine thenQ_ps ?_
  exact FinC.rs
 refine .condF rfl (Bool.eq_false_iff.2 c16) ?_
 refine .skip (thenQ_normal (.seq (.seqR ?_)))
 refine .rr 2 ?_
 refine .tt (L106 a1 ++ [(31,.agg (k26 a0)),(32,.agg (k34 a2))]) (H4 a0 a2) ?_
 replace h := bsome h;obtain ⟨r17,hr17,h⟩ := h
 refine .callC (d := 33) (p9 N a0 a2 r17 hr17) (by simp) rfl rfl (by simp <;> rfl) (by simp <;> rfl) ent9 (by simp) (.inl ⟨by simp,by simp⟩) ?_
 refine .rr 5 ?_
 refine .nil (.seqR ?_)
 refine .rr 2 ?_
 refine .nil ?_
 replace h := isome h;rcases h with ⟨c18,h⟩ | ⟨c18,h⟩
 ·refine .condT rfl c18 ?_
  refine .seqR ?_
  refine .rr 1 ?_
  refine .nil (.ret ?_)
  cases h
  refine thenQ_ps ?_
  exact FinC.rs
 refine .condF rfl (Bool.eq_false_iff.2 c18) ?_
 refine .skip (thenQ_normal (.seqR ?_))
 refine .rr 3 ?_
 refine .tt (L106 a1 ++ [(39,.agg (k26 a0)),(40,.s41 a1),(41,.agg (k34 a2))]) (H4 a0 a2) ?_
 replace h := bsome h;obtain ⟨r19,hr19,h⟩ := h
 refine .callL (d := 42) (p10 N a0 a1 a2 r19 hr19) (by simp) rfl rfl (by simp <;> rfl) (by simp <;> rfl) ent10 (by simp <;> rfl) ?_
 refine .rr 5 ?_
 refine .nil (.seqR ?_)
 refine .rr 3 ?_
 refine .tt [(9,.i r19.1),(10,.i r19.2),(45,.agg (k26 a0)),(46,.s41 a1),(47,.agg (k34 a2))] [] ?_
 replace h := bsome h;obtain ⟨r20,hr20,h⟩ := h
 refine .callC (d := 48) (p11 N a0 a1 a2 r20 hr20) (by simp) rfl rfl (by simp <;> rfl) (by simp <;> rfl) ent11 (by simp) (.inl ⟨by simp,by simp⟩) ?_
 refine .rr 3 ?_
 refine .tt [(48,.agg [.i r20.Low,.i r20.High]),(51,.agg [.i r19.1,.i r19.2])] [] ?_
 refine .pureP (by simp) (pure_eqA false rfl rfl rfl rfl (by kernel_rfl) (eqv49 r20 (S49.mk r19.1 r19.2))) ?_
 refine .rr 1 ?_
 refine .nil (.ret ?_)
 cases h
 exact FinC.rs
end Go.Proofs.YtmgddgcniacnbaaGreatDoor
