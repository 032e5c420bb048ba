/- Functions of the program as functional programs; the code computes them. -/
import Derived.Test.YtmgddgcniacnbaaGreatDoorCa10
namespace Go.Proofs.YtmgddgcniacnbaaGreatDoor
set_option maxRecDepth 100000
set_option maxHeartbeats 4000000
open Go.Ab Go.Rp
attribute [-simp] List.all_eq_true Array.all_toList Array.all_eq_true
def d27 (N : Nat) (a0 : S26) (a1 : (List S53)) (a2 : S34) : Option ((List S53) × Int) :=
 Option.bind (α := Bool) (
  (d47 N a2).bind fun r7 =>
  if (r7.length : Int) > 24 then (
   some true
  ) else
  (d48 N a2).bind fun r9 =>
  if r9 > 12 then (
   some true
  ) else
  (d49 N a2).bind fun r11 =>
  some (decide (r11 > 20000))
 ) fun (v6 : Bool) =>
 if v6 = true then (
  some (([] : List S53),2)
 ) else
 (d50 N a2).bind fun r13 =>
 if (r13.2 != 0) then (
  some (([] : List S53),r13.2)
 ) else
 (d51 N (S122.mk a0 a1) a2).bind fun r15 =>
 some (r15.1,r15.2)
theorem p27 (N : Nat) (a0 : S26) (a1 : (List S53)) (a2 : S34) (r : ((List S53) × Int)) (h : d27 N a0 a1 a2 = some r) : FunC Tryz.prog 27 [.agg (k26 a0),.s53 a1,.agg (k34 a2)] (.tup [.s53 r.1,.i r.2]) := by
 unfold d27 at h
 refine FunC.enter 41 [(0,.agg (k26 a0)),(1,.s53 a1),(2,.agg (k34 a2))] (by simp) Tryz.func27 rfl (of_decide_eq_true rfl) rfl rfl ?_
 refine .seqR ?_
 refine .rr 4 ?_
 refine .tt (L69 a1) (H4 a0 a2) (.nil (.seq ?_))
 replace h := bsome h;obtain ⟨v6,hj,h⟩ := h
 refine .cutR (mk 41 [] (L69 a1 ++ [(24,.b v6)]) (H4 a0 a2)) ?_ ?_
 ·clear h;have h := hj;clear hj
  refine .rr 1 ?_
  refine .tt (L69 a1 ++ [(11,.agg (k34 a2))]) (H4 a0 a2) ?_
  replace h := bsome h;obtain ⟨r7,hr7,h⟩ := h
  refine .callC (d := 12) (p47 N a2 r7 hr7) (by simp) rfl rfl (by simp <;> rfl) (by simp <;> rfl) ent47 (by simp) (.inl ⟨by simp,by simp⟩) ?_
  refine .rr 3 ?_
  replace h := isome h;rcases h with ⟨c8,h⟩ | ⟨c8,h⟩
  ·refine .sub (.bool 15 rfl (decide_eq_true c8)) ?_
   refine .rr 9 ?_
   cases h
   exact .nil .tt
  refine .sub (.bool 15 rfl (decide_eq_false c8)) ?_
  refine .rr 1 ?_
  refine .tt (L75 a1 ++ [(16,.agg (k34 a2))]) (H4 a0 a2) ?_
  replace h := bsome h;obtain ⟨r9,hr9,h⟩ := h
  refine .callL (d := 17) (p48 N a2 r9 hr9) (by simp) rfl rfl (by simp <;> rfl) (by simp <;> rfl) ent48 (by simp <;> rfl) ?_
  refine .rr 3 ?_
  replace h := isome h;rcases h with ⟨c10,h⟩ | ⟨c10,h⟩
  ·refine .sub (.bool 20 rfl (decide_eq_true c10)) ?_
   refine .rr 4 ?_
   cases h
   exact .nil .tt
  refine .sub (.bool 20 rfl (decide_eq_false c10)) ?_
  refine .rr 1 ?_
  refine .tt (L94 a1 ++ [(21,.agg (k34 a2))]) (H4 a0 a2) ?_
  replace h := bsome h;obtain ⟨r11,hr11,h⟩ := h
  refine .callL (d := 22) (p49 N a2 r11 hr11) (by simp) rfl rfl (by simp <;> rfl) (by simp <;> rfl) ent49 (by simp <;> rfl) ?_
  refine .rr 2 ?_
  cases h
  exact .nil .tt
 clear hj
 replace h := isome h;rcases h with ⟨c12,h⟩ | ⟨c12,h⟩
 ·refine .condT rfl c12 ?_
  refine .seqR ?_
  refine .rr 2 ?_
  refine .tt [(6,.z),(7,.i 2)] [] (.nil ?_)
  refine .sub (.wk 6 rfl) ?_
  refine .st (mk 41 [] [(6,.s53 ([] : List S53)),(7,.i 2)] []) (.ret ?_)
  cases h
  refine thenQ_ps ?_
  exact FinC.rs
 refine .condF rfl (Bool.eq_false_iff.2 c12) ?_
 refine .skip (thenQ_normal (.seq (.seqR ?_)))
 refine .rr 1 ?_
 refine .tt (L69 a1 ++ [(26,.agg (k34 a2))]) (H4 a0 a2) ?_
 replace h := bsome h;obtain ⟨r13,hr13,h⟩ := h
 refine .callC (d := 27) (p50 N a2 r13 hr13) (by simp) rfl rfl (by simp <;> rfl) (by simp <;> rfl) ent50 (by simp) (.inl ⟨by simp,by simp⟩) ?_
 refine .rr 5 ?_
 refine .nil (.seqR ?_)
 refine .rr 2 ?_
 refine .nil ?_
 replace h := isome h;rcases h with ⟨c14,h⟩ | ⟨c14,h⟩
 ·refine .condT rfl c14 ?_
  refine .seqR ?_
  refine .rr 3 ?_
  refine .tt [(6,.z),(7,.i r13.2)] [] (.nil ?_)
  refine .sub (.wk 6 rfl) ?_
  refine .st (mk 41 [] [(6,.s53 ([] : List S53)),(7,.i r13.2)] []) (.ret ?_)
  cases h
  refine thenQ_ps ?_
  exact FinC.rs
 refine .condF rfl (Bool.eq_false_iff.2 c14) ?_
 refine .skip (thenQ_normal (.seqR ?_))
 refine .rr 5 ?_
 refine .nil (.seqR ?_)
 refine .rr 2 ?_
 refine .tt [(36,.agg [.s56 a0.Tables,.s82 a0.ForeignKeys,.s88 a0.Constraints,.s53 a1]),(37,.agg (k34 a2))] [] ?_
 replace h := bsome h;obtain ⟨r15,hr15,h⟩ := h
 refine .callC (d := 38) (p51 N (S122.mk a0 a1) a2 r15 hr15) (by simp) rfl rfl (by simp <;> rfl) (by simp <;> rfl) ent51 (by simp) (.inl ⟨by simp,by simp⟩) ?_
 refine .rr 4 ?_
 refine .nil (.ret ?_)
 cases h
 exact FinC.rs
def d9 (N : Nat) (a0 : S26) (a1 : S34) : Option ((List S53) × Int) :=
 (d27 N a0 [] a1).bind fun r1 =>
 some (r1.1,r1.2)
theorem p9 (N : Nat) (a0 : S26) (a1 : S34) (r : ((List S53) × Int)) (h : d9 N a0 a1 = some r) : FunC Tryz.prog 9 [.agg (k26 a0),.agg (k34 a1)] (.tup [.s53 r.1,.i r.2]) := by
 unfold d9 at h
 refine FunC.enter 11 [(0,.agg (k26 a0)),(1,.agg (k34 a1))] (by simp) Tryz.func9 rfl (of_decide_eq_true rfl) rfl rfl ?_
 refine .seqR ?_
 refine .rr 4 ?_
 refine .nil (.seqR ?_)
 refine .rr 2 ?_
 refine .tt [(6,.agg (k26 a0)),(7,.agg (k34 a1))] [] ?_
 replace h := bsome h;obtain ⟨r1,hr1,h⟩ := h
 refine .callC (d := 8) (FunC.args (args := [.agg (k26 a0),.z,.agg (k34 a1)]) (p27 N a0 [] a1 r1 hr1) (by simp) rfl) (by simp) rfl rfl (by simp <;> rfl) (by simp <;> rfl) ent27 (by simp) (.inl ⟨by simp,by simp⟩) ?_
 refine .rr 4 ?_
 refine .nil (.ret ?_)
 cases h
 exact FinC.rs
def d52 (_N : Nat) (a0 : S58) : Option Int :=
 if (a0.Kind != 2) then (
  some 0
 ) else
 (chkI (2 * a0.Int)).bind fun v2 =>
 (chkI (v2 - 1)).bind fun v3 =>
 some v3
theorem p52 (N : Nat) (a0 : S58) (r : Int) (h : d52 N a0 = some r) : FunC Tryz.prog 52 [.agg (k58 a0)] (.i r) := by
 unfold d52 at h
 refine FunC.enter 10 [(0,.agg (k58 a0))] (by simp) Tryz.func52 rfl (of_decide_eq_true rfl) rfl rfl ?_
 refine .seqR ?_
 refine .rr 2 ?_
 refine .nil (.seq (.seqR ?_))
 refine .rr 3 ?_
 refine .nil ?_
 replace h := isome h;rcases h with ⟨c1,h⟩ | ⟨c1,h⟩
 ·refine .condT rfl c1 ?_
  refine .seqR ?_
  refine .rr 1 ?_
  refine .nil (.ret ?_)
  cases h
  refine thenQ_ps ?_
  exact FinC.rs
 refine .condF rfl (Bool.eq_false_iff.2 c1) ?_
 refine .skip (thenQ_normal (.seqR ?_))
 replace h := csome h;obtain ⟨v2,hv2,h⟩ := h
 replace h := csome h;obtain ⟨v3,hv3,h⟩ := h
 refine .rk 5 fun K k => ?_;simp [hv2,hv3];refine k ?_
 refine .nil (.ret ?_)
 cases h
 exact FinC.rs
def d28 (N : Nat) (a0 : S76) (a1 : Int) (a2 : Int) (a3 : Int) : Option (Int × Int) :=
 if (a0.Kind != 1) then (
  some (0,a3)
 ) else
 (d52 N a0.Value).bind fun r2 =>
 if r2 > 0 then (
  some (a1,a2)
 ) else
 some (0,0)
theorem p28 (N : Nat) (a0 : S76) (a1 : Int) (a2 : Int) (a3 : Int) (r : (Int × Int)) (h : d28 N a0 a1 a2 a3 = some r) : FunC Tryz.prog 28 [.agg (k76 a0),.i a1,.i a2,.i a3] (.tup [.i r.1,.i r.2]) := by
 unfold d28 at h
 refine FunC.enter 20 [(0,.agg (k76 a0)),(1,.i a1),(2,.i a2),(3,.i a3)] (by simp) Tryz.func28 rfl (of_decide_eq_true rfl) rfl rfl ?_
 refine .seqR ?_
 refine .rr 3 ?_
 refine .nil (.seq (.seqR ?_))
 refine .rr 3 ?_
 refine .nil ?_
 replace h := isome h;rcases h with ⟨c1,h⟩ | ⟨c1,h⟩
 ·refine .condT rfl c1 ?_
  refine .seqR ?_
  refine .rr 3 ?_
  refine .nil (.ret ?_)
  cases h
  refine thenQ_ps ?_
  exact FinC.rs
 refine .condF rfl (Bool.eq_false_iff.2 c1) ?_
 refine .skip (thenQ_normal (.seq (.seqR ?_)))
 refine .rr 2 ?_
 refine .tt [(1,.i a1),(2,.i a2),(15,.agg (k58 a0.Value))] [] ?_
 replace h := bsome h;obtain ⟨r2,hr2,h⟩ := h
 refine .callL (d := 16) (p52 N a0.Value r2 hr2) (by simp) rfl rfl (by simp <;> rfl) (by simp <;> rfl) ent52 (by simp <;> rfl) ?_
 refine .rr 1 ?_
 refine .nil ?_
 replace h := isome h;rcases h with ⟨c3,h⟩ | ⟨c3,h⟩
 ·refine .condT rfl (decide_eq_true c3) ?_
  refine .seqR ?_
  refine .rr 4 ?_
  refine .nil (.ret ?_)
  cases h
  refine thenQ_ps ?_
  exact FinC.rs
 refine .condF rfl (decide_eq_false c3) ?_
 refine .skip (thenQ_normal (.seqR ?_))
 refine .rr 2 ?_
 refine .nil (.ret ?_)
 cases h
 exact FinC.rs
def d53 : (N : Nat) → (a0 : S56) → (a1 : ByteArray) → (a2 : S76) → Option Bool
 | 0,_,_,_ => none
 | N + 1,a0,a1,a2 =>
  if (a2.Kind != 5) then (
   some false
  ) else
  if decide (a2.Name = (ByteArray.mk #[97,110,100])) = true then (
   Option.bind (α := Bool) (
    (idx a2.Args 0).bind fun x9 =>
    (d53 N a0 a1 x9).bind fun r10 =>
    if r10 = true then (
     some true
    ) else
    (idx a2.Args 1).bind fun x12 =>
    (d53 N a0 a1 x12).bind fun r13 =>
    some r13
   ) fun (v8 : Bool) =>
   some v8
  ) else
  if (!decide (a2.Name = (ByteArray.mk #[61]))) = true then (
   some false
  ) else
  bindO (β := Unit) (ρ := Bool) (
   iterN (σ := Int) (ρ := (Out Unit Bool)) (fun (v101 : Int) =>
    if v101 < 2 then (
     bindO (β := Unit) (ρ := (Int ⊕ (Out Unit Bool))) (
      (idx a2.Args v101).bind fun x328 =>
      (chkI (1 - v101)).bind fun v330 =>
      (idx a2.Args v330).bind fun x331 =>
      Option.bind (α := Bool) (
       if (x328.Kind != 2) then (
        some true
       ) else
       if (!decide (x328.Name = a1)) = true then (
        some true
       ) else
       some (x331.Kind == 5)
      ) fun (v335 : Bool) =>
      if v335 = true then (
       some (.go ())
      ) else
      Option.bind (α := Bool) (
       iterN (σ := (Bool × Int)) (ρ := Bool) (fun ((v342,v343) : (Bool × Int)) =>
        if v343 < (a0.Columns.length : Int) then (
         (idx a0.Columns v343).bind fun x362 =>
         Option.bind (α := Bool) (
          if v342 = true then (
           some (!decide (x362.Name = x331.Name))
          ) else
          some false
         ) fun (v365 : Bool) =>
         (chkI (v343 + 1)).bind fun v367 =>
         some (.inl (v365,v367))
        ) else
        some (.inr v342)
       ) N (true,0)
      ) fun (v360 : Bool) =>
      Option.bind (α := Bool) (
       if (x331.Kind != 2) then (
        some true
       ) else
       some v360
      ) fun (v369 : Bool) =>
      if v369 = true then (
       some (.ret (.inr (.ret true)))
      ) else
      some (.go ())
     ) fun (_ : Unit) =>
     (chkI (v101 + 1)).bind fun v372 =>
     some (.inl v372)
    ) else
    some (.inr (.go ()))
   ) N 0
  ) fun (_ : Unit) =>
  some false
theorem p53 (N : Nat) : ∀ (a0 : S56) (a1 : ByteArray) (a2 : S76) (r : Bool) (_ : d53 N a0 a1 a2 = some r),FunC Tryz.prog 53 [.agg (k56 a0),.s a1,.agg (k76 a2)] (.b r) := by
 induction N with
 | zero => intro a0 a1 a2 r h;cases h
 | succ N ih =>
 intro a0 a1 a2 r h
 unfold d53 at h
 refine FunC.enter 89 [(0,.agg (k56 a0)),(1,.s a1),(2,.agg (k76 a2))] (by simp) Tryz.func53 rfl (of_decide_eq_true rfl) rfl rfl ?_
 refine .seqR ?_
 refine .rr 3 ?_
 refine .nil (.seq (.seqR ?_))
 refine .rr 3 ?_
 refine .nil ?_
 replace h := isome h;rcases h with ⟨c1,h⟩ | ⟨c1,h⟩
 ·refine .condT rfl c1 ?_
  refine .seqR ?_
  refine .rr 1 ?_
  refine .nil (.ret ?_)
  cases h
  refine thenQ_ps ?_
  exact FinC.rs
 ·refine .condF rfl (Bool.eq_false_iff.2 c1) ?_
  refine .skip (thenQ_normal (.seq (.seqR ?_)))
  refine .rr 3 ?_
  refine .nil ?_
  replace h := isome h;rcases h with ⟨c2,h⟩ | ⟨c2,h⟩
  ·refine .condT rfl c2 ?_
   replace h := bsome h;obtain ⟨v8,hj,h⟩ := h
   refine .cutQ (by kernel_rfl) (by kernel_rfl) (mk 89 [] [(6,.b v8)] []) ?_ ?_
   ·clear h;have h := hj;clear hj
    replace h := bsome h;obtain ⟨x9,hx9,h⟩ := h
    obtain ⟨hx9,hx9b,hx9c⟩ := idx_someN (n := 0) hx9
    refine .rq 6 fun K k => ?_;simp [hx9];refine k ?_
    refine .tt (L20 a1 ++ [(19,.agg (k56 a0)),(20,.s a1),(24,.agg (k76 x9))]) (H13 a0 a2) ?_
    replace h := bsome h;obtain ⟨r10,hr10,h⟩ := h
    refine .callL (d := 25) (ih a0 a1 x9 r10 hr10) (by simp) rfl rfl (by simp <;> rfl) (by simp <;> rfl) ent53 (by simp <;> rfl) ?_
    refine .rq 1 fun K k => ?_;simp;refine k ?_
    replace h := isome h;rcases h with ⟨c11,h⟩ | ⟨c11,h⟩
    ·refine .sub (.bool 26 rfl c11) ?_
     refine .rq 9 fun K k => ?_;simp;refine k ?_
     cases h
     exact .nil .tt
    ·refine .sub (.bool 26 rfl (Bool.eq_false_iff.2 c11)) ?_
     refine .st (mk 89 [] (L20 a1 ++ [(26,.b false)]) (H13 a0 a2)) ?_
     replace h := bsome h;obtain ⟨x12,hx12,h⟩ := h
     obtain ⟨hx12,hx12b,hx12c⟩ := idx_someN (n := 1) hx12
     refine .rq 6 fun K k => ?_;simp [hx12];refine k ?_
     refine .tt [(26,.b false),(27,.agg (k56 a0)),(28,.s a1),(32,.agg (k76 x12))] [] ?_
     replace h := bsome h;obtain ⟨r13,hr13,h⟩ := h
     refine .callL (d := 33) (ih a0 a1 x12 r13 hr13) (by simp) rfl rfl (by simp <;> rfl) (by simp <;> rfl) ent53 (by simp <;> rfl) ?_
     refine .rq 2 fun K k => ?_;simp;refine k ?_
     cases h
     exact .nil .tt
   ·clear hj
    refine .ret ?_
    cases h
    refine thenQ_ps ?_
    exact FinC.rs
  ·refine .condF rfl (Bool.eq_false_iff.2 c2) ?_
   refine .skip (thenQ_normal (.seq (.seqR ?_)))
   refine .rr 3 ?_
   refine .nil ?_
   replace h := isome h;rcases h with ⟨c14,h⟩ | ⟨c14,h⟩
   ·refine .condT rfl c14 ?_
    refine .seqR ?_
    refine .rr 1 ?_
    refine .nil (.ret ?_)
    cases h
    refine thenQ_ps ?_
    exact FinC.rs
   ·refine .condF rfl (Bool.eq_false_iff.2 c14) ?_
    refine .skip (thenQ_normal (.seq (.seqR ?_)))
    refine .rr 1 ?_
    refine .tt (L20 a1 ++ [(38,.i 0)]) (H13 a0 a2) (.nil ?_)
    refine .lastJ (fun (_ : Unit) => mk 89 [] [] []) h ?_ ?_ <;> clear h
    ·intro o h
     refine .block ?_
     refine .iter (fun (v101 : Int) => mk 89 [] (L95 a1 v101) (H13 a0 a2)) h Sub.tt ?_
     clear h
     rintro v101 x h
     refine .seqR ?_
     refine .rr 1 ?_
     refine .nil (.seq ?_)
     replace h := isome h;rcases h with ⟨c283,h⟩ | ⟨c283,h⟩
     ·refine .condT rfl (decide_eq_true c283) ?_
      refine .skip (thenQ_normal ?_)
      refine .seqJ (fun (_ : Unit) => mk 89 [] (L95 a1 v101) (H13 a0 a2)) h ?_ ?_ <;> clear h
      ·intro o h
       refine .block (.seqR ?_)
       refine .rr 2 ?_
       refine .tt (L20 a1 ++ [(7,.i v101),(38,.i v101)]) (H13 a0 a2) (.nil ?_)
       replace h := xsome h;obtain ⟨x328,k329,hx328k,hx328,hx328a,hx328b,h⟩ := h
       replace h := csome h;obtain ⟨v330,hv330,h⟩ := h
       replace h := xsome h;obtain ⟨x331,k332,hx331k,hx331,hx331a,hx331b,h⟩ := h
       refine .seqAnyS [[],[0],[],[0,1,2],[0,1,2,3],[],[5],[],[7],[5,6,7,8],[5,6,7,8,9],[],[],[0,1,2,3,4,11,12],[0,1,2,3,4,5,6,7,8,9,10,11,12,13]] (fun (b : Nat → Bool) => mk 89 [] [(1,.s a1),(3,.ptr 3 0 0),(5,.ptr 5 0 0),(7,.i v101),(8,(if b 11 then .ptr 8 0 0 else .junk)),(9,(if b 12 then .ptr 9 0 0 else .junk)),(38,.i v101),(41,(if b 0 then .ptr 5 0 6 else .junk)),(42,(if b 1 then .s76 a2.Args else .junk)),(43,(if b 2 then .i v101 else .junk)),(44,(if b 3 then .d (.pim [.lit (.int .i64 x328.Kind),.lit (.string x328.Name),.lit (.int .i64 x328.Index),.lit (.int .i64 x328.Value.Kind),.lit (.int .i64 x328.Value.Int),.lit (.string x328.Value.Text),.sl (x328.Args.map cS76)]) else .junk)),(45,(if b 4 then .agg (k76 x328) else .junk)),(46,(if b 5 then .ptr 5 0 6 else .junk)),(47,(if b 6 then .s76 a2.Args else .junk)),(48,(if b 7 then .i v101 else .junk)),(49,(if b 8 then .i v330 else .junk)),(50,(if b 9 then .d (.pim [.lit (.int .i64 x331.Kind),.lit (.string x331.Name),.lit (.int .i64 x331.Index),.lit (.int .i64 x331.Value.Kind),.lit (.int .i64 x331.Value.Int),.lit (.string x331.Value.Text),.sl (x331.Args.map cS76)]) else .junk)),(51,(if b 10 then .agg (k76 x331) else .junk))] [(3,some (.box (k56 a0))),(5,some (.box (k76 a2))),(8,(if b 13 then some (.box (k76 x328)) else (if b 11 then some (.box [.i 0,.s (ByteArray.mk #[]),.i 0,.i 0,.i 0,.s (ByteArray.mk #[]),.z]) else none))),(9,(if b 14 then some (.box (k76 x331)) else (if b 12 then some (.box [.i 0,.s (ByteArray.mk #[]),.i 0,.i 0,.i 0,.s (ByteArray.mk #[]),.z]) else none)))]) (mk 89 [] (L96 a1 v101) (H32 a0 a2 x328 x331)) (by kernel_rfl) (by kernel_rfl) Sub.tt (Steps.cons ?_ (Steps.cons ?_ (Steps.cons ?_ (Steps.cons ?_ (Steps.cons ?_ (Steps.cons ?_ (Steps.cons ?_ (Steps.cons ?_ (Steps.cons ?_ (Steps.cons ?_ (Steps.cons ?_ (Steps.cons ?_ (Steps.cons ?_ (Steps.cons ?_ (Steps.cons ?_ (Steps.nil)))))))))))))))) ?_ ?_
       iterate 11
        ·intro b h0 ha hd
         have T := fct h0 ha hd;simp at T
         refine .rk 1 fun K k => ?_;simp [T,hx328,hx328k,hx328a,hv330,hx331,hx331k,hx331a];refine k ?_
         exact .nil .tT
       ·intro b h0 ha hd
        have T := fct h0 ha hd;simp at T
        cases q12 : b 12 <;> (refine Chain.runK [] 1 fun K k => ?_;simp [T];refine k _ _ ?_;clear k K;exact .nil (.table (by simp [q12]) (by simp [T,q12])))
       ·intro b h0 ha hd
        have T := fct h0 ha hd;simp at T
        cases q11 : b 11 <;> (refine Chain.runK [] 1 fun K k => ?_;simp [T];refine k _ _ ?_;clear k K;exact .nil (.table (by simp [q11]) (by simp [T,q11])))
       iterate 2
        ·intro b h0 ha hd
         have T := fct h0 ha hd;simp at T
         refine .rk 1 fun K k => ?_;simp [T];refine k ?_
         exact .nil .tT
       ·intro b hb
        have T := FA_of (n := 15) hb;simp at T
        exact Sub.tT
       ·skip
        refine .seq ?_
        replace h := bsome h;obtain ⟨v335,hj,h⟩ := h
        refine .cutR (mk 89 [] (L97 a1 ++ [(38,.i v101),(65,.b v335)]) (H27 a0 a2 x331)) ?_ ?_
        ·clear h;have h := hj;clear hj
         refine .rr 4 ?_
         replace h := isome h;rcases h with ⟨c336,h⟩ | ⟨c336,h⟩
         ·refine .sub (.bool 55 rfl c336) ?_
          refine .rr 10 ?_
          cases h
          exact .nil .tt
         ·refine .sub (.bool 55 rfl (Bool.eq_false_iff.2 c336)) ?_
          refine .rr 6 ?_
          replace h := isome h;rcases h with ⟨c337,h⟩ | ⟨c337,h⟩
          ·have c337_ := c337
           refine .sub (.bool 59 rfl c337_) ?_
           refine .sub (.bool 61 rfl c337_) ?_
           refine .rr 4 ?_
           cases h
           exact .nil .tt
          ·have c337_ := Bool.eq_false_iff.2 c337
           refine .sub (.bool 59 rfl c337_) ?_
           refine .sub (.bool 61 rfl c337_) ?_
           refine .rr 4 ?_
           cases h
           exact .nil .tt
        ·clear hj
         replace h := isome h;rcases h with ⟨c338,h⟩ | ⟨c338,h⟩
         ·refine .condT rfl c338 ?_
          refine .exit ?_
          cases h
          refine thenQ_ps ?_
          refine blockQ.hit (PostJ.next ?_)
          exact Sub.tt
         ·refine .condF rfl (Bool.eq_false_iff.2 c338) ?_
          refine .skip (thenQ_normal (.seqR ?_))
          refine .rr 1 ?_
          refine .nil (.seq (.seqR ?_))
          refine .rr 4 ?_
          refine .tt (L97 a1 ++ [(10,.b true),(38,.i v101),(67,.s53 a0.Columns),(68,.i (a0.Columns.length : Int)),(69,.i 0)]) (H27 a0 a2 x331) (.nil ?_)
          refine .lastN (fun (v360 : Bool) => mk 89 [] (L97 a1 ++ [(10,.b v360),(38,.i v101)]) (H27 a0 a2 x331)) h ?_ ?_ <;> clear h
          ·intro o h
           refine .block ?_
           refine .iter (fun ((v342,v343) : (Bool × Int)) => mk 89 [] (L99 a1 v342 v101 a0.Columns a0.Columns.length v343) (H27 a0 a2 x331)) h Sub.tt ?_
           clear h
           rintro ⟨v342,v343⟩ x h
           dsimp only at h ⊢
           refine .seqR ?_
           refine .rr 1 ?_
           refine .nil (.seq ?_)
           replace h := isome h;rcases h with ⟨c361,h⟩ | ⟨c361,h⟩
           ·refine .condT rfl (decide_eq_true c361) ?_
            refine .skip (thenQ_normal (.seq (.block (.seqR ?_))))
            replace h := xsome h;obtain ⟨x362,k363,hx362k,hx362,hx362a,hx362b,h⟩ := h
            refine .rk 4 fun K k => ?_;simp [hx362,hx362k,hx362a];refine k ?_
            refine .tt (L97 a1 ++ [(10,.b v342),(12,.ptr 12 0 0),(38,.i v101),(67,.s53 a0.Columns),(68,.i (a0.Columns.length : Int)),(69,.i v343)]) (H47 a0 a2 x331 x362) (.nil ?_)
            replace h := bsome h;obtain ⟨v365,hj,h⟩ := h
            refine .region (Chain.cut (mk 89 [] (L99 a1 v365 v101 a0.Columns a0.Columns.length v343) (H27 a0 a2 x331)) ?_ fun S' hS => ?_)
            ·clear h;have h := hj;clear hj
             refine .rr 2 ?_
             replace h := isome h;rcases h with ⟨c366,h⟩ | ⟨c366,h⟩
             ·refine .sub (.bool 74 rfl c366) ?_
              refine .rr 7 ?_
              cases h
              exact .nil .tt
             ·refine .sub (.bool 74 rfl (Bool.eq_false_iff.2 c366)) ?_
              refine .rr 7 ?_
              cases h
              exact .nil .tt
            ·clear hj
             refine blockQ.normal (thenQ_normal ?_)
             refine .sub hS ?_
             refine .region ?_
             replace h := csome h;obtain ⟨v367,hv367,h⟩ := h
             refine .rk 2 fun K k => ?_;simp [hv367];refine k ?_
             refine .nil ?_
             cases h
             refine PostI.next ?_
             exact Sub.tt
           ·refine .condF rfl (decide_eq_false c361) ?_
            refine .exit ?_
            cases h
            refine thenQ_ps ?_
            refine PostI.os ?_
            rintro rfl
            refine blockQ.hit (PostN.next ?_)
            exact Sub.tt
          ·rintro v360 h
           refine thenQ_normal ?_
           replace h := bsome h;obtain ⟨v369,hj,h⟩ := h
           refine .cutR (mk 89 [] (L95 a1 v101 ++ [(87,.b v369)]) (H13 a0 a2)) ?_ ?_
           ·clear h;have h := hj;clear hj
            refine .rr 4 ?_
            replace h := isome h;rcases h with ⟨c370,h⟩ | ⟨c370,h⟩
            ·refine .sub (.bool 85 rfl c370) ?_
             refine .rr 2 ?_
             cases h
             exact .nil .tt
            ·refine .sub (.bool 85 rfl (Bool.eq_false_iff.2 c370)) ?_
             refine .rr 2 ?_
             cases h
             exact .nil .tt
           ·clear hj
            replace h := isome h;rcases h with ⟨c371,h⟩ | ⟨c371,h⟩
            ·refine .condT rfl c371 ?_
             refine .seqR ?_
             refine .rr 1 ?_
             refine .nil (.ret ?_)
             cases h
             refine blockQ.ret ?_
             refine PostJ.out (by simp) ?_
             rintro rfl
             refine PostI.os ?_
             rintro rfl
             refine blockQ.ret ?_
             refine PostJ.out (by simp) ?_
             rintro rfl
             refine thenQ_ps ?_
             exact FinC.rs
            ·refine .condF rfl (Bool.eq_false_iff.2 c371) ?_
             refine .skip ?_
             cases h
             refine blockQ.normal (PostJ.next ?_)
             exact Sub.tt
      ·rintro ⟨⟩ h
       refine .region ?_
       replace h := csome h;obtain ⟨v372,hv372,h⟩ := h
       refine .rk 2 fun K k => ?_;simp [hv372];refine k ?_
       refine .nil ?_
       cases h
       refine PostI.next ?_
       exact Sub.tt
     ·refine .condF rfl (decide_eq_false c283) ?_
      refine .exit ?_
      cases h
      refine thenQ_ps ?_
      refine PostI.os ?_
      rintro rfl
      refine blockQ.hit (PostJ.next ?_)
      exact Sub.tt
    ·rintro ⟨⟩ h
     refine thenQ_normal (.seqR ?_)
     refine .rr 1 ?_
     refine .nil (.ret ?_)
     cases h
     exact FinC.rs
end Go.Proofs.YtmgddgcniacnbaaGreatDoor
