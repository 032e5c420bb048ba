/- Functions of the program as functional programs; the code computes them. -/
import Derived.Test.YtmgddgcniacnbaaGreatDoorCa12
namespace Go.Proofs.YtmgddgcniacnbaaGreatDoor
set_option maxRecDepth 100000
set_option maxHeartbeats 4000000
open Go.Ab Go.Rp
attribute [-simp] List.all_eq_true Array.all_toList Array.all_eq_true
def d116 (N : Nat) (a0 : S76) (a100 : S56) : Option Bool :=
 Option.bind (α := Bool) (
  if (a0.Kind == 2) then (
   (d115 N a0.Name a100).bind fun r10 =>
   if (!r10) = true then (
    some true
   ) else
   if (a0.Kind == 1) then (
    some true
   ) else
   if (a0.Kind == 3) then (
    some true
   ) else
   some (a0.Kind == 4)
  ) else
  if (a0.Kind == 1) then (
   some true
  ) else
  if (a0.Kind == 3) then (
   some true
  ) else
  some (a0.Kind == 4)
 ) fun (v8 : Bool) =>
 some v8
theorem p116 (N : Nat) (a0 : S76) (a100 : S56) (r : Bool) (h : d116 N a0 a100 = some r) : FunC Tryz.prog 116 [.agg (k76 a0),.d (.pim [.fn (.func 115) [.pim [.lit (.string a100.Name),.sl (a100.Columns.map cS53),.sl (a100.PrimaryKey.map (cI .i64))]]])] (.b r) := by
 unfold d116 at h
 refine FunC.enter 29 [(0,.agg (k76 a0)),(1,.d (.pim [.fn (.func 115) [.pim [.lit (.string a100.Name),.sl (a100.Columns.map cS53),.sl (a100.PrimaryKey.map (cI .i64))]]]))] (by simp) Tryz.func116 rfl (of_decide_eq_true rfl) rfl rfl ?_
 refine .seqR ?_
 refine .rr 2 ?_
 refine .tt (L116 a100.Name a100.Columns a100.PrimaryKey) (H11 a0) (.nil ?_)
 replace h := bsome h;obtain ⟨v8,hj,h⟩ := h
 refine .cutR (mk 29 [] [(3,.b v8)] []) ?_ ?_
 ·clear h;have h := hj;clear hj
  refine .rr 4 ?_
  replace h := isome h;rcases h with ⟨c9,h⟩ | ⟨c9,h⟩
  ·refine .sub (.bool 7 rfl c9) ?_
   refine .rr 3 ?_
   refine .tt [(2,.ptr 2 0 0),(7,.b true),(8,.d (.fn (.func 115) [.pim [.lit (.string a100.Name),.sl (a100.Columns.map cS53),.sl (a100.PrimaryKey.map (cI .i64))]])),(10,.s a0.Name)] (H11 a0) ?_
   replace h := bsome h;obtain ⟨r10,hr10,h⟩ := h
   refine .callL (d := 11) (p115 N a0.Name a100 r10 hr10) (by simp) rfl rfl (by simp <;> rfl) (by simp <;> rfl) ent115 (by simp <;> rfl) ?_
   refine .rr 3 ?_
   replace h := isome h;rcases h with ⟨c11,h⟩ | ⟨c11,h⟩
   ·refine .sub (.bool 14 rfl c11) ?_
    refine .rr 15 ?_
    cases h
    exact .nil .tt
   refine .sub (.bool 14 rfl (Bool.eq_false_iff.2 c11)) ?_
   refine .rr 5 ?_
   replace h := isome h;rcases h with ⟨c12,h⟩ | ⟨c12,h⟩
   ·refine .sub (.bool 19 rfl c12) ?_
    refine .rr 10 ?_
    cases h
    exact .nil .tt
   refine .sub (.bool 19 rfl (Bool.eq_false_iff.2 c12)) ?_
   refine .rr 5 ?_
   replace h := isome h;rcases h with ⟨c13,h⟩ | ⟨c13,h⟩
   ·refine .sub (.bool 24 rfl c13) ?_
    refine .rr 5 ?_
    cases h
    exact .nil .tt
   refine .sub (.bool 24 rfl (Bool.eq_false_iff.2 c13)) ?_
   refine .rr 5 ?_
   cases h
   exact .nil .tt
  refine .sub (.bool 7 rfl (Bool.eq_false_iff.2 c9)) ?_
  refine .rr 12 ?_
  replace h := isome h;rcases h with ⟨c14,h⟩ | ⟨c14,h⟩
  ·refine .sub (.bool 19 rfl c14) ?_
   refine .rr 10 ?_
   cases h
   exact .nil .tt
  refine .sub (.bool 19 rfl (Bool.eq_false_iff.2 c14)) ?_
  refine .rr 5 ?_
  replace h := isome h;rcases h with ⟨c15,h⟩ | ⟨c15,h⟩
  ·refine .sub (.bool 24 rfl c15) ?_
   refine .rr 5 ?_
   cases h
   exact .nil .tt
  refine .sub (.bool 24 rfl (Bool.eq_false_iff.2 c15)) ?_
  refine .rr 5 ?_
  cases h
  exact .nil .tt
 clear hj
 refine .ret ?_
 cases h
 exact FinC.rs
mutual
def d149 : (N : Nat) → (a0 : S76) → Option S76
 | 0,_ => none
 | N + 1,a0 =>
  (d170 N a0 [] []).bind fun r1 =>
  some r1
def d170 : (N : Nat) → (a0 : S76) → (a1 : (List ByteArray)) → (a2 : (List S76)) → Option S76
 | 0,_,_,_ => none
 | N + 1,a0,a1,a2 =>
  bindO (β := Unit) (ρ := S76) (
   if (a0.Kind == 2) then (
    (d136 N a1 a0.Name).bind fun r11 =>
    Option.bind (α := Bool) (
     if r11 ≥ 0 then (
      some (decide (r11 < (a2.length : Int)))
     ) else
     some false
    ) fun (v13 : Bool) =>
    if v13 = true then (
     (idx a2 r11).bind fun x16 =>
     (d149 N x16).bind fun r18 =>
     some (.ret r18)
    ) else
    some (.go ())
   ) else
   some (.go ())
  ) fun (_ : Unit) =>
  Option.bind (α := List S76) (
   iterN (σ := ((List S76) × Int)) (ρ := List S76) (fun ((l24,v25) : ((List S76) × Int)) =>
    if v25 < (a0.Args.length : Int) then (
     (idx a0.Args v25).bind fun x42 =>
     (d170 N x42 a1 a2).bind fun r44 =>
     (appL 88 l24 [r44]).bind fun _l45 =>
     (chkI (v25 + 1)).bind fun v46 =>
     some (.inl ((l24 ++ [r44]),v46))
    ) else
    some (.inr l24)
   ) N (([] : List S76),0)
  ) fun (l40 : List S76) =>
  some (S76.mk a0.Kind a0.Name a0.Index a0.Value l40)
end
theorem pg149_170 (N : Nat) : (∀ (a0 : S76) (r : S76) (_ : d149 N a0 = some r),FunC Tryz.prog 149 [.agg (k76 a0)] (.agg (k76 r))) ∧ (∀ (a0 : S76) (a1 : (List ByteArray)) (a2 : (List S76)) (r : S76) (_ : d170 N a0 a1 a2 = some r),FunC Tryz.prog 170 [.agg (k76 a0),.ss a1,.s76 a2] (.agg (k76 r))) := by
 induction N with
 | zero => exact ⟨(by intro a0 r h;cases h),(by intro a0 a1 a2 r h;cases h)⟩
 | succ N ih =>
 obtain ⟨ih149,ih170⟩ := ih
 refine ⟨?_,?_⟩
 ·intro a0 r h
  unfold d149 at h
  refine FunC.enter 5 [(0,.agg (k76 a0))] (by simp) Tryz.func149 rfl (of_decide_eq_true rfl) rfl rfl ?_
  refine .seqR ?_
  refine .rr 2 ?_
  refine .tt [(1,.ptr 1 0 0),(2,.ptr 2 0 0)] [(1,some (.box (k76 a0))),(2,some (.box [.i 0,.s (ByteArray.mk #[]),.i 0,.i 0,.i 0,.s (ByteArray.mk #[]),.z]))] (.nil (.seqR ?_))
  refine .rr 1 ?_
  refine .tt [(2,.ptr 2 0 0),(3,.agg (k76 a0))] H81 ?_
  replace h := bsome h;obtain ⟨r1,hr1,h⟩ := h
  refine .callC (d := 4) (FunC.args (args := [.agg (k76 a0),.z,.z]) (ih170 a0 [] [] r1 hr1) (by simp) rfl) (by simp) rfl rfl (by simp <;> rfl) (by simp <;> rfl) ent170 (by simp) (.inl ⟨by simp,by simp⟩) ?_
  refine .rr 1 ?_
  refine .tt [(2,.ptr 2 0 0)] (H11 r1) (.nil (.ret ?_))
  cases h
  exact FinC.rs
 ·intro a0 a1 a2 r h
  unfold d170 at h
  refine FunC.enter 51 [(0,.agg (k76 a0)),(1,.ss a1),(2,.s76 a2)] (by simp) Tryz.func170 rfl (of_decide_eq_true rfl) rfl rfl ?_
  refine .seqR ?_
  refine .rr 2 ?_
  refine .tt (L117 a1 a2) (H22 a0) (.nil (.seq (.seqR ?_)))
  refine .rr 3 ?_
  refine .tt (L117 a1 a2 ++ [(13,.b (a0.Kind == 2))]) (H22 a0) (.nil ?_)
  refine .lastJ (fun (_ : Unit) => mk 51 [] (L117 a1 a2) (H22 a0)) h ?_ ?_ <;> clear h
  ·intro o h
   replace h := isome h;rcases h with ⟨c10,h⟩ | ⟨c10,h⟩
   ·have c10_ := c10
    refine .condT rfl c10_ ?_
    refine .seqR ?_
    refine .rr 3 ?_
    refine .tt (L117 a1 a2 ++ [(14,.ss a1),(16,.s a0.Name)]) (H22 a0) ?_
    replace h := bsome h;obtain ⟨r11,hr11,h⟩ := h
    refine .callL (d := 17) (p136 N a1 a0.Name r11 hr11) (by simp) rfl rfl (by simp <;> rfl) (by simp <;> rfl) ent136 (by simp <;> rfl) ?_
    refine .rr 1 ?_
    refine .tt (L118 a1 a2 r11) (H22 a0) (.nil ?_)
    replace h := bsome h;obtain ⟨v13,hj,h⟩ := h
    refine .cutR (mk 51 [] (L118 a1 a2 r11 ++ [(25,.b v13)]) (H22 a0)) ?_ ?_
    ·clear h;have h := hj;clear hj
     refine .rr 3 ?_
     replace h := isome h;rcases h with ⟨c14,h⟩ | ⟨c14,h⟩
     ·have c14_ := decide_eq_true c14
      refine .sub (.bool 20 rfl c14_) ?_
      refine .rr 5 ?_
      refine .tt (L118 a1 a2 r11 ++ [(25,.b (decide (r11 < (a2.length : Int))))]) (H22 a0) ?_
      cases h
      exact .nil .tt
     ·have c14_ := decide_eq_false c14
      refine .sub (.bool 20 rfl c14_) ?_
      refine .rr 5 ?_
      refine .tt (L118 a1 a2 r11 ++ [(25,.b false)]) (H22 a0) ?_
      cases h
      exact .nil .tt
    ·clear hj
     replace h := isome h;rcases h with ⟨c15,h⟩ | ⟨c15,h⟩
     ·have c15_ := c15
      refine .condT rfl c15_ ?_
      refine .seqR ?_
      replace h := xsome h;obtain ⟨x16,k17,hx16k,hx16,hx16a,hx16b,h⟩ := h
      refine .rk 4 fun K k => ?_;simp [hx16,hx16k,hx16a];refine k ?_
      refine .tt [(6,.ptr 6 0 0),(29,.agg (k76 x16))] H82 ?_
      replace h := bsome h;obtain ⟨r18,hr18,h⟩ := h
      refine .callC (d := 30) (ih149 x16 r18 hr18) (by simp) rfl rfl (by simp <;> rfl) (by simp <;> rfl) ent149 (by simp) (.inl ⟨by simp,by simp⟩) ?_
      refine .rr 1 ?_
      refine .tt [(6,.ptr 6 0 0)] (H49 r18) (.nil (.ret ?_))
      cases h
      refine PostJ.out (by simp) ?_
      rintro rfl
      refine thenQ_ps ?_
      exact FinC.rs
     ·have c15_ := Bool.eq_false_iff.2 c15
      refine .condF rfl c15_ ?_
      refine .skip ?_
      cases h
      refine PostJ.next ?_
      exact Sub.tt
   ·have c10_ := Bool.eq_false_iff.2 c10
    refine .condF rfl c10_ ?_
    refine .skip ?_
    cases h
    refine PostJ.next ?_
    exact Sub.tt
  ·rintro ⟨⟩ h
   refine thenQ_normal (.seqR ?_)
   refine .rr 3 ?_
   refine .tt (L117 a1 a2 ++ [(8,.ptr 8 0 0)]) [(3,some (.box (k76 a0))),(6,some (.box [.i 0,.s (ByteArray.mk #[]),.i 0,.i 0,.i 0,.s (ByteArray.mk #[]),.z])),(8,some (.box (k76 a0)))] (.nil (.seqR ?_))
   refine .rr 2 ?_
   refine .tt (L117 a1 a2 ++ [(8,.ptr 8 0 0)]) [(3,some (.box (k76 a0))),(6,some (.box [.i 0,.s (ByteArray.mk #[]),.i 0,.i 0,.i 0,.s (ByteArray.mk #[]),.z])),(8,some (.box [.i a0.Kind,.s a0.Name,.i a0.Index,.i a0.Value.Kind,.i a0.Value.Int,.s a0.Value.Text,.z]))] (.nil (.seq (.seqR ?_)))
   refine .rr 4 ?_
   refine .tt [(1,.ss a1),(2,.s76 a2),(6,.ptr 6 0 0),(8,.ptr 8 0 0),(34,.s76 a0.Args),(35,.i (a0.Args.length : Int)),(36,.i 0)] [(6,some (.box [.i 0,.s (ByteArray.mk #[]),.i 0,.i 0,.i 0,.s (ByteArray.mk #[]),.z])),(8,some (.box [.i a0.Kind,.s a0.Name,.i a0.Index,.i a0.Value.Kind,.i a0.Value.Int,.s a0.Value.Text,.z]))] (.nil ?_)
   refine .lastN (fun (l40 : List S76) => mk 51 [] [(6,.ptr 6 0 0),(8,.ptr 8 0 0)] (H62 a0 l40)) h ?_ ?_ <;> clear h
   ·intro o h
    refine .block ?_
    refine .iter (fun ((l24,v25) : ((List S76) × Int)) => mk 51 [] (L119 a1 a2 a0.Args a0.Args.length v25) (H62 a0 l24)) h (Sub.trans (Sub.nilOwnBox (bid := 8) (j := 6) (id := 47) (T := 76) (n := 7) rfl rfl (by decide) rfl (by decide)) (by simp;exact Sub.tt)) ?_
    clear h
    rintro ⟨l24,v25⟩ x h
    dsimp only at h ⊢
    refine .seqR ?_
    refine .rr 1 ?_
    refine .tt (L119 a1 a2 a0.Args a0.Args.length v25 ++ [(37,.b (decide (v25 < (a0.Args.length : Int))))]) (H62 a0 l24) (.nil (.seq ?_))
    replace h := isome h;rcases h with ⟨c41,h⟩ | ⟨c41,h⟩
    ·have c41_ := decide_eq_true c41
     refine .condT rfl c41_ ?_
     refine .skip (thenQ_normal (.seq (.block (.seqR ?_))))
     replace h := xsome h;obtain ⟨x42,k43,hx42k,hx42,hx42a,hx42b,h⟩ := h
     refine .rk 4 fun K k => ?_;simp [hx42,hx42k,hx42a];refine k ?_
     refine .tt [(1,.ss a1),(2,.s76 a2),(6,.ptr 6 0 0),(8,.ptr 8 0 0),(10,.ptr 10 0 0),(34,.s76 a0.Args),(35,.i (a0.Args.length : Int)),(36,.i v25)] [(6,some (.box [.i 0,.s (ByteArray.mk #[]),.i 0,.i 0,.i 0,.s (ByteArray.mk #[]),.z])),(8,some (.box [.i a0.Kind,.s a0.Name,.i a0.Index,.i a0.Value.Kind,.i a0.Value.Int,.s a0.Value.Text,.ref 47 0 l24.length])),(10,some (.box (k76 x42))),(47,R76 l24)] (.nil ?_)
     replace h := bsome h;obtain ⟨r44,hr44,h⟩ := h
     replace h := bsome h;obtain ⟨l45,hl45,h⟩ := h
     obtain ⟨hl45a,hl45⟩ := appL_some hl45
     subst hl45
     try simp only [List.length_cons,List.length_nil,Nat.zero_add] at hl45a
     refine .lastAnyS [[],[0],[],[],[],[2,3,4],[2,3,4,5],[0,1,2,3,4,5,6],[0,1,2,3,4,5,6,7],[0,1,2,3,4,5,6,7,8]] (fun (b : Nat → Bool) => mk 51 [] [(1,.ss a1),(2,.s76 a2),(6,.ptr 6 0 0),(8,.ptr 8 0 0),(10,.ptr 10 0 0),(34,.s76 a0.Args),(35,.i (a0.Args.length : Int)),(36,.i v25),(40,(if b 0 then .ptr 8 0 6 else .junk)),(41,(if b 7 then .junk else (if b 1 then .ref 47 0 l24.length else .junk))),(42,(if b 2 then .agg (k76 x42) else .junk)),(43,(if b 3 then .ss a1 else .junk)),(44,(if b 4 then .s76 a2 else .junk)),(45,(if b 5 then .agg (k76 r44) else .junk)),(46,(if b 6 then .d (.sl ([r44].map cS76)) else .junk)),(47,(if b 7 then .ref 47 0 ((l24 ++ [r44]).length) else .junk)),(48,(if b 8 then .ptr 8 0 6 else .junk))] [(6,some (.box [.i 0,.s (ByteArray.mk #[]),.i 0,.i 0,.i 0,.s (ByteArray.mk #[]),.z])),(8,(if b 9 then some (.box [.i a0.Kind,.s a0.Name,.i a0.Index,.i a0.Value.Kind,.i a0.Value.Int,.s a0.Value.Text,.ref 47 0 ((l24 ++ [r44]).length)]) else (if b 7 then some (.box [.i a0.Kind,.s a0.Name,.i a0.Index,.i a0.Value.Kind,.i a0.Value.Int,.s a0.Value.Text,.hole]) else some (.box [.i a0.Kind,.s a0.Name,.i a0.Index,.i a0.Value.Kind,.i a0.Value.Int,.s a0.Value.Text,.ref 47 0 l24.length])))),(10,some (.box (k76 x42))),(47,(if b 7 then R76 (l24 ++ [r44]) else R76 l24))]) (mk 51 [] (L119 a1 a2 a0.Args a0.Args.length v25) [(6,some (.box [.i 0,.s (ByteArray.mk #[]),.i 0,.i 0,.i 0,.s (ByteArray.mk #[]),.z])),(8,some (.box [.i a0.Kind,.s a0.Name,.i a0.Index,.i a0.Value.Kind,.i a0.Value.Int,.s a0.Value.Text,.ref 47 0 ((l24 ++ [r44]).length)])),(47,R76 (l24 ++ [r44]))]) (by kernel_rfl) (by kernel_rfl) Sub.tt (Steps.cons ?_ (Steps.cons ?_ (Steps.cons ?_ (Steps.cons ?_ (Steps.cons ?_ (Steps.cons ?_ (Steps.cons ?_ (Steps.cons ?_ (Steps.cons ?_ (Steps.cons ?_ (Steps.nil))))))))))) ?_ ?_
     iterate 5
      ·intro b h0 ha hd
       have T := fct h0 ha hd;simp at T
       refine .runK [46] 1 fun K k => ?_;simp [T];refine k _ _ ?_;clear k K
       exact .nil .tT
     ·intro b h0 ha hd
      have T := fct h0 ha hd;simp at T
      simp only [T,if_true,if_false,Bool.false_eq_true]
      refine .callC (d := 45) (ih170 x42 a1 a2 r44 hr44) (by simp) rfl rfl (by simp <;> rfl) (by simp <;> rfl) ent170 (by simp) (.inl ⟨by simp,by simp⟩) ?_
      exact .nil (by simp [T];exact Sub.tT)
     ·intro b h0 ha hd
      have T := fct h0 ha hd;simp at T
      refine .runK [46] 1 fun K k => ?_;simp [T];refine k _ _ ?_;clear k K
      exact .nil .tT
     iterate 3
      ·intro b h0 ha hd
       have T := fct h0 ha hd;simp at T
       refine .runK [46] 1 fun K k => ?_;simp [T,hl45a];refine k _ _ ?_;clear k K
       exact .nil .tT
     ·intro b hb
      have T := FA_of (n := 10) hb;simp at T
      exact Sub.tT
     ·skip
      refine blockQ.normal (thenQ_normal (.region ?_))
      replace h := csome h;obtain ⟨v46,hv46,h⟩ := h
      refine .rk 2 fun K k => ?_;simp [hv46];refine k ?_
      refine .tt (L119 a1 a2 a0.Args a0.Args.length v46) [(6,some (.box [.i 0,.s (ByteArray.mk #[]),.i 0,.i 0,.i 0,.s (ByteArray.mk #[]),.z])),(8,some (.box [.i a0.Kind,.s a0.Name,.i a0.Index,.i a0.Value.Kind,.i a0.Value.Int,.s a0.Value.Text,.ref 47 0 ((l24 ++ [r44]).length)])),(47,R76 (l24 ++ [r44]))] (.nil ?_)
      cases h
      refine PostI.next ?_
      exact Sub.tt
    ·have c41_ := decide_eq_false c41
     refine .condF rfl c41_ ?_
     refine .exit ?_
     cases h
     refine thenQ_ps ?_
     refine PostI.os ?_
     rintro rfl
     refine blockQ.hit (PostN.next ?_)
     exact Sub.tt
   ·rintro l40 h
    refine thenQ_normal (.seqR ?_)
    refine .rr 2 ?_
    refine .tt [(6,.ptr 6 0 0)] [(6,some (.box [.i a0.Kind,.s a0.Name,.i a0.Index,.i a0.Value.Kind,.i a0.Value.Int,.s a0.Value.Text,.ref 47 0 l40.length])),(47,R76 l40)] (.nil ?_)
    refine .sub (.freeze 47 rfl) ?_
    refine .st (mk 51 [] [(6,.ptr 6 0 0)] [(6,some (.box [.i a0.Kind,.s a0.Name,.i a0.Index,.i a0.Value.Kind,.i a0.Value.Int,.s a0.Value.Text,.s76 l40]))]) (.ret ?_)
    cases h
    exact FinC.rs
theorem p149 (N : Nat) : ∀ (a0 : S76) (r : S76) (_ : d149 N a0 = some r),FunC Tryz.prog 149 [.agg (k76 a0)] (.agg (k76 r)) := (pg149_170 N).1
theorem p170 (N : Nat) : ∀ (a0 : S76) (a1 : (List ByteArray)) (a2 : (List S76)) (r : S76) (_ : d170 N a0 a1 a2 = some r),FunC Tryz.prog 170 [.agg (k76 a0),.ss a1,.s76 a2] (.agg (k76 r)) := (pg149_170 N).2
def d117 : (N : Nat) → (a0 : S76) → Option (List S76)
 | 0,_ => none
 | N + 1,a0 =>
  Option.bind (α := Bool) (
   if (a0.Kind == 5) then (
    if decide (a0.Name = (ByteArray.mk #[97,110,100])) = true then (
     some ((a0.Args.length : Int) == 2)
    ) else
    some false
   ) else
   some false
  ) fun (v3 : Bool) =>
  if v3 = true then (
   (idx a0.Args 0).bind fun x7 =>
   (d117 N x7).bind fun r8 =>
   (idx a0.Args 1).bind fun x9 =>
   (d117 N x9).bind fun r10 =>
   (appL 88 r8 r10).bind fun _l11 =>
   some (r8 ++ r10)
  ) else
  (d149 N a0).bind fun r12 =>
  some ([r12] : List S76)
theorem p117 (N : Nat) : ∀ (a0 : S76) (r : (List S76)) (_ : d117 N a0 = some r),FunO Tryz.prog 117 [.agg [.d (.lit (.int .i64 a0.Kind)),.s a0.Name,.d (.lit (.int .i64 a0.Index)),.d (.lit (.int .i64 a0.Value.Kind)),.d (.lit (.int .i64 a0.Value.Int)),.s a0.Value.Text,.s76 a0.Args]] (.ref 0 0 r.length) (.arr 76 7 (r.map cS76)) := by
 induction N with
 | zero => intro a0 r h;cases h
 | succ N ih =>
 intro a0 r h
 unfold d117 at h
 refine FunO.enter 31 [(0,.agg (k76 a0))] Tryz.func117 rfl (of_decide_eq_true rfl) rfl rfl ?_
 refine .seqR ?_
 refine .rr 2 ?_
 refine .tt [(1,.ptr 1 0 0)] (H18 a0) (.nil (.seq ?_))
 replace h := bsome h;obtain ⟨v3,hj,h⟩ := h
 refine .cutR (mk 31 [] [(1,.ptr 1 0 0),(16,.b v3)] (H18 a0)) ?_ ?_
 ·clear h;have h := hj;clear hj
  refine .rr 4 ?_
  replace h := isome h;rcases h with ⟨c4,h⟩ | ⟨c4,h⟩
  ·refine .sub (.bool 6 rfl c4) ?_
   refine .rr 5 ?_
   replace h := isome h;rcases h with ⟨c5,h⟩ | ⟨c5,h⟩
   ·refine .sub (.bool 11 rfl c5) ?_
    refine .rr 5 ?_
    cases h
    exact .nil .tt
   ·refine .sub (.bool 11 rfl (Bool.eq_false_iff.2 c5)) ?_
    refine .rr 5 ?_
    cases h
    exact .nil .tt
  ·refine .sub (.bool 6 rfl (Bool.eq_false_iff.2 c4)) ?_
   refine .rr 10 ?_
   cases h
   exact .nil .tt
 ·clear hj
  replace h := isome h;rcases h with ⟨c6,h⟩ | ⟨c6,h⟩
  ·refine .condT rfl c6 ?_
   replace h := bsome h;obtain ⟨x7,hx7,h⟩ := h
   obtain ⟨hx7,hx7b,hx7c⟩ := idx_someN (n := 0) hx7
   replace h := bsome h;obtain ⟨r8,hr8,h⟩ := h
   replace h := bsome h;obtain ⟨x9,hx9,h⟩ := h
   obtain ⟨hx9,hx9b,hx9c⟩ := idx_someN (n := 1) hx9
   replace h := bsome h;obtain ⟨r10,hr10,h⟩ := h
   replace h := bsome h;obtain ⟨l11,hl11,h⟩ := h
   obtain ⟨hl11a,hl11⟩ := appL_some hl11
   subst hl11
   try simp only [List.length_append,List.length_cons,List.length_nil,Nat.zero_add,Nat.mul_one] at hl11a
   refine .seqAnyS [[],[0],[0,1],[0,1,2],[0,1,2,3],[],[5],[5,6],[5,6,7],[0,1,2,3,4,5,6,7,8],[0,1,2,3,4,5,6,7,8,9],[0,1,2,3,4,5,6,7,8,9,10]] (fun (b : Nat → Bool) => mk 31 [] [(1,.ptr 1 0 0),(2,(if b 11 then .ref 21 0 ((r8 ++ r10).length) else .junk)),(17,(if b 0 then .ptr 1 0 6 else .junk)),(18,(if b 1 then .s76 a0.Args else .junk)),(19,(if b 2 then .d (.pim [.lit (.int .i64 x7.Kind),.lit (.string x7.Name),.lit (.int .i64 x7.Index),.lit (.int .i64 x7.Value.Kind),.lit (.int .i64 x7.Value.Int),.lit (.string x7.Value.Text),.sl (x7.Args.map cS76)]) else .junk)),(20,(if b 3 then .agg (k76 x7) else .junk)),(21,(if b 10 then .junk else (if b 4 then .ref 21 0 r8.length else .junk))),(22,(if b 5 then .ptr 1 0 6 else .junk)),(23,(if b 6 then .s76 a0.Args else .junk)),(24,(if b 7 then .d (.pim [.lit (.int .i64 x9.Kind),.lit (.string x9.Name),.lit (.int .i64 x9.Index),.lit (.int .i64 x9.Value.Kind),.lit (.int .i64 x9.Value.Int),.lit (.string x9.Value.Text),.sl (x9.Args.map cS76)]) else .junk)),(25,(if b 8 then .agg (k76 x9) else .junk)),(26,(if b 9 then .ref 26 0 r10.length else .junk)),(27,(if b 10 then .ref 21 0 ((r8 ++ r10).length) else .junk))] [(1,some (.box (k76 a0))),(21,(if b 10 then R76 (r8 ++ r10) else (if b 4 then R76 r8 else none))),(26,(if b 9 then R76 r10 else none))]) (mk 31 [] [(2,.ref 21 0 ((r8 ++ r10).length))] [(21,R76 (r8 ++ r10))]) (by kernel_rfl) (by kernel_rfl) Sub.tt (Steps.cons ?_ (Steps.cons ?_ (Steps.cons ?_ (Steps.cons ?_ (Steps.cons ?_ (Steps.cons ?_ (Steps.cons ?_ (Steps.cons ?_ (Steps.cons ?_ (Steps.cons ?_ (Steps.cons ?_ (Steps.cons ?_ (Steps.nil))))))))))))) ?_ ?_
   iterate 4
    ·intro b h0 ha hd
     have T := fct h0 ha hd;simp at T
     refine .rk 1 fun K k => ?_;simp [T,hx7];refine k ?_
     exact .nil .tT
   ·intro b h0 ha hd
    have T := fct h0 ha hd;simp at T
    simp only [T,if_true,if_false,Bool.false_eq_true]
    refine .callO (d := 21) (ih x7 r8 hr8) (by simp) rfl rfl (by simp <;> rfl) (by simp <;> rfl) ent117 (by simp) ⟨by simp,by simp⟩ ?_
    exact .nil (by simp [T];exact Sub.tT)
   iterate 4
    ·intro b h0 ha hd
     have T := fct h0 ha hd;simp at T
     refine .rk 1 fun K k => ?_;simp [T,hx9];refine k ?_
     exact .nil .tT
   ·intro b h0 ha hd
    have T := fct h0 ha hd;simp at T
    simp only [T,if_true,if_false,Bool.false_eq_true]
    refine .callO (d := 26) (ih x9 r10 hr10) (by simp) rfl rfl (by simp <;> rfl) (by simp <;> rfl) ent117 (by simp) ⟨by simp,by simp⟩ ?_
    exact .nil (by simp [T];exact Sub.tT)
   iterate 2
    ·intro b h0 ha hd
     have T := fct h0 ha hd;simp at T
     refine .rk 1 fun K k => ?_;simp [T,hl11a];refine k ?_
     exact .nil .tT
   ·intro b hb
    have T := FA_of (n := 12) hb;simp at T
    exact Sub.tT
   ·skip
    refine .ret ?_
    obtain rfl := Option.some.inj h
    refine thenQ_ps ?_
    exact FinO.ret (.ref 21 0 ((r8 ++ r10).length)) 21 (by simp) (by simp) (by simp) (by simp) rfl
  ·refine .condF rfl (Bool.eq_false_iff.2 c6) ?_
   refine .skip (thenQ_normal (.seqR ?_))
   refine .rr 1 ?_
   refine .tt [(28,.agg (k76 a0))] [] ?_
   replace h := bsome h;obtain ⟨r12,hr12,h⟩ := h
   refine .callC (d := 29) (p149 N a0 r12 hr12) (by simp) rfl rfl (by simp <;> rfl) (by simp <;> rfl) ent149 (by simp) (.inl ⟨by simp,by simp⟩) ?_
   refine .rr 2 ?_
   refine .tt [(2,.ref 30 0 (([r12] : List S76).length))] [(30,R76 ([r12] : List S76))] (.nil (.ret ?_))
   obtain rfl := Option.some.inj h
   exact FinO.ret (.ref 30 0 (([r12] : List S76).length)) 30 (by simp) (by simp) (by simp) (by simp) rfl
end Go.Proofs.YtmgddgcniacnbaaGreatDoor
