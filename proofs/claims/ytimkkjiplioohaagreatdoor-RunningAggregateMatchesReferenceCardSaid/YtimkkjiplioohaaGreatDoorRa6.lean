/- Functions of the program as functional programs; the code computes them. -/
import Derived.Test.YtimkkjiplioohaaGreatDoorRa5
namespace Go.Proofs.YtimkkjiplioohaaGreatDoor
open Go.Ab Go.Rp
attribute [-simp] List.all_eq_true Array.all_toList Array.all_eq_true
def d169 : (N : Nat) → (a0 : (List (List S61))) → (a1 : Int) → (a2 : Int) → (a3 : Int) → (p4 : (List S61) → (List S61) → Option Int) → Option (List (List S61))
 | 0,_,_,_,_,_ => none
 | N + 1,a0,a1,a2,a3,p4 =>
  (chkI (a2 - a1)).bind fun v1 =>
  if (v1 == 1) then (
   Option.bind (α := Int) (
    iterN (σ := (Int × Int)) (ρ := Int) (fun ((v15,v16) : (Int × Int)) =>
     if v15 < v16 then (
      (chkI (v15 + v16)).bind fun v45 =>
      letv (IntKind.u64.wrap (v45)) fun v46 =>
      letv (shrI v46 1) fun v47 =>
      (chkI (v47)).bind fun v48 =>
      (idx a0 v48).bind fun x49 =>
      (idx a0 a1).bind fun x51 =>
      (p4 x49 x51).bind fun r53 =>
      if r53 < 0 then (
       (chkI (v48 + 1)).bind fun v55 =>
       some (.inl (v55,v16))
      ) else
      some (.inl (v15,v48))
     ) else
     some (.inr v15)
    ) N (a2,a3)
   ) fun (v43 : Int) =>
   Option.bind (α := List (List S61)) (
    iterN (σ := ((List (List S61)) × Int)) (ρ := List (List S61)) (fun ((l69,v70) : ((List (List S61)) × Int)) =>
     (chkI (v43 - 1)).bind fun v100 =>
     if v70 < v100 then (
      (chkI (v70 + 1)).bind fun v102 =>
      (chkI (v70 + 1)).bind fun v103 =>
      (idx l69 v103).bind fun x104 =>
      (idx l69 v70).bind fun x106 =>
      letv (setI l69 v70 x104) fun l108 =>
      (idx l108 v102).bind fun _x109 =>
      letv (setI l108 v102 x106) fun l111 =>
      (chkI (v70 + 1)).bind fun v112 =>
      some (.inl (l111,v112))
     ) else
     some (.inr l69)
    ) N (a0,a1)
   ) fun (l99 : List (List S61)) =>
   some l99
  ) else
  (chkI (a3 - a2)).bind fun v113 =>
  if (v113 == 1) then (
   Option.bind (α := Int) (
    iterN (σ := (Int × Int)) (ρ := Int) (fun ((v127,v128) : (Int × Int)) =>
     if v127 < v128 then (
      (chkI (v127 + v128)).bind fun v157 =>
      letv (IntKind.u64.wrap (v157)) fun v158 =>
      letv (shrI v158 1) fun v159 =>
      (chkI (v159)).bind fun v160 =>
      (idx a0 a2).bind fun x161 =>
      (idx a0 v160).bind fun x163 =>
      (p4 x161 x163).bind fun r165 =>
      if (!decide (r165 < 0)) = true then (
       (chkI (v160 + 1)).bind fun v167 =>
       some (.inl (v167,v128))
      ) else
      some (.inl (v127,v160))
     ) else
     some (.inr v127)
    ) N (a1,a2)
   ) fun (v155 : Int) =>
   Option.bind (α := List (List S61)) (
    iterN (σ := ((List (List S61)) × Int)) (ρ := List (List S61)) (fun ((l180,v181) : ((List (List S61)) × Int)) =>
     if v181 > v155 then (
      (chkI (v181 - 1)).bind fun v210 =>
      (chkI (v181 - 1)).bind fun v211 =>
      (idx l180 v211).bind fun x212 =>
      (idx l180 v181).bind fun x214 =>
      letv (setI l180 v181 x212) fun l216 =>
      (idx l216 v210).bind fun _x217 =>
      letv (setI l216 v210 x214) fun l219 =>
      (chkI (v181 - 1)).bind fun v220 =>
      some (.inl (l219,v220))
     ) else
     some (.inr l180)
    ) N (a0,a2)
   ) fun (l208 : List (List S61)) =>
   some l208
  ) else
  (chkI (a1 + a3)).bind fun v221 =>
  letv (IntKind.u64.wrap (v221)) fun v222 =>
  letv (shrI v222 1) fun v223 =>
  (chkI (v223)).bind fun v224 =>
  (chkI (v224 + a2)).bind fun v225 =>
  Option.bind (α := (Int × Int)) (
   if a2 > v224 then (
    (chkI (v225 - a3)).bind fun v231 =>
    some (v231,v224)
   ) else
   some (a1,a2)
  ) fun ((v228,v229) : (Int × Int)) =>
  (chkI (v225 - 1)).bind fun v232 =>
  Option.bind (α := Int) (
   iterN (σ := (Int × Int)) (ρ := Int) (fun ((v246,v247) : (Int × Int)) =>
    if v246 < v247 then (
     (chkI (v246 + v247)).bind fun v278 =>
     letv (IntKind.u64.wrap (v278)) fun v279 =>
     letv (shrI v279 1) fun v280 =>
     (chkI (v280)).bind fun v281 =>
     (chkI (v232 - v281)).bind fun v282 =>
     (idx a0 v282).bind fun x283 =>
     (idx a0 v281).bind fun x285 =>
     (p4 x283 x285).bind fun r287 =>
     if (!decide (r287 < 0)) = true then (
      (chkI (v281 + 1)).bind fun v289 =>
      some (.inl (v289,v247))
     ) else
     some (.inl (v246,v281))
    ) else
    some (.inr v246)
   ) N (v228,v229)
  ) fun (v276 : Int) =>
  (chkI (v225 - v276)).bind fun v290 =>
  Option.bind (α := Bool) (
   if v276 < a2 then (
    some (decide (a2 < v290))
   ) else
   some false
  ) fun (v292 : Bool) =>
  Option.bind (α := List (List S61)) (
   if v292 = true then (
    (d204 N a0 v276 a2 v290 p4).bind fun r298 =>
    (lenG r298.length a0.length).bind fun _ =>
    some r298
   ) else
   some a0
  ) fun (l296 : List (List S61)) =>
  Option.bind (α := Bool) (
   if a1 < v276 then (
    some (decide (v276 < v224))
   ) else
   some false
  ) fun (v300 : Bool) =>
  Option.bind (α := List (List S61)) (
   if v300 = true then (
    (d169 N l296 a1 v276 v224 p4).bind fun r306 =>
    (lenG r306.length l296.length).bind fun _ =>
    some r306
   ) else
   some l296
  ) fun (l304 : List (List S61)) =>
  Option.bind (α := Bool) (
   if v224 < v290 then (
    some (decide (v290 < a3))
   ) else
   some false
  ) fun (v308 : Bool) =>
  if v308 = true then (
   (d169 N l304 v224 v290 a3 p4).bind fun r311 =>
   (lenG r311.length l304.length).bind fun _ =>
   some r311
  ) else
  some l304
set_option maxRecDepth 100000 in
set_option maxHeartbeats 4000000 in
theorem p169 (N : Nat) : ∀ (a0 : (List (List S61))) (a1 : Int) (a2 : Int) (a3 : Int) (g4 : Nat) (cs4 : List D) (p4 : (List S61) → (List S61) → Option Int) (_ent_4 : Rp.Enters Tryz.prog g4) (_hp4 : ∀ a0 a1 r,p4 a0 a1 = some r → FunC Tryz.prog g4 ([.s61 a0,.s61 a1] ++ cs4.map .d) (.i r)) (r : (List (List S61))) (_ : d169 N a0 a1 a2 a3 p4 = some r),FunM Tryz.prog 169 [.ref 1000 0 a0.length,.i a1,.i a2,.i a3,.fg g4 cs4] [(1000,R57 a0)] [1000] (.tup []) ([(1000,.arr 57 1 (r.map (cL cS61)))]) := by
 induction N with
 | zero => intro a0 a1 a2 a3 g4 cs4 p4 ent_4 hp4 r h;cases h
 | succ N ih =>
 intro a0 a1 a2 a3 g4 cs4 p4 ent_4 hp4 r h
 unfold d169 at h
 refine FunM.enter 220 [(0,.ref 1000 0 a0.length),(1,.i a1),(2,.i a2),(3,.i a3),(4,.fg g4 cs4)] Tryz.func169 rfl (of_decide_eq_true rfl) rfl rfl ?_
 refine .seq (.seqR ?_)
 replace h := csome h;obtain ⟨v1,hv1,h⟩ := h
 refine .rk 4 fun K k => ?_;simp [hv1];refine k ?_
 refine .tt (L15 a0.length a1 a2 a3 ++ [(4,.fg g4 cs4),(28,.b (v1 == 1))]) [(1000,R57 a0)] (.nil ?_)
 replace h := isome h;rcases h with ⟨c2,h⟩ | ⟨c2,h⟩
 ·have c2_ : (v1 == 1) = true := c2
  refine .condT rfl c2_ ?_
  refine .seqR ?_
  refine .rr 2 ?_
  refine .tt (L17 a0.length a1 a3 ++ [(4,.fg g4 cs4),(10,.i a2)]) [(1000,R57 a0)] (.nil (.seqR ?_))
  refine .rr 2 ?_
  refine .tt [(0,.ref 1000 0 a0.length),(1,.i a1),(4,.fg g4 cs4),(10,.i a2),(11,.i a3)] [(1000,R57 a0)] (.nil ?_)
  refine .seqN (fun (v43 : Int) => mk 220 [1000] [(0,.ref 1000 0 a0.length),(1,.i a1),(10,.i v43)] [(1000,R57 a0)]) h ?_ ?_ <;> clear h
  ·intro o h
   refine .block ?_
   refine .iter (fun ((v15,v16) : (Int × Int)) => mk 220 [1000] [(0,.ref 1000 0 a0.length),(1,.i a1),(4,.fg g4 cs4),(10,.i v15),(11,.i v16)] [(1000,R57 a0)]) h Sub.tt ?_
   clear h
   rintro ⟨v15,v16⟩ x h
   dsimp only at h ⊢
   refine .seq (.seqR ?_)
   refine .rr 3 ?_
   refine .tt [(0,.ref 1000 0 a0.length),(1,.i a1),(4,.fg g4 cs4),(10,.i v15),(11,.i v16),(33,.b (decide (v15 < v16)))] [(1000,R57 a0)] (.nil ?_)
   replace h := isome h;rcases h with ⟨c44,h⟩ | ⟨c44,h⟩
   ·have c44_ : decide (v15 < v16) = true := decide_eq_true c44
    refine .condT rfl c44_ ?_
    refine .skip (thenQ_normal (.block (.seqR ?_)))
    replace h := csome h;obtain ⟨v45,hv45,h⟩ := h
    replace h := lsome h;obtain ⟨v46,hv46,h⟩ := h
    replace h := lsome h;obtain ⟨v47,hv47,h⟩ := h
    replace h := csome h;obtain ⟨v48,hv48,h⟩ := h
    refine .rk 7 fun K k => ?_;simp [hv45,hv46,hv47,IntKind.bits,hv48];refine k ?_
    refine .tt [(0,.ref 1000 0 a0.length),(1,.i a1),(4,.fg g4 cs4),(10,.i v15),(11,.i v16),(12,.i v48)] [(1000,R57 a0)] (.nil ?_)
    refine .seqQ (by kernel_rfl) (by kernel_rfl) ?_
    replace h := xsome h;obtain ⟨x49,k50,hx49k,hx49,hx49a,hx49b,h⟩ := h
    replace h := xsome h;obtain ⟨x51,k52,hx51k,hx51,hx51a,hx51b,h⟩ := h
    refine .rq 9 fun K k => ?_;simp [hx49,hx49k,hx49a,hx49b,hx51,hx51k,hx51a,hx51b];refine k ?_
    refine .tt [(0,.ref 1000 0 a0.length),(1,.i a1),(4,.fg g4 cs4),(10,.i v15),(11,.i v16),(12,.i v48),(40,.fg g4 cs4),(44,.s61 x49),(48,.s61 x51)] [(1000,R57 a0)] ?_
    replace h := bsome h;obtain ⟨r53,hr53,h⟩ := h
    refine .callL (d := 49) (hp4 x49 x51 r53 hr53) (by simp) rfl rfl (by simp <;> rfl) (by simp <;> rfl) ent_4 (by simp <;> rfl) ?_
    refine .st (mk 220 [1000] [(0,.ref 1000 0 a0.length),(1,.i a1),(4,.fg g4 cs4),(10,.i v15),(11,.i v16),(12,.i v48),(40,.fg g4 cs4),(44,.s61 x49),(48,.s61 x51),(49,.i r53)] [(1000,R57 a0)]) ?_
    refine .rq 1 fun K k => ?_;simp;refine k ?_
    refine .tt [(0,.ref 1000 0 a0.length),(1,.i a1),(4,.fg g4 cs4),(10,.i v15),(11,.i v16),(12,.i v48),(50,.b (decide (r53 < 0)))] [(1000,R57 a0)] (.nil ?_)
    replace h := isome h;rcases h with ⟨c54,h⟩ | ⟨c54,h⟩
    ·have c54_ : decide (r53 < 0) = true := decide_eq_true c54
     refine .condT rfl c54_ ?_
     refine .region ?_
     replace h := csome h;obtain ⟨v55,hv55,h⟩ := h
     refine .rk 3 fun K k => ?_;simp [hv55];refine k ?_
     refine .tt [(0,.ref 1000 0 a0.length),(1,.i a1),(4,.fg g4 cs4),(10,.i v55),(11,.i v16)] [(1000,R57 a0)] (.nil ?_)
     cases h
     refine blockQ.normal (PostI.next ?_)
     exact Sub.tt
    ·have c54_ : decide (r53 < 0) = false := decide_eq_false c54
     refine .condF rfl c54_ ?_
     refine .region ?_
     refine .rr 2 ?_
     refine .tt [(0,.ref 1000 0 a0.length),(1,.i a1),(4,.fg g4 cs4),(10,.i v15),(11,.i v48)] [(1000,R57 a0)] (.nil ?_)
     cases h
     refine blockQ.normal (PostI.next ?_)
     exact Sub.tt
   ·have c44_ : decide (v15 < v16) = false := decide_eq_false c44
    refine .condF rfl c44_ ?_
    refine .exit ?_
    cases h
    refine thenQ_ps ?_
    refine PostI.os ?_
    rintro rfl
    refine blockQ.hit (PostN.next ?_)
    exact Sub.tt
  ·rintro v43 h
   refine .seq (.seqR ?_)
   refine .rr 2 ?_
   refine .tt [(0,.ref 1000 0 a0.length),(10,.i v43),(13,.i a1)] [(1000,R57 a0)] (.nil ?_)
   refine .lastN (fun (l99 : List (List S61)) => mk 220 [1000] [] [(1000,R57 l99)]) h ?_ ?_ <;> clear h
   ·intro o h
    refine .block ?_
    refine .iter (fun ((l69,v70) : ((List (List S61)) × Int)) => mk 220 [1000] [(0,.ref 1000 0 l69.length),(10,.i v43),(13,.i v70)] [(1000,R57 l69)]) h Sub.tt ?_
    clear h
    rintro ⟨l69,v70⟩ x h
    dsimp only at h ⊢
    refine .seq (.seqR ?_)
    replace h := csome h;obtain ⟨v100,hv100,h⟩ := h
    refine .rk 4 fun K k => ?_;simp [hv100];refine k ?_
    refine .tt [(0,.ref 1000 0 l69.length),(10,.i v43),(13,.i v70),(58,.b (decide (v70 < v100)))] [(1000,R57 l69)] (.nil ?_)
    replace h := isome h;rcases h with ⟨c101,h⟩ | ⟨c101,h⟩
    ·have c101_ : decide (v70 < v100) = true := decide_eq_true c101
     refine .condT rfl c101_ ?_
     refine .skip (thenQ_normal (.seq (.block ?_)))
     replace h := csome h;obtain ⟨v102,hv102,h⟩ := h
     replace h := csome h;obtain ⟨v103,hv103,h⟩ := h
     replace h := xsome h;obtain ⟨x104,k105,hx104k,hx104,hx104a,hx104b,h⟩ := h
     replace h := xsome h;obtain ⟨x106,k107,hx106k,hx106,hx106a,hx106b,h⟩ := h
     replace h := lsome h;obtain ⟨l108,gl108,h⟩ := h
     obtain ⟨hl108,hl108n⟩ := setI_some (cL cS61) gl108 hx106k
     replace hl108 : (l69.map (cL cS61)).set k107 [.sl (x104.map cS61)] = l108.map (cL cS61) := hl108
     clear gl108
     replace h := xsome h;obtain ⟨x109,k110,hx109k,hx109,hx109a,hx109b,h⟩ := h
     replace h := lsome h;obtain ⟨l111,gl111,h⟩ := h
     obtain ⟨hl111,hl111n⟩ := setI_some (cL cS61) gl111 hx109k
     replace hl111 : (l108.map (cL cS61)).set k110 [.sl (x106.map cS61)] = l111.map (cL cS61) := hl111
     clear gl111
     refine .lastAnyS [[],[],[],[],[3],[],[],[6],[5,6,7],[5,6,7,8],[],[],[10,11],[10,11,12],[0,1,5,6,7,8,9,10,11,12,13],[0,1,5,6,7,8,9,10,11,12,13,14],[0,1,2,3,4,5,6,7,8,9,10,11,12,13,14,15],[0,1,2,3,4,5,6,7,8,9,10,11,12,13,14,15,16]] (fun (b : Nat → Bool) => mk 220 [1000] [(0,(if b 17 then .ref 1000 0 l111.length else (if b 15 then .ref 1000 0 l108.length else .ref 1000 0 l69.length))),(10,.i v43),(13,.i v70),(61,(if b 17 then .ref 1000 0 l111.length else (if b 15 then .ref 1000 0 l108.length else (if b 0 then .ref 1000 0 l69.length else .junk)))),(62,(if b 1 then .i v70 else .junk)),(63,(if b 17 then .ref 1000 0 l111.length else (if b 2 then (if b 15 then .ref 1000 0 l108.length else .ref 1000 0 l69.length) else .junk))),(64,(if b 3 then .i v70 else .junk)),(65,(if b 4 then .i v102 else .junk)),(66,(if b 17 then .ref 1000 0 l111.length else (if b 15 then .ref 1000 0 l108.length else (if b 5 then .ref 1000 0 l69.length else .junk)))),(67,(if b 6 then .i v70 else .junk)),(68,(if b 7 then .i v103 else .junk)),(69,(if b 8 then .ptr 1000 k105 0 else .junk)),(70,(if b 9 then .s61 x104 else .junk)),(71,(if b 17 then .ref 1000 0 l111.length else (if b 15 then .ref 1000 0 l108.length else (if b 10 then .ref 1000 0 l69.length else .junk)))),(72,(if b 11 then .i v70 else .junk)),(73,(if b 12 then .ptr 1000 k107 0 else .junk)),(74,(if b 13 then .s61 x106 else .junk)),(75,(if b 14 then .ptr 1000 k107 0 else .junk)),(76,(if b 16 then .ptr 1000 k110 0 else .junk))] [(1000,(if b 17 then R57 l111 else (if b 15 then R57 l108 else R57 l69)))]) (mk 220 [1000] [(0,.ref 1000 0 l111.length),(10,.i v43),(13,.i v70)] [(1000,R57 l111)]) (by kernel_rfl) (by kernel_rfl) Sub.tt (Steps.cons ?_ (Steps.cons ?_ (Steps.cons ?_ (Steps.cons ?_ (Steps.cons ?_ (Steps.cons ?_ (Steps.cons ?_ (Steps.cons ?_ (Steps.cons ?_ (Steps.cons ?_ (Steps.cons ?_ (Steps.cons ?_ (Steps.cons ?_ (Steps.cons ?_ (Steps.cons ?_ (Steps.cons ?_ (Steps.cons ?_ (Steps.cons ?_ (Steps.nil))))))))))))))))))) ?_ ?_
     iterate 4
      ·intro b h0 ha hd
       have T := fct h0 ha hd;simp at T
       refine .rk 1 fun K k => ?_;simp [T];refine k ?_
       exact .nil .tT
     ·intro b h0 ha hd
      have T := fct h0 ha hd;simp at T
      refine .rk 1 fun K k => ?_;simp [T,hv102];refine k ?_
      exact .nil .tT
     iterate 2
      ·intro b h0 ha hd
       have T := fct h0 ha hd;simp at T
       refine .rk 1 fun K k => ?_;simp [T];refine k ?_
       exact .nil .tT
     ·intro b h0 ha hd
      have T := fct h0 ha hd;simp at T
      refine .rk 1 fun K k => ?_;simp [T,hv103];refine k ?_
      exact .nil .tT
     ·intro b h0 ha hd
      have T := fct h0 ha hd;simp at T
      refine .rk 1 fun K k => ?_;simp [T,hx104k,hx104a,hx104b];refine k ?_
      exact .nil .tT
     ·intro b h0 ha hd
      have T := fct h0 ha hd;simp at T
      refine .rk 1 fun K k => ?_;simp [T,hx104];refine k ?_
      exact .nil .tT
     iterate 3
      ·intro b h0 ha hd
       have T := fct h0 ha hd;simp at T
       refine .rk 1 fun K k => ?_;simp [T,hx106k,hx106a,hx106b];refine k ?_
       exact .nil .tT
     ·intro b h0 ha hd
      have T := fct h0 ha hd;simp at T
      refine .rk 1 fun K k => ?_;simp [T,hx106];refine k ?_
      exact .nil .tT
     iterate 4
      ·intro b h0 ha hd
       have T := fct h0 ha hd;simp at T
       refine .rk 1 fun K k => ?_;simp [T,hx106,hx106k,hx106a,hx106b,hl108,hx109,hx109k,hx109a,hx109b,hl111];refine k ?_
       exact .nil (.table (by simp [T,hl108n,hl111n]) (by simp [T]))
     ·intro b hb
      have T := FA_of (n := 18) hb;simp at T
      exact Sub.tT
     ·skip
      refine blockQ.normal (thenQ_normal (.region ?_))
      replace h := csome h;obtain ⟨v112,hv112,h⟩ := h
      refine .rk 3 fun K k => ?_;simp [hv112];refine k ?_
      refine .tt [(0,.ref 1000 0 l111.length),(10,.i v43),(13,.i v112)] [(1000,R57 l111)] (.nil ?_)
      cases h
      refine PostI.next ?_
      exact Sub.tt
    ·have c101_ : decide (v70 < v100) = false := decide_eq_false c101
     refine .condF rfl c101_ ?_
     refine .exit ?_
     cases h
     refine thenQ_ps ?_
     refine PostI.os ?_
     rintro rfl
     refine blockQ.hit (PostN.next ?_)
     exact Sub.tt
   ·rintro l99 h
    refine thenQ_normal (.ret ?_)
    cases h
    refine thenQ_ps ?_
    exact FinF.ret (by simp) (by simp)
 ·have c2_ : (v1 == 1) = false := Bool.eq_false_iff.2 c2
  refine .condF rfl c2_ ?_
  refine .skip (thenQ_normal (.seq (.seqR ?_)))
  replace h := csome h;obtain ⟨v113,hv113,h⟩ := h
  refine .rk 4 fun K k => ?_;simp [hv113];refine k ?_
  refine .tt (L15 a0.length a1 a2 a3 ++ [(4,.fg g4 cs4),(80,.b (v113 == 1))]) [(1000,R57 a0)] (.nil ?_)
  replace h := isome h;rcases h with ⟨c114,h⟩ | ⟨c114,h⟩
  ·have c114_ : (v113 == 1) = true := c114
   refine .condT rfl c114_ ?_
   refine .seqR ?_
   refine .rr 2 ?_
   refine .tt [(0,.ref 1000 0 a0.length),(2,.i a2),(4,.fg g4 cs4),(14,.i a1)] [(1000,R57 a0)] (.nil (.seqR ?_))
   refine .rr 2 ?_
   refine .tt [(0,.ref 1000 0 a0.length),(2,.i a2),(4,.fg g4 cs4),(14,.i a1),(15,.i a2)] [(1000,R57 a0)] (.nil ?_)
   refine .seqN (fun (v155 : Int) => mk 220 [1000] [(0,.ref 1000 0 a0.length),(2,.i a2),(14,.i v155)] [(1000,R57 a0)]) h ?_ ?_ <;> clear h
   ·intro o h
    refine .block ?_
    refine .iter (fun ((v127,v128) : (Int × Int)) => mk 220 [1000] [(0,.ref 1000 0 a0.length),(2,.i a2),(4,.fg g4 cs4),(14,.i v127),(15,.i v128)] [(1000,R57 a0)]) h Sub.tt ?_
    clear h
    rintro ⟨v127,v128⟩ x h
    dsimp only at h ⊢
    refine .seq (.seqR ?_)
    refine .rr 3 ?_
    refine .tt [(0,.ref 1000 0 a0.length),(2,.i a2),(4,.fg g4 cs4),(14,.i v127),(15,.i v128),(85,.b (decide (v127 < v128)))] [(1000,R57 a0)] (.nil ?_)
    replace h := isome h;rcases h with ⟨c156,h⟩ | ⟨c156,h⟩
    ·have c156_ : decide (v127 < v128) = true := decide_eq_true c156
     refine .condT rfl c156_ ?_
     refine .skip (thenQ_normal (.block (.seqR ?_)))
     replace h := csome h;obtain ⟨v157,hv157,h⟩ := h
     replace h := lsome h;obtain ⟨v158,hv158,h⟩ := h
     replace h := lsome h;obtain ⟨v159,hv159,h⟩ := h
     replace h := csome h;obtain ⟨v160,hv160,h⟩ := h
     refine .rk 7 fun K k => ?_;simp [hv157,hv158,hv159,IntKind.bits,hv160];refine k ?_
     refine .tt [(0,.ref 1000 0 a0.length),(2,.i a2),(4,.fg g4 cs4),(14,.i v127),(15,.i v128),(16,.i v160)] [(1000,R57 a0)] (.nil ?_)
     refine .seqQ (by kernel_rfl) (by kernel_rfl) ?_
     replace h := xsome h;obtain ⟨x161,k162,hx161k,hx161,hx161a,hx161b,h⟩ := h
     replace h := xsome h;obtain ⟨x163,k164,hx163k,hx163,hx163a,hx163b,h⟩ := h
     refine .rq 9 fun K k => ?_;simp [hx161,hx161k,hx161a,hx161b,hx163,hx163k,hx163a,hx163b];refine k ?_
     refine .tt [(0,.ref 1000 0 a0.length),(2,.i a2),(4,.fg g4 cs4),(14,.i v127),(15,.i v128),(16,.i v160),(92,.fg g4 cs4),(96,.s61 x161),(100,.s61 x163)] [(1000,R57 a0)] ?_
     replace h := bsome h;obtain ⟨r165,hr165,h⟩ := h
     refine .callL (d := 101) (hp4 x161 x163 r165 hr165) (by simp) rfl rfl (by simp <;> rfl) (by simp <;> rfl) ent_4 (by simp <;> rfl) ?_
     refine .st (mk 220 [1000] [(0,.ref 1000 0 a0.length),(2,.i a2),(4,.fg g4 cs4),(14,.i v127),(15,.i v128),(16,.i v160),(92,.fg g4 cs4),(96,.s61 x161),(100,.s61 x163),(101,.i r165)] [(1000,R57 a0)]) ?_
     refine .rq 2 fun K k => ?_;simp;refine k ?_
     refine .tt [(0,.ref 1000 0 a0.length),(2,.i a2),(4,.fg g4 cs4),(14,.i v127),(15,.i v128),(16,.i v160),(103,.b (!decide (r165 < 0)))] [(1000,R57 a0)] (.nil ?_)
     replace h := isome h;rcases h with ⟨c166,h⟩ | ⟨c166,h⟩
     ·have c166_ : (!decide (r165 < 0)) = true := c166
      refine .condT rfl c166_ ?_
      refine .region ?_
      replace h := csome h;obtain ⟨v167,hv167,h⟩ := h
      refine .rk 3 fun K k => ?_;simp [hv167];refine k ?_
      refine .tt [(0,.ref 1000 0 a0.length),(2,.i a2),(4,.fg g4 cs4),(14,.i v167),(15,.i v128)] [(1000,R57 a0)] (.nil ?_)
      cases h
      refine blockQ.normal (PostI.next ?_)
      exact Sub.tt
     ·have c166_ : (!decide (r165 < 0)) = false := Bool.eq_false_iff.2 c166
      refine .condF rfl c166_ ?_
      refine .region ?_
      refine .rr 2 ?_
      refine .tt [(0,.ref 1000 0 a0.length),(2,.i a2),(4,.fg g4 cs4),(14,.i v127),(15,.i v160)] [(1000,R57 a0)] (.nil ?_)
      cases h
      refine blockQ.normal (PostI.next ?_)
      exact Sub.tt
    ·have c156_ : decide (v127 < v128) = false := decide_eq_false c156
     refine .condF rfl c156_ ?_
     refine .exit ?_
     cases h
     refine thenQ_ps ?_
     refine PostI.os ?_
     rintro rfl
     refine blockQ.hit (PostN.next ?_)
     exact Sub.tt
   ·rintro v155 h
    refine .seq (.seqR ?_)
    refine .rr 2 ?_
    refine .tt [(0,.ref 1000 0 a0.length),(14,.i v155),(17,.i a2)] [(1000,R57 a0)] (.nil ?_)
    refine .lastN (fun (l208 : List (List S61)) => mk 220 [1000] [] [(1000,R57 l208)]) h ?_ ?_ <;> clear h
    ·intro o h
     refine .block ?_
     refine .iter (fun ((l180,v181) : ((List (List S61)) × Int)) => mk 220 [1000] [(0,.ref 1000 0 l180.length),(14,.i v155),(17,.i v181)] [(1000,R57 l180)]) h Sub.tt ?_
     clear h
     rintro ⟨l180,v181⟩ x h
     dsimp only at h ⊢
     refine .seq (.seqR ?_)
     refine .rr 3 ?_
     refine .tt [(0,.ref 1000 0 l180.length),(14,.i v155),(17,.i v181),(110,.b (decide (v181 > v155)))] [(1000,R57 l180)] (.nil ?_)
     replace h := isome h;rcases h with ⟨c209,h⟩ | ⟨c209,h⟩
     ·have c209_ : decide (v181 > v155) = true := decide_eq_true c209
      refine .condT rfl c209_ ?_
      refine .skip (thenQ_normal (.seq (.block ?_)))
      replace h := csome h;obtain ⟨v210,hv210,h⟩ := h
      replace h := csome h;obtain ⟨v211,hv211,h⟩ := h
      replace h := xsome h;obtain ⟨x212,k213,hx212k,hx212,hx212a,hx212b,h⟩ := h
      replace h := xsome h;obtain ⟨x214,k215,hx214k,hx214,hx214a,hx214b,h⟩ := h
      replace h := lsome h;obtain ⟨l216,gl216,h⟩ := h
      obtain ⟨hl216,hl216n⟩ := setI_some (cL cS61) gl216 hx214k
      replace hl216 : (l180.map (cL cS61)).set k215 [.sl (x212.map cS61)] = l216.map (cL cS61) := hl216
      clear gl216
      replace h := xsome h;obtain ⟨x217,k218,hx217k,hx217,hx217a,hx217b,h⟩ := h
      replace h := lsome h;obtain ⟨l219,gl219,h⟩ := h
      obtain ⟨hl219,hl219n⟩ := setI_some (cL cS61) gl219 hx217k
      replace hl219 : (l216.map (cL cS61)).set k218 [.sl (x214.map cS61)] = l219.map (cL cS61) := hl219
      clear gl219
      refine .lastAnyS [[],[],[],[],[3],[],[],[6],[5,6,7],[5,6,7,8],[],[],[10,11],[10,11,12],[0,1,5,6,7,8,9,10,11,12,13],[0,1,5,6,7,8,9,10,11,12,13,14],[0,1,2,3,4,5,6,7,8,9,10,11,12,13,14,15],[0,1,2,3,4,5,6,7,8,9,10,11,12,13,14,15,16]] (fun (b : Nat → Bool) => mk 220 [1000] [(0,(if b 17 then .ref 1000 0 l219.length else (if b 15 then .ref 1000 0 l216.length else .ref 1000 0 l180.length))),(14,.i v155),(17,.i v181),(113,(if b 17 then .ref 1000 0 l219.length else (if b 15 then .ref 1000 0 l216.length else (if b 0 then .ref 1000 0 l180.length else .junk)))),(114,(if b 1 then .i v181 else .junk)),(115,(if b 17 then .ref 1000 0 l219.length else (if b 2 then (if b 15 then .ref 1000 0 l216.length else .ref 1000 0 l180.length) else .junk))),(116,(if b 3 then .i v181 else .junk)),(117,(if b 4 then .i v210 else .junk)),(118,(if b 17 then .ref 1000 0 l219.length else (if b 15 then .ref 1000 0 l216.length else (if b 5 then .ref 1000 0 l180.length else .junk)))),(119,(if b 6 then .i v181 else .junk)),(120,(if b 7 then .i v211 else .junk)),(121,(if b 8 then .ptr 1000 k213 0 else .junk)),(122,(if b 9 then .s61 x212 else .junk)),(123,(if b 17 then .ref 1000 0 l219.length else (if b 15 then .ref 1000 0 l216.length else (if b 10 then .ref 1000 0 l180.length else .junk)))),(124,(if b 11 then .i v181 else .junk)),(125,(if b 12 then .ptr 1000 k215 0 else .junk)),(126,(if b 13 then .s61 x214 else .junk)),(127,(if b 14 then .ptr 1000 k215 0 else .junk)),(128,(if b 16 then .ptr 1000 k218 0 else .junk))] [(1000,(if b 17 then R57 l219 else (if b 15 then R57 l216 else R57 l180)))]) (mk 220 [1000] [(0,.ref 1000 0 l219.length),(14,.i v155),(17,.i v181)] [(1000,R57 l219)]) (by kernel_rfl) (by kernel_rfl) Sub.tt (Steps.cons ?_ (Steps.cons ?_ (Steps.cons ?_ (Steps.cons ?_ (Steps.cons ?_ (Steps.cons ?_ (Steps.cons ?_ (Steps.cons ?_ (Steps.cons ?_ (Steps.cons ?_ (Steps.cons ?_ (Steps.cons ?_ (Steps.cons ?_ (Steps.cons ?_ (Steps.cons ?_ (Steps.cons ?_ (Steps.cons ?_ (Steps.cons ?_ (Steps.nil))))))))))))))))))) ?_ ?_
      iterate 4
       ·intro b h0 ha hd
        have T := fct h0 ha hd;simp at T
        refine .rk 1 fun K k => ?_;simp [T];refine k ?_
        exact .nil .tT
      ·intro b h0 ha hd
       have T := fct h0 ha hd;simp at T
       refine .rk 1 fun K k => ?_;simp [T,hv210];refine k ?_
       exact .nil .tT
      iterate 2
       ·intro b h0 ha hd
        have T := fct h0 ha hd;simp at T
        refine .rk 1 fun K k => ?_;simp [T];refine k ?_
        exact .nil .tT
      ·intro b h0 ha hd
       have T := fct h0 ha hd;simp at T
       refine .rk 1 fun K k => ?_;simp [T,hv211];refine k ?_
       exact .nil .tT
      ·intro b h0 ha hd
       have T := fct h0 ha hd;simp at T
       refine .rk 1 fun K k => ?_;simp [T,hx212k,hx212a,hx212b];refine k ?_
       exact .nil .tT
      ·intro b h0 ha hd
       have T := fct h0 ha hd;simp at T
       refine .rk 1 fun K k => ?_;simp [T,hx212];refine k ?_
       exact .nil .tT
      iterate 3
       ·intro b h0 ha hd
        have T := fct h0 ha hd;simp at T
        refine .rk 1 fun K k => ?_;simp [T,hx214k,hx214a,hx214b];refine k ?_
        exact .nil .tT
      ·intro b h0 ha hd
       have T := fct h0 ha hd;simp at T
       refine .rk 1 fun K k => ?_;simp [T,hx214];refine k ?_
       exact .nil .tT
      iterate 4
       ·intro b h0 ha hd
        have T := fct h0 ha hd;simp at T
        refine .rk 1 fun K k => ?_;simp [T,hx214,hx214k,hx214a,hx214b,hl216,hx217,hx217k,hx217a,hx217b,hl219];refine k ?_
        exact .nil (.table (by simp [T,hl216n,hl219n]) (by simp [T]))
      ·intro b hb
       have T := FA_of (n := 18) hb;simp at T
       exact Sub.tT
      ·skip
       refine blockQ.normal (thenQ_normal (.region ?_))
       replace h := csome h;obtain ⟨v220,hv220,h⟩ := h
       refine .rk 3 fun K k => ?_;simp [hv220];refine k ?_
       refine .tt [(0,.ref 1000 0 l219.length),(14,.i v155),(17,.i v220)] [(1000,R57 l219)] (.nil ?_)
       cases h
       refine PostI.next ?_
       exact Sub.tt
     ·have c209_ : decide (v181 > v155) = false := decide_eq_false c209
      refine .condF rfl c209_ ?_
      refine .exit ?_
      cases h
      refine thenQ_ps ?_
      refine PostI.os ?_
      rintro rfl
      refine blockQ.hit (PostN.next ?_)
      exact Sub.tt
    ·rintro l208 h
     refine thenQ_normal (.ret ?_)
     cases h
     refine thenQ_ps ?_
     exact FinF.ret (by simp) (by simp)
  ·have c114_ : (v113 == 1) = false := Bool.eq_false_iff.2 c114
   refine .condF rfl c114_ ?_
   refine .skip (thenQ_normal (.seqR ?_))
   replace h := csome h;obtain ⟨v221,hv221,h⟩ := h
   replace h := lsome h;obtain ⟨v222,hv222,h⟩ := h
   replace h := lsome h;obtain ⟨v223,hv223,h⟩ := h
   replace h := csome h;obtain ⟨v224,hv224,h⟩ := h
   refine .rk 7 fun K k => ?_;simp [hv221,hv222,hv223,IntKind.bits,hv224];refine k ?_
   refine .tt (L15 a0.length a1 a2 a3 ++ [(4,.fg g4 cs4),(18,.i v224)]) [(1000,R57 a0)] (.nil (.seqR ?_))
   replace h := csome h;obtain ⟨v225,hv225,h⟩ := h
   refine .rk 4 fun K k => ?_;simp [hv225];refine k ?_
   refine .tt (L15 a0.length a1 a2 a3 ++ [(4,.fg g4 cs4),(18,.i v224),(19,.i v225)]) [(1000,R57 a0)] (.nil (.seqR ?_))
   refine .rr 2 ?_
   refine .tt (L15 a0.length a1 a2 a3 ++ [(4,.fg g4 cs4),(18,.i v224),(19,.i v225)]) [(1000,R57 a0)] (.nil (.seq (.seqR ?_)))
   refine .rr 3 ?_
   refine .tt (L15 a0.length a1 a2 a3 ++ [(4,.fg g4 cs4),(18,.i v224),(19,.i v225),(140,.b (decide (a2 > v224)))]) [(1000,R57 a0)] (.nil ?_)
   refine .lastN (fun ((v228,v229) : (Int × Int)) => mk 220 [1000] (L15 a0.length a1 a2 a3 ++ [(4,.fg g4 cs4),(18,.i v224),(19,.i v225),(20,.i v228),(21,.i v229)]) [(1000,R57 a0)]) h ?_ ?_ <;> clear h
   ·intro o h
    replace h := isome h;rcases h with ⟨c230,h⟩ | ⟨c230,h⟩
    ·have c230_ : decide (a2 > v224) = true := decide_eq_true c230
     refine .condT rfl c230_ ?_
     refine .seqR ?_
     replace h := csome h;obtain ⟨v231,hv231,h⟩ := h
     refine .rk 4 fun K k => ?_;simp [hv231];refine k ?_
     refine .tt (L15 a0.length a1 a2 a3 ++ [(4,.fg g4 cs4),(18,.i v224),(19,.i v225),(20,.i v231)]) [(1000,R57 a0)] (.nil (.region ?_))
     refine .rr 2 ?_
     refine .tt (L15 a0.length a1 a2 a3 ++ [(4,.fg g4 cs4),(18,.i v224),(19,.i v225),(20,.i v231),(21,.i v224)]) [(1000,R57 a0)] (.nil ?_)
     cases h
     refine PostN.next ?_
     exact Sub.tt
    ·have c230_ : decide (a2 > v224) = false := decide_eq_false c230
     refine .condF rfl c230_ ?_
     refine .seqR ?_
     refine .rr 2 ?_
     refine .tt (L15 a0.length a1 a2 a3 ++ [(4,.fg g4 cs4),(18,.i v224),(19,.i v225),(20,.i a1)]) [(1000,R57 a0)] (.nil (.region ?_))
     refine .rr 2 ?_
     refine .tt (L15 a0.length a1 a2 a3 ++ [(4,.fg g4 cs4),(18,.i v224),(19,.i v225),(20,.i a1),(21,.i a2)]) [(1000,R57 a0)] (.nil ?_)
     cases h
     refine PostN.next ?_
     exact Sub.tt
   ·rintro ⟨v228,v229⟩ h
    dsimp only at h ⊢
    refine thenQ_normal (.seqR ?_)
    replace h := csome h;obtain ⟨v232,hv232,h⟩ := h
    refine .rk 3 fun K k => ?_;simp [hv232];refine k ?_
    refine .tt (L15 a0.length a1 a2 a3 ++ [(4,.fg g4 cs4),(18,.i v224),(19,.i v225),(20,.i v228),(21,.i v229),(22,.i v232)]) [(1000,R57 a0)] (.nil ?_)
    refine .seqN (fun (v276 : Int) => mk 220 [1000] (L15 a0.length a1 a2 a3 ++ [(4,.fg g4 cs4),(18,.i v224),(19,.i v225),(20,.i v276)]) [(1000,R57 a0)]) h ?_ ?_ <;> clear h
    ·intro o h
     refine .block ?_
     refine .iter (fun ((v246,v247) : (Int × Int)) => mk 220 [1000] (L15 a0.length a1 a2 a3 ++ [(4,.fg g4 cs4),(18,.i v224),(19,.i v225),(20,.i v246),(21,.i v247),(22,.i v232)]) [(1000,R57 a0)]) h Sub.tt ?_
     clear h
     rintro ⟨v246,v247⟩ x h
     dsimp only at h ⊢
     refine .seq (.seqR ?_)
     refine .rr 3 ?_
     refine .tt (L15 a0.length a1 a2 a3 ++ [(4,.fg g4 cs4),(18,.i v224),(19,.i v225),(20,.i v246),(21,.i v247),(22,.i v232),(151,.b (decide (v246 < v247)))]) [(1000,R57 a0)] (.nil ?_)
     replace h := isome h;rcases h with ⟨c277,h⟩ | ⟨c277,h⟩
     ·have c277_ : decide (v246 < v247) = true := decide_eq_true c277
      refine .condT rfl c277_ ?_
      refine .skip (thenQ_normal (.block (.seqR ?_)))
      replace h := csome h;obtain ⟨v278,hv278,h⟩ := h
      replace h := lsome h;obtain ⟨v279,hv279,h⟩ := h
      replace h := lsome h;obtain ⟨v280,hv280,h⟩ := h
      replace h := csome h;obtain ⟨v281,hv281,h⟩ := h
      refine .rk 7 fun K k => ?_;simp [hv278,hv279,hv280,IntKind.bits,hv281];refine k ?_
      refine .tt (L15 a0.length a1 a2 a3 ++ [(4,.fg g4 cs4),(18,.i v224),(19,.i v225),(20,.i v246),(21,.i v247),(22,.i v232),(23,.i v281)]) [(1000,R57 a0)] (.nil ?_)
      refine .seqQ (by kernel_rfl) (by kernel_rfl) ?_
      replace h := csome h;obtain ⟨v282,hv282,h⟩ := h
      replace h := xsome h;obtain ⟨x283,k284,hx283k,hx283,hx283a,hx283b,h⟩ := h
      replace h := xsome h;obtain ⟨x285,k286,hx285k,hx285,hx285a,hx285b,h⟩ := h
      refine .rq 11 fun K k => ?_;simp [hv282,hx283,hx283k,hx283a,hx283b,hx285,hx285k,hx285a,hx285b];refine k ?_
      refine .tt (L15 a0.length a1 a2 a3 ++ [(4,.fg g4 cs4),(18,.i v224),(19,.i v225),(20,.i v246),(21,.i v247),(22,.i v232),(23,.i v281),(158,.fg g4 cs4),(164,.s61 x283),(168,.s61 x285)]) [(1000,R57 a0)] ?_
      replace h := bsome h;obtain ⟨r287,hr287,h⟩ := h
      refine .callL (d := 169) (hp4 x283 x285 r287 hr287) (by simp) rfl rfl (by simp <;> rfl) (by simp <;> rfl) ent_4 (by simp <;> rfl) ?_
      refine .st (mk 220 [1000] (L15 a0.length a1 a2 a3 ++ [(4,.fg g4 cs4),(18,.i v224),(19,.i v225),(20,.i v246),(21,.i v247),(22,.i v232),(23,.i v281),(158,.fg g4 cs4),(164,.s61 x283),(168,.s61 x285),(169,.i r287)]) [(1000,R57 a0)]) ?_
      refine .rq 2 fun K k => ?_;simp;refine k ?_
      refine .tt (L15 a0.length a1 a2 a3 ++ [(4,.fg g4 cs4),(18,.i v224),(19,.i v225),(20,.i v246),(21,.i v247),(22,.i v232),(23,.i v281),(171,.b (!decide (r287 < 0)))]) [(1000,R57 a0)] (.nil ?_)
      replace h := isome h;rcases h with ⟨c288,h⟩ | ⟨c288,h⟩
      ·have c288_ : (!decide (r287 < 0)) = true := c288
       refine .condT rfl c288_ ?_
       refine .region ?_
       replace h := csome h;obtain ⟨v289,hv289,h⟩ := h
       refine .rk 3 fun K k => ?_;simp [hv289];refine k ?_
       refine .tt (L15 a0.length a1 a2 a3 ++ [(4,.fg g4 cs4),(18,.i v224),(19,.i v225),(20,.i v289),(21,.i v247),(22,.i v232)]) [(1000,R57 a0)] (.nil ?_)
       cases h
       refine blockQ.normal (PostI.next ?_)
       exact Sub.tt
      ·have c288_ : (!decide (r287 < 0)) = false := Bool.eq_false_iff.2 c288
       refine .condF rfl c288_ ?_
       refine .region ?_
       refine .rr 2 ?_
       refine .tt (L15 a0.length a1 a2 a3 ++ [(4,.fg g4 cs4),(18,.i v224),(19,.i v225),(20,.i v246),(21,.i v281),(22,.i v232)]) [(1000,R57 a0)] (.nil ?_)
       cases h
       refine blockQ.normal (PostI.next ?_)
       exact Sub.tt
     ·have c277_ : decide (v246 < v247) = false := decide_eq_false c277
      refine .condF rfl c277_ ?_
      refine .exit ?_
      cases h
      refine thenQ_ps ?_
      refine PostI.os ?_
      rintro rfl
      refine blockQ.hit (PostN.next ?_)
      exact Sub.tt
    ·rintro v276 h
     refine .seqR ?_
     replace h := csome h;obtain ⟨v290,hv290,h⟩ := h
     refine .rk 4 fun K k => ?_;simp [hv290];refine k ?_
     refine .tt (L15 a0.length a1 a2 a3 ++ [(4,.fg g4 cs4),(18,.i v224),(20,.i v276),(24,.i v290)]) [(1000,R57 a0)] (.nil (.seq ?_))
     replace h := bsome h;obtain ⟨v292,hj,h⟩ := h
     refine .cutR (mk 220 [1000] (L15 a0.length a1 a2 a3 ++ [(4,.fg g4 cs4),(18,.i v224),(20,.i v276),(24,.i v290),(185,.b v292)]) [(1000,R57 a0)]) ?_ ?_
     ·clear h;have h := hj;clear hj
      refine .rr 4 ?_
      refine .tt (L15 a0.length a1 a2 a3 ++ [(4,.fg g4 cs4),(18,.i v224),(20,.i v276),(24,.i v290),(181,.b (decide (v276 < a2)))]) [(1000,R57 a0)] ?_
      replace h := isome h;rcases h with ⟨c293,h⟩ | ⟨c293,h⟩
      ·have c293_ : decide (v276 < a2) = true := decide_eq_true c293
       refine .sub (.bool 181 rfl c293_) ?_
       refine .st (mk 220 [1000] (L15 a0.length a1 a2 a3 ++ [(4,.fg g4 cs4),(18,.i v224),(20,.i v276),(24,.i v290),(181,.b true)]) [(1000,R57 a0)]) ?_
       refine .rr 4 ?_
       refine .tt (L15 a0.length a1 a2 a3 ++ [(4,.fg g4 cs4),(18,.i v224),(20,.i v276),(24,.i v290),(185,.b (decide (a2 < v290)))]) [(1000,R57 a0)] ?_
       cases h
       exact .nil .tt
      ·have c293_ : decide (v276 < a2) = false := decide_eq_false c293
       refine .sub (.bool 181 rfl c293_) ?_
       refine .st (mk 220 [1000] (L15 a0.length a1 a2 a3 ++ [(4,.fg g4 cs4),(18,.i v224),(20,.i v276),(24,.i v290),(181,.b false)]) [(1000,R57 a0)]) ?_
       refine .rr 4 ?_
       refine .tt (L15 a0.length a1 a2 a3 ++ [(4,.fg g4 cs4),(18,.i v224),(20,.i v276),(24,.i v290),(185,.b false)]) [(1000,R57 a0)] ?_
       cases h
       exact .nil .tt
     ·clear hj
      refine .lastN (fun (l296 : List (List S61)) => mk 220 [1000] (L17 l296.length a1 a3 ++ [(4,.fg g4 cs4),(18,.i v224),(20,.i v276),(24,.i v290)]) [(1000,R57 l296)]) h ?_ ?_ <;> clear h
      ·intro o h
       replace h := isome h;rcases h with ⟨c297,h⟩ | ⟨c297,h⟩
       ·have c297_ : v292 = true := c297
        refine .condT rfl c297_ ?_
        refine .region ?_
        refine .rr 5 ?_
        refine .tt (L17 a0.length a1 a3 ++ [(4,.fg g4 cs4),(18,.i v224),(20,.i v276),(24,.i v290),(186,.ref 1000 0 a0.length),(187,.i v276),(188,.i a2),(189,.i v290),(190,.fg g4 cs4)]) [(1000,R57 a0)] ?_
        replace h := bsome h;obtain ⟨r298,hr298,h⟩ := h
        refine .callF (p204 N a0 v276 a2 v290 g4 cs4 p4 ent_4 hp4 r298 hr298) [(1000,1000)] [1000] [(1000,1000)] [(1000,.arr 57 1 (r298.map (cL cS61)))] (.tup []) (by simp) rfl (by simp <;> rfl) (by simp) (by simp) (by simp) (by simp) (by simp) ent204 (by simp) (by simp) (by simp) (by simp) (by simp) (by simp) ?_
        replace h := bsome h;obtain ⟨ur298,kr298,h⟩ := h
        have hlr298 := lenG_some kr298
        clear kr298
        refine .sub (S' := mk 220 [1000] (L17 r298.length a1 a3 ++ [(4,.fg g4 cs4),(18,.i v224),(20,.i v276),(24,.i v290),(186,.ref 1000 0 r298.length),(187,.i v276),(188,.i a2),(189,.i v290),(190,.fg g4 cs4),(191,.tup [])]) [(1000,R57 r298)]) (by simp [hlr298];exact Sub.table (by simp) (by simp)) ?_
        refine .nil ?_
        cases h
        refine PostN.next ?_
        exact Sub.tt
       ·have c297_ : v292 = false := Bool.eq_false_iff.2 c297
        refine .condF rfl c297_ ?_
        refine .skip ?_
        cases h
        refine PostN.next ?_
        exact Sub.tt
      ·rintro l296 h
       refine thenQ_normal (.seq ?_)
       replace h := bsome h;obtain ⟨v300,hj,h⟩ := h
       refine .cutR (mk 220 [1000] (L17 l296.length a1 a3 ++ [(4,.fg g4 cs4),(18,.i v224),(20,.i v276),(24,.i v290),(199,.b v300)]) [(1000,R57 l296)]) ?_ ?_
       ·clear h;have h := hj;clear hj
        refine .rr 4 ?_
        refine .tt (L17 l296.length a1 a3 ++ [(4,.fg g4 cs4),(18,.i v224),(20,.i v276),(24,.i v290),(195,.b (decide (a1 < v276)))]) [(1000,R57 l296)] ?_
        replace h := isome h;rcases h with ⟨c301,h⟩ | ⟨c301,h⟩
        ·have c301_ : decide (a1 < v276) = true := decide_eq_true c301
         refine .sub (.bool 195 rfl c301_) ?_
         refine .st (mk 220 [1000] (L17 l296.length a1 a3 ++ [(4,.fg g4 cs4),(18,.i v224),(20,.i v276),(24,.i v290),(195,.b true)]) [(1000,R57 l296)]) ?_
         refine .rr 4 ?_
         refine .tt (L17 l296.length a1 a3 ++ [(4,.fg g4 cs4),(18,.i v224),(20,.i v276),(24,.i v290),(199,.b (decide (v276 < v224)))]) [(1000,R57 l296)] ?_
         cases h
         exact .nil .tt
        ·have c301_ : decide (a1 < v276) = false := decide_eq_false c301
         refine .sub (.bool 195 rfl c301_) ?_
         refine .st (mk 220 [1000] (L17 l296.length a1 a3 ++ [(4,.fg g4 cs4),(18,.i v224),(20,.i v276),(24,.i v290),(195,.b false)]) [(1000,R57 l296)]) ?_
         refine .rr 4 ?_
         refine .tt (L17 l296.length a1 a3 ++ [(4,.fg g4 cs4),(18,.i v224),(20,.i v276),(24,.i v290),(199,.b false)]) [(1000,R57 l296)] ?_
         cases h
         exact .nil .tt
       ·clear hj
        refine .lastN (fun (l304 : List (List S61)) => mk 220 [1000] [(0,.ref 1000 0 l304.length),(3,.i a3),(4,.fg g4 cs4),(18,.i v224),(24,.i v290)] [(1000,R57 l304)]) h ?_ ?_ <;> clear h
        ·intro o h
         replace h := isome h;rcases h with ⟨c305,h⟩ | ⟨c305,h⟩
         ·have c305_ : v300 = true := c305
          refine .condT rfl c305_ ?_
          refine .region ?_
          refine .rr 5 ?_
          refine .tt [(0,.ref 1000 0 l296.length),(3,.i a3),(4,.fg g4 cs4),(18,.i v224),(24,.i v290),(200,.ref 1000 0 l296.length),(201,.i a1),(202,.i v276),(203,.i v224),(204,.fg g4 cs4)] [(1000,R57 l296)] ?_
          replace h := bsome h;obtain ⟨r306,hr306,h⟩ := h
          refine .callF (ih l296 a1 v276 v224 g4 cs4 p4 ent_4 hp4 r306 hr306) [(1000,1000)] [1000] [(1000,1000)] [(1000,.arr 57 1 (r306.map (cL cS61)))] (.tup []) (by simp) rfl (by simp <;> rfl) (by simp) (by simp) (by simp) (by simp) (by simp) ent169 (by simp) (by simp) (by simp) (by simp) (by simp) (by simp) ?_
          replace h := bsome h;obtain ⟨ur306,kr306,h⟩ := h
          have hlr306 := lenG_some kr306
          clear kr306
          refine .sub (S' := mk 220 [1000] [(0,.ref 1000 0 r306.length),(3,.i a3),(4,.fg g4 cs4),(18,.i v224),(24,.i v290),(200,.ref 1000 0 r306.length),(201,.i a1),(202,.i v276),(203,.i v224),(204,.fg g4 cs4),(205,.tup [])] [(1000,R57 r306)]) (by simp [hlr306];exact Sub.table (by simp) (by simp)) ?_
          refine .nil ?_
          cases h
          refine PostN.next ?_
          exact Sub.tt
         ·have c305_ : v300 = false := Bool.eq_false_iff.2 c305
          refine .condF rfl c305_ ?_
          refine .skip ?_
          cases h
          refine PostN.next ?_
          exact Sub.tt
        ·rintro l304 h
         refine thenQ_normal ?_
         replace h := bsome h;obtain ⟨v308,hj,h⟩ := h
         refine .cutR (mk 220 [1000] [(0,.ref 1000 0 l304.length),(3,.i a3),(4,.fg g4 cs4),(18,.i v224),(24,.i v290),(213,.b v308)] [(1000,R57 l304)]) ?_ ?_
         ·clear h;have h := hj;clear hj
          refine .rr 4 ?_
          refine .tt [(0,.ref 1000 0 l304.length),(3,.i a3),(4,.fg g4 cs4),(18,.i v224),(24,.i v290),(209,.b (decide (v224 < v290)))] [(1000,R57 l304)] ?_
          replace h := isome h;rcases h with ⟨c309,h⟩ | ⟨c309,h⟩
          ·have c309_ : decide (v224 < v290) = true := decide_eq_true c309
           refine .sub (.bool 209 rfl c309_) ?_
           refine .st (mk 220 [1000] [(0,.ref 1000 0 l304.length),(3,.i a3),(4,.fg g4 cs4),(18,.i v224),(24,.i v290),(209,.b true)] [(1000,R57 l304)]) ?_
           refine .rr 4 ?_
           refine .tt [(0,.ref 1000 0 l304.length),(3,.i a3),(4,.fg g4 cs4),(18,.i v224),(24,.i v290),(213,.b (decide (v290 < a3)))] [(1000,R57 l304)] ?_
           cases h
           exact .nil .tt
          ·have c309_ : decide (v224 < v290) = false := decide_eq_false c309
           refine .sub (.bool 209 rfl c309_) ?_
           refine .st (mk 220 [1000] [(0,.ref 1000 0 l304.length),(3,.i a3),(4,.fg g4 cs4),(18,.i v224),(24,.i v290),(209,.b false)] [(1000,R57 l304)]) ?_
           refine .rr 4 ?_
           refine .tt [(0,.ref 1000 0 l304.length),(3,.i a3),(4,.fg g4 cs4),(18,.i v224),(24,.i v290),(213,.b false)] [(1000,R57 l304)] ?_
           cases h
           exact .nil .tt
         ·clear hj
          replace h := isome h;rcases h with ⟨c310,h⟩ | ⟨c310,h⟩
          ·have c310_ : v308 = true := c310
           refine .condT rfl c310_ ?_
           refine .region ?_
           refine .rr 5 ?_
           refine .tt [(214,.ref 1000 0 l304.length),(215,.i v224),(216,.i v290),(217,.i a3),(218,.fg g4 cs4)] [(1000,R57 l304)] ?_
           replace h := bsome h;obtain ⟨r311,hr311,h⟩ := h
           refine .callF (ih l304 v224 v290 a3 g4 cs4 p4 ent_4 hp4 r311 hr311) [(1000,1000)] [1000] [(1000,1000)] [(1000,.arr 57 1 (r311.map (cL cS61)))] (.tup []) (by simp) rfl (by simp <;> rfl) (by simp) (by simp) (by simp) (by simp) (by simp) ent169 (by simp) (by simp) (by simp) (by simp) (by simp) (by simp) ?_
           replace h := bsome h;obtain ⟨ur311,kr311,h⟩ := h
           have hlr311 := lenG_some kr311
           clear kr311
           refine .sub (S' := mk 220 [1000] [(214,.ref 1000 0 r311.length),(215,.i v224),(216,.i v290),(217,.i a3),(218,.fg g4 cs4),(219,.tup [])] [(1000,R57 r311)]) (by simp [hlr311];exact Sub.table (by simp) (by simp)) ?_
           refine .nil ?_
           cases h
           exact FinF.normal (by simp) (by simp)
          ·have c310_ : v308 = false := Bool.eq_false_iff.2 c310
           refine .condF rfl c310_ ?_
           refine .skip ?_
           cases h
           exact FinF.normal (by simp) (by simp)
end Go.Proofs.YtimkkjiplioohaaGreatDoor
