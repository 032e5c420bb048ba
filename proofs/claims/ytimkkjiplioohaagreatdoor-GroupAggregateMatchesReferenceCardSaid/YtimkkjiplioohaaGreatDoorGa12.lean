/- Functions of the program as functional programs; the code computes them. -/
import Derived.Test.YtimkkjiplioohaaGreatDoorGa11
namespace Go.Proofs.YtimkkjiplioohaaGreatDoor
set_option maxRecDepth 100000
set_option maxHeartbeats 4000000
open Go.Ab Go.Rp
attribute [-simp] List.all_eq_true Array.all_toList Array.all_eq_true
def d30 (N : Nat) (a0 : (List (List S61))) (a1 : S65) (a2 : (List S75)) (a3 : Int) : Option ((List (List S61)) × Int) :=
 (d40 N a0 a1 a3).bind fun r1 =>
 if (r1.2.2 != 0) then (
  some (([] : List (List S61)), r1.2.2)
 ) else
 (d69 N a0 a2).bind fun r3 =>
 if (r3 != 0) then (
  some (([] : List (List S61)), r3)
 ) else
 Option.bind (α := List (List S61)) (
  iterN (σ := ((List (List S61)) × Int)) (ρ := List (List S61)) (fun ((l99, v100) : ((List (List S61)) × Int)) =>
   if v100 < (r1.1.length : Int) then (
    Option.bind (α := Int) (
     iterN (σ := Int) (ρ := Int) (fun (v334 : Int) =>
      Option.bind (α := Bool) (
       if v334 < (r1.1.length : Int) then (
        (idx r1.1 v100).bind fun x375 =>
        (idx r1.1 v334).bind fun x377 =>
        (d70 N x375 x377 a1).bind fun r379 =>
        some (r379 == 0)
       ) else
       some false
      ) fun (v373 : Bool) =>
      if v373 = true then (
       (chkI (v334 + 1)).bind fun v381 =>
       some (.inl v381)
      ) else
      some (.inr v334)
     ) N v100
    ) fun (v366 : Int) =>
    (idx r1.1 v100).bind fun x382 =>
    (d71 N x382 a1).bind fun r384 =>
    Option.bind (α := (Int × (List S61))) (
     iterN (σ := (Int × Int × (List S61) × Int)) (ρ := (Int × (List S61))) (fun ((v393, v394, l395, v396) : (Int × Int × (List S61) × Int)) =>
      if v396 < (a2.length : Int) then (
       (idx a2 v396).bind fun x422 =>
       (natI v394 r1.1.length).bind fun n424 =>
       (natI v393 n424).bind fun n425 =>
       letv ((r1.1.take n424).drop n425) fun l426 =>
       (d72 N l426 x422).bind fun r427 =>
       (appL 32 l395 [r427]).bind fun _l428 =>
       (chkI (v396 + 1)).bind fun v429 =>
       some (.inl ((n425 : Int), (n424 : Int), (l395 ++ [r427]), v429))
      ) else
      some (.inr (v394, l395))
     ) N (v100, v366, r384, 0)
    ) fun ((v419, l420) : (Int × (List S61))) =>
    (appL 24 l99 [l420]).bind fun _l430 =>
    some (.inl ((l99 ++ [l420]), v419))
   ) else
   some (.inr l99)
  ) N (([] : List (List S61)), 0)
 ) fun (l321 : List (List S61)) =>
 some (l321, 0)
theorem p30 (N : Nat) (a0 : (List (List S61))) (a1 : S65) (a2 : (List S75)) (a3 : Int) (r : ((List (List S61)) × Int)) (h : d30 N a0 a1 a2 a3 = some r) : FunC Tryz.prog 30 [.ls61 a0, .agg [.si a1.Columns, .sb a1.Descending], .s75 a2, .i a3] (.tup [.ls61 r.1, .i r.2]) := by
 unfold d30 at h
 refine FunC.enter 89 [(0, .ls61 a0), (1, .agg [.si a1.Columns, .sb a1.Descending]), (2, .s75 a2), (3, .i a3)] (by simp) Tryz.func30 rfl (of_decide_eq_true rfl) rfl rfl ?_
 refine .seqR ?_
 refine .rk 3 fun K k => ?_; simp; refine k ?_
 refine .tt (L53 a0 a2 a3) (H1 a1) ?_
 refine .nil (.seqR ?_)
 refine .rk 3 fun K k => ?_; simp; refine k ?_
 refine .tt (L54 a0 a2 ++ [(21, .ls61 a0), (22, .agg [.si a1.Columns, .sb a1.Descending]), (23, .i a3)]) (H1 a1) ?_
 replace h := bsome h; obtain ⟨r1, hr1, h⟩ := h
 refine .callC (d := 24) (p40 N a0 a1 a3 r1 hr1) (by simp) rfl rfl (by simp <;> rfl) (by simp <;> rfl) ent40 (by simp) (.inl ⟨by simp, by simp⟩) ?_
 refine .st (mk 89 [] (L54 a0 a2 ++ [(21, .ls61 a0), (22, .agg [.si a1.Columns, .sb a1.Descending]), (23, .i a3), (24, .tup [.ls61 r1.1, .i r1.2.1, .i r1.2.2])]) (H1 a1)) ?_
 refine .rk 7 fun K k => ?_; simp; refine k ?_
 refine .tt (L54 a0 a2 ++ [(10, .ls61 r1.1), (12, .i r1.2.2)]) (H1 a1) ?_
 refine .nil (.seq (.seqR ?_))
 refine .rk 2 fun K k => ?_; simp; refine k ?_
 refine .tt (L54 a0 a2 ++ [(10, .ls61 r1.1), (12, .i r1.2.2), (29, .b (r1.2.2 != 0))]) (H1 a1) ?_
 refine .nil ?_
 replace h := isome h; rcases h with ⟨c2, h⟩ | ⟨c2, h⟩
 ·have c2_ : (r1.2.2 != 0) = true := c2
  refine .condT rfl c2_ ?_
  refine .seqR ?_
  refine .rk 3 fun K k => ?_; simp; refine k ?_
  refine .tt [(8, .z), (9, .i r1.2.2)] [] ?_
  refine .nil ?_
  refine .sub (.wk 8 rfl) ?_
  refine .st (mk 89 [] [(8, .ls61 ([] : List (List S61))), (9, .i r1.2.2)] []) ?_
  refine .ret ?_
  cases h
  refine thenQ_pass (by simp) ?_
  exact FinC.ret (by simp) (by simp)
 have c2_ : (r1.2.2 != 0) = false := Bool.eq_false_iff.2 c2
 refine .condF rfl c2_ ?_
 refine .skip (thenQ_normal (.seq (.seqR ?_)))
 refine .rk 2 fun K k => ?_; simp; refine k ?_
 refine .tt (L55 a2 r1.1 ++ [(31, .ls61 a0), (32, .s75 a2)]) (H1 a1) ?_
 replace h := bsome h; obtain ⟨r3, hr3, h⟩ := h
 refine .callL (d := 33) (p69 N a0 a2 r3 hr3) (by simp) rfl rfl (by simp <;> rfl) (by simp <;> rfl) ent69 (by simp <;> rfl) ?_
 refine .st (mk 89 [] (L55 a2 r1.1 ++ [(31, .ls61 a0), (32, .s75 a2), (33, .i r3)]) (H1 a1)) ?_
 refine .rk 1 fun K k => ?_; simp; refine k ?_
 refine .tt (L55 a2 r1.1 ++ [(13, .i r3)]) (H1 a1) ?_
 refine .nil (.seqR ?_)
 refine .rk 2 fun K k => ?_; simp; refine k ?_
 refine .tt (L55 a2 r1.1 ++ [(13, .i r3), (35, .b (r3 != 0))]) (H1 a1) ?_
 refine .nil ?_
 replace h := isome h; rcases h with ⟨c4, h⟩ | ⟨c4, h⟩
 ·have c4_ : (r3 != 0) = true := c4
  refine .condT rfl c4_ ?_
  refine .seqR ?_
  refine .rk 3 fun K k => ?_; simp; refine k ?_
  refine .tt [(8, .z), (9, .i r3)] [] ?_
  refine .nil ?_
  refine .sub (.wk 8 rfl) ?_
  refine .st (mk 89 [] [(8, .ls61 ([] : List (List S61))), (9, .i r3)] []) ?_
  refine .ret ?_
  cases h
  refine thenQ_pass (by simp) ?_
  exact FinC.ret (by simp) (by simp)
 have c4_ : (r3 != 0) = false := Bool.eq_false_iff.2 c4
 refine .condF rfl c4_ ?_
 refine .skip (thenQ_normal (.seqR ?_))
 refine .rk 1 fun K k => ?_; simp; refine k ?_
 refine .tt (L55 a2 r1.1 ++ [(14, .z)]) (H1 a1) ?_
 refine .nil (.seq (.seqR ?_))
 refine .rk 1 fun K k => ?_; simp; refine k ?_
 refine .tt (L55 a2 r1.1 ++ [(14, .z), (15, .i 0)]) (H1 a1) ?_
 refine .nil ?_
 refine .lastN (fun (l321 : List (List S61)) => mk 89 [] [(14, .ref 86 0 l321.length)] [(86, R57 l321)]) h ?_ ?_ <;> clear h
 ·intro o h
  refine .block ?_
  refine .iter (fun ((l99, v100) : ((List (List S61)) × Int)) => mk 89 [] (L56 a2 r1.1 l99.length v100) (H12 a1 l99)) h (Sub.trans (Sub.nilOwn (t := 14) (id := 86) (T := 57) (n := 1) rfl rfl (by decide)) (by simp; exact Sub.tt)) ?_
  clear h
  rintro ⟨l99, v100⟩ x h
  dsimp only at h ⊢
  refine .seq (.seqR ?_)
  refine .rk 4 fun K k => ?_; simp; refine k ?_
  refine .tt (L56 a2 r1.1 l99.length v100 ++ [(40, .b (decide (v100 < (r1.1.length : Int))))]) (H12 a1 l99) ?_
  refine .nil ?_
  replace h := isome h; rcases h with ⟨c322, h⟩ | ⟨c322, h⟩
  ·have c322_ : decide (v100 < (r1.1.length : Int)) = true := decide_eq_true c322
   refine .condT rfl c322_ ?_
   refine .skip (thenQ_normal (.block (.seqR ?_)))
   refine .rk 2 fun K k => ?_; simp; refine k ?_
   refine .tt (L56 a2 r1.1 l99.length v100 ++ [(16, .i v100)]) (H12 a1 l99) ?_
   refine .nil ?_
   refine .seqN (fun (v366 : Int) => mk 89 [] (L57 a2 r1.1 l99.length v100 v366) (H12 a1 l99)) h ?_ ?_ <;> clear h
   ·intro o h
    refine .block ?_
    refine .iter (fun (v334 : Int) => mk 89 [] (L57 a2 r1.1 l99.length v100 v334) (H12 a1 l99)) h Sub.tt ?_
    clear h
    rintro v334 x h
    refine .seq ?_
    replace h := bsome h; obtain ⟨v373, hj, h⟩ := h
    refine .cutQ (by kernel_rfl) (by kernel_rfl) (mk 89 [] (L57 a2 r1.1 l99.length v100 v334 ++ [(58, .b v373)]) (H12 a1 l99)) ?_ ?_
    ·clear h; have h := hj; clear hj
     refine .rq 5 fun K k => ?_; simp; refine k ?_
     refine .tt (L57 a2 r1.1 l99.length v100 v334 ++ [(46, .b (decide (v334 < (r1.1.length : Int))))]) (H12 a1 l99) ?_
     replace h := isome h; rcases h with ⟨c374, h⟩ | ⟨c374, h⟩
     ·have c374_ : decide (v334 < (r1.1.length : Int)) = true := decide_eq_true c374
      refine .sub (.bool 46 rfl c374_) ?_
      refine .st (mk 89 [] (L58 a2 r1.1 l99.length v100 v334) (H12 a1 l99)) ?_
      replace h := bsome h; obtain ⟨x375, hx375, h⟩ := h
      obtain ⟨k376, hx375k, hx375, hx375a, hx375b⟩ := idx_some hx375
      replace h := bsome h; obtain ⟨x377, hx377, h⟩ := h
      obtain ⟨k378, hx377k, hx377, hx377a, hx377b⟩ := idx_some hx377
      refine .rq 9 fun K k => ?_; simp [hx375, hx375k, hx375a, hx377, hx377k, hx377a]; refine k ?_
      refine .tt (L58 a2 r1.1 l99.length v100 v334 ++ [(47, .ls61 r1.1), (48, .i v100), (49, .d (.pim [.sl (x375.map cS61)])), (50, .s61 x375), (51, .ls61 r1.1), (52, .i v334), (53, .d (.pim [.sl (x377.map cS61)])), (54, .s61 x377), (55, .agg [.si a1.Columns, .sb a1.Descending])]) (H12 a1 l99) ?_
      replace h := bsome h; obtain ⟨r379, hr379, h⟩ := h
      refine .callL (d := 56) (p70 N x375 x377 a1 r379 hr379) (by simp) rfl rfl (by simp <;> rfl) (by simp <;> rfl) ent70 (by simp <;> rfl) ?_
      refine .st (mk 89 [] (L58 a2 r1.1 l99.length v100 v334 ++ [(47, .ls61 r1.1), (48, .i v100), (49, .d (.pim [.sl (x375.map cS61)])), (50, .s61 x375), (51, .ls61 r1.1), (52, .i v334), (53, .d (.pim [.sl (x377.map cS61)])), (54, .s61 x377), (55, .agg [.si a1.Columns, .sb a1.Descending]), (56, .i r379)]) (H12 a1 l99)) ?_
      refine .rq 2 fun K k => ?_; simp; refine k ?_
      refine .tt (L57 a2 r1.1 l99.length v100 v334 ++ [(47, .ls61 r1.1), (48, .i v100), (49, .d (.pim [.sl (x375.map cS61)])), (50, .s61 x375), (51, .ls61 r1.1), (52, .i v334), (53, .d (.pim [.sl (x377.map cS61)])), (54, .s61 x377), (55, .agg [.si a1.Columns, .sb a1.Descending]), (56, .i r379), (57, .b (r379 == 0)), (58, .b (r379 == 0))]) (H12 a1 l99) ?_
      cases h
      exact .nil .tt
     have c374_ : decide (v334 < (r1.1.length : Int)) = false := decide_eq_false c374
     refine .sub (.bool 46 rfl c374_) ?_
     refine .st (mk 89 [] (L57 a2 r1.1 l99.length v100 v334 ++ [(46, .b false)]) (H12 a1 l99)) ?_
     refine .rq 12 fun K k => ?_; simp; refine k ?_
     refine .tt (L57 a2 r1.1 l99.length v100 v334 ++ [(47, .tup []), (48, .tup []), (49, .tup []), (50, .tup []), (51, .tup []), (52, .tup []), (53, .tup []), (54, .tup []), (55, .tup []), (56, .tup []), (57, .tup []), (58, .b false)]) (H12 a1 l99) ?_
     cases h
     exact .nil .tt
    clear hj
    replace h := isome h; rcases h with ⟨c380, h⟩ | ⟨c380, h⟩
    ·have c380_ : v373 = true := c380
     refine .condT rfl c380_ ?_
     refine .skip (thenQ_normal (.block (.region ?_)))
     replace h := bsome h; obtain ⟨v381, hv381, h⟩ := h
     have hv381 := chkI_some hv381
     refine .rk 3 fun K k => ?_; simp [hv381]; refine k ?_
     refine .tt (L57 a2 r1.1 l99.length v100 v381) (H12 a1 l99) ?_
     refine .nil ?_
     cases h
     refine blockQ.normal (PostI.next ?_)
     exact Sub.tt
    have c380_ : v373 = false := Bool.eq_false_iff.2 c380
    refine .condF rfl c380_ ?_
    refine .exit ?_
    cases h
    refine thenQ_pass (by simp) ?_
    refine PostI.out (by simp) ?_
    rintro rfl
    refine blockQ.hit (PostN.next ?_)
    exact Sub.tt
   rintro v366 h
   replace h := bsome h; obtain ⟨x382, hx382, h⟩ := h
   obtain ⟨k383, hx382k, hx382, hx382a, hx382b⟩ := idx_some hx382
   refine .seqT 5 (by kernel_rfl) (by kernel_rfl) fun K k => ?_; simp [hx382, hx382k, hx382a]; refine k _ _ ?_; clear k K
   refine .tt (L57 a2 r1.1 l99.length v100 v366 ++ [(64, .s61 x382), (65, .agg [.si a1.Columns, .sb a1.Descending])]) (H12 a1 l99) ?_
   replace h := bsome h; obtain ⟨r384, hr384, h⟩ := h
   refine .callO (d := 66) (p71 N x382 a1 r384 hr384) (by simp) rfl rfl (by simp <;> rfl) (by simp <;> rfl) ent71 (by simp) ⟨by simp, by simp⟩ ?_
   refine .st (mk 89 [] (L57 a2 r1.1 l99.length v100 v366 ++ [(64, .s61 x382), (65, .agg [.si a1.Columns, .sb a1.Descending]), (66, .ref 66 0 r384.length)]) (H19 a1 r384 l99)) ?_
   refine .rk 1 fun K k => ?_; simp; refine k ?_
   refine .tt (L57 a2 r1.1 l99.length v100 v366 ++ [(17, .ref 66 0 r384.length)]) (H19 a1 r384 l99) ?_
   refine .nil (.seq (.seqR ?_))
   refine .rk 3 fun K k => ?_; simp; refine k ?_
   refine .tt (L59 a2 r1.1 l99.length v100 v366 r384.length a2.length ++ [(69, .i 0)]) (H19 a1 r384 l99) ?_
   refine .nil ?_
   refine .lastN (fun ((v419, l420) : (Int × (List S61))) => mk 89 [] (L60 a2 r1.1 l99.length ++ [(16, .i v419), (17, .ref 66 0 l420.length)]) (H19 a1 l420 l99)) h ?_ ?_ <;> clear h
   ·intro o h
    refine .block ?_
    refine .iter (fun ((v393, v394, l395, v396) : (Int × Int × (List S61) × Int)) => mk 89 [] (L59 a2 r1.1 l99.length v393 v394 l395.length a2.length ++ [(69, .i v396)]) (H19 a1 l395 l99)) h Sub.tt ?_
    clear h
    rintro ⟨v393, v394, l395, v396⟩ x h
    dsimp only at h ⊢
    refine .seqR ?_
    refine .rk 1 fun K k => ?_; simp; refine k ?_
    refine .tt (L59 a2 r1.1 l99.length v393 v394 l395.length a2.length ++ [(69, .i v396), (70, .b (decide (v396 < (a2.length : Int))))]) (H19 a1 l395 l99) ?_
    refine .nil (.seq ?_)
    replace h := isome h; rcases h with ⟨c421, h⟩ | ⟨c421, h⟩
    ·have c421_ : decide (v396 < (a2.length : Int)) = true := decide_eq_true c421
     refine .condT rfl c421_ ?_
     refine .skip (thenQ_normal (.seq (.block (.seqR ?_))))
     replace h := bsome h; obtain ⟨x422, hx422, h⟩ := h
     obtain ⟨k423, hx422k, hx422, hx422a, hx422b⟩ := idx_some hx422
     refine .rk 4 fun K k => ?_; simp [hx422, hx422k, hx422a]; refine k ?_
     refine .tt (L57 a2 r1.1 l99.length v393 v394 ++ [(17, .ref 66 0 l395.length), (19, .ptr 19 0 0), (67, .s75 a2), (68, .i (a2.length : Int)), (69, .i v396)]) [(5, some (.box [.si a1.Columns, .sb a1.Descending])), (19, some (.box [.s x422.Function, .i x422.Column])), (66, R61 l395), (86, R57 l99)] ?_
     refine .nil ?_
     replace h := bsome h; obtain ⟨n424, gn424, h⟩ := h
     obtain ⟨hn424a, hn424⟩ := natI_some gn424
     clear gn424
     subst hn424a
     replace h := bsome h; obtain ⟨n425, gn425, h⟩ := h
     obtain ⟨hn425a, hn425⟩ := natI_some gn425
     clear gn425
     subst hn425a
     replace h := lsome h; obtain ⟨l426, gl426, h⟩ := h
     have hl426 : (((r1.1.map (cL cS61)).take n424).drop n425) = l426.map (cL cS61) := by rw [← gl426]; simp
     clear gl426
     replace h := bsome h; obtain ⟨r427, hr427, h⟩ := h
     replace h := bsome h; obtain ⟨l428, hl428, h⟩ := h
     obtain ⟨hl428a, hl428⟩ := appL_some hl428
     subst hl428
     try simp only [List.length_cons, List.length_nil, Nat.zero_add] at hl428a
     refine .lastAnyS [[], [], [], [], [1, 2, 3], [], [1, 2, 3, 4, 5], [1, 2, 3, 4, 5, 6], [0, 1, 2, 3, 4, 5, 6, 7], [0, 1, 2, 3, 4, 5, 6, 7, 8]] (fun (b : Nat → Bool) => mk 89 [] [(2, .s75 a2), (5, .ptr 5 0 0), (10, .ls61 r1.1), (14, .ref 86 0 l99.length), (15, .i (n425 : Int)), (16, .i (n424 : Int)), (17, (if b 9 then .ref 66 0 ((l395 ++ [r427]).length) else (if b 8 then .junk else .ref 66 0 l395.length))), (19, .ptr 19 0 0), (67, .s75 a2), (68, .i (a2.length : Int)), (69, .i v396), (73, (if b 8 then .junk else (if b 0 then .ref 66 0 l395.length else .junk))), (74, (if b 1 then .ls61 r1.1 else .junk)), (75, (if b 2 then .i (n425 : Int) else .junk)), (76, (if b 3 then .i (n424 : Int) else .junk)), (77, (if b 4 then .ls61 l426 else .junk)), (78, (if b 5 then .agg [.s x422.Function, .i x422.Column] else .junk)), (79, (if b 6 then .agg [.i r427.Kind, .i r427.Int, .s r427.Text] else .junk)), (80, (if b 7 then .d (.sl ([r427].map cS61)) else .junk)), (81, (if b 8 then .ref 66 0 ((l395 ++ [r427]).length) else .junk))] [(5, some (.box [.si a1.Columns, .sb a1.Descending])), (19, some (.box [.s x422.Function, .i x422.Column])), (66, (if b 8 then R61 (l395 ++ [r427]) else R61 l395)), (86, R57 l99)]) (mk 89 [] (L60 a2 r1.1 l99.length ++ [(15, .i (n425 : Int)), (16, .i (n424 : Int)), (17, .ref 66 0 ((l395 ++ [r427]).length)), (67, .s75 a2), (68, .i (a2.length : Int)), (69, .i v396)]) [(5, some (.box [.si a1.Columns, .sb a1.Descending])), (66, R61 (l395 ++ [r427])), (86, R57 l99)]) (by kernel_rfl) (by kernel_rfl) Sub.tt (Steps.cons ?_ (Steps.cons ?_ (Steps.cons ?_ (Steps.cons ?_ (Steps.cons ?_ (Steps.cons ?_ (Steps.cons ?_ (Steps.cons ?_ (Steps.cons ?_ (Steps.cons ?_ (Steps.nil))))))))))) ?_ ?_
     iterate 6
      ·intro b h0 ha hd
       have T := fct h0 ha hd; simp at T
       refine .runK [80] 1 fun K k => ?_; simp [T, hn424, hn425, hl426]; refine k _ _ ?_; clear k K
       exact .nil (.table (by simp [T]) (by simp [T]))
     ·intro b h0 ha hd
      have T := fct h0 ha hd; simp at T
      simp only [T, if_true, if_false, Bool.false_eq_true]
      refine .callC (d := 79) (p72 N l426 x422 r427 hr427) (by simp) rfl rfl (by simp <;> rfl) (by simp <;> rfl) ent72 (by simp) (.inl ⟨by simp, by simp⟩) ?_
      exact .nil (by simp [T]; exact Sub.table (by simp) (by simp))
     ·intro b h0 ha hd
      have T := fct h0 ha hd; simp at T
      refine .runK [80] 1 fun K k => ?_; simp [T]; refine k _ _ ?_; clear k K
      exact .nil (.table (by simp [T]) (by simp [T]))
     iterate 2
      ·intro b h0 ha hd
       have T := fct h0 ha hd; simp at T
       refine .runK [80] 1 fun K k => ?_; simp [T, hl428a]; refine k _ _ ?_; clear k K
       exact .nil (.table (by simp [T]) (by simp [T]))
     ·intro b hb
      have T := FA_of (n := 10) hb; simp at T
      exact Sub.table (by simp [T]) (by simp [T])
     skip
     refine blockQ.normal (thenQ_normal (.region ?_))
     replace h := bsome h; obtain ⟨v429, hv429, h⟩ := h
     have hv429 := chkI_some hv429
     refine .rk 2 fun K k => ?_; simp [hv429]; refine k ?_
     refine .tt (L60 a2 r1.1 l99.length ++ [(15, .i (n425 : Int)), (16, .i (n424 : Int)), (17, .ref 66 0 ((l395 ++ [r427]).length)), (67, .s75 a2), (68, .i (a2.length : Int)), (69, .i v429)]) [(5, some (.box [.si a1.Columns, .sb a1.Descending])), (66, R61 (l395 ++ [r427])), (86, R57 l99)] ?_
     refine .nil ?_
     cases h
     refine PostI.next ?_
     exact Sub.tt
    have c421_ : decide (v396 < (a2.length : Int)) = false := decide_eq_false c421
    refine .condF rfl c421_ ?_
    refine .exit ?_
    cases h
    refine thenQ_pass (by simp) ?_
    refine PostI.out (by simp) ?_
    rintro rfl
    refine blockQ.hit (PostN.next ?_)
    exact Sub.tt
   rintro ⟨v419, l420⟩ h
   dsimp only at h ⊢
   refine thenQ_normal (.seqR ?_)
   refine .runK [85] 2 fun K k => ?_; simp; refine k _ _ ?_; clear k K
   refine .tt (L55 a2 r1.1 ++ [(16, .i v419), (83, .ref 86 0 l99.length), (84, .ref 66 0 l420.length)]) (H19 a1 l420 l99) ?_
   refine .sub (.freeze 66 rfl) ?_
   refine .st (mk 89 [] (L55 a2 r1.1 ++ [(16, .i v419), (83, .ref 86 0 l99.length), (84, .s61 l420)]) (H12 a1 l99)) ?_
   replace h := bsome h; obtain ⟨l430, hl430, h⟩ := h
   obtain ⟨hl430a, hl430⟩ := appL_some hl430
   subst hl430
   try simp only [List.length_cons, List.length_nil, Nat.zero_add] at hl430a
   refine .runK [85] 3 fun K k => ?_; simp [hl430a]; refine k _ _ ?_; clear k K
   refine .tt (L55 a2 r1.1 ++ [(14, .ref 86 0 ((l99 ++ [l420]).length)), (16, .i v419)]) [(5, some (.box [.si a1.Columns, .sb a1.Descending])), (86, R57 (l99 ++ [l420]))] ?_
   refine .nil (.region ?_)
   refine .rk 2 fun K k => ?_; simp; refine k ?_
   refine .tt (L55 a2 r1.1 ++ [(14, .ref 86 0 ((l99 ++ [l420]).length)), (15, .i v419)]) [(5, some (.box [.si a1.Columns, .sb a1.Descending])), (86, R57 (l99 ++ [l420]))] ?_
   refine .nil ?_
   cases h
   refine blockQ.normal (PostI.next ?_)
   exact Sub.tt
  have c322_ : decide (v100 < (r1.1.length : Int)) = false := decide_eq_false c322
  refine .condF rfl c322_ ?_
  refine .exit ?_
  cases h
  refine thenQ_pass (by simp) ?_
  refine PostI.out (by simp) ?_
  rintro rfl
  refine blockQ.hit (PostN.next ?_)
  exact Sub.tt
 rintro l321 h
 refine thenQ_normal (.seqR ?_)
 refine .rk 3 fun K k => ?_; simp; refine k ?_
 refine .tt [(8, .ref 86 0 l321.length), (9, .i 0)] [(86, R57 l321)] ?_
 refine .nil ?_
 refine .sub (.freeze 86 rfl) ?_
 refine .st (mk 89 [] [(8, .ls61 l321), (9, .i 0)] []) ?_
 refine .ret ?_
 cases h
 exact FinC.ret (by simp) (by simp)
def d77 (_N : Nat) (a0 : (List S61)) (a1 : S75) : Option Bool :=
 some (decide (a1.Column ≥ (a0.length : Int)))
theorem p77 (N : Nat) (a0 : (List S61)) (a1 : S75) (r : Bool) (h : d77 N a0 a1 = some r) : FunC Tryz.prog 77 [.s61 a0, .d (.pim [.lit (.string a1.Function), .lit (.int .i64 a1.Column)])] (.b r) := by
 unfold d77 at h
 refine FunC.enter 9 [(0, .s61 a0), (1, .d (.pim [.lit (.string a1.Function), .lit (.int .i64 a1.Column)]))] (by simp) Tryz.func77 rfl (of_decide_eq_true rfl) rfl rfl ?_
 refine .seqR ?_
 refine .rk 1 fun K k => ?_; simp; refine k ?_
 refine .tt [(0, .s61 a0), (1, .d (.pim [.lit (.string a1.Function), .lit (.int .i64 a1.Column)]))] [] ?_
 refine .nil (.seqR ?_)
 refine .rk 6 fun K k => ?_; simp; refine k ?_
 refine .tt [(3, .b (decide (a1.Column ≥ (a0.length : Int))))] [] ?_
 refine .nil (.ret ?_)
 cases h
 exact FinC.ret (by simp) (by simp)
def d75 (N : Nat) (a0 : S75) (a1 : (List (List S61))) : Option Bool :=
 letv ([(ByteArray.mk #[99, 111, 117, 110, 116]), (ByteArray.mk #[115, 117, 109]), (ByteArray.mk #[109, 105, 110]), (ByteArray.mk #[109, 97, 120])] : List ByteArray) fun l1 =>
 (d76 N l1 a0.Function).bind fun r2 =>
 Option.bind (α := Bool) (
  if (!r2) = true then (
   some true
  ) else
  if a0.Column < (-1) then (
   some true
  ) else
  if (a0.Column == (-1)) then (
   if (!decide (a0.Function = (ByteArray.mk #[99, 111, 117, 110, 116]))) = true then (
    some true
   ) else
   (d56 N a1 (fun b0 => d77 N b0 a0)).bind fun r14 =>
   some r14
  ) else
  (d56 N a1 (fun b0 => d77 N b0 a0)).bind fun r15 =>
  some r15
 ) fun (v9 : Bool) =>
 some v9
theorem p75 (N : Nat) (a0 : S75) (a1 : (List (List S61))) (r : Bool) (h : d75 N a0 a1 = some r) : FunC Tryz.prog 75 [.agg [.s a0.Function, .i a0.Column], .d (.pim [.sl (a1.map (cL cS61))])] (.b r) := by
 unfold d75 at h
 refine FunC.enter 31 [(0, .agg [.s a0.Function, .i a0.Column]), (1, .d (.pim [.sl (a1.map (cL cS61))]))] (by simp) Tryz.func75 rfl (of_decide_eq_true rfl) rfl rfl ?_
 refine .seqR ?_
 refine .rk 2 fun K k => ?_; simp; refine k ?_
 refine .tt [(1, .d (.pim [.sl (a1.map (cL cS61))])), (2, .ptr 2 0 0)] (H10 a0) ?_
 refine .nil (.seqR ?_)
 refine .rk 1 fun K k => ?_; simp; refine k ?_
 refine .sub (.wkRow 5 rfl) ?_
 replace h := lsome h; obtain ⟨l1, hl1, h⟩ := h
 refine .sub (S' := mk 31 [] (L61 a1 l1.length) (H35 a0 l1)) (by simp; subst hl1; exact Sub.table (by simp) (by simp)) ?_
 refine .rk 2 fun K k => ?_; simp; refine k ?_
 refine .tt (L61 a1 l1.length ++ [(7, .s a0.Function)]) (H35 a0 l1) ?_
 replace h := bsome h; obtain ⟨r2, hr2, h⟩ := h
 refine .callL (d := 8) (p76 N l1 a0.Function r2 hr2) (by simp) rfl rfl (by simp <;> rfl) (by simp <;> rfl) ent76 (by simp <;> rfl) ?_
 refine .st (mk 31 [] (L61 a1 l1.length ++ [(7, .s a0.Function), (8, .b r2)]) (H35 a0 l1)) ?_
 refine .rk 1 fun K k => ?_; simp; refine k ?_
 refine .tt (L62 a1 ++ [(4, .b r2)]) (H10 a0) ?_
 refine .nil ?_
 replace h := bsome h; obtain ⟨v9, hj, h⟩ := h
 refine .cutR (mk 31 [] [(3, .b v9)] []) ?_ ?_
 ·clear h; have h := hj; clear hj
  refine .rk 3 fun K k => ?_; simp; refine k ?_
  refine .tt (L62 a1 ++ [(11, .b (!r2))]) (H10 a0) ?_
  replace h := isome h; rcases h with ⟨c10, h⟩ | ⟨c10, h⟩
  ·have c10_ : (!r2) = true := c10
   refine .sub (.bool 11 rfl c10_) ?_
   refine .st (mk 31 [] (L62 a1 ++ [(11, .b true)]) (H10 a0)) ?_
   refine .rk 20 fun K k => ?_; simp; refine k ?_
   refine .tt [(3, .b true)] [] ?_
   cases h
   exact .nil .tt
  have c10_ : (!r2) = false := Bool.eq_false_iff.2 c10
  refine .sub (.bool 11 rfl c10_) ?_
  refine .st (mk 31 [] (L62 a1 ++ [(11, .b false)]) (H10 a0)) ?_
  refine .rk 5 fun K k => ?_; simp; refine k ?_
  refine .tt (L62 a1 ++ [(16, .b (decide (a0.Column < (-1))))]) (H10 a0) ?_
  replace h := isome h; rcases h with ⟨c11, h⟩ | ⟨c11, h⟩
  ·have c11_ : decide (a0.Column < (-1)) = true := decide_eq_true c11
   refine .sub (.bool 16 rfl c11_) ?_
   refine .st (mk 31 [] (L62 a1 ++ [(16, .b true)]) (H10 a0)) ?_
   refine .rk 15 fun K k => ?_; simp; refine k ?_
   refine .tt [(3, .b true)] [] ?_
   cases h
   exact .nil .tt
  have c11_ : decide (a0.Column < (-1)) = false := decide_eq_false c11
  refine .sub (.bool 16 rfl c11_) ?_
  refine .st (mk 31 [] (L63 a1) (H10 a0)) ?_
  refine .rk 4 fun K k => ?_; simp; refine k ?_
  refine .tt (L63 a1 ++ [(20, .b (a0.Column == (-1)))]) (H10 a0) ?_
  replace h := isome h; rcases h with ⟨c12, h⟩ | ⟨c12, h⟩
  ·have c12_ : (a0.Column == (-1)) = true := c12
   refine .sub (.bool 20 rfl c12_) ?_
   refine .st (mk 31 [] (L63 a1 ++ [(20, .b true)]) (H10 a0)) ?_
   refine .rk 6 fun K k => ?_; simp; refine k ?_
   refine .tt (L62 a1 ++ [(26, .b (!decide (a0.Function = (ByteArray.mk #[99, 111, 117, 110, 116]))))]) (H10 a0) ?_
   replace h := isome h; rcases h with ⟨c13, h⟩ | ⟨c13, h⟩
   ·have c13_ : (!decide (a0.Function = (ByteArray.mk #[99, 111, 117, 110, 116]))) = true := c13
    refine .sub (.bool 26 rfl c13_) ?_
    refine .st (mk 31 [] (L62 a1 ++ [(26, .b true)]) (H10 a0)) ?_
    refine .rk 5 fun K k => ?_; simp; refine k ?_
    refine .tt [(3, .b true)] [] ?_
    cases h
    exact .nil .tt
   have c13_ : (!decide (a0.Function = (ByteArray.mk #[99, 111, 117, 110, 116]))) = false := Bool.eq_false_iff.2 c13
   refine .sub (.bool 26 rfl c13_) ?_
   refine .st (mk 31 [] (L62 a1 ++ [(26, .b false)]) (H10 a0)) ?_
   refine .rk 2 fun K k => ?_; simp; refine k ?_
   refine .tt (L64 a1) (H10 a0) ?_
   replace h := bsome h; obtain ⟨r14, hr14, h⟩ := h
   refine .callL (d := 29) (p56 N a1 77 [.pim [.lit (.string a0.Function), .lit (.int .i64 a0.Column)]] (fun b0 => d77 N b0 a0) ent77 (fun b0 r h => p77 N b0 a0 r h) r14 hr14) (by simp) rfl rfl (by simp <;> rfl) (by simp <;> rfl) ent56 (by simp <;> rfl) ?_
   refine .st (mk 31 [] (L64 a1 ++ [(29, .b r14)]) (H10 a0)) ?_
   refine .rk 2 fun K k => ?_; simp; refine k ?_
   refine .tt [(3, .b r14)] [] ?_
   cases h
   exact .nil .tt
  have c12_ : (a0.Column == (-1)) = false := Bool.eq_false_iff.2 c12
  refine .sub (.bool 20 rfl c12_) ?_
  refine .st (mk 31 [] (L63 a1 ++ [(20, .b false)]) (H10 a0)) ?_
  refine .rk 8 fun K k => ?_; simp; refine k ?_
  refine .tt (L64 a1) (H10 a0) ?_
  replace h := bsome h; obtain ⟨r15, hr15, h⟩ := h
  refine .callL (d := 29) (p56 N a1 77 [.pim [.lit (.string a0.Function), .lit (.int .i64 a0.Column)]] (fun b0 => d77 N b0 a0) ent77 (fun b0 r h => p77 N b0 a0 r h) r15 hr15) (by simp) rfl rfl (by simp <;> rfl) (by simp <;> rfl) ent56 (by simp <;> rfl) ?_
  refine .st (mk 31 [] (L64 a1 ++ [(29, .b r15)]) (H10 a0)) ?_
  refine .rk 2 fun K k => ?_; simp; refine k ?_
  refine .tt [(3, .b r15)] [] ?_
  cases h
  exact .nil .tt
 clear hj
 refine .ret ?_
 cases h
 exact FinC.ret (by simp) (by simp)
def d105 (N : Nat) (a0 : (List S75)) (p1 : S75 → Option Bool) : Option Int :=
 bindO (β := Unit) (ρ := Int) (
  iterN (σ := Int) (ρ := (Out Unit Int)) (fun (v6 : Int) =>
   if v6 < (a0.length : Int) then (
    (idx a0 v6).bind fun x21 =>
    (p1 x21).bind fun r23 =>
    if r23 = true then (
     some (.inr (.ret v6))
    ) else
    (chkI (v6 + 1)).bind fun v25 =>
    some (.inl v25)
   ) else
   some (.inr (.go ()))
  ) N 0
 ) fun (_ : Unit) =>
 some (-1)
theorem p105 (N : Nat) (a0 : (List S75)) (g1 : Nat) (cs1 : List D) (p1 : S75 → Option Bool) (ent_1 : Rp.Enters Tryz.prog g1) (hp1 : ∀ a0 r, p1 a0 = some r → FunC Tryz.prog g1 ([.agg [.s a0.Function, .i a0.Column]] ++ cs1.map .d) (.b r)) (r : Int) (h : d105 N a0 p1 = some r) : FunC Tryz.prog 105 [.s75 a0, .fg g1 cs1] (.i r) := by
 unfold d105 at h
 refine FunC.enter 19 [(0, .s75 a0), (1, .fg g1 cs1)] (by simp) Tryz.func105 rfl (of_decide_eq_true rfl) rfl rfl ?_
 refine .seqR ?_
 refine .rk 1 fun K k => ?_; simp; refine k ?_
 refine .tt [(0, .s75 a0), (1, .fg g1 cs1)] [] ?_
 refine .nil (.seq (.seqR ?_))
 refine .rk 3 fun K k => ?_; simp; refine k ?_
 refine .tt [(0, .s75 a0), (1, .fg g1 cs1), (7, .i (a0.length : Int)), (8, .i 0)] [] ?_
 refine .nil ?_
 refine .lastJ (fun (_ : Unit) => mk 19 [] [] []) h ?_ ?_ <;> clear h
 ·intro o h
  refine .block ?_
  refine .iter (fun (v6 : Int) => mk 19 [] [(0, .s75 a0), (1, .fg g1 cs1), (7, .i (a0.length : Int)), (8, .i v6)] []) h Sub.tt ?_
  clear h
  rintro v6 x h
  refine .seqR ?_
  refine .rk 1 fun K k => ?_; simp; refine k ?_
  refine .tt [(0, .s75 a0), (1, .fg g1 cs1), (7, .i (a0.length : Int)), (8, .i v6), (9, .b (decide (v6 < (a0.length : Int))))] [] ?_
  refine .nil (.seq ?_)
  replace h := isome h; rcases h with ⟨c20, h⟩ | ⟨c20, h⟩
  ·have c20_ : decide (v6 < (a0.length : Int)) = true := decide_eq_true c20
   refine .condT rfl c20_ ?_
   refine .skip (thenQ_normal (.seq (.block (.seqR ?_))))
   refine .rk 2 fun K k => ?_; simp; refine k ?_
   refine .tt [(0, .s75 a0), (1, .fg g1 cs1), (5, .i v6), (7, .i (a0.length : Int)), (8, .i v6)] [] ?_
   refine .nil (.seqR ?_)
   replace h := bsome h; obtain ⟨x21, hx21, h⟩ := h
   obtain ⟨k22, hx21k, hx21, hx21a, hx21b⟩ := idx_some hx21
   refine .rk 5 fun K k => ?_; simp [hx21, hx21k, hx21a]; refine k ?_
   refine .tt [(0, .s75 a0), (1, .fg g1 cs1), (5, .i v6), (7, .i (a0.length : Int)), (8, .i v6), (11, .fg g1 cs1), (15, .agg [.s x21.Function, .i x21.Column])] [] ?_
   replace h := bsome h; obtain ⟨r23, hr23, h⟩ := h
   refine .callL (d := 16) (hp1 x21 r23 hr23) (by simp) rfl rfl (by simp <;> rfl) (by simp <;> rfl) ent_1 (by simp <;> rfl) ?_
   refine .st (mk 19 [] [(0, .s75 a0), (1, .fg g1 cs1), (5, .i v6), (7, .i (a0.length : Int)), (8, .i v6), (11, .fg g1 cs1), (15, .agg [.s x21.Function, .i x21.Column]), (16, .b r23)] []) ?_
   refine .nil ?_
   replace h := isome h; rcases h with ⟨c24, h⟩ | ⟨c24, h⟩
   ·have c24_ : r23 = true := c24
    refine .condT rfl c24_ ?_
    refine .seqR ?_
    refine .rk 2 fun K k => ?_; simp; refine k ?_
    refine .tt [(4, .i v6)] [] ?_
    refine .nil (.ret ?_)
    cases h
    refine blockQ.ret ?_
    refine thenQ_pass (by simp) ?_
    refine PostI.out (by simp) ?_
    rintro rfl
    refine blockQ.ret ?_
    refine PostJ.out (by simp) ?_
    rintro rfl
    refine thenQ_pass (by simp) ?_
    exact FinC.ret (by simp) (by simp)
   have c24_ : r23 = false := Bool.eq_false_iff.2 c24
   refine .condF rfl c24_ ?_
   refine .skip (blockQ.normal (thenQ_normal (.region ?_)))
   replace h := bsome h; obtain ⟨v25, hv25, h⟩ := h
   have hv25 := chkI_some hv25
   refine .rk 2 fun K k => ?_; simp [hv25]; refine k ?_
   refine .tt [(0, .s75 a0), (1, .fg g1 cs1), (7, .i (a0.length : Int)), (8, .i v25)] [] ?_
   refine .nil ?_
   cases h
   refine PostI.next ?_
   exact Sub.tt
  have c20_ : decide (v6 < (a0.length : Int)) = false := decide_eq_false c20
  refine .condF rfl c20_ ?_
  refine .exit ?_
  cases h
  refine thenQ_pass (by simp) ?_
  refine PostI.out (by simp) ?_
  rintro rfl
  refine blockQ.hit (PostJ.next ?_)
  exact Sub.tt
 rintro ⟨⟩ h
 refine thenQ_normal (.seqR ?_)
 refine .rk 1 fun K k => ?_; simp; refine k ?_
 refine .tt [(4, .i (-1))] [] ?_
 refine .nil (.ret ?_)
 cases h
 exact FinC.ret (by simp) (by simp)
def d74 (N : Nat) (a0 : (List S75)) (p1 : S75 → Option Bool) : Option Bool :=
 (d105 N a0 p1).bind fun r1 =>
 some (decide (r1 ≥ 0))
theorem p74 (N : Nat) (a0 : (List S75)) (g1 : Nat) (cs1 : List D) (p1 : S75 → Option Bool) (ent_1 : Rp.Enters Tryz.prog g1) (hp1 : ∀ a0 r, p1 a0 = some r → FunC Tryz.prog g1 ([.agg [.s a0.Function, .i a0.Column]] ++ cs1.map .d) (.b r)) (r : Bool) (h : d74 N a0 p1 = some r) : FunC Tryz.prog 74 [.s75 a0, .fg g1 cs1] (.b r) := by
 unfold d74 at h
 refine FunC.enter 9 [(0, .s75 a0), (1, .fg g1 cs1)] (by simp) Tryz.func74 rfl (of_decide_eq_true rfl) rfl rfl ?_
 refine .seqR ?_
 refine .rk 1 fun K k => ?_; simp; refine k ?_
 refine .tt [(0, .s75 a0), (1, .fg g1 cs1)] [] ?_
 refine .nil (.seqR ?_)
 refine .rk 2 fun K k => ?_; simp; refine k ?_
 refine .tt [(5, .s75 a0), (6, .fg g1 cs1)] [] ?_
 replace h := bsome h; obtain ⟨r1, hr1, h⟩ := h
 refine .callL (d := 7) (p105 N a0 g1 cs1 p1 ent_1 hp1 r1 hr1) (by simp) rfl rfl (by simp <;> rfl) (by simp <;> rfl) ent105 (by simp <;> rfl) ?_
 refine .st (mk 9 [] [(5, .s75 a0), (6, .fg g1 cs1), (7, .i r1)] []) ?_
 refine .rk 2 fun K k => ?_; simp; refine k ?_
 refine .tt [(4, .b (decide (r1 ≥ 0)))] [] ?_
 refine .nil (.ret ?_)
 cases h
 exact FinC.ret (by simp) (by simp)
def d32 (N : Nat) (a0 : (List (List S61))) (a1 : (List S75)) : Option Bool :=
 (d74 N a1 (fun b0 => d75 N b0 a0)).bind fun r1 =>
 some (!r1)
theorem p32 (N : Nat) (a0 : (List (List S61))) (a1 : (List S75)) (r : Bool) (h : d32 N a0 a1 = some r) : FunC Tryz.prog 32 [.ls61 a0, .s75 a1] (.b r) := by
 unfold d32 at h
 refine FunC.enter 9 [(0, .ls61 a0), (1, .s75 a1)] (by simp) Tryz.func32 rfl (of_decide_eq_true rfl) rfl rfl ?_
 refine .seqR ?_
 refine .rk 2 fun K k => ?_; simp; refine k ?_
 refine .tt [(1, .s75 a1), (2, .ptr 2 0 0)] [(2, some (.box [.ls61 a0]))] ?_
 refine .nil (.seqR ?_)
 refine .rk 2 fun K k => ?_; simp; refine k ?_
 refine .tt [(5, .s75 a1), (6, .fn (.func 75) [.ptr 2 0 0])] [(2, some (.box [.ls61 a0]))] ?_
 replace h := bsome h; obtain ⟨r1, hr1, h⟩ := h
 refine .callL (d := 7) (p74 N a1 75 [.pim [.sl (a0.map (cL cS61))]] (fun b0 => d75 N b0 a0) ent75 (fun b0 r h => p75 N b0 a0 r h) r1 hr1) (by simp) rfl rfl (by simp <;> rfl) (by simp <;> rfl) ent74 (by simp <;> rfl) ?_
 refine .st (mk 9 [] [(5, .s75 a1), (6, .fn (.func 75) [.ptr 2 0 0]), (7, .b r1)] [(2, some (.box [.ls61 a0]))]) ?_
 refine .rk 2 fun K k => ?_; simp; refine k ?_
 refine .tt [(4, .b (!r1))] [] ?_
 refine .nil (.ret ?_)
 cases h
 exact FinC.ret (by simp) (by simp)
end Go.Proofs.YtimkkjiplioohaaGreatDoor
