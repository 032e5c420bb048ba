/- Functions of the program as functional programs; the code computes them. -/
import Derived.Test.YtimkkjiplioohaaGreatDoorSt10
namespace Go.Proofs.YtimkkjiplioohaaGreatDoor
open Go.Ab Go.Rp
attribute [-simp] List.all_eq_true Array.all_toList Array.all_eq_true

/-- stemma/extsort.TopN -/
def d41 (N : Nat) (a0 : (List (List S61))) (a1 : S65) (a2 : Int) : Option ((List (List S61)) × Int) :=
 (d31 N a0 a1 2).bind fun r1 =>
 if (r1 != 0) then (
  some (([] : List (List S61)), r1)
 ) else
 Option.bind (α := Bool) (
  if a2 < 0 then (
   some true
  ) else
  some (decide (a2 > 64))
 ) fun (v4 : Bool) =>
 if v4 = true then (
  some (([] : List (List S61)), 1)
 ) else
 Option.bind (α := List (List S61)) (
  iterN (σ := ((List (List S61)) × Int)) (ρ := List (List S61)) (fun ((l73, v74) : ((List (List S61)) × Int)) =>
   if v74 < (a0.length : Int) then (
    (idx a0 v74).bind fun x213 =>
    Option.bind (α := Int) (
     iterN (σ := Int) (ρ := Int) (fun (v228 : Int) =>
      Option.bind (α := Bool) (
       if v228 > 0 then (
        (chkI (v228 - 1)).bind fun v264 =>
        (idx l73 v264).bind fun x265 =>
        (d70 N x213 x265 a1).bind fun r267 =>
        some (decide (r267 < 0))
       ) else
       some false
      ) fun (v262 : Bool) =>
      if v262 = true then (
       (chkI (v228 - 1)).bind fun v269 =>
       some (.inl v269)
      ) else
      some (.inr v228)
     ) N (l73.length : Int)
    ) fun (v256 : Int) =>
    if v256 < a2 then (
     (d39 N x213).bind fun r271 =>
     letv ([r271] : List (List S61)) fun l272 =>
     (d87 N l73 v256 l272).bind fun l273 =>
     letv (minI (l273.length : Int) a2) fun v274 =>
     (natI v274 l273.length).bind fun n275 =>
     letv (l273.take n275) fun l276 =>
     (chkI (v74 + 1)).bind fun v277 =>
     some (.inl (l276, v277))
    ) else
    (chkI (v74 + 1)).bind fun v278 =>
    some (.inl (l73, v278))
   ) else
   some (.inr l73)
  ) N (([] : List (List S61)), 0)
 ) fun (l211 : List (List S61)) =>
 some (l211, 0)
set_option maxRecDepth 100000 in
set_option maxHeartbeats 4000000 in
theorem p41 (N : Nat) (a0 : (List (List S61))) (a1 : S65) (a2 : Int) (r : ((List (List S61)) × Int)) (h : d41 N a0 a1 a2 = some r) : FunC Tryz.prog 41 [.d (.sl (a0.map (cL cS61))), .agg [.d (.sl (a1.Columns.map (cI .i64))), .d (.sl (a1.Descending.map cB))], .i a2] (.tup [.d (.sl (r.1.map (cL cS61))), .i r.2]) := by
 unfold d41 at h
 refine FunC.enter 65 [(0, .d (.sl (a0.map (cL cS61)))), (1, .agg [.d (.sl (a1.Columns.map (cI .i64))), .d (.sl (a1.Descending.map cB))]), (2, .i a2)] (by simp) Tryz.func41 rfl (of_decide_eq_true rfl) rfl rfl ?_
 refine .seqR ?_
 refine .runK [] 3 fun K k => ?_; simp; refine k _ _ ?_; clear k K
 refine .tt (L11 a0 a2) (H2 a1) ?_
 refine .nil ?_
 refine .seq ?_
 refine .seqR ?_
 refine .runK [] 2 fun K k => ?_; simp; refine k _ _ ?_; clear k K
 refine .tt (L11 a0 a2 ++ [(13, .d (.sl (a0.map (cL cS61)))), (14, .agg [.d (.sl (a1.Columns.map (cI .i64))), .d (.sl (a1.Descending.map cB))])]) (H2 a1) ?_
 replace h := bsome h; obtain ⟨r1, hr1, h⟩ := h
 refine .callL (d := 15) (p31 N a0 a1 2 r1 hr1) (by simp) rfl rfl (by simp <;> rfl) (by simp <;> rfl) ent31 (by simp <;> rfl) ?_
 refine .st (mk 65 [] (L11 a0 a2 ++ [(13, .d (.sl (a0.map (cL cS61)))), (14, .agg [.d (.sl (a1.Columns.map (cI .i64))), .d (.sl (a1.Descending.map cB))]), (15, .i r1)]) (H2 a1)) ?_
 refine .runK [] 1 fun K k => ?_; simp; refine k _ _ ?_; clear k K
 refine .tt (L20 a0 a2 r1) (H2 a1) ?_
 refine .nil ?_
 refine .seqR ?_
 refine .runK [] 2 fun K k => ?_; simp; refine k _ _ ?_; clear k K
 refine .tt (L20 a0 a2 r1 ++ [(17, .b (r1 != 0))]) (H2 a1) ?_
 refine .nil ?_
 replace h := isome h; rcases h with ⟨c2, h⟩ | ⟨c2, h⟩
 ·have c2_ : (r1 != 0) = true := c2
  refine .condT (b := (r1 != 0)) rfl c2_ ?_
  refine .sub (.bool 17 (b := (r1 != 0)) rfl c2_) ?_
  refine .st (mk 65 [] (L20 a0 a2 r1 ++ [(17, .b true)]) (H2 a1)) ?_
  refine .seqR ?_
  refine .runK [] 3 fun K k => ?_; simp; refine k _ _ ?_; clear k K
  refine .tt [(6, .d (.lit (.slice none 0 0))), (7, .i r1)] [] ?_
  refine .nil ?_
  refine .sub (.wk 6 rfl) ?_
  refine .st (mk 65 [] [(6, .d (.sl (([] : List (List S61)).map (cL cS61)))), (7, .i r1)] []) ?_
  refine .ret ?_
  cases h
  refine thenQ_pass (by simp) ?_
  exact FinC.ret (by simp) (by simp)
 have c2_ : (r1 != 0) = false := Bool.eq_false_iff.2 c2
 refine .condF (b := (r1 != 0)) rfl c2_ ?_
 refine .sub (.bool 17 (b := (r1 != 0)) rfl c2_) ?_
 refine .st (mk 65 [] (L20 a0 a2 r1 ++ [(17, .b false)]) (H2 a1)) ?_
 refine .skip ?_
 refine thenQ_normal ?_
 refine .seq ?_
 replace h := bsome h; obtain ⟨v4, hj, h⟩ := h
 refine .cutR (mk 65 [] (L11 a0 a2 ++ [(24, .b v4)]) (H2 a1)) ?_ ?_
 ·clear h; have h := hj; clear hj
  refine .runK [] 3 fun K k => ?_; simp; refine k _ _ ?_; clear k K
  refine .tt (L11 a0 a2 ++ [(21, .b (decide (a2 < 0)))]) (H2 a1) ?_
  replace h := isome h; rcases h with ⟨c5, h⟩ | ⟨c5, h⟩
  ·have c5_ : decide (a2 < 0) = true := decide_eq_true c5
   refine .sub (.bool 21 (b := decide (a2 < 0)) rfl c5_) ?_
   refine .st (mk 65 [] (L11 a0 a2 ++ [(21, .b true)]) (H2 a1)) ?_
   refine .runK [] 3 fun K k => ?_; simp; refine k _ _ ?_; clear k K
   refine .tt (L11 a0 a2 ++ [(24, .b true)]) (H2 a1) ?_
   cases h
   exact .nil .tt
  have c5_ : decide (a2 < 0) = false := decide_eq_false c5
  refine .sub (.bool 21 (b := decide (a2 < 0)) rfl c5_) ?_
  refine .st (mk 65 [] (L11 a0 a2 ++ [(21, .b false)]) (H2 a1)) ?_
  refine .runK [] 3 fun K k => ?_; simp; refine k _ _ ?_; clear k K
  refine .tt (L11 a0 a2 ++ [(24, .b (decide (a2 > 64)))]) (H2 a1) ?_
  cases h
  exact .nil .tt
 clear hj
 replace h := isome h; rcases h with ⟨c6, h⟩ | ⟨c6, h⟩
 ·have c6_ : v4 = true := c6
  refine .condT (b := v4) rfl c6_ ?_
  refine .sub (.bool 24 (b := v4) rfl c6_) ?_
  refine .st (mk 65 [] (L11 a0 a2 ++ [(24, .b true)]) (H2 a1)) ?_
  refine .seqR ?_
  refine .runK [] 2 fun K k => ?_; simp; refine k _ _ ?_; clear k K
  refine .tt [(6, .d (.lit (.slice none 0 0))), (7, .i 1)] [] ?_
  refine .nil ?_
  refine .sub (.wk 6 rfl) ?_
  refine .st (mk 65 [] [(6, .d (.sl (([] : List (List S61)).map (cL cS61)))), (7, .i 1)] []) ?_
  refine .ret ?_
  cases h
  refine thenQ_pass (by simp) ?_
  exact FinC.ret (by simp) (by simp)
 have c6_ : v4 = false := Bool.eq_false_iff.2 c6
 refine .condF (b := v4) rfl c6_ ?_
 refine .sub (.bool 24 (b := v4) rfl c6_) ?_
 refine .st (mk 65 [] (L11 a0 a2 ++ [(24, .b false)]) (H2 a1)) ?_
 refine .skip ?_
 refine thenQ_normal ?_
 refine .seqR ?_
 refine .runK [] 1 fun K k => ?_; simp; refine k _ _ ?_; clear k K
 refine .tt (L11 a0 a2 ++ [(9, .d (.lit (.slice none 0 0)))]) (H2 a1) ?_
 refine .nil ?_
 refine .seq ?_
 refine .seqR ?_
 refine .runK [] 3 fun K k => ?_; simp; refine k _ _ ?_; clear k K
 refine .tt [(2, .i a2), (4, .ptr 4 0 0), (9, .d (.lit (.slice none 0 0))), (25, .d (.sl (a0.map (cL cS61)))), (26, .i (a0.length : Int)), (27, .i 0)] (H2 a1) ?_
 refine .nil ?_
 refine .lastN (fun (l211 : List (List S61)) => mk 65 [] [(9, .ref 951 0 l211.length)] [(951, R57 l211)]) h ?_ ?_ <;> clear h
 ·intro o h
  refine .block ?_
  refine .iter (fun ((l73, v74) : ((List (List S61)) × Int)) => mk 65 [] (L46 a2 l73.length a0 a0.length v74) (H4 a1 l73)) h (Sub.trans (Sub.nilOwn (t := 9) (id := 951) (T := 57) (n := 1) rfl rfl (by decide)) (by simp; exact Sub.tt)) ?_
  clear h
  rintro ⟨l73, v74⟩ x h
  dsimp only at h ⊢
  refine .seqR ?_
  refine .runK [] 1 fun K k => ?_; simp; refine k _ _ ?_; clear k K
  refine .tt (L46 a2 l73.length a0 a0.length v74 ++ [(28, .b (decide (v74 < (a0.length : Int))))]) (H4 a1 l73) ?_
  refine .nil ?_
  refine .seq ?_
  replace h := isome h; rcases h with ⟨c212, h⟩ | ⟨c212, h⟩
  ·have c212_ : decide (v74 < (a0.length : Int)) = true := decide_eq_true c212
   refine .condT (b := decide (v74 < (a0.length : Int))) rfl c212_ ?_
   refine .sub (.bool 28 (b := decide (v74 < (a0.length : Int))) rfl c212_) ?_
   refine .st (mk 65 [] (L46 a2 l73.length a0 a0.length v74 ++ [(28, .b true)]) (H4 a1 l73)) ?_
   refine .skip ?_
   refine thenQ_normal ?_
   refine .seq ?_
   refine .block ?_
   refine .seqR ?_
   replace h := bsome h; obtain ⟨x213, hx213, h⟩ := h
   obtain ⟨k214, hx213k, hx213, hx213a, hx213b⟩ := idx_some hx213
   refine .runK [] 3 fun K k => ?_; simp [hx213, hx213k, hx213a]; refine k _ _ ?_; clear k K
   refine .tt [(2, .i a2), (4, .ptr 4 0 0), (9, .ref 951 0 l73.length), (11, .d (.sl (x213.map cS61))), (25, .d (.sl (a0.map (cL cS61)))), (26, .i (a0.length : Int)), (27, .i v74)] (H4 a1 l73) ?_
   refine .nil ?_
   refine .seqR ?_
   refine .runK [] 3 fun K k => ?_; simp; refine k _ _ ?_; clear k K
   refine .tt [(2, .i a2), (4, .ptr 4 0 0), (9, .ref 951 0 l73.length), (11, .d (.sl (x213.map cS61))), (12, .i (l73.length : Int)), (25, .d (.sl (a0.map (cL cS61)))), (26, .i (a0.length : Int)), (27, .i v74)] (H4 a1 l73) ?_
   refine .nil ?_
   refine .seqN (fun (v256 : Int) => mk 65 [] (L47 a2 l73.length x213 v256 a0 a0.length v74) (H4 a1 l73)) h ?_ ?_ <;> clear h
   ·intro o h
    refine .block ?_
    refine .iter (fun (v228 : Int) => mk 65 [] (L47 a2 l73.length x213 v228 a0 a0.length v74) (H4 a1 l73)) h Sub.tt ?_
    clear h
    rintro v228 x h
    refine .seq ?_
    replace h := bsome h; obtain ⟨v262, hj, h⟩ := h
    refine .cutQ (by kernel_rfl) (by kernel_rfl) (mk 65 [] (L47 a2 l73.length x213 v228 a0 a0.length v74 ++ [(45, .b v262)]) (H4 a1 l73)) ?_ ?_
    ·clear h; have h := hj; clear hj
     refine .runQ 3 fun K k => ?_; simp; refine k _ _ ?_; clear k K
     refine .tt (L47 a2 l73.length x213 v228 a0 a0.length v74 ++ [(35, .b (decide (v228 > 0)))]) (H4 a1 l73) ?_
     replace h := isome h; rcases h with ⟨c263, h⟩ | ⟨c263, h⟩
     ·have c263_ : decide (v228 > 0) = true := decide_eq_true c263
      refine .sub (.bool 35 (b := decide (v228 > 0)) rfl c263_) ?_
      refine .st (mk 65 [] (L48 a2 l73.length x213 v228 a0 a0.length v74) (H4 a1 l73)) ?_
      replace h := bsome h; obtain ⟨v264, hv264, h⟩ := h
      have hv264 := chkI_some hv264
      replace h := bsome h; obtain ⟨x265, hx265, h⟩ := h
      obtain ⟨k266, hx265k, hx265, hx265a, hx265b⟩ := idx_some hx265
      refine .runQ 7 fun K k => ?_; simp [hv264, hx265, hx265k, hx265a, hx265b]; refine k _ _ ?_; clear k K
      refine .tt (L48 a2 l73.length x213 v228 a0 a0.length v74 ++ [(36, .d (.sl (x213.map cS61))), (37, .ref 951 0 l73.length), (38, .i v228), (39, .i v264), (40, .ptr 951 k266 0), (41, .d (.sl (x265.map cS61))), (42, .agg [.d (.sl (a1.Columns.map (cI .i64))), .d (.sl (a1.Descending.map cB))])]) (H4 a1 l73) ?_
      replace h := bsome h; obtain ⟨r267, hr267, h⟩ := h
      refine .callL (d := 43) (p70 N x213 x265 a1 r267 hr267) (by simp) rfl rfl (by simp <;> rfl) (by simp <;> rfl) ent70 (by simp <;> rfl) ?_
      refine .st (mk 65 [] (L48 a2 l73.length x213 v228 a0 a0.length v74 ++ [(36, .d (.sl (x213.map cS61))), (37, .ref 951 0 l73.length), (38, .i v228), (39, .i v264), (40, .ptr 951 k266 0), (41, .d (.sl (x265.map cS61))), (42, .agg [.d (.sl (a1.Columns.map (cI .i64))), .d (.sl (a1.Descending.map cB))]), (43, .i r267)]) (H4 a1 l73)) ?_
      refine .runQ 2 fun K k => ?_; simp; refine k _ _ ?_; clear k K
      refine .tt (L47 a2 l73.length x213 v228 a0 a0.length v74 ++ [(36, .d (.sl (x213.map cS61))), (37, .ref 951 0 l73.length), (38, .i v228), (39, .i v264), (40, .ptr 951 k266 0), (41, .d (.sl (x265.map cS61))), (42, .agg [.d (.sl (a1.Columns.map (cI .i64))), .d (.sl (a1.Descending.map cB))]), (43, .i r267), (44, .b (decide (r267 < 0))), (45, .b (decide (r267 < 0)))]) (H4 a1 l73) ?_
      cases h
      exact .nil .tt
     have c263_ : decide (v228 > 0) = false := decide_eq_false c263
     refine .sub (.bool 35 (b := decide (v228 > 0)) rfl c263_) ?_
     refine .st (mk 65 [] (L47 a2 l73.length x213 v228 a0 a0.length v74 ++ [(35, .b false)]) (H4 a1 l73)) ?_
     refine .runQ 10 fun K k => ?_; simp; refine k _ _ ?_; clear k K
     refine .tt (L47 a2 l73.length x213 v228 a0 a0.length v74 ++ [(36, .tup []), (37, .tup []), (38, .tup []), (39, .tup []), (40, .tup []), (41, .tup []), (42, .tup []), (43, .tup []), (44, .tup []), (45, .b false)]) (H4 a1 l73) ?_
     cases h
     exact .nil .tt
    clear hj
    replace h := isome h; rcases h with ⟨c268, h⟩ | ⟨c268, h⟩
    ·have c268_ : v262 = true := c268
     refine .condT (b := v262) rfl c268_ ?_
     refine .sub (.bool 45 (b := v262) rfl c268_) ?_
     refine .st (mk 65 [] (L47 a2 l73.length x213 v228 a0 a0.length v74 ++ [(45, .b true)]) (H4 a1 l73)) ?_
     refine .skip ?_
     refine thenQ_normal ?_
     refine .block ?_
     refine .region ?_
     replace h := bsome h; obtain ⟨v269, hv269, h⟩ := h
     have hv269 := chkI_some hv269
     refine .runK [] 3 fun K k => ?_; simp [hv269]; refine k _ _ ?_; clear k K
     refine .tt (L47 a2 l73.length x213 v269 a0 a0.length v74) (H4 a1 l73) ?_
     refine .nil ?_
     cases h
     refine blockQ.normal ?_
     refine PostI.next ?_
     exact Sub.tt
    have c268_ : v262 = false := Bool.eq_false_iff.2 c268
    refine .condF (b := v262) rfl c268_ ?_
    refine .sub (.bool 45 (b := v262) rfl c268_) ?_
    refine .st (mk 65 [] (L47 a2 l73.length x213 v228 a0 a0.length v74 ++ [(45, .b false)]) (H4 a1 l73)) ?_
    refine .exit ?_
    cases h
    refine thenQ_pass (by simp) ?_
    refine PostI.out (by simp) ?_
    rintro rfl
    refine blockQ.hit ?_
    refine PostN.next ?_
    exact Sub.tt
   rintro v256 h
   refine .seqR ?_
   refine .runK [] 3 fun K k => ?_; simp; refine k _ _ ?_; clear k K
   refine .tt (L47 a2 l73.length x213 v256 a0 a0.length v74 ++ [(50, .b (decide (v256 < a2)))]) (H4 a1 l73) ?_
   refine .nil ?_
   replace h := isome h; rcases h with ⟨c270, h⟩ | ⟨c270, h⟩
   ·have c270_ : decide (v256 < a2) = true := decide_eq_true c270
    refine .condT (b := decide (v256 < a2)) rfl c270_ ?_
    refine .sub (.bool 50 (b := decide (v256 < a2)) rfl c270_) ?_
    refine .st (mk 65 [] (L47 a2 l73.length x213 v256 a0 a0.length v74 ++ [(50, .b true)]) (H4 a1 l73)) ?_
    refine .seqR ?_
    refine .runK [] 3 fun K k => ?_; simp; refine k _ _ ?_; clear k K
    refine .tt (L49 a2 a0 a0.length v74 l73.length v256 x213) (H4 a1 l73) ?_
    replace h := bsome h; obtain ⟨r271, hr271, h⟩ := h
    refine .callC (d := 54) (p39 N x213 r271 hr271) (by simp) rfl rfl (by simp <;> rfl) (by simp <;> rfl) ent39 (by simp) (.inl ⟨by simp, by simp⟩) ?_
    refine .st (mk 65 [] (L49 a2 a0 a0.length v74 l73.length v256 x213 ++ [(54, .d (.sl (r271.map cS61)))]) (H4 a1 l73)) ?_
    refine .runK [] 1 fun K k => ?_; simp; refine k _ _ ?_; clear k K
    refine .sub (.wkRow 55 rfl) ?_
    replace h := lsome h; obtain ⟨l272, hl272, h⟩ := h
    refine .sub (S' := mk 65 [] (L49 a2 a0 a0.length v74 l73.length v256 x213 ++ [(54, .d (.sl (r271.map cS61))), (55, .ref 55 0 l272.length)]) [(4, some (.box [.d (.sl (a1.Columns.map (cI .i64))), .d (.sl (a1.Descending.map cB))])), (55, R57 l272), (951, R57 l73)]) (by simp; subst hl272; exact Sub.table (by simp) (by simp)) ?_
    replace h := bsome h; obtain ⟨l273, hl273, h⟩ := h
    refine .callF (p87 N l73 v256 l272 l273 hl273) [(951, 1000), (55, 1001)] [] [(1000, 951)] [(951, .arr 57 1 (l273.map (cL cS61)))] (.ref 951 0 l273.length) (by simp) rfl (by simp <;> rfl) (by simp) (by simp) (by simp) (by simp) (by simp) ent87 (by simp) (by simp) (by simp) (by simp) (by simp) (by simp) ?_
    refine .st (mk 65 [] (L50 a2 a0 a0.length v74 ++ [(52, .i v256), (53, .d (.sl (x213.map cS61))), (54, .d (.sl (r271.map cS61))), (56, .ref 951 0 l273.length)]) (H4 a1 l273)) ?_
    refine .runK [] 1 fun K k => ?_; simp; refine k _ _ ?_; clear k K
    refine .tt (L46 a2 l273.length a0 a0.length v74) (H4 a1 l273) ?_
    refine .nil ?_
    refine .region ?_
    replace h := lsome h; obtain ⟨v274, hv274, h⟩ := h
    unfold minI at hv274
    try simp only [Int.ofNat_lt] at hv274
    replace h := bsome h; obtain ⟨n275, gn275, h⟩ := h
    obtain ⟨hn275a, hn275⟩ := natI_some gn275
    clear gn275
    subst hn275a
    refine .runK [] 6 fun K k => ?_; simp [hv274, hn275]; refine k _ _ ?_; clear k K
    refine .tt (L50 a2 a0 a0.length v74 ++ [(62, .ref 951 0 n275)]) (H4 a1 l273) ?_
    replace h := lsome h; obtain ⟨l276, gl276, h⟩ := h
    have hl276k : n275 = l276.length := by rw [← gl276, List.length_take]; omega
    subst hl276k
    have hl276 : (l273.map (cL cS61)).take l276.length = l276.map (cL cS61) := by rw [← List.map_take, gl276]
    clear gl276
    refine .sub (.cut 951 l276.length rfl) ?_
    refine .sub (S' := mk 65 [] (L50 a2 a0 a0.length v74 ++ [(62, .ref 951 0 l276.length)]) (H4 a1 l276)) (by simp [hl276]; exact Sub.table (by simp) (by simp)) ?_
    refine .runK [] 1 fun K k => ?_; simp; refine k _ _ ?_; clear k K
    refine .tt (L46 a2 l276.length a0 a0.length v74) (H4 a1 l276) ?_
    refine .nil ?_
    refine blockQ.normal ?_
    refine thenQ_normal ?_
    refine .region ?_
    replace h := bsome h; obtain ⟨v277, hv277, h⟩ := h
    have hv277 := chkI_some hv277
    refine .runK [] 2 fun K k => ?_; simp [hv277]; refine k _ _ ?_; clear k K
    refine .tt (L46 a2 l276.length a0 a0.length v277) (H4 a1 l276) ?_
    refine .nil ?_
    cases h
    refine PostI.next ?_
    exact Sub.tt
   have c270_ : decide (v256 < a2) = false := decide_eq_false c270
   refine .condF (b := decide (v256 < a2)) rfl c270_ ?_
   refine .sub (.bool 50 (b := decide (v256 < a2)) rfl c270_) ?_
   refine .st (mk 65 [] (L47 a2 l73.length x213 v256 a0 a0.length v74 ++ [(50, .b false)]) (H4 a1 l73)) ?_
   refine .skip ?_
   refine blockQ.normal ?_
   refine thenQ_normal ?_
   refine .region ?_
   replace h := bsome h; obtain ⟨v278, hv278, h⟩ := h
   have hv278 := chkI_some hv278
   refine .runK [] 2 fun K k => ?_; simp [hv278]; refine k _ _ ?_; clear k K
   refine .tt (L46 a2 l73.length a0 a0.length v278) (H4 a1 l73) ?_
   refine .nil ?_
   cases h
   refine PostI.next ?_
   exact Sub.tt
  have c212_ : decide (v74 < (a0.length : Int)) = false := decide_eq_false c212
  refine .condF (b := decide (v74 < (a0.length : Int))) rfl c212_ ?_
  refine .sub (.bool 28 (b := decide (v74 < (a0.length : Int))) rfl c212_) ?_
  refine .st (mk 65 [] (L46 a2 l73.length a0 a0.length v74 ++ [(28, .b false)]) (H4 a1 l73)) ?_
  refine .exit ?_
  cases h
  refine thenQ_pass (by simp) ?_
  refine PostI.out (by simp) ?_
  rintro rfl
  refine blockQ.hit ?_
  refine PostN.next ?_
  exact Sub.tt
 rintro l211 h
 refine thenQ_normal ?_
 refine .seqR ?_
 refine .runK [] 3 fun K k => ?_; simp; refine k _ _ ?_; clear k K
 refine .tt [(6, .ref 951 0 l211.length), (7, .i 0)] [(951, R57 l211)] ?_
 refine .nil ?_
 refine .sub (.freeze 951 rfl) ?_
 refine .st (mk 65 [] [(6, .d (.sl (l211.map (cL cS61)))), (7, .i 0)] []) ?_
 refine .ret ?_
 cases h
 exact FinC.ret (by simp) (by simp)
/-- stemma/stemref3.SameRow -/
def d34 (N : Nat) (a0 : (List S61)) (a1 : (List S61)) : Option Bool :=
 if ((a0.length : Int) != (a1.length : Int)) then (
  some false
 ) else
 bindO (β := Unit) (ρ := Bool) (
  iterN (σ := Int) (ρ := (Out Unit Bool)) (fun (v7 : Int) =>
   if v7 < (a0.length : Int) then (
    (idx a0 v7).bind fun x22 =>
    (idx a1 v7).bind fun x24 =>
    if (!beqS61 x22 x24) = true then (
     some (.inr (.ret false))
    ) else
    (chkI (v7 + 1)).bind fun v26 =>
    some (.inl v26)
   ) else
   some (.inr (.go ()))
  ) N 0
 ) fun (_ : Unit) =>
 some true
set_option maxRecDepth 100000 in
set_option maxHeartbeats 4000000 in
theorem p34 (N : Nat) (a0 : (List S61)) (a1 : (List S61)) (r : Bool) (h : d34 N a0 a1 = some r) : FunC Tryz.prog 34 [.d (.sl (a0.map cS61)), .d (.sl (a1.map cS61))] (.b r) := by
 unfold d34 at h
 refine FunC.enter 26 [(0, .d (.sl (a0.map cS61))), (1, .d (.sl (a1.map cS61)))] (by simp) Tryz.func34 rfl (of_decide_eq_true rfl) rfl rfl ?_
 refine .seqR ?_
 refine .runK [] 1 fun K k => ?_; simp; refine k _ _ ?_; clear k K
 refine .tt [(0, .d (.sl (a0.map cS61))), (1, .d (.sl (a1.map cS61)))] [] ?_
 refine .nil ?_
 refine .seq ?_
 refine .seqR ?_
 refine .runK [] 5 fun K k => ?_; simp; refine k _ _ ?_; clear k K
 refine .tt (L2 a0 a1 ++ [(10, .b ((a0.length : Int) != (a1.length : Int)))]) [] ?_
 refine .nil ?_
 replace h := isome h; rcases h with ⟨c1, h⟩ | ⟨c1, h⟩
 ·have c1_ : ((a0.length : Int) != (a1.length : Int)) = true := c1
  refine .condT (b := ((a0.length : Int) != (a1.length : Int))) rfl c1_ ?_
  refine .sub (.bool 10 (b := ((a0.length : Int) != (a1.length : Int))) rfl c1_) ?_
  refine .st (mk 26 [] (L2 a0 a1 ++ [(10, .b true)]) []) ?_
  refine .seqR ?_
  refine .runK [] 1 fun K k => ?_; simp; refine k _ _ ?_; clear k K
  refine .tt [(4, .b false)] [] ?_
  refine .nil ?_
  refine .ret ?_
  cases h
  refine thenQ_pass (by simp) ?_
  exact FinC.ret (by simp) (by simp)
 have c1_ : ((a0.length : Int) != (a1.length : Int)) = false := Bool.eq_false_iff.2 c1
 refine .condF (b := ((a0.length : Int) != (a1.length : Int))) rfl c1_ ?_
 refine .sub (.bool 10 (b := ((a0.length : Int) != (a1.length : Int))) rfl c1_) ?_
 refine .st (mk 26 [] (L2 a0 a1 ++ [(10, .b false)]) []) ?_
 refine .skip ?_
 refine thenQ_normal ?_
 refine .seq ?_
 refine .seqR ?_
 refine .runK [] 3 fun K k => ?_; simp; refine k _ _ ?_; clear k K
 refine .tt (L2 a0 a1 ++ [(12, .i (a0.length : Int)), (13, .i 0)]) [] ?_
 refine .nil ?_
 refine .lastJ (fun (_ : Unit) => mk 26 [] [] []) h ?_ ?_ <;> clear h
 ·intro o h
  refine .block ?_
  refine .iter (fun (v7 : Int) => mk 26 [] (L51 a0 a1 a0.length v7) []) h Sub.tt ?_
  clear h
  rintro v7 x h
  refine .seqR ?_
  refine .runK [] 1 fun K k => ?_; simp; refine k _ _ ?_; clear k K
  refine .tt (L51 a0 a1 a0.length v7 ++ [(14, .b (decide (v7 < (a0.length : Int))))]) [] ?_
  refine .nil ?_
  refine .seq ?_
  replace h := isome h; rcases h with ⟨c21, h⟩ | ⟨c21, h⟩
  ·have c21_ : decide (v7 < (a0.length : Int)) = true := decide_eq_true c21
   refine .condT (b := decide (v7 < (a0.length : Int))) rfl c21_ ?_
   refine .sub (.bool 14 (b := decide (v7 < (a0.length : Int))) rfl c21_) ?_
   refine .st (mk 26 [] (L51 a0 a1 a0.length v7 ++ [(14, .b true)]) []) ?_
   refine .skip ?_
   refine thenQ_normal ?_
   refine .seq ?_
   refine .block ?_
   refine .seqR ?_
   refine .runK [] 2 fun K k => ?_; simp; refine k _ _ ?_; clear k K
   refine .tt (L2 a0 a1 ++ [(5, .i v7), (12, .i (a0.length : Int)), (13, .i v7)]) [] ?_
   refine .nil ?_
   refine .seqQ (by kernel_rfl) (by kernel_rfl) ?_
   replace h := bsome h; obtain ⟨x22, hx22, h⟩ := h
   obtain ⟨k23, hx22k, hx22, hx22a, hx22b⟩ := idx_some hx22
   replace h := bsome h; obtain ⟨x24, hx24, h⟩ := h
   obtain ⟨hx24, hx24a, hx24b⟩ := idx_some2 hx24 hx22k
   refine .runQ 8 fun K k => ?_; simp [hx22, hx22a, hx24, hx22k]; refine k _ _ ?_; clear k K
   refine .tt (L52 a0 a1 a0.length v7 x22.Kind x22.Int x22.Text x24.Kind x24.Int x24.Text) [] ?_
   refine .pureP (by simp) (pure_eqA true rfl rfl rfl rfl (by kernel_rfl) (eqv61 x22 x24)) ?_
   refine .st (mk 26 [] (L52 a0 a1 a0.length v7 x22.Kind x22.Int x22.Text x24.Kind x24.Int x24.Text ++ [(24, .b (!beqS61 x22 x24))]) []) ?_
   refine .nil ?_
   replace h := isome h; rcases h with ⟨c25, h⟩ | ⟨c25, h⟩
   ·have c25_ : (!beqS61 x22 x24) = true := c25
    refine .condT (b := (!beqS61 x22 x24)) rfl c25_ ?_
    refine .sub (.bool 24 (b := (!beqS61 x22 x24)) rfl c25_) ?_
    refine .st (mk 26 [] (L52 a0 a1 a0.length v7 x22.Kind x22.Int x22.Text x24.Kind x24.Int x24.Text ++ [(24, .b true)]) []) ?_
    refine .seqR ?_
    refine .runK [] 1 fun K k => ?_; simp; refine k _ _ ?_; clear k K
    refine .tt [(4, .b false)] [] ?_
    refine .nil ?_
    refine .ret ?_
    cases h
    refine blockQ.ret ?_
    refine thenQ_pass (by simp) ?_
    refine PostI.out (by simp) ?_
    rintro rfl
    refine blockQ.ret ?_
    refine PostJ.out (by simp) ?_
    rintro rfl
    refine thenQ_pass (by simp) ?_
    exact FinC.ret (by simp) (by simp)
   have c25_ : (!beqS61 x22 x24) = false := Bool.eq_false_iff.2 c25
   refine .condF (b := (!beqS61 x22 x24)) rfl c25_ ?_
   refine .sub (.bool 24 (b := (!beqS61 x22 x24)) rfl c25_) ?_
   refine .st (mk 26 [] (L52 a0 a1 a0.length v7 x22.Kind x22.Int x22.Text x24.Kind x24.Int x24.Text ++ [(24, .b false)]) []) ?_
   refine .skip ?_
   refine blockQ.normal ?_
   refine thenQ_normal ?_
   refine .region ?_
   replace h := bsome h; obtain ⟨v26, hv26, h⟩ := h
   have hv26 := chkI_some hv26
   refine .runK [] 2 fun K k => ?_; simp [hv26]; refine k _ _ ?_; clear k K
   refine .tt (L51 a0 a1 a0.length v26) [] ?_
   refine .nil ?_
   cases h
   refine PostI.next ?_
   exact Sub.tt
  have c21_ : decide (v7 < (a0.length : Int)) = false := decide_eq_false c21
  refine .condF (b := decide (v7 < (a0.length : Int))) rfl c21_ ?_
  refine .sub (.bool 14 (b := decide (v7 < (a0.length : Int))) rfl c21_) ?_
  refine .st (mk 26 [] (L51 a0 a1 a0.length v7 ++ [(14, .b false)]) []) ?_
  refine .exit ?_
  cases h
  refine thenQ_pass (by simp) ?_
  refine PostI.out (by simp) ?_
  rintro rfl
  refine blockQ.hit ?_
  refine PostJ.next ?_
  exact Sub.tt
 rintro ⟨⟩ h
 refine thenQ_normal ?_
 refine .seqR ?_
 refine .runK [] 1 fun K k => ?_; simp; refine k _ _ ?_; clear k K
 refine .tt [(4, .b true)] [] ?_
 refine .nil ?_
 refine .ret ?_
 cases h
 exact FinC.ret (by simp) (by simp)
/-- stemma/stemref3.SameList -/
def d28 (N : Nat) (a0 : (List (List S61))) (a1 : (List (List S61))) : Option Bool :=
 if ((a0.length : Int) != (a1.length : Int)) then (
  some false
 ) else
 bindO (β := Unit) (ρ := Bool) (
  iterN (σ := Int) (ρ := (Out Unit Bool)) (fun (v8 : Int) =>
   if v8 < (a0.length : Int) then (
    (idx a0 v8).bind fun x25 =>
    (idx a1 v8).bind fun x27 =>
    (d34 N x25 x27).bind fun r28 =>
    if (!r28) = true then (
     some (.inr (.ret false))
    ) else
    (chkI (v8 + 1)).bind fun v30 =>
    some (.inl v30)
   ) else
   some (.inr (.go ()))
  ) N 0
 ) fun (_ : Unit) =>
 some true
set_option maxRecDepth 100000 in
set_option maxHeartbeats 4000000 in
theorem p28 (N : Nat) (a0 : (List (List S61))) (a1 : (List (List S61))) (r : Bool) (h : d28 N a0 a1 = some r) : FunC Tryz.prog 28 [.d (.sl (a0.map (cL cS61))), .d (.sl (a1.map (cL cS61)))] (.b r) := by
 unfold d28 at h
 refine FunC.enter 27 [(0, .d (.sl (a0.map (cL cS61)))), (1, .d (.sl (a1.map (cL cS61))))] (by simp) Tryz.func28 rfl (of_decide_eq_true rfl) rfl rfl ?_
 refine .seqR ?_
 refine .runK [] 1 fun K k => ?_; simp; refine k _ _ ?_; clear k K
 refine .tt (L53 a0 a1) [] ?_
 refine .nil ?_
 refine .seq ?_
 refine .seqR ?_
 refine .runK [] 5 fun K k => ?_; simp; refine k _ _ ?_; clear k K
 refine .tt (L53 a0 a1 ++ [(10, .b ((a0.length : Int) != (a1.length : Int)))]) [] ?_
 refine .nil ?_
 replace h := isome h; rcases h with ⟨c1, h⟩ | ⟨c1, h⟩
 ·have c1_ : ((a0.length : Int) != (a1.length : Int)) = true := c1
  refine .condT (b := ((a0.length : Int) != (a1.length : Int))) rfl c1_ ?_
  refine .sub (.bool 10 (b := ((a0.length : Int) != (a1.length : Int))) rfl c1_) ?_
  refine .st (mk 27 [] (L53 a0 a1 ++ [(10, .b true)]) []) ?_
  refine .seqR ?_
  refine .runK [] 1 fun K k => ?_; simp; refine k _ _ ?_; clear k K
  refine .tt [(4, .b false)] [] ?_
  refine .nil ?_
  refine .ret ?_
  cases h
  refine thenQ_pass (by simp) ?_
  exact FinC.ret (by simp) (by simp)
 have c1_ : ((a0.length : Int) != (a1.length : Int)) = false := Bool.eq_false_iff.2 c1
 refine .condF (b := ((a0.length : Int) != (a1.length : Int))) rfl c1_ ?_
 refine .sub (.bool 10 (b := ((a0.length : Int) != (a1.length : Int))) rfl c1_) ?_
 refine .st (mk 27 [] (L53 a0 a1 ++ [(10, .b false)]) []) ?_
 refine .skip ?_
 refine thenQ_normal ?_
 refine .seq ?_
 refine .seqR ?_
 refine .runK [] 3 fun K k => ?_; simp; refine k _ _ ?_; clear k K
 refine .tt (L53 a0 a1 ++ [(12, .i (a0.length : Int)), (13, .i 0)]) [] ?_
 refine .nil ?_
 refine .lastJ (fun (_ : Unit) => mk 27 [] [] []) h ?_ ?_ <;> clear h
 ·intro o h
  refine .block ?_
  refine .iter (fun (v8 : Int) => mk 27 [] (L54 a0 a1 a0.length v8) []) h Sub.tt ?_
  clear h
  rintro v8 x h
  refine .seqR ?_
  refine .runK [] 1 fun K k => ?_; simp; refine k _ _ ?_; clear k K
  refine .tt (L54 a0 a1 a0.length v8 ++ [(14, .b (decide (v8 < (a0.length : Int))))]) [] ?_
  refine .nil ?_
  refine .seq ?_
  replace h := isome h; rcases h with ⟨c24, h⟩ | ⟨c24, h⟩
  ·have c24_ : decide (v8 < (a0.length : Int)) = true := decide_eq_true c24
   refine .condT (b := decide (v8 < (a0.length : Int))) rfl c24_ ?_
   refine .sub (.bool 14 (b := decide (v8 < (a0.length : Int))) rfl c24_) ?_
   refine .st (mk 27 [] (L54 a0 a1 a0.length v8 ++ [(14, .b true)]) []) ?_
   refine .skip ?_
   refine thenQ_normal ?_
   refine .seq ?_
   refine .block ?_
   refine .seqR ?_
   refine .runK [] 2 fun K k => ?_; simp; refine k _ _ ?_; clear k K
   refine .tt (L53 a0 a1 ++ [(5, .i v8), (12, .i (a0.length : Int)), (13, .i v8)]) [] ?_
   refine .nil ?_
   refine .seqQ (by kernel_rfl) (by kernel_rfl) ?_
   replace h := bsome h; obtain ⟨x25, hx25, h⟩ := h
   obtain ⟨k26, hx25k, hx25, hx25a, hx25b⟩ := idx_some hx25
   replace h := bsome h; obtain ⟨x27, hx27, h⟩ := h
   obtain ⟨hx27, hx27a, hx27b⟩ := idx_some2 hx27 hx25k
   refine .runQ 8 fun K k => ?_; simp [hx25, hx25a, hx27, hx25k]; refine k _ _ ?_; clear k K
   refine .tt (L54 a0 a1 a0.length v8 ++ [(19, .d (.sl (x25.map cS61))), (23, .d (.sl (x27.map cS61)))]) [] ?_
   replace h := bsome h; obtain ⟨r28, hr28, h⟩ := h
   refine .callL (d := 24) (p34 N x25 x27 r28 hr28) (by simp) rfl rfl (by simp <;> rfl) (by simp <;> rfl) ent34 (by simp <;> rfl) ?_
   refine .st (mk 27 [] (L54 a0 a1 a0.length v8 ++ [(19, .d (.sl (x25.map cS61))), (23, .d (.sl (x27.map cS61))), (24, .b r28)]) []) ?_
   refine .runQ 1 fun K k => ?_; simp; refine k _ _ ?_; clear k K
   refine .tt (L54 a0 a1 a0.length v8 ++ [(25, .b (!r28))]) [] ?_
   refine .nil ?_
   replace h := isome h; rcases h with ⟨c29, h⟩ | ⟨c29, h⟩
   ·have c29_ : (!r28) = true := c29
    refine .condT (b := (!r28)) rfl c29_ ?_
    refine .sub (.bool 25 (b := (!r28)) rfl c29_) ?_
    refine .st (mk 27 [] (L54 a0 a1 a0.length v8 ++ [(25, .b true)]) []) ?_
    refine .seqR ?_
    refine .runK [] 1 fun K k => ?_; simp; refine k _ _ ?_; clear k K
    refine .tt [(4, .b false)] [] ?_
    refine .nil ?_
    refine .ret ?_
    cases h
    refine blockQ.ret ?_
    refine thenQ_pass (by simp) ?_
    refine PostI.out (by simp) ?_
    rintro rfl
    refine blockQ.ret ?_
    refine PostJ.out (by simp) ?_
    rintro rfl
    refine thenQ_pass (by simp) ?_
    exact FinC.ret (by simp) (by simp)
   have c29_ : (!r28) = false := Bool.eq_false_iff.2 c29
   refine .condF (b := (!r28)) rfl c29_ ?_
   refine .sub (.bool 25 (b := (!r28)) rfl c29_) ?_
   refine .st (mk 27 [] (L54 a0 a1 a0.length v8 ++ [(25, .b false)]) []) ?_
   refine .skip ?_
   refine blockQ.normal ?_
   refine thenQ_normal ?_
   refine .region ?_
   replace h := bsome h; obtain ⟨v30, hv30, h⟩ := h
   have hv30 := chkI_some hv30
   refine .runK [] 2 fun K k => ?_; simp [hv30]; refine k _ _ ?_; clear k K
   refine .tt (L54 a0 a1 a0.length v30) [] ?_
   refine .nil ?_
   cases h
   refine PostI.next ?_
   exact Sub.tt
  have c24_ : decide (v8 < (a0.length : Int)) = false := decide_eq_false c24
  refine .condF (b := decide (v8 < (a0.length : Int))) rfl c24_ ?_
  refine .sub (.bool 14 (b := decide (v8 < (a0.length : Int))) rfl c24_) ?_
  refine .st (mk 27 [] (L54 a0 a1 a0.length v8 ++ [(14, .b false)]) []) ?_
  refine .exit ?_
  cases h
  refine thenQ_pass (by simp) ?_
  refine PostI.out (by simp) ?_
  rintro rfl
  refine blockQ.hit ?_
  refine PostJ.next ?_
  exact Sub.tt
 rintro ⟨⟩ h
 refine thenQ_normal ?_
 refine .seqR ?_
 refine .runK [] 1 fun K k => ?_; simp; refine k _ _ ?_; clear k K
 refine .tt [(4, .b true)] [] ?_
 refine .nil ?_
 refine .ret ?_
 cases h
 exact FinC.ret (by simp) (by simp)
end Go.Proofs.YtimkkjiplioohaaGreatDoor
