/- Functions of the program as functional programs; the code computes them. -/
import Derived.Test.YtimkkjiplioohaaGreatDoorGa16
import Derived.Test.YtimkkjiplioohaaGreatDoorGaS
namespace Go.Proofs.YtimkkjiplioohaaGreatDoor
open Go.Ab Go.Rp
attribute [-simp] List.all_eq_true Array.all_toList Array.all_eq_true
def d6 (N : Nat) (a0 : (List (List S61))) (a1 : S65) (a2 : (List S75)) (a3 : Int) : Option Bool :=
 (d9 N ).bind fun r1 =>
 if (!r1) = true then (
  some false
 ) else
 Option.bind (α := Bool) (
  letv ([a0] : List (List (List S61))) fun l10 =>
  (d21 N l10).bind fun r11 =>
  if r11 = true then (
   some true
  ) else
  if (a1.Columns.length : Int) > 10 then (
   some true
  ) else
  if (a2.length : Int) > 10 then (
   some true
  ) else
  (d29 N a0).bind fun r15 =>
  some (!r15)
 ) fun (v9 : Bool) =>
 if v9 = true then (
  some true
 ) else
 (d30 N a0 a1 a2 a3).bind fun r17 =>
 (d31 N a0 a1 a3).bind fun r18 =>
 Option.bind (α := Bool) (
  if (r18 == 0) then (
   (d32 N a0 a2).bind fun r23 =>
   some (!r23)
  ) else
  some false
 ) fun (v21 : Bool) =>
 Option.bind (α := Int) (
  if v21 = true then (
   some 3
  ) else
  some r18
 ) fun (v25 : Int) =>
 if (v25 != 0) then (
  Option.bind (α := Bool) (
   if (r17.2 == v25) then (
    some ((r17.1.length : Int) == 0)
   ) else
   some false
  ) fun (v29 : Bool) =>
  some v29
 ) else
 (d33 N a0 a1).bind fun r31 =>
 Option.bind (α := List (List S61)) (
  iterN (σ := ((List (List S61)) × Int)) (ρ := List (List S61)) (fun ((l209, v210) : ((List (List S61)) × Int)) =>
   if v210 < (r31.length : Int) then (
    Option.bind (α := List (List S61)) (
     Option.bind (α := Bool) (
      if v210 > 0 then (
       (chkI (v210 - 1)).bind fun v693 =>
       (idx r31 v693).bind fun x694 =>
       (d35 N x694 a1.Columns).bind fun r696 =>
       (idx r31 v210).bind fun x697 =>
       (d35 N x697 a1.Columns).bind fun r699 =>
       (d34 N r696 r699).bind fun r700 =>
       some r700
      ) else
      some false
     ) fun (v692 : Bool) =>
     if v692 = true then (
      some l209
     ) else
     Option.bind (α := List (List S61)) (
      iterN (σ := ((List (List S61)) × Int)) (ρ := List (List S61)) (fun ((l713, v714) : ((List (List S61)) × Int)) =>
       if v714 < (r31.length : Int) then (
        (idx r31 v714).bind fun x743 =>
        (d35 N x743 a1.Columns).bind fun r745 =>
        (idx r31 v210).bind fun x746 =>
        (d35 N x746 a1.Columns).bind fun r748 =>
        (d34 N r745 r748).bind fun r749 =>
        if r749 = true then (
         (appL 24 l713 [x743]).bind fun _l751 =>
         (chkI (v714 + 1)).bind fun v752 =>
         some (.inl ((l713 ++ [x743]), v752))
        ) else
        (chkI (v714 + 1)).bind fun v753 =>
        some (.inl (l713, v753))
       ) else
       some (.inr l713)
      ) N (([] : List (List S61)), 0)
     ) fun (l741 : List (List S61)) =>
     (idx r31 v210).bind fun x754 =>
     (d35 N x754 a1.Columns).bind fun r756 =>
     Option.bind (α := List S61) (
      iterN (σ := ((List S61) × Int)) (ρ := List S61) (fun ((l762, v763) : ((List S61) × Int)) =>
       if v763 < (a2.length : Int) then (
        (idx a2 v763).bind fun x780 =>
        (d36 N l741 x780).bind fun r782 =>
        (appL 32 l762 [r782]).bind fun _l783 =>
        (chkI (v763 + 1)).bind fun v784 =>
        some (.inl ((l762 ++ [r782]), v784))
       ) else
       some (.inr l762)
      ) N (r756, 0)
     ) fun (l778 : List S61) =>
     (appL 24 l209 [l778]).bind fun _l785 =>
     some (l209 ++ [l778])
    ) fun (l691 : List (List S61)) =>
    (chkI (v210 + 1)).bind fun v786 =>
    some (.inl (l691, v786))
   ) else
   some (.inr l209)
  ) N (([] : List (List S61)), 0)
 ) fun (l595 : List (List S61)) =>
 Option.bind (α := Bool) (
  if (r17.2 == 0) then (
   (d28 N r17.1 l595).bind fun r791 =>
   some r791
  ) else
  some false
 ) fun (v789 : Bool) =>
 some v789
set_option maxRecDepth 100000 in
set_option maxHeartbeats 4000000 in
theorem p6 (N : Nat) (a0 : (List (List S61))) (a1 : S65) (a2 : (List S75)) (a3 : Int) (r : Bool) (h : d6 N a0 a1 a2 a3 = some r) : FunC Tryz.prog 6 [.ls61 a0, .agg [.si a1.Columns, .sb a1.Descending], .s75 a2, .i a3] (.b r) := by
 unfold d6 at h
 refine FunC.enter 155 [(0, .ls61 a0), (1, .agg [.si a1.Columns, .sb a1.Descending]), (2, .s75 a2), (3, .i a3)] (by simp) Tryz.func6 rfl (of_decide_eq_true rfl) rfl rfl ?_
 refine .seqR ?_
 refine .rk 2 fun K k => ?_; simp; refine k ?_
 refine .tt (L53 a0 a2 a3) (H1 a1) ?_
 refine .nil (.seq (.seqR ?_))
 replace h := bsome h; obtain ⟨r1, hr1, h⟩ := h
 refine .callL (d := 21) (p9 N  r1 hr1) (by simp) rfl rfl (by simp <;> rfl) (by simp <;> rfl) ent9 (by simp <;> rfl) ?_
 refine .st (mk 155 [] (L53 a0 a2 a3 ++ [(21, .b r1)]) (H1 a1)) ?_
 refine .rk 1 fun K k => ?_; simp; refine k ?_
 refine .tt (L53 a0 a2 a3 ++ [(22, .b (!r1))]) (H1 a1) ?_
 refine .nil ?_
 replace h := isome h; rcases h with ⟨c2, h⟩ | ⟨c2, h⟩
 ·have c2_ : (!r1) = true := c2
  refine .condT rfl c2_ ?_
  refine .seqR ?_
  refine .rk 1 fun K k => ?_; simp; refine k ?_
  refine .tt [(8, .b false)] [] ?_
  refine .nil (.ret ?_)
  cases h
  refine thenQ_pass (by simp) ?_
  exact FinC.ret (by simp) (by simp)
 have c2_ : (!r1) = false := Bool.eq_false_iff.2 c2
 refine .condF rfl c2_ ?_
 refine .skip (thenQ_normal (.seq ?_))
 replace h := bsome h; obtain ⟨v9, hj, h⟩ := h
 refine .cutR (mk 155 [] (L53 a0 a2 a3 ++ [(41, .b v9)]) (H1 a1)) ?_ ?_
 ·clear h; have h := hj; clear hj
  refine .rk 2 fun K k => ?_; simp; refine k ?_
  refine .sub (.wkRow 24 rfl) ?_
  replace h := lsome h; obtain ⟨l10, hl10, h⟩ := h
  refine .sub (S' := mk 155 [] (L53 a0 a2 a3 ++ [(23, .ls61 a0), (24, .ref 24 0 l10.length)]) (H44 a1 l10)) (by simp; subst hl10; exact Sub.table (by simp) (by simp)) ?_
  replace h := bsome h; obtain ⟨r11, hr11, h⟩ := h
  refine .callL (d := 25) (p21 N l10 r11 hr11) (by simp) rfl rfl (by simp <;> rfl) (by simp <;> rfl) ent21 (by simp <;> rfl) ?_
  refine .st (mk 155 [] (L53 a0 a2 a3 ++ [(23, .ls61 a0), (24, .ref 24 0 l10.length), (25, .b r11)]) (H44 a1 l10)) ?_
  refine .rk 1 fun K k => ?_; simp; refine k ?_
  refine .tt (L53 a0 a2 a3 ++ [(26, .b r11)]) (H1 a1) ?_
  replace h := isome h; rcases h with ⟨c12, h⟩ | ⟨c12, h⟩
  ·have c12_ : r11 = true := c12
   refine .sub (.bool 26 rfl c12_) ?_
   refine .st (mk 155 [] (L53 a0 a2 a3 ++ [(26, .b true)]) (H1 a1)) ?_
   refine .rk 15 fun K k => ?_; simp; refine k ?_
   refine .tt (L84 a0 a2 a3) (H1 a1) ?_
   cases h
   exact .nil .tt
  have c12_ : r11 = false := Bool.eq_false_iff.2 c12
  refine .sub (.bool 26 rfl c12_) ?_
  refine .st (mk 155 [] (L53 a0 a2 a3 ++ [(26, .b false)]) (H1 a1)) ?_
  refine .rk 6 fun K k => ?_; simp; refine k ?_
  refine .tt (L53 a0 a2 a3 ++ [(32, .b (decide ((a1.Columns.length : Int) > 10)))]) (H1 a1) ?_
  replace h := isome h; rcases h with ⟨c13, h⟩ | ⟨c13, h⟩
  ·have c13_ : decide ((a1.Columns.length : Int) > 10) = true := decide_eq_true c13
   refine .sub (.bool 32 rfl c13_) ?_
   refine .st (mk 155 [] (L53 a0 a2 a3 ++ [(32, .b true)]) (H1 a1)) ?_
   refine .rk 9 fun K k => ?_; simp; refine k ?_
   refine .tt (L84 a0 a2 a3) (H1 a1) ?_
   cases h
   exact .nil .tt
  have c13_ : decide ((a1.Columns.length : Int) > 10) = false := decide_eq_false c13
  refine .sub (.bool 32 rfl c13_) ?_
  refine .st (mk 155 [] (L53 a0 a2 a3 ++ [(32, .b false)]) (H1 a1)) ?_
  refine .rk 5 fun K k => ?_; simp; refine k ?_
  refine .tt (L53 a0 a2 a3 ++ [(37, .b (decide ((a2.length : Int) > 10)))]) (H1 a1) ?_
  replace h := isome h; rcases h with ⟨c14, h⟩ | ⟨c14, h⟩
  ·have c14_ : decide ((a2.length : Int) > 10) = true := decide_eq_true c14
   refine .sub (.bool 37 rfl c14_) ?_
   refine .st (mk 155 [] (L53 a0 a2 a3 ++ [(37, .b true)]) (H1 a1)) ?_
   refine .rk 4 fun K k => ?_; simp; refine k ?_
   refine .tt (L84 a0 a2 a3) (H1 a1) ?_
   cases h
   exact .nil .tt
  have c14_ : decide ((a2.length : Int) > 10) = false := decide_eq_false c14
  refine .sub (.bool 37 rfl c14_) ?_
  refine .st (mk 155 [] (L85 a0 a2 a3) (H1 a1)) ?_
  refine .rk 1 fun K k => ?_; simp; refine k ?_
  refine .tt (L85 a0 a2 a3 ++ [(38, .ls61 a0)]) (H1 a1) ?_
  replace h := bsome h; obtain ⟨r15, hr15, h⟩ := h
  refine .callL (d := 39) (p29 N a0 r15 hr15) (by simp) rfl rfl (by simp <;> rfl) (by simp <;> rfl) ent29 (by simp <;> rfl) ?_
  refine .st (mk 155 [] (L85 a0 a2 a3 ++ [(38, .ls61 a0), (39, .b r15)]) (H1 a1)) ?_
  refine .rk 2 fun K k => ?_; simp; refine k ?_
  refine .tt (L53 a0 a2 a3 ++ [(41, .b (!r15))]) (H1 a1) ?_
  cases h
  exact .nil .tt
 clear hj
 replace h := isome h; rcases h with ⟨c16, h⟩ | ⟨c16, h⟩
 ·have c16_ : v9 = true := c16
  refine .condT rfl c16_ ?_
  refine .seqR ?_
  refine .rk 1 fun K k => ?_; simp; refine k ?_
  refine .tt [(8, .b true)] [] ?_
  refine .nil (.ret ?_)
  cases h
  refine thenQ_pass (by simp) ?_
  exact FinC.ret (by simp) (by simp)
 have c16_ : v9 = false := Bool.eq_false_iff.2 c16
 refine .condF rfl c16_ ?_
 refine .skip (thenQ_normal (.seqR ?_))
 refine .rk 4 fun K k => ?_; simp; refine k ?_
 refine .tt (L53 a0 a2 a3 ++ [(43, .ls61 a0), (44, .agg [.si a1.Columns, .sb a1.Descending]), (45, .s75 a2), (46, .i a3)]) (H1 a1) ?_
 replace h := bsome h; obtain ⟨r17, hr17, h⟩ := h
 refine .callC (d := 47) (p30 N a0 a1 a2 a3 r17 hr17) (by simp) rfl rfl (by simp <;> rfl) (by simp <;> rfl) ent30 (by simp) (.inl ⟨by simp, by simp⟩) ?_
 refine .st (mk 155 [] (L53 a0 a2 a3 ++ [(43, .ls61 a0), (44, .agg [.si a1.Columns, .sb a1.Descending]), (45, .s75 a2), (46, .i a3), (47, .tup [.ls61 r17.1, .i r17.2])]) (H1 a1)) ?_
 refine .rk 5 fun K k => ?_; simp; refine k ?_
 refine .tt (L53 a0 a2 a3 ++ [(9, .ls61 r17.1), (10, .i r17.2)]) (H1 a1) ?_
 refine .nil (.seqR ?_)
 refine .rk 3 fun K k => ?_; simp; refine k ?_
 refine .tt (L86 a0 a2 r17.1 r17.2 ++ [(50, .ls61 a0), (51, .agg [.si a1.Columns, .sb a1.Descending]), (52, .i a3)]) (H1 a1) ?_
 replace h := bsome h; obtain ⟨r18, hr18, h⟩ := h
 refine .callL (d := 53) (p31 N a0 a1 a3 r18 hr18) (by simp) rfl rfl (by simp <;> rfl) (by simp <;> rfl) ent31 (by simp <;> rfl) ?_
 refine .st (mk 155 [] (L86 a0 a2 r17.1 r17.2 ++ [(50, .ls61 a0), (51, .agg [.si a1.Columns, .sb a1.Descending]), (52, .i a3), (53, .i r18)]) (H1 a1)) ?_
 refine .rk 1 fun K k => ?_; simp; refine k ?_
 refine .tt (L87 a0 a2 r17.1 r17.2 r18) (H1 a1) ?_
 refine .nil (.seq ?_)
 replace h := bsome h; obtain ⟨v21, hj, h⟩ := h
 refine .cutR (mk 155 [] (L87 a0 a2 r17.1 r17.2 r18 ++ [(61, .b v21)]) (H1 a1)) ?_ ?_
 ·clear h; have h := hj; clear hj
  refine .rk 3 fun K k => ?_; simp; refine k ?_
  refine .tt (L87 a0 a2 r17.1 r17.2 r18 ++ [(56, .b (r18 == 0))]) (H1 a1) ?_
  replace h := isome h; rcases h with ⟨c22, h⟩ | ⟨c22, h⟩
  ·have c22_ : (r18 == 0) = true := c22
   refine .sub (.bool 56 rfl c22_) ?_
   refine .st (mk 155 [] (L88 a0 a2 r17.1 r17.2 r18) (H1 a1)) ?_
   refine .rk 2 fun K k => ?_; simp; refine k ?_
   refine .tt (L88 a0 a2 r17.1 r17.2 r18 ++ [(57, .ls61 a0), (58, .s75 a2)]) (H1 a1) ?_
   replace h := bsome h; obtain ⟨r23, hr23, h⟩ := h
   refine .callL (d := 59) (p32 N a0 a2 r23 hr23) (by simp) rfl rfl (by simp <;> rfl) (by simp <;> rfl) ent32 (by simp <;> rfl) ?_
   refine .st (mk 155 [] (L88 a0 a2 r17.1 r17.2 r18 ++ [(57, .ls61 a0), (58, .s75 a2), (59, .b r23)]) (H1 a1)) ?_
   refine .rk 2 fun K k => ?_; simp; refine k ?_
   refine .tt (L87 a0 a2 r17.1 r17.2 r18 ++ [(61, .b (!r23))]) (H1 a1) ?_
   cases h
   exact .nil .tt
  have c22_ : (r18 == 0) = false := Bool.eq_false_iff.2 c22
  refine .sub (.bool 56 rfl c22_) ?_
  refine .st (mk 155 [] (L87 a0 a2 r17.1 r17.2 r18 ++ [(56, .b false)]) (H1 a1)) ?_
  refine .rk 5 fun K k => ?_; simp; refine k ?_
  refine .tt (L87 a0 a2 r17.1 r17.2 r18 ++ [(61, .b false)]) (H1 a1) ?_
  cases h
  exact .nil .tt
 clear hj
 refine .lastN (fun (v25 : Int) => mk 155 [] (L87 a0 a2 r17.1 r17.2 v25) (H1 a1)) h ?_ ?_ <;> clear h
 ·intro o h
  replace h := isome h; rcases h with ⟨c26, h⟩ | ⟨c26, h⟩
  ·have c26_ : v21 = true := c26
   refine .condT rfl c26_ ?_
   refine .region ?_
   refine .rk 1 fun K k => ?_; simp; refine k ?_
   refine .tt (L86 a0 a2 r17.1 r17.2 ++ [(11, .i 3)]) (H1 a1) ?_
   refine .nil ?_
   cases h
   refine PostN.next ?_
   exact Sub.tt
  have c26_ : v21 = false := Bool.eq_false_iff.2 c26
  refine .condF rfl c26_ ?_
  refine .skip ?_
  cases h
  refine PostN.next ?_
  exact Sub.tt
 rintro v25 h
 refine thenQ_normal (.seq (.seqR ?_))
 refine .rk 2 fun K k => ?_; simp; refine k ?_
 refine .tt (L87 a0 a2 r17.1 r17.2 v25 ++ [(63, .b (v25 != 0))]) (H1 a1) ?_
 refine .nil ?_
 replace h := isome h; rcases h with ⟨c27, h⟩ | ⟨c27, h⟩
 ·have c27_ : (v25 != 0) = true := c27
  refine .condT rfl c27_ ?_
  replace h := bsome h; obtain ⟨v29, hj, h⟩ := h
  refine .cutR (mk 155 [] [(8, .b v29)] []) ?_ ?_
  ·clear h; have h := hj; clear hj
   refine .rk 4 fun K k => ?_; simp; refine k ?_
   refine .tt [(9, .ls61 r17.1), (67, .b (r17.2 == v25))] [] ?_
   replace h := isome h; rcases h with ⟨c30, h⟩ | ⟨c30, h⟩
   ·have c30_ : (r17.2 == v25) = true := c30
    refine .sub (.bool 67 rfl c30_) ?_
    refine .st (mk 155 [] [(9, .ls61 r17.1), (67, .b true)] []) ?_
    refine .rk 5 fun K k => ?_; simp; refine k ?_
    refine .tt [(8, .b ((r17.1.length : Int) == 0))] [] ?_
    cases h
    exact .nil .tt
   have c30_ : (r17.2 == v25) = false := Bool.eq_false_iff.2 c30
   refine .sub (.bool 67 rfl c30_) ?_
   refine .st (mk 155 [] [(9, .ls61 r17.1), (67, .b false)] []) ?_
   refine .rk 5 fun K k => ?_; simp; refine k ?_
   refine .tt [(8, .b false)] [] ?_
   cases h
   exact .nil .tt
  clear hj
  refine .ret ?_
  cases h
  refine thenQ_pass (by simp) ?_
  exact FinC.ret (by simp) (by simp)
 have c27_ : (v25 != 0) = false := Bool.eq_false_iff.2 c27
 refine .condF rfl c27_ ?_
 refine .skip (thenQ_normal (.seqR ?_))
 refine .rk 1 fun K k => ?_; simp; refine k ?_
 refine .tt (L86 a0 a2 r17.1 r17.2 ++ [(12, .z)]) (H1 a1) ?_
 refine .nil (.seqR ?_)
 refine .rk 2 fun K k => ?_; simp; refine k ?_
 refine .tt (L89 a2 r17.1 r17.2 ++ [(72, .ls61 a0), (73, .agg [.si a1.Columns, .sb a1.Descending])]) (H1 a1) ?_
 replace h := bsome h; obtain ⟨r31, hr31, h⟩ := h
 refine .callC (d := 74) (p33 N a0 a1 r31 hr31) (by simp) rfl rfl (by simp <;> rfl) (by simp <;> rfl) ent33 (by simp) (.inl ⟨by simp, by simp⟩) ?_
 refine .st (mk 155 [] (L89 a2 r17.1 r17.2 ++ [(72, .ls61 a0), (73, .agg [.si a1.Columns, .sb a1.Descending]), (74, .ls61 r31)]) (H1 a1)) ?_
 refine .rk 1 fun K k => ?_; simp; refine k ?_
 refine .tt (L89 a2 r17.1 r17.2 ++ [(13, .ls61 r31)]) (H1 a1) ?_
 refine .nil (.seq (.seqR ?_))
 refine .rk 3 fun K k => ?_; simp; refine k ?_
 refine .tt (L89 a2 r17.1 r17.2 ++ [(13, .ls61 r31), (76, .i (r31.length : Int)), (77, .i 0)]) (H1 a1) ?_
 refine .nil ?_
 refine .lastN (fun (l595 : List (List S61)) => mk 155 [] [(9, .ls61 r17.1), (10, .i r17.2), (12, .ref 146 0 l595.length)] [(146, R57 l595)]) h ?_ ?_ <;> clear h
 ·intro o h
  refine .block ?_
  refine .iter (fun ((l209, v210) : ((List (List S61)) × Int)) => mk 155 [] (L90 a2 r17.1 r17.2 l209.length r31 r31.length v210) (H14 a1 l209)) h (Sub.trans (Sub.nilOwn (t := 12) (id := 146) (T := 57) (n := 1) rfl rfl (by decide)) (by simp; exact Sub.tt)) ?_
  clear h
  rintro ⟨l209, v210⟩ x h
  dsimp only at h ⊢
  refine .seqR ?_
  refine .rk 1 fun K k => ?_; simp; refine k ?_
  refine .tt (L90 a2 r17.1 r17.2 l209.length r31 r31.length v210 ++ [(78, .b (decide (v210 < (r31.length : Int))))]) (H14 a1 l209) ?_
  refine .nil (.seq ?_)
  replace h := isome h; rcases h with ⟨c596, h⟩ | ⟨c596, h⟩
  ·have c596_ : decide (v210 < (r31.length : Int)) = true := decide_eq_true c596
   refine .condT rfl c596_ ?_
   refine .skip (thenQ_normal ?_)
   refine .seqN (fun (l691 : List (List S61)) => mk 155 [] (L90 a2 r17.1 r17.2 l691.length r31 r31.length v210) (H14 a1 l691)) h ?_ ?_ <;> clear h
   ·intro o h
    refine .block (.seqR ?_)
    refine .rk 2 fun K k => ?_; simp; refine k ?_
    refine .tt (L91 a2 r17.1 r17.2 l209.length r31 v210 r31.length) (H14 a1 l209) ?_
    refine .nil (.seq ?_)
    refine .seqN (fun (v692 : Bool) => mk 155 [] (L91 a2 r17.1 r17.2 l209.length r31 v210 r31.length ++ [(99, .b v692)]) (H14 a1 l209)) h ?_ ?_ <;> clear h
    ·intro o h
     replace h := isome h; rcases h with ⟨cg, h⟩ | ⟨cg, h⟩
     ·have cg_ : decide (v210 > 0) = true := decide_eq_true cg
      replace h := bsome h; obtain ⟨v693, hv693, h⟩ := h
      have hv693 := chkI_some hv693
      replace h := bsome h; obtain ⟨x694, hx694, h⟩ := h
      obtain ⟨k695, hx694k, hx694, hx694a, hx694b⟩ := idx_some hx694
      replace h := bsome h; obtain ⟨r696, hr696, h⟩ := h
      replace h := bsome h; obtain ⟨x697, hx697, h⟩ := h
      obtain ⟨k698, hx697k, hx697, hx697a, hx697b⟩ := idx_some hx697
      replace h := bsome h; obtain ⟨r699, hr699, h⟩ := h
      replace h := bsome h; obtain ⟨r700, hr700, h⟩ := h
      refine .lastAnyS [[], [0], [0, 1], [0, 1, 2], [0, 1, 2], [0, 1, 2, 4], [0, 1, 2, 3, 4, 5], [0, 1, 2, 3, 4, 5, 6], [0, 1, 2], [0, 1, 2, 8], [0, 1, 2, 3, 4, 5, 6, 7, 8, 9], [0, 1, 2], [0, 1, 2], [0, 1, 2, 11, 12], [0, 1, 2, 11, 12, 13], [0, 1, 2], [0, 1, 2, 15], [0, 1, 2, 3, 4, 5, 6, 7, 8, 9, 10, 11, 12, 13, 14, 15, 16], [0, 1, 2, 3, 4, 5, 6, 7, 8, 9, 10, 11, 12, 13, 14, 15, 16, 17], [0, 1, 2, 3, 4, 5, 6, 7, 8, 9, 10, 11, 12, 13, 14, 15, 16, 17, 18]] (fun (b : Nat → Bool) => mk 155 [] [(2, .s75 a2), (5, .ptr 5 0 0), (9, .ls61 r17.1), (10, .i r17.2), (12, .ref 146 0 l209.length), (13, .ls61 r31), (14, .i v210), (76, .i (r31.length : Int)), (77, .i v210), (80, (if b 0 then .i v210 else .junk)), (81, (if b 1 then .b true else .junk)), (82, (if b 2 then .b true else .junk)), (83, (if b 3 then .ls61 r31 else .junk)), (84, (if b 4 then .i v210 else .junk)), (85, (if b 5 then .i v693 else .junk)), (86, (if b 6 then .d (.pim [.sl (x694.map cS61)]) else .junk)), (87, (if b 7 then .s61 x694 else .junk)), (88, (if b 8 then .ptr 5 0 0 else .junk)), (89, (if b 9 then .si a1.Columns else .junk)), (90, (if b 10 then .ref 90 0 r696.length else .junk)), (91, (if b 11 then .ls61 r31 else .junk)), (92, (if b 12 then .i v210 else .junk)), (93, (if b 13 then .d (.pim [.sl (x697.map cS61)]) else .junk)), (94, (if b 14 then .s61 x697 else .junk)), (95, (if b 15 then .ptr 5 0 0 else .junk)), (96, (if b 16 then .si a1.Columns else .junk)), (97, (if b 17 then .ref 97 0 r699.length else .junk)), (98, (if b 18 then .b r700 else .junk)), (99, (if b 19 then .b r700 else .junk))] [(5, some (.box [.si a1.Columns, .sb a1.Descending])), (90, (if b 10 then R61 r696 else none)), (97, (if b 17 then R61 r699 else none)), (146, R57 l209)]) (mk 155 [] (L91 a2 r17.1 r17.2 l209.length r31 v210 r31.length ++ [(83, .ls61 r31), (84, .i v210), (85, .i v693), (86, .d (.pim [.sl (x694.map cS61)])), (87, .s61 x694), (88, .ptr 5 0 0), (89, .si a1.Columns), (90, .ref 90 0 r696.length), (91, .ls61 r31), (92, .i v210), (93, .d (.pim [.sl (x697.map cS61)])), (94, .s61 x697), (95, .ptr 5 0 0), (96, .si a1.Columns), (97, .ref 97 0 r699.length), (98, .b r700), (99, .b r700)]) [(5, some (.box [.si a1.Columns, .sb a1.Descending])), (90, R61 r696), (97, R61 r699), (146, R57 l209)]) (by kernel_rfl) (by kernel_rfl) Sub.tt (Steps.cons ?_ (Steps.cons ?_ (Steps.cons ?_ (Steps.cons ?_ (Steps.cons ?_ (Steps.cons ?_ (Steps.cons ?_ (Steps.cons ?_ (Steps.cons ?_ (Steps.cons ?_ (Steps.cons ?_ (Steps.cons ?_ (Steps.cons ?_ (Steps.cons ?_ (Steps.cons ?_ (Steps.cons ?_ (Steps.cons ?_ (Steps.cons ?_ (Steps.cons ?_ (Steps.cons ?_ (Steps.nil))))))))))))))))))))) ?_ ?_
      iterate 10
       ·intro b h0 ha hd
        have T := fct h0 ha hd; simp at T
        refine .rk 1 fun K k => ?_; simp [T, cg, hv693, hx694, hx694k, hx694a]; refine k ?_
        exact .nil (.table (by simp [T]) (by simp [T]))
      ·intro b h0 ha hd
       have T := fct h0 ha hd; simp at T
       simp only [T, if_true, if_false, Bool.false_eq_true]
       refine .callO (d := 90) (p35 N x694 a1.Columns r696 hr696) (by simp) rfl rfl (by simp <;> rfl) (by simp <;> rfl) ent35 (by simp) ⟨by simp, by simp⟩ ?_
       exact .nil (by simp [T]; exact Sub.table (by simp) (by simp))
      iterate 6
       ·intro b h0 ha hd
        have T := fct h0 ha hd; simp at T
        refine .rk 1 fun K k => ?_; simp [T, hx697, hx697k, hx697a]; refine k ?_
        exact .nil (.table (by simp [T]) (by simp [T]))
      ·intro b h0 ha hd
       have T := fct h0 ha hd; simp at T
       simp only [T, if_true, if_false, Bool.false_eq_true]
       refine .callO (d := 97) (p35 N x697 a1.Columns r699 hr699) (by simp) rfl rfl (by simp <;> rfl) (by simp <;> rfl) ent35 (by simp) ⟨by simp, by simp⟩ ?_
       exact .nil (by simp [T]; exact Sub.table (by simp) (by simp))
      ·intro b h0 ha hd
       have T := fct h0 ha hd; simp at T
       simp only [T, if_true, if_false, Bool.false_eq_true]
       refine .callL (d := 98) (p34 N r696 r699 r700 hr700) (by simp) rfl rfl (by simp <;> rfl) (by simp <;> rfl) ent34 (by simp <;> rfl) ?_
       exact .nil (by simp [T]; exact Sub.table (by simp) (by simp))
      ·intro b h0 ha hd
       have T := fct h0 ha hd; simp at T
       refine .rk 1 fun K k => ?_; simp [T]; refine k ?_
       exact .nil (.table (by simp [T]) (by simp [T]))
      ·intro b hb
       have T := FA_of (n := 20) hb; simp at T
       exact Sub.table (by simp [T]) (by simp [T])
      skip
      cases h
      exact ⟨rfl, Sub.tt⟩
     have cg_ : decide (v210 > 0) = false := decide_eq_false cg
     refine .regionQ (by kernel_rfl) (by kernel_rfl) ?_
     refine .rq 20 fun K k => ?_; simp [cg]; refine k ?_
     refine .nil ?_
     cases h
     exact ⟨rfl, Sub.tt⟩
    intro v692 h
    replace h := isome h; rcases h with ⟨c701, h⟩ | ⟨c701, h⟩
    ·have c701_ : v692 = true := c701
     refine .condT rfl c701_ ?_
     refine .exit ?_
     cases h
     refine thenQ_pass (by simp) ?_
     refine blockQ.hit (PostN.next ?_)
     exact Sub.tt
    have c701_ : v692 = false := Bool.eq_false_iff.2 c701
    refine .condF rfl c701_ ?_
    refine .skip (thenQ_normal (.seqR ?_))
    refine .rk 1 fun K k => ?_; simp; refine k ?_
    refine .tt (L92 a2 r17.1 r17.2 l209.length r31 v210 ++ [(15, .z), (76, .i (r31.length : Int)), (77, .i v210)]) (H14 a1 l209) ?_
    refine .nil (.seq (.seqR ?_))
    refine .rk 3 fun K k => ?_; simp; refine k ?_
    refine .tt (L92 a2 r17.1 r17.2 l209.length r31 v210 ++ [(15, .z), (76, .i (r31.length : Int)), (77, .i v210), (100, .ls61 r31), (101, .i (r31.length : Int)), (102, .i 0)]) (H14 a1 l209) ?_
    refine .nil ?_
    refine .lastN (fun (l741 : List (List S61)) => mk 155 [] (L93 a2 r17.1 r17.2 l209.length r31 v210 l741.length ++ [(76, .i (r31.length : Int)), (77, .i v210)]) (H21 a1 l741 l209)) h ?_ ?_ <;> clear h
    ·intro o h
     refine .block ?_
     refine .iter (fun ((l713, v714) : ((List (List S61)) × Int)) => mk 155 [] (L94 a2 r17.1 r17.2 l209.length r31 v210 l713.length r31.length v714) (H21 a1 l713 l209)) h (Sub.trans (Sub.nilOwn (t := 15) (id := 121) (T := 57) (n := 1) rfl rfl (by decide)) (by simp; exact Sub.tt)) ?_
     clear h
     rintro ⟨l713, v714⟩ x h
     dsimp only at h ⊢
     refine .seqR ?_
     refine .rk 1 fun K k => ?_; simp; refine k ?_
     refine .tt (L94 a2 r17.1 r17.2 l209.length r31 v210 l713.length r31.length v714 ++ [(103, .b (decide (v714 < (r31.length : Int))))]) (H21 a1 l713 l209) ?_
     refine .nil (.seq ?_)
     replace h := isome h; rcases h with ⟨c742, h⟩ | ⟨c742, h⟩
     ·have c742_ : decide (v714 < (r31.length : Int)) = true := decide_eq_true c742
      refine .condT rfl c742_ ?_
      refine .skip (thenQ_normal (.seq (.block (.seqR ?_))))
      replace h := bsome h; obtain ⟨x743, hx743, h⟩ := h
      obtain ⟨k744, hx743k, hx743, hx743a, hx743b⟩ := idx_some hx743
      refine .rk 3 fun K k => ?_; simp [hx743, hx743k, hx743a]; refine k ?_
      refine .tt (L93 a2 r17.1 r17.2 l209.length r31 v210 l713.length ++ [(17, .s61 x743), (76, .i (r31.length : Int)), (77, .i v210), (100, .ls61 r31), (101, .i (r31.length : Int)), (102, .i v714)]) (H21 a1 l713 l209) ?_
      refine .nil ?_
      replace h := bsome h; obtain ⟨r745, hr745, h⟩ := h
      replace h := bsome h; obtain ⟨x746, hx746, h⟩ := h
      obtain ⟨k747, hx746k, hx746, hx746a, hx746b⟩ := idx_some hx746
      replace h := bsome h; obtain ⟨r748, hr748, h⟩ := h
      replace h := bsome h; obtain ⟨r749, hr749, h⟩ := h
      refine .seqAnyS [[], [], [1], [0, 1, 2], [], [], [4, 5], [4, 5, 6], [], [8], [0, 1, 2, 3, 4, 5, 6, 7, 8, 9], [0, 1, 2, 3, 4, 5, 6, 7, 8, 9, 10]] (fun (b : Nat → Bool) => mk 155 [] [(2, .s75 a2), (5, .ptr 5 0 0), (9, .ls61 r17.1), (10, .i r17.2), (12, .ref 146 0 l209.length), (13, .ls61 r31), (14, .i v210), (15, .ref 121 0 l713.length), (17, .s61 x743), (76, .i (r31.length : Int)), (77, .i v210), (100, .ls61 r31), (101, .i (r31.length : Int)), (102, .i v714), (106, (if b 0 then .s61 x743 else .junk)), (107, (if b 1 then .ptr 5 0 0 else .junk)), (108, (if b 2 then .si a1.Columns else .junk)), (109, (if b 3 then .ref 109 0 r745.length else .junk)), (110, (if b 4 then .ls61 r31 else .junk)), (111, (if b 5 then .i v210 else .junk)), (112, (if b 6 then .d (.pim [.sl (x746.map cS61)]) else .junk)), (113, (if b 7 then .s61 x746 else .junk)), (114, (if b 8 then .ptr 5 0 0 else .junk)), (115, (if b 9 then .si a1.Columns else .junk)), (116, (if b 10 then .ref 116 0 r748.length else .junk)), (117, (if b 11 then .b r749 else .junk))] [(5, some (.box [.si a1.Columns, .sb a1.Descending])), (109, (if b 3 then R61 r745 else none)), (116, (if b 10 then R61 r748 else none)), (121, R57 l713), (146, R57 l209)]) (mk 155 [] (L93 a2 r17.1 r17.2 l209.length r31 v210 l713.length ++ [(17, .s61 x743), (76, .i (r31.length : Int)), (77, .i v210), (100, .ls61 r31), (101, .i (r31.length : Int)), (102, .i v714), (117, .b r749)]) (H21 a1 l713 l209)) (by kernel_rfl) (by kernel_rfl) Sub.tt (Steps.cons ?_ (Steps.cons ?_ (Steps.cons ?_ (Steps.cons ?_ (Steps.cons ?_ (Steps.cons ?_ (Steps.cons ?_ (Steps.cons ?_ (Steps.cons ?_ (Steps.cons ?_ (Steps.cons ?_ (Steps.cons ?_ (Steps.nil))))))))))))) ?_ ?_
      iterate 3
       ·intro b h0 ha hd
        have T := fct h0 ha hd; simp at T
        refine .rk 1 fun K k => ?_; simp [T]; refine k ?_
        exact .nil (.table (by simp [T]) (by simp [T]))
      ·intro b h0 ha hd
       have T := fct h0 ha hd; simp at T
       simp only [T, if_true, if_false, Bool.false_eq_true]
       refine .callO (d := 109) (p35 N x743 a1.Columns r745 hr745) (by simp) rfl rfl (by simp <;> rfl) (by simp <;> rfl) ent35 (by simp) ⟨by simp, by simp⟩ ?_
       exact .nil (by simp [T]; exact Sub.table (by simp) (by simp))
      iterate 6
       ·intro b h0 ha hd
        have T := fct h0 ha hd; simp at T
        refine .rk 1 fun K k => ?_; simp [T, hx746, hx746k, hx746a]; refine k ?_
        exact .nil (.table (by simp [T]) (by simp [T]))
      ·intro b h0 ha hd
       have T := fct h0 ha hd; simp at T
       simp only [T, if_true, if_false, Bool.false_eq_true]
       refine .callO (d := 116) (p35 N x746 a1.Columns r748 hr748) (by simp) rfl rfl (by simp <;> rfl) (by simp <;> rfl) ent35 (by simp) ⟨by simp, by simp⟩ ?_
       exact .nil (by simp [T]; exact Sub.table (by simp) (by simp))
      ·intro b h0 ha hd
       have T := fct h0 ha hd; simp at T
       simp only [T, if_true, if_false, Bool.false_eq_true]
       refine .callL (d := 117) (p34 N r745 r748 r749 hr749) (by simp) rfl rfl (by simp <;> rfl) (by simp <;> rfl) ent34 (by simp <;> rfl) ?_
       exact .nil (by simp [T]; exact Sub.table (by simp) (by simp))
      ·intro b hb
       have T := FA_of (n := 12) hb; simp at T
       exact Sub.table (by simp [T]) (by simp [T])
      skip
      replace h := isome h; rcases h with ⟨c750, h⟩ | ⟨c750, h⟩
      ·have c750_ : r749 = true := c750
       refine .condT rfl c750_ ?_
       refine .region ?_
       replace h := bsome h; obtain ⟨l751, hl751, h⟩ := h
       obtain ⟨hl751a, hl751⟩ := appL_some hl751
       subst hl751
       try simp only [List.length_cons, List.length_nil, Nat.zero_add] at hl751a
       refine .runK [120] 5 fun K k => ?_; simp [hl751a]; refine k _ _ ?_; clear k K
       refine .tt (L92 a2 r17.1 r17.2 l209.length r31 v210 ++ [(15, .ref 121 0 ((l713 ++ [x743]).length)), (76, .i (r31.length : Int)), (77, .i v210), (100, .ls61 r31), (101, .i (r31.length : Int)), (102, .i v714)]) [(5, some (.box [.si a1.Columns, .sb a1.Descending])), (121, R57 (l713 ++ [x743])), (146, R57 l209)] ?_
       refine .nil (blockQ.normal (thenQ_normal (.region ?_)))
       replace h := bsome h; obtain ⟨v752, hv752, h⟩ := h
       have hv752 := chkI_some hv752
       refine .rk 2 fun K k => ?_; simp [hv752]; refine k ?_
       refine .tt (L92 a2 r17.1 r17.2 l209.length r31 v210 ++ [(15, .ref 121 0 ((l713 ++ [x743]).length)), (76, .i (r31.length : Int)), (77, .i v210), (100, .ls61 r31), (101, .i (r31.length : Int)), (102, .i v752)]) [(5, some (.box [.si a1.Columns, .sb a1.Descending])), (121, R57 (l713 ++ [x743])), (146, R57 l209)] ?_
       refine .nil ?_
       cases h
       refine PostI.next ?_
       exact Sub.tt
      have c750_ : r749 = false := Bool.eq_false_iff.2 c750
      refine .condF rfl c750_ ?_
      refine .skip (blockQ.normal (thenQ_normal (.region ?_)))
      replace h := bsome h; obtain ⟨v753, hv753, h⟩ := h
      have hv753 := chkI_some hv753
      refine .rk 2 fun K k => ?_; simp [hv753]; refine k ?_
      refine .tt (L94 a2 r17.1 r17.2 l209.length r31 v210 l713.length r31.length v753) (H21 a1 l713 l209) ?_
      refine .nil ?_
      cases h
      refine PostI.next ?_
      exact Sub.tt
     have c742_ : decide (v714 < (r31.length : Int)) = false := decide_eq_false c742
     refine .condF rfl c742_ ?_
     refine .exit ?_
     cases h
     refine thenQ_pass (by simp) ?_
     refine PostI.out (by simp) ?_
     rintro rfl
     refine blockQ.hit (PostN.next ?_)
     exact Sub.tt
    rintro l741 h
    refine thenQ_normal ?_
    replace h := bsome h; obtain ⟨x754, hx754, h⟩ := h
    obtain ⟨k755, hx754k, hx754, hx754a, hx754b⟩ := idx_some hx754
    refine .seqT 6 (by kernel_rfl) (by kernel_rfl) fun K k => ?_; simp [hx754, hx754k, hx754a]; refine k _ _ ?_; clear k K
    refine .tt (L95 a2 r17.1 r17.2 l209.length r31 l741.length r31.length v210 ++ [(126, .s61 x754), (128, .si a1.Columns)]) (H21 a1 l741 l209) ?_
    replace h := bsome h; obtain ⟨r756, hr756, h⟩ := h
    refine .callO (d := 129) (p35 N x754 a1.Columns r756 hr756) (by simp) rfl rfl (by simp <;> rfl) (by simp <;> rfl) ent35 (by simp) ⟨by simp, by simp⟩ ?_
    refine .st (mk 155 [] (L95 a2 r17.1 r17.2 l209.length r31 l741.length r31.length v210 ++ [(126, .s61 x754), (128, .si a1.Columns), (129, .ref 129 0 r756.length)]) (H22 a1 l741 r756 l209)) ?_
    refine .rk 1 fun K k => ?_; simp; refine k ?_
    refine .tt (L96 a2 r17.1 r17.2 l209.length r31 l741.length ++ [(18, .ref 129 0 r756.length), (76, .i (r31.length : Int)), (77, .i v210)]) (H22 a1 l741 r756 l209) ?_
    refine .nil (.seq (.seqR ?_))
    refine .rk 3 fun K k => ?_; simp; refine k ?_
    refine .tt (L97 a2 r17.1 r17.2 l209.length r31 l741.length r756.length r31.length v210 a2.length ++ [(132, .i 0)]) (H22 a1 l741 r756 l209) ?_
    refine .nil ?_
    refine .lastN (fun (l778 : List S61) => mk 155 [] (L98 a2 r17.1 r17.2 ++ [(12, .ref 146 0 l209.length), (13, .ls61 r31), (18, .ref 129 0 l778.length), (76, .i (r31.length : Int)), (77, .i v210)]) (H45 a1 l778 l209)) h ?_ ?_ <;> clear h
    ·intro o h
     refine .block ?_
     refine .iter (fun ((l762, v763) : ((List S61) × Int)) => mk 155 [] (L97 a2 r17.1 r17.2 l209.length r31 l741.length l762.length r31.length v210 a2.length ++ [(132, .i v763)]) (H22 a1 l741 l762 l209)) h Sub.tt ?_
     clear h
     rintro ⟨l762, v763⟩ x h
     dsimp only at h ⊢
     refine .seqR ?_
     refine .rk 1 fun K k => ?_; simp; refine k ?_
     refine .tt (L97 a2 r17.1 r17.2 l209.length r31 l741.length l762.length r31.length v210 a2.length ++ [(132, .i v763), (133, .b (decide (v763 < (a2.length : Int))))]) (H22 a1 l741 l762 l209) ?_
     refine .nil (.seq ?_)
     replace h := isome h; rcases h with ⟨c779, h⟩ | ⟨c779, h⟩
     ·have c779_ : decide (v763 < (a2.length : Int)) = true := decide_eq_true c779
      refine .condT rfl c779_ ?_
      refine .skip (thenQ_normal (.seq (.block (.seqR ?_))))
      replace h := bsome h; obtain ⟨x780, hx780, h⟩ := h
      obtain ⟨k781, hx780k, hx780, hx780a, hx780b⟩ := idx_some hx780
      refine .rk 4 fun K k => ?_; simp [hx780, hx780k, hx780a]; refine k ?_
      refine .tt (L96 a2 r17.1 r17.2 l209.length r31 l741.length ++ [(18, .ref 129 0 l762.length), (20, .ptr 20 0 0), (76, .i (r31.length : Int)), (77, .i v210), (130, .s75 a2), (131, .i (a2.length : Int)), (132, .i v763)]) [(5, some (.box [.si a1.Columns, .sb a1.Descending])), (20, some (.box [.s x780.Function, .i x780.Column])), (121, R57 l741), (129, R61 l762), (146, R57 l209)] ?_
      refine .nil (.region ?_)
      refine .runK [140] 3 fun K k => ?_; simp; refine k _ _ ?_; clear k K
      refine .tt (L95 a2 r17.1 r17.2 l209.length r31 l741.length r31.length v210 ++ [(130, .s75 a2), (131, .i (a2.length : Int)), (132, .i v763), (136, .ref 129 0 l762.length), (137, .ref 121 0 l741.length), (138, .agg [.s x780.Function, .i x780.Column])]) (H22 a1 l741 l762 l209) ?_
      replace h := bsome h; obtain ⟨r782, hr782, h⟩ := h
      refine .callC (d := 139) (p36 N l741 x780 r782 hr782) (by simp) rfl rfl (by simp <;> rfl) (by simp <;> rfl) ent36 (by simp) (.inr (by simp)) ?_
      refine .st (mk 155 [] (L95 a2 r17.1 r17.2 l209.length r31 l741.length r31.length v210 ++ [(130, .s75 a2), (131, .i (a2.length : Int)), (132, .i v763), (136, .ref 129 0 l762.length), (137, .ref 121 0 l741.length), (138, .agg [.s x780.Function, .i x780.Column]), (139, .agg [.i r782.Kind, .i r782.Int, .s r782.Text])]) (H22 a1 l741 l762 l209)) ?_
      replace h := bsome h; obtain ⟨l783, hl783, h⟩ := h
      obtain ⟨hl783a, hl783⟩ := appL_some hl783
      subst hl783
      try simp only [List.length_cons, List.length_nil, Nat.zero_add] at hl783a
      refine .runK [140] 3 fun K k => ?_; simp [hl783a]; refine k _ _ ?_; clear k K
      refine .tt (L96 a2 r17.1 r17.2 l209.length r31 l741.length ++ [(18, .ref 129 0 ((l762 ++ [r782]).length)), (76, .i (r31.length : Int)), (77, .i v210), (130, .s75 a2), (131, .i (a2.length : Int)), (132, .i v763)]) [(5, some (.box [.si a1.Columns, .sb a1.Descending])), (121, R57 l741), (129, R61 (l762 ++ [r782])), (146, R57 l209)] ?_
      refine .nil (blockQ.normal (thenQ_normal (.region ?_)))
      replace h := bsome h; obtain ⟨v784, hv784, h⟩ := h
      have hv784 := chkI_some hv784
      refine .rk 2 fun K k => ?_; simp [hv784]; refine k ?_
      refine .tt (L96 a2 r17.1 r17.2 l209.length r31 l741.length ++ [(18, .ref 129 0 ((l762 ++ [r782]).length)), (76, .i (r31.length : Int)), (77, .i v210), (130, .s75 a2), (131, .i (a2.length : Int)), (132, .i v784)]) [(5, some (.box [.si a1.Columns, .sb a1.Descending])), (121, R57 l741), (129, R61 (l762 ++ [r782])), (146, R57 l209)] ?_
      refine .nil ?_
      cases h
      refine PostI.next ?_
      exact Sub.tt
     have c779_ : decide (v763 < (a2.length : Int)) = false := decide_eq_false c779
     refine .condF rfl c779_ ?_
     refine .exit ?_
     cases h
     refine thenQ_pass (by simp) ?_
     refine PostI.out (by simp) ?_
     rintro rfl
     refine blockQ.hit (PostN.next ?_)
     exact Sub.tt
    rintro l778 h
    refine thenQ_normal (.region ?_)
    refine .runK [145] 2 fun K k => ?_; simp; refine k _ _ ?_; clear k K
    refine .tt (L98 a2 r17.1 r17.2 ++ [(13, .ls61 r31), (76, .i (r31.length : Int)), (77, .i v210), (143, .ref 146 0 l209.length), (144, .ref 129 0 l778.length)]) (H45 a1 l778 l209) ?_
    refine .sub (.freeze 129 rfl) ?_
    refine .st (mk 155 [] (L98 a2 r17.1 r17.2 ++ [(13, .ls61 r31), (76, .i (r31.length : Int)), (77, .i v210), (143, .ref 146 0 l209.length), (144, .s61 l778)]) (H14 a1 l209)) ?_
    replace h := bsome h; obtain ⟨l785, hl785, h⟩ := h
    obtain ⟨hl785a, hl785⟩ := appL_some hl785
    subst hl785
    try simp only [List.length_cons, List.length_nil, Nat.zero_add] at hl785a
    refine .runK [145] 3 fun K k => ?_; simp [hl785a]; refine k _ _ ?_; clear k K
    refine .tt (L98 a2 r17.1 r17.2 ++ [(12, .ref 146 0 ((l209 ++ [l778]).length)), (13, .ls61 r31), (76, .i (r31.length : Int)), (77, .i v210)]) [(5, some (.box [.si a1.Columns, .sb a1.Descending])), (146, R57 (l209 ++ [l778]))] ?_
    refine .nil ?_
    cases h
    refine blockQ.normal (PostN.next ?_)
    exact Sub.tt
   rintro l691 h
   refine .region ?_
   replace h := bsome h; obtain ⟨v786, hv786, h⟩ := h
   have hv786 := chkI_some hv786
   refine .rk 2 fun K k => ?_; simp [hv786]; refine k ?_
   refine .tt (L90 a2 r17.1 r17.2 l691.length r31 r31.length v786) (H14 a1 l691) ?_
   refine .nil ?_
   cases h
   refine PostI.next ?_
   exact Sub.tt
  have c596_ : decide (v210 < (r31.length : Int)) = false := decide_eq_false c596
  refine .condF rfl c596_ ?_
  refine .exit ?_
  cases h
  refine thenQ_pass (by simp) ?_
  refine PostI.out (by simp) ?_
  rintro rfl
  refine blockQ.hit (PostN.next ?_)
  exact Sub.tt
 rintro l595 h
 refine thenQ_normal ?_
 replace h := bsome h; obtain ⟨v789, hj, h⟩ := h
 refine .cutR (mk 155 [] [(8, .b v789)] []) ?_ ?_
 ·clear h; have h := hj; clear hj
  refine .rk 3 fun K k => ?_; simp; refine k ?_
  refine .tt [(9, .ls61 r17.1), (12, .ref 146 0 l595.length), (150, .b (r17.2 == 0))] [(146, R57 l595)] ?_
  replace h := isome h; rcases h with ⟨c790, h⟩ | ⟨c790, h⟩
  ·have c790_ : (r17.2 == 0) = true := c790
   refine .sub (.bool 150 rfl c790_) ?_
   refine .st (mk 155 [] [(9, .ls61 r17.1), (12, .ref 146 0 l595.length), (150, .b true)] [(146, R57 l595)]) ?_
   refine .rk 2 fun K k => ?_; simp; refine k ?_
   refine .tt [(150, .b true), (151, .ls61 r17.1), (152, .ref 146 0 l595.length)] [(146, R57 l595)] ?_
   replace h := bsome h; obtain ⟨r791, hr791, h⟩ := h
   refine .callL (d := 153) (p28 N r17.1 l595 r791 hr791) (by simp) rfl rfl (by simp <;> rfl) (by simp <;> rfl) ent28 (by simp <;> rfl) ?_
   refine .st (mk 155 [] [(150, .b true), (151, .ls61 r17.1), (152, .ref 146 0 l595.length), (153, .b r791)] [(146, R57 l595)]) ?_
   refine .rk 2 fun K k => ?_; simp; refine k ?_
   refine .tt [(8, .b r791)] [] ?_
   cases h
   exact .nil .tt
  have c790_ : (r17.2 == 0) = false := Bool.eq_false_iff.2 c790
  refine .sub (.bool 150 rfl c790_) ?_
  refine .st (mk 155 [] [(9, .ls61 r17.1), (12, .ref 146 0 l595.length), (150, .b false)] [(146, R57 l595)]) ?_
  refine .rk 5 fun K k => ?_; simp; refine k ?_
  refine .tt [(8, .b false)] [] ?_
  cases h
  exact .nil .tt
 clear hj
 refine .ret ?_
 cases h
 exact FinC.ret (by simp) (by simp)
end Go.Proofs.YtimkkjiplioohaaGreatDoor
