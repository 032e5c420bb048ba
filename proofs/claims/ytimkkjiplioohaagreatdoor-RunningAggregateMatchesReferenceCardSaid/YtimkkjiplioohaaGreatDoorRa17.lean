/- Functions of the program as functional programs; the code computes them. -/
import Derived.Test.YtimkkjiplioohaaGreatDoorRa16
import Derived.Test.YtimkkjiplioohaaGreatDoorRaS
namespace Go.Proofs.YtimkkjiplioohaaGreatDoor
open Go.Ab Go.Rp
attribute [-simp] List.all_eq_true Array.all_toList Array.all_eq_true
def d7 (N : Nat) (a0 : (List (List S61))) (a1 : S65) (a2 : S65) (a3 : (List S75)) (a4 : Int) : Option Bool :=
 (d9 N ).bind fun r1 =>
 if (!r1) = true then (
  some false
 ) else
 Option.bind (α := Bool) (
  letv ([a0] : List (List (List S61))) fun l13 =>
  (d21 N l13).bind fun r14 =>
  if r14 = true then (
   some true
  ) else
  if (a2.Columns.length : Int) > 5 then (
   some true
  ) else
  if (a1.Columns.length : Int) > 5 then (
   some true
  ) else
  if (a3.length : Int) > 10 then (
   some true
  ) else
  if (a2.Descending.length : Int) > (a2.Columns.length : Int) then (
   some true
  ) else
  if (a1.Descending.length : Int) > (a1.Columns.length : Int) then (
   some true
  ) else
  (d29 N a0).bind fun r21 =>
  some (!r21)
 ) fun (v12 : Bool) =>
 if v12 = true then (
  some true
 ) else
 (d37 N [a1.Columns,a2.Columns]).bind fun r23 =>
 (chkI ((a1.Columns.length : Int) + (a2.Descending.length : Int))).bind fun v24 =>
 (mkL 1 v24 (false : Bool)).bind fun l25 =>
 letv (a1.Descending.take (Nat.min a1.Descending.length l25.length) ++ l25.drop (Nat.min a1.Descending.length l25.length)) fun l26 =>
 (natI (a1.Columns.length : Int) l26.length).bind fun n27 =>
 letv (l26.take n27 ++ (a2.Descending.take (Nat.min a2.Descending.length (l26.length - n27)) ++ l26.drop (n27 + (Nat.min a2.Descending.length (l26.length - n27))))) fun l28 =>
 (d38 N a0 a1 a2 a3 a4).bind fun r29 =>
 (d31 N a0 (S65.mk r23 l28) a4).bind fun r30 =>
 Option.bind (α := Bool) (
  if (r30 == 0) then (
   (d32 N a0 a3).bind fun r35 =>
   some (!r35)
  ) else
  some false
 ) fun (v33 : Bool) =>
 Option.bind (α := Int) (
  if v33 = true then (
   some 3
  ) else
  some r30
 ) fun (v37 : Int) =>
 if (v37 != 0) then (
  Option.bind (α := Bool) (
   if (r29.2 == v37) then (
    some ((r29.1.length : Int) == 0)
   ) else
   some false
  ) fun (v41 : Bool) =>
  some v41
 ) else
 (d33 N a0 (S65.mk r23 l28)).bind fun r43 =>
 Option.bind (α := List (List S61)) (
  iterN (σ := ((List (List S61)) × Int)) (ρ := List (List S61)) (fun ((l124,v125) : ((List (List S61)) × Int)) =>
   if v125 < (r43.length : Int) then (
    (idx r43 v125).bind fun x292 =>
    (chkI (v125 + 1)).bind fun v294 =>
    (natI v294 r43.length).bind fun n295 =>
    letv (r43.take n295) fun l296 =>
    Option.bind (α := List (List S61)) (
     iterN (σ := ((List (List S61)) × Int)) (ρ := List (List S61)) (fun ((l306,v307) : ((List (List S61)) × Int)) =>
      if v307 < (l296.length : Int) then (
       (idx l296 v307).bind fun x332 =>
       (d35 N x332 a1.Columns).bind fun r334 =>
       (d35 N x292 a1.Columns).bind fun r335 =>
       (d34 N r334 r335).bind fun r336 =>
       if r336 = true then (
        (appL 24 l306 [x332]).bind fun _l338 =>
        (chkI (v307 + 1)).bind fun v339 =>
        some (.inl ((l306 ++ [x332]),v339))
       ) else
       (chkI (v307 + 1)).bind fun v340 =>
       some (.inl (l306,v340))
      ) else
      some (.inr l306)
     ) N (([] : List (List S61)),0)
    ) fun (l330 : List (List S61)) =>
    (d39 N x292).bind fun r341 =>
    Option.bind (α := List S61) (
     iterN (σ := ((List S61) × Int)) (ρ := List S61) (fun ((l347,v348) : ((List S61) × Int)) =>
      if v348 < (a3.length : Int) then (
       (idx a3 v348).bind fun x365 =>
       (d36 N l330 x365).bind fun r367 =>
       (appL 32 l347 [r367]).bind fun _l368 =>
       (chkI (v348 + 1)).bind fun v369 =>
       some (.inl ((l347 ++ [r367]),v369))
      ) else
      some (.inr l347)
     ) N (r341,0)
    ) fun (l363 : List S61) =>
    (appL 24 l124 [l363]).bind fun _l370 =>
    (chkI (v125 + 1)).bind fun v371 =>
    some (.inl ((l124 ++ [l363]),v371))
   ) else
   some (.inr l124)
  ) N (([] : List (List S61)),0)
 ) fun (l290 : List (List S61)) =>
 Option.bind (α := Bool) (
  if (r29.2 == 0) then (
   (d28 N r29.1 l290).bind fun r376 =>
   some r376
  ) else
  some false
 ) fun (v374 : Bool) =>
 some v374
set_option maxRecDepth 100000 in
set_option maxHeartbeats 4000000 in
theorem p7 (N : Nat) (a0 : (List (List S61))) (a1 : S65) (a2 : S65) (a3 : (List S75)) (a4 : Int) (r : Bool) (h : d7 N a0 a1 a2 a3 a4 = some r) : FunC Tryz.prog 7 [.ls61 a0,.agg [.si a1.Columns,.sb a1.Descending],.agg [.si a2.Columns,.sb a2.Descending],.s75 a3,.i a4] (.b r) := by
 unfold d7 at h
 refine FunC.enter 190 [(0,.ls61 a0),(1,.agg [.si a1.Columns,.sb a1.Descending]),(2,.agg [.si a2.Columns,.sb a2.Descending]),(3,.s75 a3),(4,.i a4)] (by simp) Tryz.func7 rfl (of_decide_eq_true rfl) rfl rfl ?_
 refine .seqR ?_
 refine .rr 3 ?_
 refine .tt (L55 a0 a3 a4) (H2 a1 a2) (.nil (.seq (.seqR ?_)))
 replace h := bsome h;obtain ⟨r1,hr1,h⟩ := h
 refine .callL (d := 25) (p9 N  r1 hr1) (by simp) rfl rfl (by simp <;> rfl) (by simp <;> rfl) ent9 (by simp <;> rfl) ?_
 refine .st (mk 190 [] (L55 a0 a3 a4 ++ [(25,.b r1)]) (H2 a1 a2)) ?_
 refine .rr 1 ?_
 refine .tt (L55 a0 a3 a4 ++ [(26,.b (!r1))]) (H2 a1 a2) (.nil ?_)
 replace h := isome h;rcases h with ⟨c2,h⟩ | ⟨c2,h⟩
 ·have c2_ : (!r1) = true := c2
  refine .condT rfl c2_ ?_
  refine .seqR ?_
  refine .rr 1 ?_
  refine .tt [(10,.b false)] [] (.nil (.ret ?_))
  cases h
  refine thenQ_ps ?_
  exact FinC.rs
 have c2_ : (!r1) = false := Bool.eq_false_iff.2 c2
 refine .condF rfl c2_ ?_
 refine .skip (thenQ_normal (.seq ?_))
 replace h := bsome h;obtain ⟨v12,hj,h⟩ := h
 refine .cutR (mk 190 [] (L55 a0 a3 a4 ++ [(69,.b v12)]) (H2 a1 a2)) ?_ ?_
 ·clear h;have h := hj;clear hj
  refine .rr 2 ?_
  refine .sub (.wkRow 28 rfl) ?_
  replace h := lsome h;obtain ⟨l13,hl13,h⟩ := h
  refine .sub (S' := mk 190 [] (L55 a0 a3 a4 ++ [(27,.ls61 a0),(28,.ref 28 0 l13.length)]) (H48 a1 a2 l13)) (by simp;subst hl13;exact Sub.table (by simp) (by simp)) ?_
  replace h := bsome h;obtain ⟨r14,hr14,h⟩ := h
  refine .callL (d := 29) (p21 N l13 r14 hr14) (by simp) rfl rfl (by simp <;> rfl) (by simp <;> rfl) ent21 (by simp <;> rfl) ?_
  refine .st (mk 190 [] (L55 a0 a3 a4 ++ [(27,.ls61 a0),(28,.ref 28 0 l13.length),(29,.b r14)]) (H48 a1 a2 l13)) ?_
  refine .rr 1 ?_
  refine .tt (L55 a0 a3 a4 ++ [(30,.b r14)]) (H2 a1 a2) ?_
  replace h := isome h;rcases h with ⟨c15,h⟩ | ⟨c15,h⟩
  ·have c15_ : r14 = true := c15
   refine .sub (.bool 30 rfl c15_) ?_
   refine .st (mk 190 [] (L55 a0 a3 a4 ++ [(30,.b true)]) (H2 a1 a2)) ?_
   refine .rr 39 ?_
   refine .tt (L86 a0 a3 a4) (H2 a1 a2) ?_
   cases h
   exact .nil .tt
  have c15_ : r14 = false := Bool.eq_false_iff.2 c15
  refine .sub (.bool 30 rfl c15_) ?_
  refine .st (mk 190 [] (L55 a0 a3 a4 ++ [(30,.b false)]) (H2 a1 a2)) ?_
  refine .rr 6 ?_
  refine .tt (L55 a0 a3 a4 ++ [(36,.b (decide ((a2.Columns.length : Int) > 5)))]) (H2 a1 a2) ?_
  replace h := isome h;rcases h with ⟨c16,h⟩ | ⟨c16,h⟩
  ·have c16_ : decide ((a2.Columns.length : Int) > 5) = true := decide_eq_true c16
   refine .sub (.bool 36 rfl c16_) ?_
   refine .st (mk 190 [] (L55 a0 a3 a4 ++ [(36,.b true)]) (H2 a1 a2)) ?_
   refine .rr 33 ?_
   refine .tt (L86 a0 a3 a4) (H2 a1 a2) ?_
   cases h
   exact .nil .tt
  have c16_ : decide ((a2.Columns.length : Int) > 5) = false := decide_eq_false c16
  refine .sub (.bool 36 rfl c16_) ?_
  refine .st (mk 190 [] (L55 a0 a3 a4 ++ [(36,.b false)]) (H2 a1 a2)) ?_
  refine .rr 6 ?_
  refine .tt (L55 a0 a3 a4 ++ [(42,.b (decide ((a1.Columns.length : Int) > 5)))]) (H2 a1 a2) ?_
  replace h := isome h;rcases h with ⟨c17,h⟩ | ⟨c17,h⟩
  ·have c17_ : decide ((a1.Columns.length : Int) > 5) = true := decide_eq_true c17
   refine .sub (.bool 42 rfl c17_) ?_
   refine .st (mk 190 [] (L55 a0 a3 a4 ++ [(42,.b true)]) (H2 a1 a2)) ?_
   refine .rr 27 ?_
   refine .tt (L86 a0 a3 a4) (H2 a1 a2) ?_
   cases h
   exact .nil .tt
  have c17_ : decide ((a1.Columns.length : Int) > 5) = false := decide_eq_false c17
  refine .sub (.bool 42 rfl c17_) ?_
  refine .st (mk 190 [] (L55 a0 a3 a4 ++ [(42,.b false)]) (H2 a1 a2)) ?_
  refine .rr 5 ?_
  refine .tt (L55 a0 a3 a4 ++ [(47,.b (decide ((a3.length : Int) > 10)))]) (H2 a1 a2) ?_
  replace h := isome h;rcases h with ⟨c18,h⟩ | ⟨c18,h⟩
  ·have c18_ : decide ((a3.length : Int) > 10) = true := decide_eq_true c18
   refine .sub (.bool 47 rfl c18_) ?_
   refine .st (mk 190 [] (L55 a0 a3 a4 ++ [(47,.b true)]) (H2 a1 a2)) ?_
   refine .rr 22 ?_
   refine .tt (L86 a0 a3 a4) (H2 a1 a2) ?_
   cases h
   exact .nil .tt
  have c18_ : decide ((a3.length : Int) > 10) = false := decide_eq_false c18
  refine .sub (.bool 47 rfl c18_) ?_
  refine .st (mk 190 [] (L55 a0 a3 a4 ++ [(47,.b false)]) (H2 a1 a2)) ?_
  refine .rr 9 ?_
  refine .tt (L55 a0 a3 a4 ++ [(56,.b (decide ((a2.Descending.length : Int) > (a2.Columns.length : Int))))]) (H2 a1 a2) ?_
  replace h := isome h;rcases h with ⟨c19,h⟩ | ⟨c19,h⟩
  ·have c19_ : decide ((a2.Descending.length : Int) > (a2.Columns.length : Int)) = true := decide_eq_true c19
   refine .sub (.bool 56 rfl c19_) ?_
   refine .st (mk 190 [] (L55 a0 a3 a4 ++ [(56,.b true)]) (H2 a1 a2)) ?_
   refine .rr 13 ?_
   refine .tt (L86 a0 a3 a4) (H2 a1 a2) ?_
   cases h
   exact .nil .tt
  have c19_ : decide ((a2.Descending.length : Int) > (a2.Columns.length : Int)) = false := decide_eq_false c19
  refine .sub (.bool 56 rfl c19_) ?_
  refine .st (mk 190 [] (L55 a0 a3 a4 ++ [(56,.b false)]) (H2 a1 a2)) ?_
  refine .rr 9 ?_
  refine .tt (L55 a0 a3 a4 ++ [(65,.b (decide ((a1.Descending.length : Int) > (a1.Columns.length : Int))))]) (H2 a1 a2) ?_
  replace h := isome h;rcases h with ⟨c20,h⟩ | ⟨c20,h⟩
  ·have c20_ : decide ((a1.Descending.length : Int) > (a1.Columns.length : Int)) = true := decide_eq_true c20
   refine .sub (.bool 65 rfl c20_) ?_
   refine .st (mk 190 [] (L55 a0 a3 a4 ++ [(65,.b true)]) (H2 a1 a2)) ?_
   refine .rr 4 ?_
   refine .tt (L86 a0 a3 a4) (H2 a1 a2) ?_
   cases h
   exact .nil .tt
  have c20_ : decide ((a1.Descending.length : Int) > (a1.Columns.length : Int)) = false := decide_eq_false c20
  refine .sub (.bool 65 rfl c20_) ?_
  refine .st (mk 190 [] (L87 a0 a3 a4) (H2 a1 a2)) ?_
  refine .rr 1 ?_
  refine .tt (L87 a0 a3 a4 ++ [(66,.ls61 a0)]) (H2 a1 a2) ?_
  replace h := bsome h;obtain ⟨r21,hr21,h⟩ := h
  refine .callL (d := 67) (p29 N a0 r21 hr21) (by simp) rfl rfl (by simp <;> rfl) (by simp <;> rfl) ent29 (by simp <;> rfl) ?_
  refine .st (mk 190 [] (L87 a0 a3 a4 ++ [(66,.ls61 a0),(67,.b r21)]) (H2 a1 a2)) ?_
  refine .rr 2 ?_
  refine .tt (L55 a0 a3 a4 ++ [(69,.b (!r21))]) (H2 a1 a2) ?_
  cases h
  exact .nil .tt
 clear hj
 replace h := isome h;rcases h with ⟨c22,h⟩ | ⟨c22,h⟩
 ·have c22_ : v12 = true := c22
  refine .condT rfl c22_ ?_
  refine .seqR ?_
  refine .rr 1 ?_
  refine .tt [(10,.b true)] [] (.nil (.ret ?_))
  cases h
  refine thenQ_ps ?_
  exact FinC.rs
 have c22_ : v12 = false := Bool.eq_false_iff.2 c22
 refine .condF rfl c22_ ?_
 refine .skip (thenQ_normal ?_)
 replace h := bsome h;obtain ⟨r23,hr23,h⟩ := h
 replace h := csome h;obtain ⟨v24,hv24,h⟩ := h
 replace h := bsome h;obtain ⟨l25,gl25,h⟩ := h
 obtain ⟨hl25a,hl25b,hl25c,hl25d⟩ := mkL_some cB gl25
 clear gl25
 replace hl25c : List.replicate l25.length [.lit (.bool false)] = l25.map cB := hl25c
 simp only [Nat.mul_one] at hl25b
 refine .seqAnyS [[],[0],[],[2],[0,1,2,3],[0,1,2,3,4],[],[6],[6,7],[],[9],[9,10],[6,7,8,9,10,11],[6,7,8,9,10,11,12],[0,1,2,3,4,5,6,7,8,9,10,11,12,13],[],[0,1,2,3,4,5,6,7,8,9,10,11,12,13,14,15]] (fun (b : Nat → Bool) => mk 190 [] [(0,.ls61 a0),(3,.s75 a3),(4,.i a4),(6,.ptr 6 0 0),(7,.ptr 7 0 0),(11,(if b 15 then .ptr 11 0 0 else .junk)),(70,(if b 0 then .ptr 6 0 0 else .junk)),(71,(if b 1 then .si a1.Columns else .junk)),(72,(if b 2 then .ptr 7 0 0 else .junk)),(73,(if b 3 then .si a2.Columns else .junk)),(74,(if b 4 then .d (.sl ([a1.Columns,a2.Columns].map (cL (cI .i64)))) else .junk)),(75,(if b 5 then .si r23 else .junk)),(76,(if b 6 then .ptr 6 0 0 else .junk)),(77,(if b 7 then .si a1.Columns else .junk)),(78,(if b 8 then .i (a1.Columns.length : Int) else .junk)),(79,(if b 9 then .ptr 7 0 1 else .junk)),(80,(if b 10 then .sb a2.Descending else .junk)),(81,(if b 11 then .i (a2.Descending.length : Int) else .junk)),(82,(if b 12 then .i v24 else .junk)),(83,(if b 13 then .ref 83 0 l25.length else .junk)),(84,(if b 14 then .agg [.si r23,.ref 83 0 l25.length] else .junk))] [(6,some (.box [.si a1.Columns,.sb a1.Descending])),(7,some (.box [.si a2.Columns,.sb a2.Descending])),(11,(if b 16 then some (.box [.si r23,.ref 83 0 l25.length]) else (if b 15 then some (.box [.z,.z]) else none))),(83,(if b 13 then R4 l25 else none))]) (mk 190 [] (L88 a0 a3 a4) (H33 a1 a2 r23 l25)) (by kernel_rfl) (by kernel_rfl) Sub.tt (Steps.cons ?_ (Steps.cons ?_ (Steps.cons ?_ (Steps.cons ?_ (Steps.cons ?_ (Steps.cons ?_ (Steps.cons ?_ (Steps.cons ?_ (Steps.cons ?_ (Steps.cons ?_ (Steps.cons ?_ (Steps.cons ?_ (Steps.cons ?_ (Steps.cons ?_ (Steps.cons ?_ (Steps.cons ?_ (Steps.cons ?_ (Steps.nil)))))))))))))))))) ?_ ?_
 iterate 4
  ·intro b h0 ha hd
   have T := fct h0 ha hd;simp at T
   refine .runK [74] 1 fun K k => ?_;simp [T];refine k _ _ ?_;clear k K
   exact .nil .tT
 ·intro b h0 ha hd
  have T := fct h0 ha hd;simp at T
  cases q13 : b 13 <;> cases q15 : b 15 <;> (refine Chain.runK [74] 1 fun K k => ?_;simp [T];refine k _ _ ?_;clear k K;exact .nil (.table (by simp [T,q13,q15]) (by simp [T,q13,q15])))
 ·intro b h0 ha hd
  have T := fct h0 ha hd;simp at T
  simp only [T,if_true,if_false,Bool.false_eq_true]
  refine .callC (d := 75) (p37 N [a1.Columns,a2.Columns] r23 hr23) (by simp) rfl rfl (by simp <;> rfl) (by simp <;> rfl) ent37 (by simp) (.inl ⟨by simp,by simp⟩) ?_
  cases q13 : b 13 <;> cases q15 : b 15 <;> exact Chain.nil (by simp [T,q13,q15];exact Sub.table (by simp) (by simp))
 iterate 7
  ·intro b h0 ha hd
   have T := fct h0 ha hd;simp at T
   refine .runK [74] 1 fun K k => ?_;simp [T,hv24];refine k _ _ ?_;clear k K
   exact .nil .tT
 ·intro b h0 ha hd
  have T := fct h0 ha hd;simp at T
  cases q15 : b 15 <;> (refine Chain.runK [74] 1 fun K k => ?_;simp [T,hl25a,hl25b,hl25c,hl25d];refine k _ _ ?_;clear k K;exact .nil (.table (by simp [T,q15]) (by simp [T,q15])))
 ·intro b h0 ha hd
  have T := fct h0 ha hd;simp at T
  refine .runK [74] 1 fun K k => ?_;simp [T];refine k _ _ ?_;clear k K
  exact .nil .tT
 ·intro b h0 ha hd
  have T := fct h0 ha hd;simp at T
  cases q13 : b 13 <;> (refine Chain.runK [74] 1 fun K k => ?_;simp [T];refine k _ _ ?_;clear k K;exact .nil (.table (by simp [q13]) (by simp [T,q13])))
 ·intro b h0 ha hd
  have T := fct h0 ha hd;simp at T
  refine .runK [74] 1 fun K k => ?_;simp [T];refine k _ _ ?_;clear k K
  exact .nil .tT
 ·intro b hb
  have T := FA_of (n := 17) hb;simp at T
  exact Sub.tT
 skip
 refine .seqR ?_
 refine .rr 4 ?_
 refine .tt (L88 a0 a3 a4 ++ [(86,.ref 83 0 l25.length),(88,.sb a1.Descending)]) (H33 a1 a2 r23 l25) ?_
 replace h := lsome h;obtain ⟨l26,hl26,h⟩ := h
 have hl26m : (a1.Descending.map cB).take (Nat.min a1.Descending.length l25.length) ++ (l25.map cB).drop (Nat.min a1.Descending.length l25.length) = l26.map cB := by subst hl26;simp
 have hl26l : l26.length = l25.length := by subst hl26;have h1 : (Nat.min a1.Descending.length l25.length) ≤ a1.Descending.length := Nat.min_le_left _ _;have h2 : (Nat.min a1.Descending.length l25.length) ≤ l25.length := Nat.min_le_right _ _;simp only [List.length_append,List.length_take,List.length_drop];omega
 refine .copyD (Nat.min a1.Descending.length l25.length) (by simp) rfl rfl rfl rfl ty35 rfl ty4 rfl rfl (by simp) rfl rfl (fun x hx => by obtain ⟨b,_,rfl⟩ := List.mem_map.1 hx;rfl) (by simp) ?_
 refine .sub (S' := mk 190 [] (L88 a0 a3 a4 ++ [(86,.ref 83 0 l26.length),(88,.sb a1.Descending),(89,.i ((Nat.min a1.Descending.length l25.length) : Int))]) (H33 a1 a2 r23 l26)) (by simp [hl26m];exact Sub.table (by simp [hl26l]) (by simp [hl26l])) ?_
 refine .nil ?_
 replace h := bsome h;obtain ⟨n27,gn27,h⟩ := h
 obtain ⟨hn27a,hn27⟩ := natI_some gn27
 clear gn27
 refine .seqT 8 (by kernel_rfl) (by kernel_rfl) fun K k => ?_;simp [hn27,hn27a];refine k _ _ ?_;clear k K
 refine .tt (L88 a0 a3 a4 ++ [(95,.ref 83 n27 (l26.length - n27)),(97,.sb a2.Descending)]) (H33 a1 a2 r23 l26) ?_
 replace h := lsome h;obtain ⟨l28,hl28,h⟩ := h
 have hl28m : (l26.map cB).take n27 ++ ((a2.Descending.map cB).take (Nat.min a2.Descending.length (l26.length - n27)) ++ (l26.map cB).drop (n27 + (Nat.min a2.Descending.length (l26.length - n27)))) = l28.map cB := by subst hl28;simp
 have hl28l : l28.length = l26.length := by subst hl28;have h1 : (Nat.min a2.Descending.length (l26.length - n27)) ≤ a2.Descending.length := Nat.min_le_left _ _;have h2 : (Nat.min a2.Descending.length (l26.length - n27)) ≤ (l26.length - n27) := Nat.min_le_right _ _;simp only [List.length_append,List.length_take,List.length_drop];omega
 refine .copyO (off := n27) (len := (l26.length - n27)) (es := l26.map cB) (Nat.min a2.Descending.length (l26.length - n27)) (by simp) rfl rfl rfl rfl ty35 rfl ty4 rfl rfl (by simp only [List.length_map];omega) rfl rfl (fun x hx => by obtain ⟨b,_,rfl⟩ := List.mem_map.1 hx;rfl) (by simp) ?_
 refine .sub (S' := mk 190 [] (L88 a0 a3 a4 ++ [(95,.ref 83 n27 (l28.length - n27)),(97,.sb a2.Descending),(98,.i ((Nat.min a2.Descending.length (l26.length - n27)) : Int))]) (H33 a1 a2 r23 l28)) (by simp [hl28m];exact Sub.table (by simp [hl28l]) (by simp [hl28l])) ?_
 refine .nil (.seqR ?_)
 refine .rr 5 ?_
 refine .sub (S' := mk 190 [] (L89 a0 a3 a4 ++ [(100,.ls61 a0),(101,.agg [.si a1.Columns,.sb a1.Descending]),(102,.agg [.si a2.Columns,.sb a2.Descending]),(103,.s75 a3),(104,.i a4)]) (H11 a1 r23 l28)) (Sub.table (by simp) (by simp)) ?_
 replace h := bsome h;obtain ⟨r29,hr29,h⟩ := h
 refine .callC (d := 105) (p38 N a0 a1 a2 a3 a4 r29 hr29) (by simp) rfl rfl (by simp <;> rfl) (by simp <;> rfl) ent38 (by simp) (.inl ⟨by simp,by simp⟩) ?_
 refine .st (mk 190 [] (L89 a0 a3 a4 ++ [(100,.ls61 a0),(101,.agg [.si a1.Columns,.sb a1.Descending]),(102,.agg [.si a2.Columns,.sb a2.Descending]),(103,.s75 a3),(104,.i a4),(105,.tup [.ls61 r29.1,.i r29.2])]) (H11 a1 r23 l28)) ?_
 refine .rr 5 ?_
 refine .tt (L89 a0 a3 a4 ++ [(12,.ls61 r29.1),(13,.i r29.2)]) (H11 a1 r23 l28) (.nil (.seqR ?_))
 refine .rr 3 ?_
 refine .tt (L90 a0 a3 r29.1 r29.2 ++ [(108,.ls61 a0),(109,.agg [.si r23,.ref 83 0 l28.length]),(110,.i a4)]) (H11 a1 r23 l28) ?_
 replace h := bsome h;obtain ⟨r30,hr30,h⟩ := h
 refine .callL (d := 111) (p31 N a0 (S65.mk r23 l28) a4 r30 hr30) (by simp) rfl rfl (by simp <;> rfl) (by simp <;> rfl) ent31 (by simp <;> rfl) ?_
 refine .st (mk 190 [] (L90 a0 a3 r29.1 r29.2 ++ [(108,.ls61 a0),(109,.agg [.si r23,.ref 83 0 l28.length]),(110,.i a4),(111,.i r30)]) (H11 a1 r23 l28)) ?_
 refine .rr 1 ?_
 refine .tt (L91 a0 a3 r29.1 r29.2 r30) (H11 a1 r23 l28) (.nil (.seq ?_))
 replace h := bsome h;obtain ⟨v33,hj,h⟩ := h
 refine .cutR (mk 190 [] (L91 a0 a3 r29.1 r29.2 r30 ++ [(119,.b v33)]) (H11 a1 r23 l28)) ?_ ?_
 ·clear h;have h := hj;clear hj
  refine .rr 3 ?_
  refine .tt (L91 a0 a3 r29.1 r29.2 r30 ++ [(114,.b (r30 == 0))]) (H11 a1 r23 l28) ?_
  replace h := isome h;rcases h with ⟨c34,h⟩ | ⟨c34,h⟩
  ·have c34_ : (r30 == 0) = true := c34
   refine .sub (.bool 114 rfl c34_) ?_
   refine .st (mk 190 [] (L92 a0 a3 r29.1 r29.2 r30) (H11 a1 r23 l28)) ?_
   refine .rr 2 ?_
   refine .tt (L92 a0 a3 r29.1 r29.2 r30 ++ [(115,.ls61 a0),(116,.s75 a3)]) (H11 a1 r23 l28) ?_
   replace h := bsome h;obtain ⟨r35,hr35,h⟩ := h
   refine .callL (d := 117) (p32 N a0 a3 r35 hr35) (by simp) rfl rfl (by simp <;> rfl) (by simp <;> rfl) ent32 (by simp <;> rfl) ?_
   refine .st (mk 190 [] (L92 a0 a3 r29.1 r29.2 r30 ++ [(115,.ls61 a0),(116,.s75 a3),(117,.b r35)]) (H11 a1 r23 l28)) ?_
   refine .rr 2 ?_
   refine .tt (L91 a0 a3 r29.1 r29.2 r30 ++ [(119,.b (!r35))]) (H11 a1 r23 l28) ?_
   cases h
   exact .nil .tt
  have c34_ : (r30 == 0) = false := Bool.eq_false_iff.2 c34
  refine .sub (.bool 114 rfl c34_) ?_
  refine .st (mk 190 [] (L91 a0 a3 r29.1 r29.2 r30 ++ [(114,.b false)]) (H11 a1 r23 l28)) ?_
  refine .rr 5 ?_
  refine .tt (L91 a0 a3 r29.1 r29.2 r30 ++ [(119,.b false)]) (H11 a1 r23 l28) ?_
  cases h
  exact .nil .tt
 clear hj
 refine .lastN (fun (v37 : Int) => mk 190 [] (L91 a0 a3 r29.1 r29.2 v37) (H11 a1 r23 l28)) h ?_ ?_ <;> clear h
 ·intro o h
  replace h := isome h;rcases h with ⟨c38,h⟩ | ⟨c38,h⟩
  ·have c38_ : v33 = true := c38
   refine .condT rfl c38_ ?_
   refine .region ?_
   refine .rr 1 ?_
   refine .tt (L90 a0 a3 r29.1 r29.2 ++ [(14,.i 3)]) (H11 a1 r23 l28) (.nil ?_)
   cases h
   refine PostN.next ?_
   exact Sub.tt
  have c38_ : v33 = false := Bool.eq_false_iff.2 c38
  refine .condF rfl c38_ ?_
  refine .skip ?_
  cases h
  refine PostN.next ?_
  exact Sub.tt
 rintro v37 h
 refine thenQ_normal (.seq (.seqR ?_))
 refine .rr 2 ?_
 refine .tt (L91 a0 a3 r29.1 r29.2 v37 ++ [(121,.b (v37 != 0))]) (H11 a1 r23 l28) (.nil ?_)
 replace h := isome h;rcases h with ⟨c39,h⟩ | ⟨c39,h⟩
 ·have c39_ : (v37 != 0) = true := c39
  refine .condT rfl c39_ ?_
  replace h := bsome h;obtain ⟨v41,hj,h⟩ := h
  refine .cutR (mk 190 [] [(10,.b v41)] []) ?_ ?_
  ·clear h;have h := hj;clear hj
   refine .rr 4 ?_
   refine .tt [(12,.ls61 r29.1),(125,.b (r29.2 == v37))] [] ?_
   replace h := isome h;rcases h with ⟨c42,h⟩ | ⟨c42,h⟩
   ·have c42_ : (r29.2 == v37) = true := c42
    refine .sub (.bool 125 rfl c42_) ?_
    refine .st (mk 190 [] [(12,.ls61 r29.1),(125,.b true)] []) ?_
    refine .rr 5 ?_
    refine .tt [(10,.b ((r29.1.length : Int) == 0))] [] ?_
    cases h
    exact .nil .tt
   have c42_ : (r29.2 == v37) = false := Bool.eq_false_iff.2 c42
   refine .sub (.bool 125 rfl c42_) ?_
   refine .st (mk 190 [] [(12,.ls61 r29.1),(125,.b false)] []) ?_
   refine .rr 5 ?_
   refine .tt [(10,.b false)] [] ?_
   cases h
   exact .nil .tt
  clear hj
  refine .ret ?_
  cases h
  refine thenQ_ps ?_
  exact FinC.rs
 have c39_ : (v37 != 0) = false := Bool.eq_false_iff.2 c39
 refine .condF rfl c39_ ?_
 refine .skip (thenQ_normal (.seqR ?_))
 refine .rr 2 ?_
 refine .tt (L93 a3 r29.1 r29.2 a0 ++ [(131,.agg [.si r23,.ref 83 0 l28.length])]) [(6,some (.box [.si a1.Columns,.sb a1.Descending])),(83,R4 l28)] ?_
 refine .sub (.freeze 83 rfl) ?_
 refine .st (mk 190 [] (L93 a3 r29.1 r29.2 a0 ++ [(131,.agg [.si r23,.sb l28])]) (H13 a1)) ?_
 replace h := bsome h;obtain ⟨r43,hr43,h⟩ := h
 refine .callC (d := 132) (p33 N a0 (S65.mk r23 l28) r43 hr43) (by simp) rfl rfl (by simp <;> rfl) (by simp <;> rfl) ent33 (by simp) (.inl ⟨by simp,by simp⟩) ?_
 refine .st (mk 190 [] (L93 a3 r29.1 r29.2 a0 ++ [(131,.agg [.si r23,.sb l28]),(132,.ls61 r43)]) (H13 a1)) ?_
 refine .rr 1 ?_
 refine .tt (L94 a3 r29.1 r29.2 r43) (H13 a1) (.nil (.seqR ?_))
 refine .rr 1 ?_
 refine .tt (L94 a3 r29.1 r29.2 r43 ++ [(16,.z)]) (H13 a1) (.nil (.seq (.seqR ?_)))
 refine .rr 3 ?_
 refine .tt (L94 a3 r29.1 r29.2 r43 ++ [(16,.z),(133,.ls61 r43),(134,.i (r43.length : Int)),(135,.i 0)]) (H13 a1) (.nil ?_)
 refine .lastN (fun (l290 : List (List S61)) => mk 190 [] [(12,.ls61 r29.1),(13,.i r29.2),(16,.ref 181 0 l290.length)] [(181,R57 l290)]) h ?_ ?_ <;> clear h
 ·intro o h
  refine .block ?_
  refine .iter (fun ((l124,v125) : ((List (List S61)) × Int)) => mk 190 [] (L95 a3 r29.1 r29.2 r43 l124.length ++ [(133,.ls61 r43),(134,.i (r43.length : Int)),(135,.i v125)]) (H26 a1 l124)) h (Sub.trans (Sub.nilOwn (t := 16) (id := 181) (T := 57) (n := 1) rfl rfl (by decide)) (by simp;exact Sub.tt)) ?_
  clear h
  rintro ⟨l124,v125⟩ x h
  dsimp only at h ⊢
  refine .seqR ?_
  refine .rr 1 ?_
  refine .tt (L95 a3 r29.1 r29.2 r43 l124.length ++ [(133,.ls61 r43),(134,.i (r43.length : Int)),(135,.i v125),(136,.b (decide (v125 < (r43.length : Int))))]) (H26 a1 l124) (.nil (.seq ?_))
  replace h := isome h;rcases h with ⟨c291,h⟩ | ⟨c291,h⟩
  ·have c291_ : decide (v125 < (r43.length : Int)) = true := decide_eq_true c291
   refine .condT rfl c291_ ?_
   refine .skip (thenQ_normal (.seq (.block (.seqR ?_))))
   replace h := xsome h;obtain ⟨x292,k293,hx292k,hx292,hx292a,hx292b,h⟩ := h
   refine .rk 5 fun K k => ?_;simp [hx292,hx292k,hx292a];refine k ?_
   refine .tt (L95 a3 r29.1 r29.2 r43 l124.length ++ [(17,.i v125),(18,.s61 x292),(133,.ls61 r43),(134,.i (r43.length : Int)),(135,.i v125)]) (H26 a1 l124) (.nil (.seqR ?_))
   refine .rr 1 ?_
   refine .tt (L95 a3 r29.1 r29.2 r43 l124.length ++ [(17,.i v125),(18,.s61 x292),(19,.z),(133,.ls61 r43),(134,.i (r43.length : Int)),(135,.i v125)]) (H26 a1 l124) (.nil (.seq (.seqR ?_)))
   replace h := csome h;obtain ⟨v294,hv294,h⟩ := h
   replace h := bsome h;obtain ⟨n295,gn295,h⟩ := h
   obtain ⟨hn295a,hn295⟩ := natI_some gn295
   clear gn295
   subst hn295a
   replace h := lsome h;obtain ⟨l296,gl296,h⟩ := h
   have hl296 : ((r43.map (cL cS61)).take n295) = l296.map (cL cS61) := by rw [← gl296];simp
   clear gl296
   refine .rk 6 fun K k => ?_;simp [hv294,hn295,hl296];refine k ?_
   refine .tt (L96 a3 r29.1 r29.2 r43 l124.length x292 ++ [(19,.z),(133,.ls61 r43),(134,.i (r43.length : Int)),(135,.i v125),(143,.ls61 l296),(144,.i (l296.length : Int)),(145,.i 0)]) (H26 a1 l124) (.nil ?_)
   refine .lastN (fun (l330 : List (List S61)) => mk 190 [] (L97 a3 r29.1 r29.2 r43 l124.length x292 l330.length ++ [(133,.ls61 r43),(134,.i (r43.length : Int)),(135,.i v125)]) (H22 a1 l330 l124)) h ?_ ?_ <;> clear h
   ·intro o h
    refine .block ?_
    refine .iter (fun ((l306,v307) : ((List (List S61)) × Int)) => mk 190 [] (L98 a3 r29.1 r29.2 r43 l124.length x292 l306.length r43.length v125 l296 l296.length v307) (H22 a1 l306 l124)) h (Sub.trans (Sub.nilOwn (t := 19) (id := 161) (T := 57) (n := 1) rfl rfl (by decide)) (by simp;exact Sub.tt)) ?_
    clear h
    rintro ⟨l306,v307⟩ x h
    dsimp only at h ⊢
    refine .seqR ?_
    refine .rr 1 ?_
    refine .tt (L98 a3 r29.1 r29.2 r43 l124.length x292 l306.length r43.length v125 l296 l296.length v307 ++ [(146,.b (decide (v307 < (l296.length : Int))))]) (H22 a1 l306 l124) (.nil (.seq ?_))
    replace h := isome h;rcases h with ⟨c331,h⟩ | ⟨c331,h⟩
    ·have c331_ : decide (v307 < (l296.length : Int)) = true := decide_eq_true c331
     refine .condT rfl c331_ ?_
     refine .skip (thenQ_normal (.seq (.block (.seqR ?_))))
     replace h := xsome h;obtain ⟨x332,k333,hx332k,hx332,hx332a,hx332b,h⟩ := h
     refine .rk 3 fun K k => ?_;simp [hx332,hx332k,hx332a];refine k ?_
     refine .tt (L97 a3 r29.1 r29.2 r43 l124.length x292 l306.length ++ [(21,.s61 x332),(133,.ls61 r43),(134,.i (r43.length : Int)),(135,.i v125),(143,.ls61 l296),(144,.i (l296.length : Int)),(145,.i v307)]) (H22 a1 l306 l124) (.nil ?_)
     replace h := bsome h;obtain ⟨r334,hr334,h⟩ := h
     replace h := bsome h;obtain ⟨r335,hr335,h⟩ := h
     replace h := bsome h;obtain ⟨r336,hr336,h⟩ := h
     refine .seqAnyS [[],[],[1],[0,1,2],[],[],[5],[0,1,2,3,4,5,6],[0,1,2,3,4,5,6,7]] (fun (b : Nat → Bool) => mk 190 [] [(3,.s75 a3),(6,.ptr 6 0 0),(12,.ls61 r29.1),(13,.i r29.2),(15,.ls61 r43),(16,.ref 181 0 l124.length),(18,.s61 x292),(19,.ref 161 0 l306.length),(21,.s61 x332),(133,.ls61 r43),(134,.i (r43.length : Int)),(135,.i v125),(143,.ls61 l296),(144,.i (l296.length : Int)),(145,.i v307),(149,(if b 0 then .s61 x332 else .junk)),(150,(if b 1 then .ptr 6 0 0 else .junk)),(151,(if b 2 then .si a1.Columns else .junk)),(152,(if b 3 then .ref 152 0 r334.length else .junk)),(153,(if b 4 then .s61 x292 else .junk)),(154,(if b 5 then .ptr 6 0 0 else .junk)),(155,(if b 6 then .si a1.Columns else .junk)),(156,(if b 7 then .ref 156 0 r335.length else .junk)),(157,(if b 8 then .b r336 else .junk))] [(6,some (.box [.si a1.Columns,.sb a1.Descending])),(152,(if b 3 then R61 r334 else none)),(156,(if b 7 then R61 r335 else none)),(161,R57 l306),(181,R57 l124)]) (mk 190 [] (L97 a3 r29.1 r29.2 r43 l124.length x292 l306.length ++ [(21,.s61 x332),(133,.ls61 r43),(134,.i (r43.length : Int)),(135,.i v125),(143,.ls61 l296),(144,.i (l296.length : Int)),(145,.i v307),(157,.b r336)]) (H22 a1 l306 l124)) (by kernel_rfl) (by kernel_rfl) Sub.tt (Steps.cons ?_ (Steps.cons ?_ (Steps.cons ?_ (Steps.cons ?_ (Steps.cons ?_ (Steps.cons ?_ (Steps.cons ?_ (Steps.cons ?_ (Steps.cons ?_ (Steps.nil)))))))))) ?_ ?_
     iterate 3
      ·intro b h0 ha hd
       have T := fct h0 ha hd;simp at T
       refine .rk 1 fun K k => ?_;simp [T];refine k ?_
       exact .nil .tT
     ·intro b h0 ha hd
      have T := fct h0 ha hd;simp at T
      simp only [T,if_true,if_false,Bool.false_eq_true]
      refine .callO (d := 152) (p35 N x332 a1.Columns r334 hr334) (by simp) rfl rfl (by simp <;> rfl) (by simp <;> rfl) ent35 (by simp) ⟨by simp,by simp⟩ ?_
      exact .nil (by simp [T];exact Sub.tT)
     iterate 3
      ·intro b h0 ha hd
       have T := fct h0 ha hd;simp at T
       refine .rk 1 fun K k => ?_;simp [T];refine k ?_
       exact .nil .tT
     ·intro b h0 ha hd
      have T := fct h0 ha hd;simp at T
      simp only [T,if_true,if_false,Bool.false_eq_true]
      refine .callO (d := 156) (p35 N x292 a1.Columns r335 hr335) (by simp) rfl rfl (by simp <;> rfl) (by simp <;> rfl) ent35 (by simp) ⟨by simp,by simp⟩ ?_
      exact .nil (by simp [T];exact Sub.tT)
     ·intro b h0 ha hd
      have T := fct h0 ha hd;simp at T
      simp only [T,if_true,if_false,Bool.false_eq_true]
      refine .callL (d := 157) (p34 N r334 r335 r336 hr336) (by simp) rfl rfl (by simp <;> rfl) (by simp <;> rfl) ent34 (by simp <;> rfl) ?_
      exact .nil (by simp [T];exact Sub.tT)
     ·intro b hb
      have T := FA_of (n := 9) hb;simp at T
      exact Sub.tT
     skip
     replace h := isome h;rcases h with ⟨c337,h⟩ | ⟨c337,h⟩
     ·have c337_ : r336 = true := c337
      refine .condT rfl c337_ ?_
      refine .region ?_
      replace h := bsome h;obtain ⟨l338,hl338,h⟩ := h
      obtain ⟨hl338a,hl338⟩ := appL_some hl338
      subst hl338
      try simp only [List.length_cons,List.length_nil,Nat.zero_add] at hl338a
      refine .runK [160] 5 fun K k => ?_;simp [hl338a];refine k _ _ ?_;clear k K
      refine .tt (L96 a3 r29.1 r29.2 r43 l124.length x292 ++ [(19,.ref 161 0 ((l306 ++ [x332]).length)),(133,.ls61 r43),(134,.i (r43.length : Int)),(135,.i v125),(143,.ls61 l296),(144,.i (l296.length : Int)),(145,.i v307)]) [(6,some (.box [.si a1.Columns,.sb a1.Descending])),(161,R57 (l306 ++ [x332])),(181,R57 l124)] (.nil (blockQ.normal (thenQ_normal (.region ?_))))
      replace h := csome h;obtain ⟨v339,hv339,h⟩ := h
      refine .rk 2 fun K k => ?_;simp [hv339];refine k ?_
      refine .tt (L96 a3 r29.1 r29.2 r43 l124.length x292 ++ [(19,.ref 161 0 ((l306 ++ [x332]).length)),(133,.ls61 r43),(134,.i (r43.length : Int)),(135,.i v125),(143,.ls61 l296),(144,.i (l296.length : Int)),(145,.i v339)]) [(6,some (.box [.si a1.Columns,.sb a1.Descending])),(161,R57 (l306 ++ [x332])),(181,R57 l124)] (.nil ?_)
      cases h
      refine PostI.next ?_
      exact Sub.tt
     have c337_ : r336 = false := Bool.eq_false_iff.2 c337
     refine .condF rfl c337_ ?_
     refine .skip (blockQ.normal (thenQ_normal (.region ?_)))
     replace h := csome h;obtain ⟨v340,hv340,h⟩ := h
     refine .rk 2 fun K k => ?_;simp [hv340];refine k ?_
     refine .tt (L98 a3 r29.1 r29.2 r43 l124.length x292 l306.length r43.length v125 l296 l296.length v340) (H22 a1 l306 l124) (.nil ?_)
     cases h
     refine PostI.next ?_
     exact Sub.tt
    have c331_ : decide (v307 < (l296.length : Int)) = false := decide_eq_false c331
    refine .condF rfl c331_ ?_
    refine .exit ?_
    cases h
    refine thenQ_ps ?_
    refine PostI.os ?_
    rintro rfl
    refine blockQ.hit (PostN.next ?_)
    exact Sub.tt
   rintro l330 h
   refine thenQ_normal (.seqR ?_)
   refine .rr 1 ?_
   refine .tt (L99 a3 r29.1 r29.2 r43 l124.length l330.length r43.length v125 ++ [(163,.s61 x292)]) (H22 a1 l330 l124) ?_
   replace h := bsome h;obtain ⟨r341,hr341,h⟩ := h
   refine .callO (d := 164) (p39 N x292 r341 hr341) (by simp) rfl rfl (by simp <;> rfl) (by simp <;> rfl) ent39 (by simp) ⟨by simp,by simp⟩ ?_
   refine .st (mk 190 [] (L99 a3 r29.1 r29.2 r43 l124.length l330.length r43.length v125 ++ [(163,.s61 x292),(164,.ref 164 0 r341.length)]) (H23 a1 l330 r341 l124)) ?_
   refine .rr 1 ?_
   refine .tt (L100 a3 r29.1 r29.2 r43 l124.length l330.length ++ [(22,.ref 164 0 r341.length),(133,.ls61 r43),(134,.i (r43.length : Int)),(135,.i v125)]) (H23 a1 l330 r341 l124) (.nil (.seq (.seqR ?_)))
   refine .rr 3 ?_
   refine .tt (L101 a3 r29.1 r29.2 r43 l124.length l330.length r341.length r43.length v125 a3.length ++ [(167,.i 0)]) (H23 a1 l330 r341 l124) (.nil ?_)
   refine .lastN (fun (l363 : List S61) => mk 190 [] (L95 a3 r29.1 r29.2 r43 l124.length ++ [(22,.ref 164 0 l363.length),(133,.ls61 r43),(134,.i (r43.length : Int)),(135,.i v125)]) (H49 a1 l363 l124)) h ?_ ?_ <;> clear h
   ·intro o h
    refine .block ?_
    refine .iter (fun ((l347,v348) : ((List S61) × Int)) => mk 190 [] (L101 a3 r29.1 r29.2 r43 l124.length l330.length l347.length r43.length v125 a3.length ++ [(167,.i v348)]) (H23 a1 l330 l347 l124)) h Sub.tt ?_
    clear h
    rintro ⟨l347,v348⟩ x h
    dsimp only at h ⊢
    refine .seqR ?_
    refine .rr 1 ?_
    refine .tt (L101 a3 r29.1 r29.2 r43 l124.length l330.length l347.length r43.length v125 a3.length ++ [(167,.i v348),(168,.b (decide (v348 < (a3.length : Int))))]) (H23 a1 l330 l347 l124) (.nil (.seq ?_))
    replace h := isome h;rcases h with ⟨c364,h⟩ | ⟨c364,h⟩
    ·have c364_ : decide (v348 < (a3.length : Int)) = true := decide_eq_true c364
     refine .condT rfl c364_ ?_
     refine .skip (thenQ_normal (.seq (.block (.seqR ?_))))
     replace h := xsome h;obtain ⟨x365,k366,hx365k,hx365,hx365a,hx365b,h⟩ := h
     refine .rk 4 fun K k => ?_;simp [hx365,hx365k,hx365a];refine k ?_
     refine .tt (L100 a3 r29.1 r29.2 r43 l124.length l330.length ++ [(22,.ref 164 0 l347.length),(24,.ptr 24 0 0),(133,.ls61 r43),(134,.i (r43.length : Int)),(135,.i v125),(165,.s75 a3),(166,.i (a3.length : Int)),(167,.i v348)]) [(6,some (.box [.si a1.Columns,.sb a1.Descending])),(24,some (.box [.s x365.Function,.i x365.Column])),(161,R57 l330),(164,R61 l347),(181,R57 l124)] (.nil (.region ?_))
     refine .runK [175] 3 fun K k => ?_;simp;refine k _ _ ?_;clear k K
     refine .tt (L99 a3 r29.1 r29.2 r43 l124.length l330.length r43.length v125 ++ [(165,.s75 a3),(166,.i (a3.length : Int)),(167,.i v348),(171,.ref 164 0 l347.length),(172,.ref 161 0 l330.length),(173,.agg [.s x365.Function,.i x365.Column])]) (H23 a1 l330 l347 l124) ?_
     replace h := bsome h;obtain ⟨r367,hr367,h⟩ := h
     refine .callC (d := 174) (p36 N l330 x365 r367 hr367) (by simp) rfl rfl (by simp <;> rfl) (by simp <;> rfl) ent36 (by simp) (.inr (by simp)) ?_
     refine .st (mk 190 [] (L99 a3 r29.1 r29.2 r43 l124.length l330.length r43.length v125 ++ [(165,.s75 a3),(166,.i (a3.length : Int)),(167,.i v348),(171,.ref 164 0 l347.length),(172,.ref 161 0 l330.length),(173,.agg [.s x365.Function,.i x365.Column]),(174,.agg [.i r367.Kind,.i r367.Int,.s r367.Text])]) (H23 a1 l330 l347 l124)) ?_
     replace h := bsome h;obtain ⟨l368,hl368,h⟩ := h
     obtain ⟨hl368a,hl368⟩ := appL_some hl368
     subst hl368
     try simp only [List.length_cons,List.length_nil,Nat.zero_add] at hl368a
     refine .runK [175] 3 fun K k => ?_;simp [hl368a];refine k _ _ ?_;clear k K
     refine .tt (L100 a3 r29.1 r29.2 r43 l124.length l330.length ++ [(22,.ref 164 0 ((l347 ++ [r367]).length)),(133,.ls61 r43),(134,.i (r43.length : Int)),(135,.i v125),(165,.s75 a3),(166,.i (a3.length : Int)),(167,.i v348)]) [(6,some (.box [.si a1.Columns,.sb a1.Descending])),(161,R57 l330),(164,R61 (l347 ++ [r367])),(181,R57 l124)] (.nil (blockQ.normal (thenQ_normal (.region ?_))))
     replace h := csome h;obtain ⟨v369,hv369,h⟩ := h
     refine .rk 2 fun K k => ?_;simp [hv369];refine k ?_
     refine .tt (L100 a3 r29.1 r29.2 r43 l124.length l330.length ++ [(22,.ref 164 0 ((l347 ++ [r367]).length)),(133,.ls61 r43),(134,.i (r43.length : Int)),(135,.i v125),(165,.s75 a3),(166,.i (a3.length : Int)),(167,.i v369)]) [(6,some (.box [.si a1.Columns,.sb a1.Descending])),(161,R57 l330),(164,R61 (l347 ++ [r367])),(181,R57 l124)] (.nil ?_)
     cases h
     refine PostI.next ?_
     exact Sub.tt
    have c364_ : decide (v348 < (a3.length : Int)) = false := decide_eq_false c364
    refine .condF rfl c364_ ?_
    refine .exit ?_
    cases h
    refine thenQ_ps ?_
    refine PostI.os ?_
    rintro rfl
    refine blockQ.hit (PostN.next ?_)
    exact Sub.tt
   rintro l363 h
   refine thenQ_normal (.region ?_)
   refine .runK [180] 2 fun K k => ?_;simp;refine k _ _ ?_;clear k K
   refine .tt (L94 a3 r29.1 r29.2 r43 ++ [(133,.ls61 r43),(134,.i (r43.length : Int)),(135,.i v125),(178,.ref 181 0 l124.length),(179,.ref 164 0 l363.length)]) (H49 a1 l363 l124) ?_
   refine .sub (.freeze 164 rfl) ?_
   refine .st (mk 190 [] (L94 a3 r29.1 r29.2 r43 ++ [(133,.ls61 r43),(134,.i (r43.length : Int)),(135,.i v125),(178,.ref 181 0 l124.length),(179,.s61 l363)]) (H26 a1 l124)) ?_
   replace h := bsome h;obtain ⟨l370,hl370,h⟩ := h
   obtain ⟨hl370a,hl370⟩ := appL_some hl370
   subst hl370
   try simp only [List.length_cons,List.length_nil,Nat.zero_add] at hl370a
   refine .runK [180] 3 fun K k => ?_;simp [hl370a];refine k _ _ ?_;clear k K
   refine .tt (L94 a3 r29.1 r29.2 r43 ++ [(16,.ref 181 0 ((l124 ++ [l363]).length)),(133,.ls61 r43),(134,.i (r43.length : Int)),(135,.i v125)]) [(6,some (.box [.si a1.Columns,.sb a1.Descending])),(181,R57 (l124 ++ [l363]))] (.nil (blockQ.normal (thenQ_normal (.region ?_))))
   replace h := csome h;obtain ⟨v371,hv371,h⟩ := h
   refine .rk 2 fun K k => ?_;simp [hv371];refine k ?_
   refine .tt (L94 a3 r29.1 r29.2 r43 ++ [(16,.ref 181 0 ((l124 ++ [l363]).length)),(133,.ls61 r43),(134,.i (r43.length : Int)),(135,.i v371)]) [(6,some (.box [.si a1.Columns,.sb a1.Descending])),(181,R57 (l124 ++ [l363]))] (.nil ?_)
   cases h
   refine PostI.next ?_
   exact Sub.tt
  have c291_ : decide (v125 < (r43.length : Int)) = false := decide_eq_false c291
  refine .condF rfl c291_ ?_
  refine .exit ?_
  cases h
  refine thenQ_ps ?_
  refine PostI.os ?_
  rintro rfl
  refine blockQ.hit (PostN.next ?_)
  exact Sub.tt
 rintro l290 h
 refine thenQ_normal ?_
 replace h := bsome h;obtain ⟨v374,hj,h⟩ := h
 refine .cutR (mk 190 [] [(10,.b v374)] []) ?_ ?_
 ·clear h;have h := hj;clear hj
  refine .rr 3 ?_
  refine .tt [(12,.ls61 r29.1),(16,.ref 181 0 l290.length),(185,.b (r29.2 == 0))] [(181,R57 l290)] ?_
  replace h := isome h;rcases h with ⟨c375,h⟩ | ⟨c375,h⟩
  ·have c375_ : (r29.2 == 0) = true := c375
   refine .sub (.bool 185 rfl c375_) ?_
   refine .st (mk 190 [] [(12,.ls61 r29.1),(16,.ref 181 0 l290.length),(185,.b true)] [(181,R57 l290)]) ?_
   refine .rr 2 ?_
   refine .tt [(185,.b true),(186,.ls61 r29.1),(187,.ref 181 0 l290.length)] [(181,R57 l290)] ?_
   replace h := bsome h;obtain ⟨r376,hr376,h⟩ := h
   refine .callL (d := 188) (p28 N r29.1 l290 r376 hr376) (by simp) rfl rfl (by simp <;> rfl) (by simp <;> rfl) ent28 (by simp <;> rfl) ?_
   refine .st (mk 190 [] [(185,.b true),(186,.ls61 r29.1),(187,.ref 181 0 l290.length),(188,.b r376)] [(181,R57 l290)]) ?_
   refine .rr 2 ?_
   refine .tt [(10,.b r376)] [] ?_
   cases h
   exact .nil .tt
  have c375_ : (r29.2 == 0) = false := Bool.eq_false_iff.2 c375
  refine .sub (.bool 185 rfl c375_) ?_
  refine .st (mk 190 [] [(12,.ls61 r29.1),(16,.ref 181 0 l290.length),(185,.b false)] [(181,R57 l290)]) ?_
  refine .rr 5 ?_
  refine .tt [(10,.b false)] [] ?_
  cases h
  exact .nil .tt
 clear hj
 refine .ret ?_
 cases h
 exact FinC.rs
end Go.Proofs.YtimkkjiplioohaaGreatDoor
